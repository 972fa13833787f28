/-
  No cell of these rows narrows 'for every input' (looked for: loops, veiled, ifaces, maps, wideKeys, modest, calm, conditions, laid).
  DERIVED. THE GIVEN ROWS OF THIS SEAT. 6 by the template 'for every input the law returns true; each argument reads behind the call as it read before'; 0 by the template 'total and deterministic' (their statements: YteniakelhalojaaTotals.lean).
  GIVEN WITH THE SEED: the statements are not yours to turn. If you find one false, say at which input.
  Laid BY PROGRAM, IN A SANDBOX (cutbox-rows.mjs): the forced cells as the released guide's own fill.sh prints them over the translation 84989e2aff35be5f… (all of the seat's roots in one cut). By AI agents, Wed Nov 11 2026. No macro, syntax, notation, axiom, sorry.
-/
import Derived.Test.YteniakelhalojaaChecked
import GoSem.Claim
import GoSem.ClaimJoined
import GoSem.ClaimMapViews
import Derived.JoinedTies
import Derived.KernelRfl
namespace Go.Proofs.Yteniakelhalojaa
/- THE CELL 'sum', in the pinned program and in every row, IS THE sha256 OF THE DUMP (.gsa) THAT YteniakelhalojaaProg.lean LOADS. Nothing in Lean hashes anything: it is a label: what it is worth is what the hold of that sum in a sandbox is worth. -/
noncomputable def Try.pinned : Pinned := { name := "yteniakelhalojaa", sum := "84989e2aff35be5fd7a14b1bbf3ac50b22ad5ca3438ef147dc9c767e5b819255", checked := Try.checked }
namespace Rows
def none {H : Type} : Left H := { results := [], args := [] }

/-- 'lessorlaw25.RouteEncodes': WHATEVER THE INPUT: true; the input reads as it did. -/
def routeEncodesSpec : ChangeSpec := { name := "routeEncodes", fn := fun _ => fun
  | [d] => { results := [.lit (.bool true)], args := [d] }
  | _ => none }
def routeEncodesRow : OpenClaim := { program := "yteniakelhalojaa", sum := "84989e2aff35be5fd7a14b1bbf3ac50b22ad5ca3438ef147dc9c767e5b819255", func := "lessor/lessorlaw25.RouteEncodes", spec := "routeEncodes", plainKeys := false, apart := false }
def RouteEncodesSaid : Prop := routeEncodesRow.holds Try.pinned (OpenSpec.ofChange routeEncodesSpec)

/-- ITS FALSE NEIGHBOUR: 'it returns false'. Refute it at one input. -/
def routeEncodesWrong : ChangeSpec := { name := "routeEncodes", fn := fun _ => fun
  | [d] => { results := [.lit (.bool false)], args := [d] }
  | _ => none }
def RouteEncodesWrongFalsely : Prop := routeEncodesRow.holds Try.pinned (OpenSpec.ofChange routeEncodesWrong)

/-- 'lessorlaw25.RouteIn': WHATEVER THE INPUT: true; the input reads as it did. -/
def routeInSpec : ChangeSpec := { name := "routeIn", fn := fun _ => fun
  | [d1, d2] => { results := [.lit (.bool true)], args := [d1, d2] }
  | _ => none }
def routeInRow : OpenClaim := { program := "yteniakelhalojaa", sum := "84989e2aff35be5fd7a14b1bbf3ac50b22ad5ca3438ef147dc9c767e5b819255", func := "lessor/lessorlaw25.RouteIn", spec := "routeIn", unfollowed := true, recurses := true, plainKeys := false, apart := false }
def RouteInSaid : Prop := routeInRow.holds Try.pinned (OpenSpec.ofChange routeInSpec)

/-- ITS FALSE NEIGHBOUR: 'it returns false'. Refute it at one input. -/
def routeInWrong : ChangeSpec := { name := "routeIn", fn := fun _ => fun
  | [d1, d2] => { results := [.lit (.bool false)], args := [d1, d2] }
  | _ => none }
def RouteInWrongFalsely : Prop := routeInRow.holds Try.pinned (OpenSpec.ofChange routeInWrong)

/-- 'lessorlaw25.RouteBests': WHATEVER THE INPUT: true; the input reads as it did. -/
def routeBestsSpec : ChangeSpec := { name := "routeBests", fn := fun _ => fun
  | [d1, d2] => { results := [.lit (.bool true)], args := [d1, d2] }
  | _ => none }
def routeBestsRow : OpenClaim := { program := "yteniakelhalojaa", sum := "84989e2aff35be5fd7a14b1bbf3ac50b22ad5ca3438ef147dc9c767e5b819255", func := "lessor/lessorlaw25.RouteBests", spec := "routeBests", unfollowed := true, recurses := true, plainKeys := false, apart := false }
def RouteBestsSaid : Prop := routeBestsRow.holds Try.pinned (OpenSpec.ofChange routeBestsSpec)

/-- ITS FALSE NEIGHBOUR: 'it returns false'. Refute it at one input. -/
def routeBestsWrong : ChangeSpec := { name := "routeBests", fn := fun _ => fun
  | [d1, d2] => { results := [.lit (.bool false)], args := [d1, d2] }
  | _ => none }
def RouteBestsWrongFalsely : Prop := routeBestsRow.holds Try.pinned (OpenSpec.ofChange routeBestsWrong)

/-- 'lessorlaw25.RouteLean': WHATEVER THE INPUT: true; the input reads as it did. -/
def routeLeanSpec : ChangeSpec := { name := "routeLean", fn := fun _ => fun
  | [d1, d2] => { results := [.lit (.bool true)], args := [d1, d2] }
  | _ => none }
def routeLeanRow : OpenClaim := { program := "yteniakelhalojaa", sum := "84989e2aff35be5fd7a14b1bbf3ac50b22ad5ca3438ef147dc9c767e5b819255", func := "lessor/lessorlaw25.RouteLean", spec := "routeLean", unfollowed := true, recurses := true, plainKeys := false, apart := false }
def RouteLeanSaid : Prop := routeLeanRow.holds Try.pinned (OpenSpec.ofChange routeLeanSpec)

/-- ITS FALSE NEIGHBOUR: 'it returns false'. Refute it at one input. -/
def routeLeanWrong : ChangeSpec := { name := "routeLean", fn := fun _ => fun
  | [d1, d2] => { results := [.lit (.bool false)], args := [d1, d2] }
  | _ => none }
def RouteLeanWrongFalsely : Prop := routeLeanRow.holds Try.pinned (OpenSpec.ofChange routeLeanWrong)

/-- 'lessorlaw25.RouteDecodes': WHATEVER THE INPUT: true; the input reads as it did. -/
def routeDecodesSpec : ChangeSpec := { name := "routeDecodes", fn := fun _ => fun
  | [d] => { results := [.lit (.bool true)], args := [d] }
  | _ => none }
def routeDecodesRow : OpenClaim := { program := "yteniakelhalojaa", sum := "84989e2aff35be5fd7a14b1bbf3ac50b22ad5ca3438ef147dc9c767e5b819255", func := "lessor/lessorlaw25.RouteDecodes", spec := "routeDecodes", unfollowed := true, recurses := true, plainKeys := false, apart := false }
def RouteDecodesSaid : Prop := routeDecodesRow.holds Try.pinned (OpenSpec.ofChange routeDecodesSpec)

/-- ITS FALSE NEIGHBOUR: 'it returns false'. Refute it at one input. -/
def routeDecodesWrong : ChangeSpec := { name := "routeDecodes", fn := fun _ => fun
  | [d] => { results := [.lit (.bool false)], args := [d] }
  | _ => none }
def RouteDecodesWrongFalsely : Prop := routeDecodesRow.holds Try.pinned (OpenSpec.ofChange routeDecodesWrong)

/-- 'lessorlaw25.RouteBack': WHATEVER THE INPUT: true; the input reads as it did. -/
def routeBackSpec : ChangeSpec := { name := "routeBack", fn := fun _ => fun
  | [d1, d2] => { results := [.lit (.bool true)], args := [d1, d2] }
  | _ => none }
def routeBackRow : OpenClaim := { program := "yteniakelhalojaa", sum := "84989e2aff35be5fd7a14b1bbf3ac50b22ad5ca3438ef147dc9c767e5b819255", func := "lessor/lessorlaw25.RouteBack", spec := "routeBack", unfollowed := true, recurses := true, plainKeys := false, apart := false }
def RouteBackSaid : Prop := routeBackRow.holds Try.pinned (OpenSpec.ofChange routeBackSpec)

/-- ITS FALSE NEIGHBOUR: 'it returns false'. Refute it at one input. -/
def routeBackWrong : ChangeSpec := { name := "routeBack", fn := fun _ => fun
  | [d1, d2] => { results := [.lit (.bool false)], args := [d1, d2] }
  | _ => none }
def RouteBackWrongFalsely : Prop := routeBackRow.holds Try.pinned (OpenSpec.ofChange routeBackWrong)

/- THE SECOND FORM. 'bulk': how many values and letters a reading holds, each counted each time it is reached (what is shared counts as often as it is met; a slice's spare places count too). A statement '..UptoSaid' is the law's where the arguments, and the package variables that the reading takes, are together of bulk at most 1048576: NARROWER than '..Said'. Prove '..Said' where nothing that the law and all that it calls make is longer than what came in: it says more and counts as full. Else prove '..UptoSaid'. A law counts once. -/
mutual
def uptoBulk {H : Type} : DataW H → Nat
  | .lit (.string bytes) => bytes.length + 1
  | .lit _ => 1
  | .nil => 1
  | .ptr d => uptoBulk d + 1
  | .slice elems spare => uptoBulkAll elems + uptoBulkAll spare + 1
  | .agg parts => uptoBulkAll parts + 1
  | .iface _ d => uptoBulk d + 1
  | .map entries => uptoBulkEntries entries + 1
  | .held _ => 1
def uptoBulkAll {H : Type} : List (DataW H) → Nat
  | [] => 0
  | d :: r => uptoBulk d + uptoBulkAll r
def uptoBulkEntries {H : Type} : List (Lit × DataW H) → Nat
  | [] => 0
  | x :: r => uptoBulkEntry x + uptoBulkEntries r
def uptoBulkEntry {H : Type} : Lit × DataW H → Nat
  | (.string bytes, d) => bytes.length + uptoBulk d + 1
  | (_, d) => uptoBulk d + 1
 end
def uptoSmall : (H : Type) → List (DataW H) → Bool := fun _ ds => decide (uptoBulkAll ds ≤ 1048576)
def OpenSpec.upto (s : _root_.Go.ChangeSpec) : _root_.Go.OpenSpec := { _root_.Go.OpenSpec.ofChange s with cond := some uptoSmall }

/-- 'lessorlaw25.RouteEncodes', WHERE WHAT IT READS IS OF BULK AT MOST 1048576: true; the input reads as it did. -/
def routeEncodesUptoRow : OpenClaim := { program := "yteniakelhalojaa", sum := "84989e2aff35be5fd7a14b1bbf3ac50b22ad5ca3438ef147dc9c767e5b819255", func := "lessor/lessorlaw25.RouteEncodes", spec := "routeEncodes", plainKeys := false, apart := false, narrowed := true }
def RouteEncodesUptoSaid : Prop := routeEncodesUptoRow.holds Try.pinned (OpenSpec.upto routeEncodesSpec)

/-- 'lessorlaw25.RouteIn', WHERE WHAT IT READS IS OF BULK AT MOST 1048576: true; the input reads as it did. -/
def routeInUptoRow : OpenClaim := { program := "yteniakelhalojaa", sum := "84989e2aff35be5fd7a14b1bbf3ac50b22ad5ca3438ef147dc9c767e5b819255", func := "lessor/lessorlaw25.RouteIn", spec := "routeIn", unfollowed := true, recurses := true, plainKeys := false, apart := false, narrowed := true }
def RouteInUptoSaid : Prop := routeInUptoRow.holds Try.pinned (OpenSpec.upto routeInSpec)

/-- 'lessorlaw25.RouteBests', WHERE WHAT IT READS IS OF BULK AT MOST 1048576: true; the input reads as it did. -/
def routeBestsUptoRow : OpenClaim := { program := "yteniakelhalojaa", sum := "84989e2aff35be5fd7a14b1bbf3ac50b22ad5ca3438ef147dc9c767e5b819255", func := "lessor/lessorlaw25.RouteBests", spec := "routeBests", unfollowed := true, recurses := true, plainKeys := false, apart := false, narrowed := true }
def RouteBestsUptoSaid : Prop := routeBestsUptoRow.holds Try.pinned (OpenSpec.upto routeBestsSpec)

/-- 'lessorlaw25.RouteLean', WHERE WHAT IT READS IS OF BULK AT MOST 1048576: true; the input reads as it did. -/
def routeLeanUptoRow : OpenClaim := { program := "yteniakelhalojaa", sum := "84989e2aff35be5fd7a14b1bbf3ac50b22ad5ca3438ef147dc9c767e5b819255", func := "lessor/lessorlaw25.RouteLean", spec := "routeLean", unfollowed := true, recurses := true, plainKeys := false, apart := false, narrowed := true }
def RouteLeanUptoSaid : Prop := routeLeanUptoRow.holds Try.pinned (OpenSpec.upto routeLeanSpec)

/-- 'lessorlaw25.RouteDecodes', WHERE WHAT IT READS IS OF BULK AT MOST 1048576: true; the input reads as it did. -/
def routeDecodesUptoRow : OpenClaim := { program := "yteniakelhalojaa", sum := "84989e2aff35be5fd7a14b1bbf3ac50b22ad5ca3438ef147dc9c767e5b819255", func := "lessor/lessorlaw25.RouteDecodes", spec := "routeDecodes", unfollowed := true, recurses := true, plainKeys := false, apart := false, narrowed := true }
def RouteDecodesUptoSaid : Prop := routeDecodesUptoRow.holds Try.pinned (OpenSpec.upto routeDecodesSpec)

/-- 'lessorlaw25.RouteBack', WHERE WHAT IT READS IS OF BULK AT MOST 1048576: true; the input reads as it did. -/
def routeBackUptoRow : OpenClaim := { program := "yteniakelhalojaa", sum := "84989e2aff35be5fd7a14b1bbf3ac50b22ad5ca3438ef147dc9c767e5b819255", func := "lessor/lessorlaw25.RouteBack", spec := "routeBack", unfollowed := true, recurses := true, plainKeys := false, apart := false, narrowed := true }
def RouteBackUptoSaid : Prop := routeBackUptoRow.holds Try.pinned (OpenSpec.upto routeBackSpec)

end Rows
end Go.Proofs.Yteniakelhalojaa
