/-
  DERIVED. GIVEN WITH THE SEED: THE CARDS: each row of YtmbfdmceameghaaDoorRows.lean that lists a variable, with what it lists TIED to the program's text (the seventh form; the later family's looks); each row that meets fmt, with fmt's text TOLD by the authors' own Lean function (tested against real Go, not proved from fmt's source: count such statements apart). THE CARD IS WHAT COUNTS. Prove the row's statement (the work); the ties are given (YtmbfdmceameghaaDoorTie.lean); close each card by the builder's one call (the guide's Derived/Test/ToyasCard.lean, 'card_holds'). Laid BY PROGRAM, IN A SANDBOX (cutbox-door.mjs). By AI agents, Wed Nov 11 2026. No macro, syntax, notation, axiom, sorry.
-/
import Derived.Test.YtmbfdmceameghaaDoorRows
import GoSem.ClaimSeven
namespace Go.Proofs.YtmbfdmceameghaaDoor
namespace Rows

/-- THE TIED CARD OF 'lessorlaw03.PacketDecodes'. -/
def packetDecodesCard : Claim7 := { stood := { row := packetDecodesRow, standIns := [], harness := (true, "9d1ccc519328c3bb91410e9c2dd3181acbaa8e3eb0157cc5101c701f8842c865"), looks := true }, kinds := [], alts := [], laidByText := true, laidKinds := [.data, .pinned], laidTests := true, laidLooks := .later }
def PacketDecodesCardSaid : Prop := Claim7.holds Tryd.pinned (.plain (OpenSpec.ofChange packetDecodesSpec)) packetDecodesCard

/-- THE TIED CARD OF 'lessorlaw03.PacketBack'. -/
def packetBackCard : Claim7 := { stood := { row := packetBackRow, standIns := [], harness := (true, "9d1ccc519328c3bb91410e9c2dd3181acbaa8e3eb0157cc5101c701f8842c865"), looks := true }, kinds := [], alts := [], laidByText := true, laidKinds := [.data, .pinned], laidTests := true, laidLooks := .later }
def PacketBackCardSaid : Prop := Claim7.holds Tryd.pinned (.plain (OpenSpec.ofChange packetBackSpec)) packetBackCard

/-- THE SECOND FORM's CARD OF 'lessorlaw03.PacketDecodes'. -/
def packetDecodesUptoCard : Claim7 := { stood := { row := packetDecodesUptoRow, standIns := [], harness := (true, "9d1ccc519328c3bb91410e9c2dd3181acbaa8e3eb0157cc5101c701f8842c865"), looks := true }, kinds := [], alts := [], laidByText := true, laidKinds := [.data, .pinned], laidTests := true, laidLooks := .later }
def PacketDecodesUptoCardSaid : Prop := Claim7.holds Tryd.pinned (.plain (OpenSpec.upto packetDecodesSpec)) packetDecodesUptoCard

/-- THE SECOND FORM's CARD OF 'lessorlaw03.PacketBack'. -/
def packetBackUptoCard : Claim7 := { stood := { row := packetBackUptoRow, standIns := [], harness := (true, "9d1ccc519328c3bb91410e9c2dd3181acbaa8e3eb0157cc5101c701f8842c865"), looks := true }, kinds := [], alts := [], laidByText := true, laidKinds := [.data, .pinned], laidTests := true, laidLooks := .later }
def PacketBackUptoCardSaid : Prop := Claim7.holds Tryd.pinned (.plain (OpenSpec.upto packetBackSpec)) packetBackUptoCard
end Rows
end Go.Proofs.YtmbfdmceameghaaDoor
