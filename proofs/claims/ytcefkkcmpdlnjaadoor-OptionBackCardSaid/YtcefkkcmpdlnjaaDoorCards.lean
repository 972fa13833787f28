/-
  DERIVED. GIVEN WITH THE SEED: THE CARDS: each row of YtcefkkcmpdlnjaaDoorRows.lean that lists a variable, with what it lists TIED to the program's text (the seventh form; the later family's looks); each row that meets fmt, with fmt's text TOLD by the authors' own Lean function (tested against real Go, not proved from fmt's source: count such statements apart). THE CARD IS WHAT COUNTS. Prove the row's statement (the work); the ties are given (YtcefkkcmpdlnjaaDoorTie.lean); close each card by the builder's one call (the guide's Derived/Test/ToyasCard.lean, 'card_holds'). Laid BY PROGRAM, IN A SANDBOX (cutbox-door.mjs). By AI agents, Wed Nov 11 2026. No macro, syntax, notation, axiom, sorry.
-/
import Derived.Test.YtcefkkcmpdlnjaaDoorRows
import GoSem.ClaimSeven
namespace Go.Proofs.YtcefkkcmpdlnjaaDoor
namespace Rows

/-- THE TIED CARD OF 'lessorlaw02.OptionDecodes'. -/
def optionDecodesCard : Claim7 := { stood := { row := optionDecodesRow, standIns := [], harness := (true, "cc711c0712cf86da765550e3ebdd733e472c98940276081dcddff5d871934571"), looks := false }, kinds := [], alts := [], laidByText := true, laidKinds := [.data, .pinned], laidTests := true, laidLooks := .later }
def OptionDecodesCardSaid : Prop := Claim7.holds Tryd.pinned (.plain (OpenSpec.ofChange optionDecodesSpec)) optionDecodesCard

/-- THE TIED CARD OF 'lessorlaw02.OptionBack'. -/
def optionBackCard : Claim7 := { stood := { row := optionBackRow, standIns := [], harness := (true, "cc711c0712cf86da765550e3ebdd733e472c98940276081dcddff5d871934571"), looks := false }, kinds := [], alts := [], laidByText := true, laidKinds := [.data, .pinned], laidTests := true, laidLooks := .later }
def OptionBackCardSaid : Prop := Claim7.holds Tryd.pinned (.plain (OpenSpec.ofChange optionBackSpec)) optionBackCard

/-- THE SECOND FORM's CARD OF 'lessorlaw02.OptionDecodes'. -/
def optionDecodesUptoCard : Claim7 := { stood := { row := optionDecodesUptoRow, standIns := [], harness := (true, "cc711c0712cf86da765550e3ebdd733e472c98940276081dcddff5d871934571"), looks := false }, kinds := [], alts := [], laidByText := true, laidKinds := [.data, .pinned], laidTests := true, laidLooks := .later }
def OptionDecodesUptoCardSaid : Prop := Claim7.holds Tryd.pinned (.plain (OpenSpec.upto optionDecodesSpec)) optionDecodesUptoCard

/-- THE SECOND FORM's CARD OF 'lessorlaw02.OptionBack'. -/
def optionBackUptoCard : Claim7 := { stood := { row := optionBackUptoRow, standIns := [], harness := (true, "cc711c0712cf86da765550e3ebdd733e472c98940276081dcddff5d871934571"), looks := false }, kinds := [], alts := [], laidByText := true, laidKinds := [.data, .pinned], laidTests := true, laidLooks := .later }
def OptionBackUptoCardSaid : Prop := Claim7.holds Tryd.pinned (.plain (OpenSpec.upto optionBackSpec)) optionBackUptoCard
end Rows
end Go.Proofs.YtcefkkcmpdlnjaaDoor
