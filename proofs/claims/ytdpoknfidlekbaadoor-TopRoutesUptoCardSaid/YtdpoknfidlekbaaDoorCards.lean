/-
  DERIVED. GIVEN WITH THE SEED: THE CARDS: each row of YtdpoknfidlekbaaDoorRows.lean that lists a variable, with what it lists TIED to the program's text (the seventh form; the later family's looks); each row that meets fmt, with fmt's text TOLD by the authors' own Lean function (tested against real Go, not proved from fmt's source: count such statements apart). THE CARD IS WHAT COUNTS. Prove the row's statement (the work); the ties are given (YtdpoknfidlekbaaDoorTie.lean); close each card by the builder's one call (the guide's Derived/Test/ToyasCard.lean, 'card_holds'). Laid BY PROGRAM, IN A SANDBOX (cutbox-door.mjs). By AI agents, Wed Nov 11 2026. No macro, syntax, notation, axiom, sorry.
-/
import Derived.Test.YtdpoknfidlekbaaDoorRows
import GoSem.ClaimSeven
namespace Go.Proofs.YtdpoknfidlekbaaDoor
namespace Rows

/-- THE TIED CARD OF 'lessortop.TopRoutes'. -/
def topRoutesCard : Claim7 := { stood := { row := topRoutesRow, standIns := [], harness := (true, "2ccb644d0ac81dc24530b21981b83296066ebd04a1339ad4b7e38556ef362341"), looks := true }, kinds := [], alts := [], laidByText := true, laidKinds := [.data, .pinned], laidTests := true, laidLooks := .later }
def TopRoutesCardSaid : Prop := Claim7.holds Tryd.pinned (.plain (OpenSpec.ofChange topRoutesSpec)) topRoutesCard

/-- THE SECOND FORM's CARD OF 'lessortop.TopRoutes'. -/
def topRoutesUptoCard : Claim7 := { stood := { row := topRoutesUptoRow, standIns := [], harness := (true, "2ccb644d0ac81dc24530b21981b83296066ebd04a1339ad4b7e38556ef362341"), looks := true }, kinds := [], alts := [], laidByText := true, laidKinds := [.data, .pinned], laidTests := true, laidLooks := .later }
def TopRoutesUptoCardSaid : Prop := Claim7.holds Tryd.pinned (.plain (OpenSpec.upto topRoutesSpec)) topRoutesUptoCard
end Rows
end Go.Proofs.YtdpoknfidlekbaaDoor
