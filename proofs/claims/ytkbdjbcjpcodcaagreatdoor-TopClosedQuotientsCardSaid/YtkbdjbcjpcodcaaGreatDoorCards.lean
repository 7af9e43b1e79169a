/-
  DERIVED. GIVEN WITH THE SEED: THE CARDS: each row of YtkbdjbcjpcodcaaGreatDoorRows.lean that lists a variable, with what it lists TIED to the program's text (the seventh form; the later family's looks); each row that meets fmt, with fmt's text TOLD by the authors' own Lean function (tested against real Go, not proved from fmt's source: count such statements apart). THE CARD IS WHAT COUNTS. Prove the row's statement (the work); the ties are given (YtkbdjbcjpcodcaaGreatDoorTie.lean); close each card by the builder's one call (the guide's Derived/Test/ToyasCard.lean, 'card_holds'). Laid BY PROGRAM, IN A SANDBOX (cutbox-door.mjs). By AI agents, Wed Nov 11 2026. No macro, syntax, notation, axiom, sorry.
-/
import Derived.Test.YtkbdjbcjpcodcaaGreatDoorRows
import GoSem.ClaimSeven
namespace Go.Proofs.YtkbdjbcjpcodcaaGreatDoor
namespace Rows

/-- THE TIED CARD OF 'semigrouptop.TopClosedQuotients'. -/
def topClosedQuotientsCard : Claim7 := { stood := { row := topClosedQuotientsRow, standIns := [], harness := (true, "fe42647b86e3c4f5395dc6a4f06a1d0842d5e61a1c86c3723b25e8fd9f2e56de"), looks := false }, kinds := [], alts := [], laidByText := true, laidKinds := [.data], laidTests := true, laidLooks := .later }
def TopClosedQuotientsCardSaid : Prop := Claim7.holds Tryz.pinned (.plain (OpenSpec.ofChange topClosedQuotientsSpec)) topClosedQuotientsCard

/-- THE SECOND FORM's CARD OF 'semigrouptop.TopClosedQuotients'. -/
def topClosedQuotientsUptoCard : Claim7 := { stood := { row := topClosedQuotientsUptoRow, standIns := [], harness := (true, "fe42647b86e3c4f5395dc6a4f06a1d0842d5e61a1c86c3723b25e8fd9f2e56de"), looks := false }, kinds := [], alts := [], laidByText := true, laidKinds := [.data], laidTests := true, laidLooks := .later }
def TopClosedQuotientsUptoCardSaid : Prop := Claim7.holds Tryz.pinned (.plain (OpenSpec.upto topClosedQuotientsSpec)) topClosedQuotientsUptoCard
end Rows
end Go.Proofs.YtkbdjbcjpcodcaaGreatDoor
