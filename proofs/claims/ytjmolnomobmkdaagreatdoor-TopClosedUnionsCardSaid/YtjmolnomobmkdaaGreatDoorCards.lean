/-
  DERIVED. GIVEN WITH THE SEED: THE CARDS: each row of YtjmolnomobmkdaaGreatDoorRows.lean that lists a variable, with what it lists TIED to the program's text (the seventh form; the later family's looks); each row that meets fmt, with fmt's text TOLD by the authors' own Lean function (tested against real Go, not proved from fmt's source: count such statements apart). THE CARD IS WHAT COUNTS. Prove the row's statement (the work); the ties are given (YtjmolnomobmkdaaGreatDoorTie.lean); close each card by the builder's one call (the guide's Derived/Test/ToyasCard.lean, 'card_holds'). Laid BY PROGRAM, IN A SANDBOX (cutbox-door.mjs). By AI agents, Wed Nov 11 2026. No macro, syntax, notation, axiom, sorry.
-/
import Derived.Test.YtjmolnomobmkdaaGreatDoorRows
import GoSem.ClaimSeven
namespace Go.Proofs.YtjmolnomobmkdaaGreatDoor
namespace Rows

/-- THE TIED CARD OF 'semigrouptop.TopClosedUnions'. -/
def topClosedUnionsCard : Claim7 := { stood := { row := topClosedUnionsRow, standIns := [], harness := (true, "e5a97a4297a1ec9ea2f2e5f55ffabaf936a4bf15d96e2ec67bdba79430dc4ff7"), looks := false }, kinds := [], alts := [], laidByText := true, laidKinds := [.data], laidTests := true, laidLooks := .later }
def TopClosedUnionsCardSaid : Prop := Claim7.holds Tryz.pinned (.plain (OpenSpec.ofChange topClosedUnionsSpec)) topClosedUnionsCard

/-- THE SECOND FORM's CARD OF 'semigrouptop.TopClosedUnions'. -/
def topClosedUnionsUptoCard : Claim7 := { stood := { row := topClosedUnionsUptoRow, standIns := [], harness := (true, "e5a97a4297a1ec9ea2f2e5f55ffabaf936a4bf15d96e2ec67bdba79430dc4ff7"), looks := false }, kinds := [], alts := [], laidByText := true, laidKinds := [.data], laidTests := true, laidLooks := .later }
def TopClosedUnionsUptoCardSaid : Prop := Claim7.holds Tryz.pinned (.plain (OpenSpec.upto topClosedUnionsSpec)) topClosedUnionsUptoCard
end Rows
end Go.Proofs.YtjmolnomobmkdaaGreatDoor
