/-
  DERIVED. GIVEN WITH THE SEED: THE CARDS: each row of YtmepeheomkieeaaGreatDoorRows.lean that lists a variable, with what it lists TIED to the program's text (the seventh form; the later family's looks); each row that meets fmt, with fmt's text TOLD by the authors' own Lean function (tested against real Go, not proved from fmt's source: count such statements apart). THE CARD IS WHAT COUNTS. Prove the row's statement (the work); the ties are given (YtmepeheomkieeaaGreatDoorTie.lean); close each card by the builder's one call (the guide's Derived/Test/ToyasCard.lean, 'card_holds'). Laid BY PROGRAM, IN A SANDBOX (cutbox-door.mjs). By AI agents, Wed Nov 11 2026. No macro, syntax, notation, axiom, sorry.
-/
import Derived.Test.YtmepeheomkieeaaGreatDoorRows
import GoSem.ClaimSeven
namespace Go.Proofs.YtmepeheomkieeaaGreatDoor
namespace Rows

/-- THE TIED CARD OF 'semigrouptop.TopFormulas'. -/
def topFormulasCard : Claim7 := { stood := { row := topFormulasRow, standIns := [], harness := (true, "5c5761e33f5a4d8cc54b28505d125220128922f64d6e571e43bedec9a624d60f"), looks := false }, kinds := [], alts := [], laidByText := true, laidKinds := [.data], laidTests := true, laidLooks := .later }
def TopFormulasCardSaid : Prop := Claim7.holds Tryz.pinned (.plain (OpenSpec.ofChange topFormulasSpec)) topFormulasCard

/-- THE SECOND FORM's CARD OF 'semigrouptop.TopFormulas'. -/
def topFormulasUptoCard : Claim7 := { stood := { row := topFormulasUptoRow, standIns := [], harness := (true, "5c5761e33f5a4d8cc54b28505d125220128922f64d6e571e43bedec9a624d60f"), looks := false }, kinds := [], alts := [], laidByText := true, laidKinds := [.data], laidTests := true, laidLooks := .later }
def TopFormulasUptoCardSaid : Prop := Claim7.holds Tryz.pinned (.plain (OpenSpec.upto topFormulasSpec)) topFormulasUptoCard
end Rows
end Go.Proofs.YtmepeheomkieeaaGreatDoor
