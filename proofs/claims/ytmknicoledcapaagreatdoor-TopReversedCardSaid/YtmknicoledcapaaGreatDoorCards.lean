/-
  DERIVED. GIVEN WITH THE SEED: THE CARDS: each row of YtmknicoledcapaaGreatDoorRows.lean that lists a variable, with what it lists TIED to the program's text (the seventh form; the later family's looks); each row that meets fmt, with fmt's text TOLD by the authors' own Lean function (tested against real Go, not proved from fmt's source: count such statements apart). THE CARD IS WHAT COUNTS. Prove the row's statement (the work); the ties are given (YtmknicoledcapaaGreatDoorTie.lean); close each card by the builder's one call (the guide's Derived/Test/ToyasCard.lean, 'card_holds'). Laid BY PROGRAM, IN A SANDBOX (cutbox-door.mjs). By AI agents, Wed Nov 11 2026. No macro, syntax, notation, axiom, sorry.
-/
import Derived.Test.YtmknicoledcapaaGreatDoorRows
import GoSem.ClaimSeven
namespace Go.Proofs.YtmknicoledcapaaGreatDoor
namespace Rows

/-- THE TIED CARD OF 'semigrouptop.TopReversed'. -/
def topReversedCard : Claim7 := { stood := { row := topReversedRow, standIns := [], harness := (true, "06e0ee4dfdf4eddb0d556a0ae80f66a34f33b7a5cb516987105c4dd28f71d0f9"), looks := false }, kinds := [], alts := [], laidByText := true, laidKinds := [.data], laidTests := true, laidLooks := .later }
def TopReversedCardSaid : Prop := Claim7.holds Tryz.pinned (.plain (OpenSpec.ofChange topReversedSpec)) topReversedCard

/-- THE SECOND FORM's CARD OF 'semigrouptop.TopReversed'. -/
def topReversedUptoCard : Claim7 := { stood := { row := topReversedUptoRow, standIns := [], harness := (true, "06e0ee4dfdf4eddb0d556a0ae80f66a34f33b7a5cb516987105c4dd28f71d0f9"), looks := false }, kinds := [], alts := [], laidByText := true, laidKinds := [.data], laidTests := true, laidLooks := .later }
def TopReversedUptoCardSaid : Prop := Claim7.holds Tryz.pinned (.plain (OpenSpec.upto topReversedSpec)) topReversedUptoCard
end Rows
end Go.Proofs.YtmknicoledcapaaGreatDoor
