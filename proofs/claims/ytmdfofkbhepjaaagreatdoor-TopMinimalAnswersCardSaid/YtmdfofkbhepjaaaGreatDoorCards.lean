/-
  DERIVED. GIVEN WITH THE SEED: THE CARDS: each row of YtmdfofkbhepjaaaGreatDoorRows.lean that lists a variable, with what it lists TIED to the program's text (the seventh form; the later family's looks); each row that meets fmt, with fmt's text TOLD by the authors' own Lean function (tested against real Go, not proved from fmt's source: count such statements apart). THE CARD IS WHAT COUNTS. Prove the row's statement (the work); the ties are given (YtmdfofkbhepjaaaGreatDoorTie.lean); close each card by the builder's one call (the guide's Derived/Test/ToyasCard.lean, 'card_holds'). Laid BY PROGRAM, IN A SANDBOX (cutbox-door.mjs). By AI agents, Wed Nov 11 2026. No macro, syntax, notation, axiom, sorry.
-/
import Derived.Test.YtmdfofkbhepjaaaGreatDoorRows
import GoSem.ClaimSeven
namespace Go.Proofs.YtmdfofkbhepjaaaGreatDoor
namespace Rows

/-- THE TIED CARD OF 'semigrouptop.TopMinimalAnswers'. -/
def topMinimalAnswersCard : Claim7 := { stood := { row := topMinimalAnswersRow, standIns := [], harness := (true, "40617027917db8bd4fa3393733e9a86557ac971bca04408a08d7c82772e6fe01"), looks := false }, kinds := [], alts := [], laidByText := true, laidKinds := [.data], laidTests := true, laidLooks := .later }
def TopMinimalAnswersCardSaid : Prop := Claim7.holds Tryz.pinned (.plain (OpenSpec.ofChange topMinimalAnswersSpec)) topMinimalAnswersCard

/-- THE SECOND FORM's CARD OF 'semigrouptop.TopMinimalAnswers'. -/
def topMinimalAnswersUptoCard : Claim7 := { stood := { row := topMinimalAnswersUptoRow, standIns := [], harness := (true, "40617027917db8bd4fa3393733e9a86557ac971bca04408a08d7c82772e6fe01"), looks := false }, kinds := [], alts := [], laidByText := true, laidKinds := [.data], laidTests := true, laidLooks := .later }
def TopMinimalAnswersUptoCardSaid : Prop := Claim7.holds Tryz.pinned (.plain (OpenSpec.upto topMinimalAnswersSpec)) topMinimalAnswersUptoCard
end Rows
end Go.Proofs.YtmdfofkbhepjaaaGreatDoor
