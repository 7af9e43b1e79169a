/-
  DERIVED. GIVEN WITH THE SEED: THE CARDS: each row of YtbpldbfoleicgaaGreatDoorRows.lean that lists a variable, with what it lists TIED to the program's text (the seventh form; the later family's looks); each row that meets fmt, with fmt's text TOLD by the authors' own Lean function (tested against real Go, not proved from fmt's source: count such statements apart). THE CARD IS WHAT COUNTS. Prove the row's statement (the work); the ties are given (YtbpldbfoleicgaaGreatDoorTie.lean); close each card by the builder's one call (the guide's Derived/Test/ToyasCard.lean, 'card_holds'). Laid BY PROGRAM, IN A SANDBOX (cutbox-door.mjs). By AI agents, Wed Nov 11 2026. No macro, syntax, notation, axiom, sorry.
-/
import Derived.Test.YtbpldbfoleicgaaGreatDoorRows
import GoSem.ClaimSeven
namespace Go.Proofs.YtbpldbfoleicgaaGreatDoor
namespace Rows

/-- THE TIED CARD OF 'semigrouptop.TopClosedComplement'. -/
def topClosedComplementCard : Claim7 := { stood := { row := topClosedComplementRow, standIns := [], harness := (true, "040ce14906b9bdfe8a712c8b377ce1b9bb2021e17754157ad05b42556d960b71"), looks := false }, kinds := [], alts := [], laidByText := true, laidKinds := [.data], laidTests := true, laidLooks := .later }
def TopClosedComplementCardSaid : Prop := Claim7.holds Tryz.pinned (.plain (OpenSpec.ofChange topClosedComplementSpec)) topClosedComplementCard

/-- THE SECOND FORM's CARD OF 'semigrouptop.TopClosedComplement'. -/
def topClosedComplementUptoCard : Claim7 := { stood := { row := topClosedComplementUptoRow, standIns := [], harness := (true, "040ce14906b9bdfe8a712c8b377ce1b9bb2021e17754157ad05b42556d960b71"), looks := false }, kinds := [], alts := [], laidByText := true, laidKinds := [.data], laidTests := true, laidLooks := .later }
def TopClosedComplementUptoCardSaid : Prop := Claim7.holds Tryz.pinned (.plain (OpenSpec.upto topClosedComplementSpec)) topClosedComplementUptoCard
end Rows
end Go.Proofs.YtbpldbfoleicgaaGreatDoor
