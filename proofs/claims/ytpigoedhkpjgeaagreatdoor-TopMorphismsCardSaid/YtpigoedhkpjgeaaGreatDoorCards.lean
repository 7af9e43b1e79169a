/-
  DERIVED. GIVEN WITH THE SEED: THE CARDS: each row of YtpigoedhkpjgeaaGreatDoorRows.lean that lists a variable, with what it lists TIED to the program's text (the seventh form; the later family's looks); each row that meets fmt, with fmt's text TOLD by the authors' own Lean function (tested against real Go, not proved from fmt's source: count such statements apart). THE CARD IS WHAT COUNTS. Prove the row's statement (the work); the ties are given (YtpigoedhkpjgeaaGreatDoorTie.lean); close each card by the builder's one call (the guide's Derived/Test/ToyasCard.lean, 'card_holds'). Laid BY PROGRAM, IN A SANDBOX (cutbox-door.mjs). By AI agents, Wed Nov 11 2026. No macro, syntax, notation, axiom, sorry.
-/
import Derived.Test.YtpigoedhkpjgeaaGreatDoorRows
import GoSem.ClaimSeven
namespace Go.Proofs.YtpigoedhkpjgeaaGreatDoor
namespace Rows

/-- THE TIED CARD OF 'semigrouptop.TopMorphisms'. -/
def topMorphismsCard : Claim7 := { stood := { row := topMorphismsRow, standIns := [], harness := (true, "a4d1e8de39966a4b99598fd7d9918bfa1762b574ab0b36c945103921f8de5e15"), looks := false }, kinds := [], alts := [], laidByText := true, laidKinds := [.data], laidTests := true, laidLooks := .later }
def TopMorphismsCardSaid : Prop := Claim7.holds Tryz.pinned (.plain (OpenSpec.ofChange topMorphismsSpec)) topMorphismsCard

/-- THE SECOND FORM's CARD OF 'semigrouptop.TopMorphisms'. -/
def topMorphismsUptoCard : Claim7 := { stood := { row := topMorphismsUptoRow, standIns := [], harness := (true, "a4d1e8de39966a4b99598fd7d9918bfa1762b574ab0b36c945103921f8de5e15"), looks := false }, kinds := [], alts := [], laidByText := true, laidKinds := [.data], laidTests := true, laidLooks := .later }
def TopMorphismsUptoCardSaid : Prop := Claim7.holds Tryz.pinned (.plain (OpenSpec.upto topMorphismsSpec)) topMorphismsUptoCard
end Rows
end Go.Proofs.YtpigoedhkpjgeaaGreatDoor
