/-
  DERIVED. GIVEN WITH THE SEED: THE CARDS: each row of YtaijibbmmbhniaaGreatDoorRows.lean that lists a variable, with what it lists TIED to the program's text (the seventh form; the later family's looks); each row that meets fmt, with fmt's text TOLD by the authors' own Lean function (tested against real Go, not proved from fmt's source: count such statements apart). THE CARD IS WHAT COUNTS. Prove the row's statement (the work); the ties are given (YtaijibbmmbhniaaGreatDoorTie.lean); close each card by the builder's one call (the guide's Derived/Test/ToyasCard.lean, 'card_holds'). Laid BY PROGRAM, IN A SANDBOX (cutbox-door.mjs). By AI agents, Wed Nov 11 2026. No macro, syntax, notation, axiom, sorry.
-/
import Derived.Test.YtaijibbmmbhniaaGreatDoorRows
import GoSem.ClaimSeven
namespace Go.Proofs.YtaijibbmmbhniaaGreatDoor
namespace Rows

/-- THE TIED CARD OF 'semigrouplaw31.StarfreeDfas'. -/
def starfreeDfasCard : Claim7 := { stood := { row := starfreeDfasRow, standIns := [], harness := (true, "181d7fd026335c7b0bd62720481ee2352266594a6a8fd49839d5db71d36e7102"), looks := false }, kinds := [], alts := [], laidByText := true, laidKinds := [.data, .data, .data], laidTests := true, laidLooks := .later }
def StarfreeDfasCardSaid : Prop := Claim7.holds Tryz.pinned (.plain (OpenSpec.ofChange starfreeDfasSpec)) starfreeDfasCard

/-- THE SECOND FORM's CARD OF 'semigrouplaw31.StarfreeDfas'. -/
def starfreeDfasUptoCard : Claim7 := { stood := { row := starfreeDfasUptoRow, standIns := [], harness := (true, "181d7fd026335c7b0bd62720481ee2352266594a6a8fd49839d5db71d36e7102"), looks := false }, kinds := [], alts := [], laidByText := true, laidKinds := [.data, .data, .data], laidTests := true, laidLooks := .later }
def StarfreeDfasUptoCardSaid : Prop := Claim7.holds Tryz.pinned (.plain (OpenSpec.upto starfreeDfasSpec)) starfreeDfasUptoCard
end Rows
end Go.Proofs.YtaijibbmmbhniaaGreatDoor
