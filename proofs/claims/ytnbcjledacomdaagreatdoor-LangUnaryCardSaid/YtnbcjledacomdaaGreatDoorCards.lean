/-
  DERIVED. GIVEN WITH THE SEED: THE CARDS: each row of YtnbcjledacomdaaGreatDoorRows.lean that lists a variable, with what it lists TIED to the program's text (the seventh form; the later family's looks); each row that meets fmt, with fmt's text TOLD by the authors' own Lean function (tested against real Go, not proved from fmt's source: count such statements apart). THE CARD IS WHAT COUNTS. Prove the row's statement (the work); the ties are given (YtnbcjledacomdaaGreatDoorTie.lean); close each card by the builder's one call (the guide's Derived/Test/ToyasCard.lean, 'card_holds'). Laid BY PROGRAM, IN A SANDBOX (cutbox-door.mjs). By AI agents, Wed Nov 11 2026. No macro, syntax, notation, axiom, sorry.
-/
import Derived.Test.YtnbcjledacomdaaGreatDoorRows
import GoSem.ClaimSeven
namespace Go.Proofs.YtnbcjledacomdaaGreatDoor
namespace Rows

/-- THE TIED CARD OF 'semigrouplaw10.LangUnary'. -/
def langUnaryCard : Claim7 := { stood := { row := langUnaryRow, standIns := [], harness := (true, "ef39b439e407b66ee622ec540b991e286c6ffe1ed98755b32c5e5401dbded313"), looks := false }, kinds := [], alts := [], laidByText := true, laidKinds := [.data], laidTests := true, laidLooks := .later }
def LangUnaryCardSaid : Prop := Claim7.holds Tryz.pinned (.plain (OpenSpec.ofChange langUnarySpec)) langUnaryCard

/-- THE SECOND FORM's CARD OF 'semigrouplaw10.LangUnary'. -/
def langUnaryUptoCard : Claim7 := { stood := { row := langUnaryUptoRow, standIns := [], harness := (true, "ef39b439e407b66ee622ec540b991e286c6ffe1ed98755b32c5e5401dbded313"), looks := false }, kinds := [], alts := [], laidByText := true, laidKinds := [.data], laidTests := true, laidLooks := .later }
def LangUnaryUptoCardSaid : Prop := Claim7.holds Tryz.pinned (.plain (OpenSpec.upto langUnarySpec)) langUnaryUptoCard
end Rows
end Go.Proofs.YtnbcjledacomdaaGreatDoor
