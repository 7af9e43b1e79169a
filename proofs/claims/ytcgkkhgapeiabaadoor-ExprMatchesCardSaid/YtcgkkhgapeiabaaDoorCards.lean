/-
  DERIVED. GIVEN WITH THE SEED: THE CARDS: each row of YtcgkkhgapeiabaaDoorRows.lean that lists a variable, with what it lists TIED to the program's text (the seventh form; the later family's looks); each row that meets fmt, with fmt's text TOLD by the authors' own Lean function (tested against real Go, not proved from fmt's source: count such statements apart). THE CARD IS WHAT COUNTS. Prove the row's statement (the work); the ties are given (YtcgkkhgapeiabaaDoorTie.lean); close each card by the builder's one call (the guide's Derived/Test/ToyasCard.lean, 'card_holds'). Laid BY PROGRAM, IN A SANDBOX (cutbox-door.mjs). By AI agents, Wed Nov 11 2026. No macro, syntax, notation, axiom, sorry.
-/
import Derived.Test.YtcgkkhgapeiabaaDoorRows
import GoSem.ClaimSeven
namespace Go.Proofs.YtcgkkhgapeiabaaDoor
namespace Rows

/-- THE TIED CARD OF 'semigrouplaw04.ExprMatches'. -/
def exprMatchesCard : Claim7 := { stood := { row := exprMatchesRow, standIns := [], harness := (true, "2d0167ba1b2d3cc5fbd546aad4c9b569307ad5df15c513fc9e34b75a63aa43bc"), looks := true }, kinds := [], alts := [], laidByText := true, laidKinds := [.data], laidTests := true, laidLooks := .later }
def ExprMatchesCardSaid : Prop := Claim7.holds Tryd.pinned (.plain (OpenSpec.ofChange exprMatchesSpec)) exprMatchesCard

/-- THE TIED CARD OF 'semigrouplaw04.ExprBoolean'. -/
def exprBooleanCard : Claim7 := { stood := { row := exprBooleanRow, standIns := [], harness := (true, "2d0167ba1b2d3cc5fbd546aad4c9b569307ad5df15c513fc9e34b75a63aa43bc"), looks := true }, kinds := [], alts := [], laidByText := true, laidKinds := [.data], laidTests := true, laidLooks := .later }
def ExprBooleanCardSaid : Prop := Claim7.holds Tryd.pinned (.plain (OpenSpec.ofChange exprBooleanSpec)) exprBooleanCard

/-- THE TIED CARD OF 'semigrouplaw04.ExprSplits'. -/
def exprSplitsCard : Claim7 := { stood := { row := exprSplitsRow, standIns := [], harness := (true, "2d0167ba1b2d3cc5fbd546aad4c9b569307ad5df15c513fc9e34b75a63aa43bc"), looks := true }, kinds := [], alts := [], laidByText := true, laidKinds := [.data], laidTests := true, laidLooks := .later }
def ExprSplitsCardSaid : Prop := Claim7.holds Tryd.pinned (.plain (OpenSpec.ofChange exprSplitsSpec)) exprSplitsCard

/-- THE SECOND FORM's CARD OF 'semigrouplaw04.ExprMatches'. -/
def exprMatchesUptoCard : Claim7 := { stood := { row := exprMatchesUptoRow, standIns := [], harness := (true, "2d0167ba1b2d3cc5fbd546aad4c9b569307ad5df15c513fc9e34b75a63aa43bc"), looks := true }, kinds := [], alts := [], laidByText := true, laidKinds := [.data], laidTests := true, laidLooks := .later }
def ExprMatchesUptoCardSaid : Prop := Claim7.holds Tryd.pinned (.plain (OpenSpec.upto exprMatchesSpec)) exprMatchesUptoCard

/-- THE SECOND FORM's CARD OF 'semigrouplaw04.ExprBoolean'. -/
def exprBooleanUptoCard : Claim7 := { stood := { row := exprBooleanUptoRow, standIns := [], harness := (true, "2d0167ba1b2d3cc5fbd546aad4c9b569307ad5df15c513fc9e34b75a63aa43bc"), looks := true }, kinds := [], alts := [], laidByText := true, laidKinds := [.data], laidTests := true, laidLooks := .later }
def ExprBooleanUptoCardSaid : Prop := Claim7.holds Tryd.pinned (.plain (OpenSpec.upto exprBooleanSpec)) exprBooleanUptoCard

/-- THE SECOND FORM's CARD OF 'semigrouplaw04.ExprSplits'. -/
def exprSplitsUptoCard : Claim7 := { stood := { row := exprSplitsUptoRow, standIns := [], harness := (true, "2d0167ba1b2d3cc5fbd546aad4c9b569307ad5df15c513fc9e34b75a63aa43bc"), looks := true }, kinds := [], alts := [], laidByText := true, laidKinds := [.data], laidTests := true, laidLooks := .later }
def ExprSplitsUptoCardSaid : Prop := Claim7.holds Tryd.pinned (.plain (OpenSpec.upto exprSplitsSpec)) exprSplitsUptoCard
end Rows
end Go.Proofs.YtcgkkhgapeiabaaDoor
