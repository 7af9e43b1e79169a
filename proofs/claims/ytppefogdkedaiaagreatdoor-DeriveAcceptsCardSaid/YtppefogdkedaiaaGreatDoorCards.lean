/-
  DERIVED. GIVEN WITH THE SEED: THE CARDS: each row of YtppefogdkedaiaaGreatDoorRows.lean that lists a variable, with what it lists TIED to the program's text (the seventh form; the later family's looks); each row that meets fmt, with fmt's text TOLD by the authors' own Lean function (tested against real Go, not proved from fmt's source: count such statements apart). THE CARD IS WHAT COUNTS. Prove the row's statement (the work); the ties are given (YtppefogdkedaiaaGreatDoorTie.lean); close each card by the builder's one call (the guide's Derived/Test/ToyasCard.lean, 'card_holds'). Laid BY PROGRAM, IN A SANDBOX (cutbox-door.mjs). By AI agents, Wed Nov 11 2026. No macro, syntax, notation, axiom, sorry.
-/
import Derived.Test.YtppefogdkedaiaaGreatDoorRows
import GoSem.ClaimSeven
namespace Go.Proofs.YtppefogdkedaiaaGreatDoor
namespace Rows

/-- THE TIED CARD OF 'semigrouplaw05.DeriveAccepts'. -/
def deriveAcceptsCard : Claim7 := { stood := { row := deriveAcceptsRow, standIns := [], harness := (true, "36043eb7f7018a67eba6a71711003cff264a7f3d1f3e00de6295422071b1e513"), looks := false }, kinds := [], alts := [], laidByText := true, laidKinds := [.data], laidTests := true, laidLooks := .later }
def DeriveAcceptsCardSaid : Prop := Claim7.holds Tryz.pinned (.plain (OpenSpec.ofChange deriveAcceptsSpec)) deriveAcceptsCard

/-- THE TIED CARD OF 'semigrouplaw05.DeriveMeans'. -/
def deriveMeansCard : Claim7 := { stood := { row := deriveMeansRow, standIns := [], harness := (true, "36043eb7f7018a67eba6a71711003cff264a7f3d1f3e00de6295422071b1e513"), looks := false }, kinds := [], alts := [], laidByText := true, laidKinds := [.data], laidTests := true, laidLooks := .later }
def DeriveMeansCardSaid : Prop := Claim7.holds Tryz.pinned (.plain (OpenSpec.ofChange deriveMeansSpec)) deriveMeansCard

/-- THE SECOND FORM's CARD OF 'semigrouplaw05.DeriveAccepts'. -/
def deriveAcceptsUptoCard : Claim7 := { stood := { row := deriveAcceptsUptoRow, standIns := [], harness := (true, "36043eb7f7018a67eba6a71711003cff264a7f3d1f3e00de6295422071b1e513"), looks := false }, kinds := [], alts := [], laidByText := true, laidKinds := [.data], laidTests := true, laidLooks := .later }
def DeriveAcceptsUptoCardSaid : Prop := Claim7.holds Tryz.pinned (.plain (OpenSpec.upto deriveAcceptsSpec)) deriveAcceptsUptoCard

/-- THE SECOND FORM's CARD OF 'semigrouplaw05.DeriveMeans'. -/
def deriveMeansUptoCard : Claim7 := { stood := { row := deriveMeansUptoRow, standIns := [], harness := (true, "36043eb7f7018a67eba6a71711003cff264a7f3d1f3e00de6295422071b1e513"), looks := false }, kinds := [], alts := [], laidByText := true, laidKinds := [.data], laidTests := true, laidLooks := .later }
def DeriveMeansUptoCardSaid : Prop := Claim7.holds Tryz.pinned (.plain (OpenSpec.upto deriveMeansSpec)) deriveMeansUptoCard
end Rows
end Go.Proofs.YtppefogdkedaiaaGreatDoor
