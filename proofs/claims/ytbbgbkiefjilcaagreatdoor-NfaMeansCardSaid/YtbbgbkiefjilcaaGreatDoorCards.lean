/-
  DERIVED. GIVEN WITH THE SEED: THE CARDS: each row of YtbbgbkiefjilcaaGreatDoorRows.lean that lists a variable, with what it lists TIED to the program's text (the seventh form; the later family's looks); each row that meets fmt, with fmt's text TOLD by the authors' own Lean function (tested against real Go, not proved from fmt's source: count such statements apart). THE CARD IS WHAT COUNTS. Prove the row's statement (the work); the ties are given (YtbbgbkiefjilcaaGreatDoorTie.lean); close each card by the builder's one call (the guide's Derived/Test/ToyasCard.lean, 'card_holds'). Laid BY PROGRAM, IN A SANDBOX (cutbox-door.mjs). By AI agents, Wed Nov 11 2026. No macro, syntax, notation, axiom, sorry.
-/
import Derived.Test.YtbbgbkiefjilcaaGreatDoorRows
import GoSem.ClaimSeven
namespace Go.Proofs.YtbbgbkiefjilcaaGreatDoor
namespace Rows

/-- THE TIED CARD OF 'semigrouplaw06.NfaPartials'. -/
def nfaPartialsCard : Claim7 := { stood := { row := nfaPartialsRow, standIns := [], harness := (true, "093abf86d2f8db04efd959088ed84e97f2999eb7636c2444541369816cc23454"), looks := true }, kinds := [], alts := [], laidByText := true, laidKinds := [.data], laidTests := true, laidLooks := .later }
def NfaPartialsCardSaid : Prop := Claim7.holds Tryz.pinned (.plain (OpenSpec.ofChange nfaPartialsSpec)) nfaPartialsCard

/-- THE TIED CARD OF 'semigrouplaw04.ExprKeeps'. -/
def exprKeepsCard : Claim7 := { stood := { row := exprKeepsRow, standIns := [], harness := (true, "093abf86d2f8db04efd959088ed84e97f2999eb7636c2444541369816cc23454"), looks := true }, kinds := [], alts := [], laidByText := true, laidKinds := [.data], laidTests := true, laidLooks := .later }
def ExprKeepsCardSaid : Prop := Claim7.holds Tryz.pinned (.plain (OpenSpec.ofChange exprKeepsSpec)) exprKeepsCard

/-- THE TIED CARD OF 'semigrouplaw06.NfaMeans'. -/
def nfaMeansCard : Claim7 := { stood := { row := nfaMeansRow, standIns := [], harness := (true, "093abf86d2f8db04efd959088ed84e97f2999eb7636c2444541369816cc23454"), looks := true }, kinds := [], alts := [], laidByText := true, laidKinds := [.data], laidTests := true, laidLooks := .later }
def NfaMeansCardSaid : Prop := Claim7.holds Tryz.pinned (.plain (OpenSpec.ofChange nfaMeansSpec)) nfaMeansCard

/-- THE SECOND FORM's CARD OF 'semigrouplaw06.NfaPartials'. -/
def nfaPartialsUptoCard : Claim7 := { stood := { row := nfaPartialsUptoRow, standIns := [], harness := (true, "093abf86d2f8db04efd959088ed84e97f2999eb7636c2444541369816cc23454"), looks := true }, kinds := [], alts := [], laidByText := true, laidKinds := [.data], laidTests := true, laidLooks := .later }
def NfaPartialsUptoCardSaid : Prop := Claim7.holds Tryz.pinned (.plain (OpenSpec.upto nfaPartialsSpec)) nfaPartialsUptoCard

/-- THE SECOND FORM's CARD OF 'semigrouplaw04.ExprKeeps'. -/
def exprKeepsUptoCard : Claim7 := { stood := { row := exprKeepsUptoRow, standIns := [], harness := (true, "093abf86d2f8db04efd959088ed84e97f2999eb7636c2444541369816cc23454"), looks := true }, kinds := [], alts := [], laidByText := true, laidKinds := [.data], laidTests := true, laidLooks := .later }
def ExprKeepsUptoCardSaid : Prop := Claim7.holds Tryz.pinned (.plain (OpenSpec.upto exprKeepsSpec)) exprKeepsUptoCard

/-- THE SECOND FORM's CARD OF 'semigrouplaw06.NfaMeans'. -/
def nfaMeansUptoCard : Claim7 := { stood := { row := nfaMeansUptoRow, standIns := [], harness := (true, "093abf86d2f8db04efd959088ed84e97f2999eb7636c2444541369816cc23454"), looks := true }, kinds := [], alts := [], laidByText := true, laidKinds := [.data], laidTests := true, laidLooks := .later }
def NfaMeansUptoCardSaid : Prop := Claim7.holds Tryz.pinned (.plain (OpenSpec.upto nfaMeansSpec)) nfaMeansUptoCard
end Rows
end Go.Proofs.YtbbgbkiefjilcaaGreatDoor
