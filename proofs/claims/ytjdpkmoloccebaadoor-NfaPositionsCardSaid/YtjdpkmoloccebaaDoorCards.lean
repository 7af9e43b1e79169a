/-
  DERIVED. GIVEN WITH THE SEED: THE CARDS: each row of YtjdpkmoloccebaaDoorRows.lean that lists a variable, with what it lists TIED to the program's text (the seventh form; the later family's looks); each row that meets fmt, with fmt's text TOLD by the authors' own Lean function (tested against real Go, not proved from fmt's source: count such statements apart). THE CARD IS WHAT COUNTS. Prove the row's statement (the work); the ties are given (YtjdpkmoloccebaaDoorTie.lean); close each card by the builder's one call (the guide's Derived/Test/ToyasCard.lean, 'card_holds'). Laid BY PROGRAM, IN A SANDBOX (cutbox-door.mjs). By AI agents, Wed Nov 11 2026. No macro, syntax, notation, axiom, sorry.
-/
import Derived.Test.YtjdpkmoloccebaaDoorRows
import GoSem.ClaimSeven
namespace Go.Proofs.YtjdpkmoloccebaaDoor
namespace Rows

/-- THE TIED CARD OF 'semigrouplaw06.NfaValidates'. -/
def nfaValidatesCard : Claim7 := { stood := { row := nfaValidatesRow, standIns := [], harness := (true, "d1a67acc17534d703a33c302454e087c86d8831a37e6032a7dba0a3709da1b84"), looks := false }, kinds := [], alts := [], laidByText := true, laidKinds := [.data], laidTests := true, laidLooks := .later }
def NfaValidatesCardSaid : Prop := Claim7.holds Tryd.pinned (.plain (OpenSpec.ofChange nfaValidatesSpec)) nfaValidatesCard

/-- THE TIED CARD OF 'semigrouplaw06.NfaPositions'. -/
def nfaPositionsCard : Claim7 := { stood := { row := nfaPositionsRow, standIns := [], harness := (true, "d1a67acc17534d703a33c302454e087c86d8831a37e6032a7dba0a3709da1b84"), looks := false }, kinds := [], alts := [], laidByText := true, laidKinds := [.data], laidTests := true, laidLooks := .later }
def NfaPositionsCardSaid : Prop := Claim7.holds Tryd.pinned (.plain (OpenSpec.ofChange nfaPositionsSpec)) nfaPositionsCard

/-- THE TIED CARD OF 'semigrouplaw06.NfaBounds'. -/
def nfaBoundsCard : Claim7 := { stood := { row := nfaBoundsRow, standIns := [], harness := (true, "d1a67acc17534d703a33c302454e087c86d8831a37e6032a7dba0a3709da1b84"), looks := false }, kinds := [], alts := [], laidByText := true, laidKinds := [.data], laidTests := true, laidLooks := .later }
def NfaBoundsCardSaid : Prop := Claim7.holds Tryd.pinned (.plain (OpenSpec.ofChange nfaBoundsSpec)) nfaBoundsCard

/-- THE TIED CARD OF 'semigrouplaw06.NfaSteps'. -/
def nfaStepsCard : Claim7 := { stood := { row := nfaStepsRow, standIns := [], harness := (true, "d1a67acc17534d703a33c302454e087c86d8831a37e6032a7dba0a3709da1b84"), looks := false }, kinds := [], alts := [], laidByText := true, laidKinds := [.data], laidTests := true, laidLooks := .later }
def NfaStepsCardSaid : Prop := Claim7.holds Tryd.pinned (.plain (OpenSpec.ofChange nfaStepsSpec)) nfaStepsCard

/-- THE TIED CARD OF 'semigrouplaw06.NfaAccepts'. -/
def nfaAcceptsCard : Claim7 := { stood := { row := nfaAcceptsRow, standIns := [], harness := (true, "d1a67acc17534d703a33c302454e087c86d8831a37e6032a7dba0a3709da1b84"), looks := false }, kinds := [], alts := [], laidByText := true, laidKinds := [.data], laidTests := true, laidLooks := .later }
def NfaAcceptsCardSaid : Prop := Claim7.holds Tryd.pinned (.plain (OpenSpec.ofChange nfaAcceptsSpec)) nfaAcceptsCard

/-- THE TIED CARD OF 'semigrouplaw06.NfaReverses'. -/
def nfaReversesCard : Claim7 := { stood := { row := nfaReversesRow, standIns := [], harness := (true, "d1a67acc17534d703a33c302454e087c86d8831a37e6032a7dba0a3709da1b84"), looks := false }, kinds := [], alts := [], laidByText := true, laidKinds := [.data], laidTests := true, laidLooks := .later }
def NfaReversesCardSaid : Prop := Claim7.holds Tryd.pinned (.plain (OpenSpec.ofChange nfaReversesSpec)) nfaReversesCard

/-- THE TIED CARD OF 'semigrouplaw06.NfaReaches'. -/
def nfaReachesCard : Claim7 := { stood := { row := nfaReachesRow, standIns := [], harness := (true, "d1a67acc17534d703a33c302454e087c86d8831a37e6032a7dba0a3709da1b84"), looks := false }, kinds := [], alts := [], laidByText := true, laidKinds := [.data], laidTests := true, laidLooks := .later }
def NfaReachesCardSaid : Prop := Claim7.holds Tryd.pinned (.plain (OpenSpec.ofChange nfaReachesSpec)) nfaReachesCard

/-- THE TIED CARD OF 'semigrouplaw06.NfaSums'. -/
def nfaSumsCard : Claim7 := { stood := { row := nfaSumsRow, standIns := [], harness := (true, "d1a67acc17534d703a33c302454e087c86d8831a37e6032a7dba0a3709da1b84"), looks := false }, kinds := [], alts := [], laidByText := true, laidKinds := [.data], laidTests := true, laidLooks := .later }
def NfaSumsCardSaid : Prop := Claim7.holds Tryd.pinned (.plain (OpenSpec.ofChange nfaSumsSpec)) nfaSumsCard

/-- THE SECOND FORM's CARD OF 'semigrouplaw06.NfaValidates'. -/
def nfaValidatesUptoCard : Claim7 := { stood := { row := nfaValidatesUptoRow, standIns := [], harness := (true, "d1a67acc17534d703a33c302454e087c86d8831a37e6032a7dba0a3709da1b84"), looks := false }, kinds := [], alts := [], laidByText := true, laidKinds := [.data], laidTests := true, laidLooks := .later }
def NfaValidatesUptoCardSaid : Prop := Claim7.holds Tryd.pinned (.plain (OpenSpec.upto nfaValidatesSpec)) nfaValidatesUptoCard

/-- THE SECOND FORM's CARD OF 'semigrouplaw06.NfaPositions'. -/
def nfaPositionsUptoCard : Claim7 := { stood := { row := nfaPositionsUptoRow, standIns := [], harness := (true, "d1a67acc17534d703a33c302454e087c86d8831a37e6032a7dba0a3709da1b84"), looks := false }, kinds := [], alts := [], laidByText := true, laidKinds := [.data], laidTests := true, laidLooks := .later }
def NfaPositionsUptoCardSaid : Prop := Claim7.holds Tryd.pinned (.plain (OpenSpec.upto nfaPositionsSpec)) nfaPositionsUptoCard

/-- THE SECOND FORM's CARD OF 'semigrouplaw06.NfaBounds'. -/
def nfaBoundsUptoCard : Claim7 := { stood := { row := nfaBoundsUptoRow, standIns := [], harness := (true, "d1a67acc17534d703a33c302454e087c86d8831a37e6032a7dba0a3709da1b84"), looks := false }, kinds := [], alts := [], laidByText := true, laidKinds := [.data], laidTests := true, laidLooks := .later }
def NfaBoundsUptoCardSaid : Prop := Claim7.holds Tryd.pinned (.plain (OpenSpec.upto nfaBoundsSpec)) nfaBoundsUptoCard

/-- THE SECOND FORM's CARD OF 'semigrouplaw06.NfaSteps'. -/
def nfaStepsUptoCard : Claim7 := { stood := { row := nfaStepsUptoRow, standIns := [], harness := (true, "d1a67acc17534d703a33c302454e087c86d8831a37e6032a7dba0a3709da1b84"), looks := false }, kinds := [], alts := [], laidByText := true, laidKinds := [.data], laidTests := true, laidLooks := .later }
def NfaStepsUptoCardSaid : Prop := Claim7.holds Tryd.pinned (.plain (OpenSpec.upto nfaStepsSpec)) nfaStepsUptoCard

/-- THE SECOND FORM's CARD OF 'semigrouplaw06.NfaAccepts'. -/
def nfaAcceptsUptoCard : Claim7 := { stood := { row := nfaAcceptsUptoRow, standIns := [], harness := (true, "d1a67acc17534d703a33c302454e087c86d8831a37e6032a7dba0a3709da1b84"), looks := false }, kinds := [], alts := [], laidByText := true, laidKinds := [.data], laidTests := true, laidLooks := .later }
def NfaAcceptsUptoCardSaid : Prop := Claim7.holds Tryd.pinned (.plain (OpenSpec.upto nfaAcceptsSpec)) nfaAcceptsUptoCard

/-- THE SECOND FORM's CARD OF 'semigrouplaw06.NfaReverses'. -/
def nfaReversesUptoCard : Claim7 := { stood := { row := nfaReversesUptoRow, standIns := [], harness := (true, "d1a67acc17534d703a33c302454e087c86d8831a37e6032a7dba0a3709da1b84"), looks := false }, kinds := [], alts := [], laidByText := true, laidKinds := [.data], laidTests := true, laidLooks := .later }
def NfaReversesUptoCardSaid : Prop := Claim7.holds Tryd.pinned (.plain (OpenSpec.upto nfaReversesSpec)) nfaReversesUptoCard

/-- THE SECOND FORM's CARD OF 'semigrouplaw06.NfaReaches'. -/
def nfaReachesUptoCard : Claim7 := { stood := { row := nfaReachesUptoRow, standIns := [], harness := (true, "d1a67acc17534d703a33c302454e087c86d8831a37e6032a7dba0a3709da1b84"), looks := false }, kinds := [], alts := [], laidByText := true, laidKinds := [.data], laidTests := true, laidLooks := .later }
def NfaReachesUptoCardSaid : Prop := Claim7.holds Tryd.pinned (.plain (OpenSpec.upto nfaReachesSpec)) nfaReachesUptoCard

/-- THE SECOND FORM's CARD OF 'semigrouplaw06.NfaSums'. -/
def nfaSumsUptoCard : Claim7 := { stood := { row := nfaSumsUptoRow, standIns := [], harness := (true, "d1a67acc17534d703a33c302454e087c86d8831a37e6032a7dba0a3709da1b84"), looks := false }, kinds := [], alts := [], laidByText := true, laidKinds := [.data], laidTests := true, laidLooks := .later }
def NfaSumsUptoCardSaid : Prop := Claim7.holds Tryd.pinned (.plain (OpenSpec.upto nfaSumsSpec)) nfaSumsUptoCard
end Rows
end Go.Proofs.YtjdpkmoloccebaaDoor
