/-
  DERIVED. GIVEN WITH THE SEED: THE CARDS: each row of YtpfiomngchimkaaGreatDoorRows.lean that lists a variable, with what it lists TIED to the program's text (the seventh form; the later family's looks); each row that meets fmt, with fmt's text TOLD by the authors' own Lean function (tested against real Go, not proved from fmt's source: count such statements apart). THE CARD IS WHAT COUNTS. Prove the row's statement (the work); the ties are given (YtpfiomngchimkaaGreatDoorTie.lean); close each card by the builder's one call (the guide's Derived/Test/ToyasCard.lean, 'card_holds'). Laid BY PROGRAM, IN A SANDBOX (cutbox-door.mjs). By AI agents, Wed Nov 11 2026. No macro, syntax, notation, axiom, sorry.
-/
import Derived.Test.YtpfiomngchimkaaGreatDoorRows
import GoSem.ClaimSeven
namespace Go.Proofs.YtpfiomngchimkaaGreatDoor
namespace Rows

/-- THE TIED CARD OF 'semigrouplaw31.StarfreeAgrees'. -/
def starfreeAgreesCard : Claim7 := { stood := { row := starfreeAgreesRow, standIns := [], harness := (true, "809d8df6753d1719bd77d2b32606500f9f5fc4c0de0a15d0b9185863f80ad50d"), looks := false }, kinds := [], alts := [], laidByText := true, laidKinds := [.data, .data, .data], laidTests := true, laidLooks := .later }
def StarfreeAgreesCardSaid : Prop := Claim7.holds Tryz.pinned (.plain (OpenSpec.ofChange starfreeAgreesSpec)) starfreeAgreesCard

/-- THE SECOND FORM's CARD OF 'semigrouplaw31.StarfreeAgrees'. -/
def starfreeAgreesUptoCard : Claim7 := { stood := { row := starfreeAgreesUptoRow, standIns := [], harness := (true, "809d8df6753d1719bd77d2b32606500f9f5fc4c0de0a15d0b9185863f80ad50d"), looks := false }, kinds := [], alts := [], laidByText := true, laidKinds := [.data, .data, .data], laidTests := true, laidLooks := .later }
def StarfreeAgreesUptoCardSaid : Prop := Claim7.holds Tryz.pinned (.plain (OpenSpec.upto starfreeAgreesSpec)) starfreeAgreesUptoCard
end Rows
end Go.Proofs.YtpfiomngchimkaaGreatDoor
