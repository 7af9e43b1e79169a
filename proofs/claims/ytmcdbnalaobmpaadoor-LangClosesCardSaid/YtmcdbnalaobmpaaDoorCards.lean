/-
  DERIVED. GIVEN WITH THE SEED: THE CARDS: each row of YtmcdbnalaobmpaaDoorRows.lean that lists a variable, with what it lists TIED to the program's text (the seventh form; the later family's looks); each row that meets fmt, with fmt's text TOLD by the authors' own Lean function (tested against real Go, not proved from fmt's source: count such statements apart). THE CARD IS WHAT COUNTS. Prove the row's statement (the work); the ties are given (YtmcdbnalaobmpaaDoorTie.lean); close each card by the builder's one call (the guide's Derived/Test/ToyasCard.lean, 'card_holds'). Laid BY PROGRAM, IN A SANDBOX (cutbox-door.mjs). By AI agents, Wed Nov 11 2026. No macro, syntax, notation, axiom, sorry.
-/
import Derived.Test.YtmcdbnalaobmpaaDoorRows
import GoSem.ClaimSeven
namespace Go.Proofs.YtmcdbnalaobmpaaDoor
namespace Rows

/-- THE TIED CARD OF 'semigrouplaw10.LangPreimages'. -/
def langPreimagesCard : Claim7 := { stood := { row := langPreimagesRow, standIns := [], harness := (true, "0feca441c2d3efbcfb89f7fefbf30d8111a8c3e650af14d011a68981f808fdc9"), looks := false }, kinds := [], alts := [], laidByText := true, laidKinds := [.data], laidTests := true, laidLooks := .later }
def LangPreimagesCardSaid : Prop := Claim7.holds Tryd.pinned (.plain (OpenSpec.ofChange langPreimagesSpec)) langPreimagesCard

/-- THE TIED CARD OF 'semigrouplaw10.LangImages'. -/
def langImagesCard : Claim7 := { stood := { row := langImagesRow, standIns := [], harness := (true, "0feca441c2d3efbcfb89f7fefbf30d8111a8c3e650af14d011a68981f808fdc9"), looks := false }, kinds := [], alts := [], laidByText := true, laidKinds := [.data], laidTests := true, laidLooks := .later }
def LangImagesCardSaid : Prop := Claim7.holds Tryd.pinned (.plain (OpenSpec.ofChange langImagesSpec)) langImagesCard

/-- THE TIED CARD OF 'semigrouplaw10.LangShuffles'. -/
def langShufflesCard : Claim7 := { stood := { row := langShufflesRow, standIns := [], harness := (true, "0feca441c2d3efbcfb89f7fefbf30d8111a8c3e650af14d011a68981f808fdc9"), looks := false }, kinds := [], alts := [], laidByText := true, laidKinds := [.data], laidTests := true, laidLooks := .later }
def LangShufflesCardSaid : Prop := Claim7.holds Tryd.pinned (.plain (OpenSpec.ofChange langShufflesSpec)) langShufflesCard

/-- THE TIED CARD OF 'semigrouplaw10.LangCombines'. -/
def langCombinesCard : Claim7 := { stood := { row := langCombinesRow, standIns := [], harness := (true, "0feca441c2d3efbcfb89f7fefbf30d8111a8c3e650af14d011a68981f808fdc9"), looks := false }, kinds := [], alts := [], laidByText := true, laidKinds := [.data], laidTests := true, laidLooks := .later }
def LangCombinesCardSaid : Prop := Claim7.holds Tryd.pinned (.plain (OpenSpec.ofChange langCombinesSpec)) langCombinesCard

/-- THE TIED CARD OF 'semigrouplaw10.LangConcats'. -/
def langConcatsCard : Claim7 := { stood := { row := langConcatsRow, standIns := [], harness := (true, "0feca441c2d3efbcfb89f7fefbf30d8111a8c3e650af14d011a68981f808fdc9"), looks := false }, kinds := [], alts := [], laidByText := true, laidKinds := [.data], laidTests := true, laidLooks := .later }
def LangConcatsCardSaid : Prop := Claim7.holds Tryd.pinned (.plain (OpenSpec.ofChange langConcatsSpec)) langConcatsCard

/-- THE TIED CARD OF 'semigrouplaw10.LangQuotients'. -/
def langQuotientsCard : Claim7 := { stood := { row := langQuotientsRow, standIns := [], harness := (true, "0feca441c2d3efbcfb89f7fefbf30d8111a8c3e650af14d011a68981f808fdc9"), looks := false }, kinds := [], alts := [], laidByText := true, laidKinds := [.data], laidTests := true, laidLooks := .later }
def LangQuotientsCardSaid : Prop := Claim7.holds Tryd.pinned (.plain (OpenSpec.ofChange langQuotientsSpec)) langQuotientsCard

/-- THE TIED CARD OF 'semigrouplaw10.LangMorgan'. -/
def langMorganCard : Claim7 := { stood := { row := langMorganRow, standIns := [], harness := (true, "0feca441c2d3efbcfb89f7fefbf30d8111a8c3e650af14d011a68981f808fdc9"), looks := false }, kinds := [], alts := [], laidByText := true, laidKinds := [.data], laidTests := true, laidLooks := .later }
def LangMorganCardSaid : Prop := Claim7.holds Tryd.pinned (.plain (OpenSpec.ofChange langMorganSpec)) langMorganCard

/-- THE TIED CARD OF 'semigrouplaw10.LangCuts'. -/
def langCutsCard : Claim7 := { stood := { row := langCutsRow, standIns := [], harness := (true, "0feca441c2d3efbcfb89f7fefbf30d8111a8c3e650af14d011a68981f808fdc9"), looks := false }, kinds := [], alts := [], laidByText := true, laidKinds := [.data], laidTests := true, laidLooks := .later }
def LangCutsCardSaid : Prop := Claim7.holds Tryd.pinned (.plain (OpenSpec.ofChange langCutsSpec)) langCutsCard

/-- THE TIED CARD OF 'semigrouplaw10.LangStars'. -/
def langStarsCard : Claim7 := { stood := { row := langStarsRow, standIns := [], harness := (true, "0feca441c2d3efbcfb89f7fefbf30d8111a8c3e650af14d011a68981f808fdc9"), looks := false }, kinds := [], alts := [], laidByText := true, laidKinds := [.data], laidTests := true, laidLooks := .later }
def LangStarsCardSaid : Prop := Claim7.holds Tryd.pinned (.plain (OpenSpec.ofChange langStarsSpec)) langStarsCard

/-- THE TIED CARD OF 'semigrouplaw10.LangTurns'. -/
def langTurnsCard : Claim7 := { stood := { row := langTurnsRow, standIns := [], harness := (true, "0feca441c2d3efbcfb89f7fefbf30d8111a8c3e650af14d011a68981f808fdc9"), looks := false }, kinds := [], alts := [], laidByText := true, laidKinds := [.data], laidTests := true, laidLooks := .later }
def LangTurnsCardSaid : Prop := Claim7.holds Tryd.pinned (.plain (OpenSpec.ofChange langTurnsSpec)) langTurnsCard

/-- THE TIED CARD OF 'semigrouplaw10.LangCloses'. -/
def langClosesCard : Claim7 := { stood := { row := langClosesRow, standIns := [], harness := (true, "0feca441c2d3efbcfb89f7fefbf30d8111a8c3e650af14d011a68981f808fdc9"), looks := false }, kinds := [], alts := [], laidByText := true, laidKinds := [.data], laidTests := true, laidLooks := .later }
def LangClosesCardSaid : Prop := Claim7.holds Tryd.pinned (.plain (OpenSpec.ofChange langClosesSpec)) langClosesCard

/-- THE TIED CARD OF 'semigrouplaw10.LangKleene'. -/
def langKleeneCard : Claim7 := { stood := { row := langKleeneRow, standIns := [], harness := (true, "0feca441c2d3efbcfb89f7fefbf30d8111a8c3e650af14d011a68981f808fdc9"), looks := false }, kinds := [], alts := [], laidByText := true, laidKinds := [.data], laidTests := true, laidLooks := .later }
def LangKleeneCardSaid : Prop := Claim7.holds Tryd.pinned (.plain (OpenSpec.ofChange langKleeneSpec)) langKleeneCard

/-- THE TIED CARD OF 'semigrouplaw10.LangReverses'. -/
def langReversesCard : Claim7 := { stood := { row := langReversesRow, standIns := [], harness := (true, "0feca441c2d3efbcfb89f7fefbf30d8111a8c3e650af14d011a68981f808fdc9"), looks := false }, kinds := [], alts := [], laidByText := true, laidKinds := [.data], laidTests := true, laidLooks := .later }
def LangReversesCardSaid : Prop := Claim7.holds Tryd.pinned (.plain (OpenSpec.ofChange langReversesSpec)) langReversesCard

/-- THE SECOND FORM's CARD OF 'semigrouplaw10.LangPreimages'. -/
def langPreimagesUptoCard : Claim7 := { stood := { row := langPreimagesUptoRow, standIns := [], harness := (true, "0feca441c2d3efbcfb89f7fefbf30d8111a8c3e650af14d011a68981f808fdc9"), looks := false }, kinds := [], alts := [], laidByText := true, laidKinds := [.data], laidTests := true, laidLooks := .later }
def LangPreimagesUptoCardSaid : Prop := Claim7.holds Tryd.pinned (.plain (OpenSpec.upto langPreimagesSpec)) langPreimagesUptoCard

/-- THE SECOND FORM's CARD OF 'semigrouplaw10.LangImages'. -/
def langImagesUptoCard : Claim7 := { stood := { row := langImagesUptoRow, standIns := [], harness := (true, "0feca441c2d3efbcfb89f7fefbf30d8111a8c3e650af14d011a68981f808fdc9"), looks := false }, kinds := [], alts := [], laidByText := true, laidKinds := [.data], laidTests := true, laidLooks := .later }
def LangImagesUptoCardSaid : Prop := Claim7.holds Tryd.pinned (.plain (OpenSpec.upto langImagesSpec)) langImagesUptoCard

/-- THE SECOND FORM's CARD OF 'semigrouplaw10.LangShuffles'. -/
def langShufflesUptoCard : Claim7 := { stood := { row := langShufflesUptoRow, standIns := [], harness := (true, "0feca441c2d3efbcfb89f7fefbf30d8111a8c3e650af14d011a68981f808fdc9"), looks := false }, kinds := [], alts := [], laidByText := true, laidKinds := [.data], laidTests := true, laidLooks := .later }
def LangShufflesUptoCardSaid : Prop := Claim7.holds Tryd.pinned (.plain (OpenSpec.upto langShufflesSpec)) langShufflesUptoCard

/-- THE SECOND FORM's CARD OF 'semigrouplaw10.LangCombines'. -/
def langCombinesUptoCard : Claim7 := { stood := { row := langCombinesUptoRow, standIns := [], harness := (true, "0feca441c2d3efbcfb89f7fefbf30d8111a8c3e650af14d011a68981f808fdc9"), looks := false }, kinds := [], alts := [], laidByText := true, laidKinds := [.data], laidTests := true, laidLooks := .later }
def LangCombinesUptoCardSaid : Prop := Claim7.holds Tryd.pinned (.plain (OpenSpec.upto langCombinesSpec)) langCombinesUptoCard

/-- THE SECOND FORM's CARD OF 'semigrouplaw10.LangConcats'. -/
def langConcatsUptoCard : Claim7 := { stood := { row := langConcatsUptoRow, standIns := [], harness := (true, "0feca441c2d3efbcfb89f7fefbf30d8111a8c3e650af14d011a68981f808fdc9"), looks := false }, kinds := [], alts := [], laidByText := true, laidKinds := [.data], laidTests := true, laidLooks := .later }
def LangConcatsUptoCardSaid : Prop := Claim7.holds Tryd.pinned (.plain (OpenSpec.upto langConcatsSpec)) langConcatsUptoCard

/-- THE SECOND FORM's CARD OF 'semigrouplaw10.LangQuotients'. -/
def langQuotientsUptoCard : Claim7 := { stood := { row := langQuotientsUptoRow, standIns := [], harness := (true, "0feca441c2d3efbcfb89f7fefbf30d8111a8c3e650af14d011a68981f808fdc9"), looks := false }, kinds := [], alts := [], laidByText := true, laidKinds := [.data], laidTests := true, laidLooks := .later }
def LangQuotientsUptoCardSaid : Prop := Claim7.holds Tryd.pinned (.plain (OpenSpec.upto langQuotientsSpec)) langQuotientsUptoCard

/-- THE SECOND FORM's CARD OF 'semigrouplaw10.LangMorgan'. -/
def langMorganUptoCard : Claim7 := { stood := { row := langMorganUptoRow, standIns := [], harness := (true, "0feca441c2d3efbcfb89f7fefbf30d8111a8c3e650af14d011a68981f808fdc9"), looks := false }, kinds := [], alts := [], laidByText := true, laidKinds := [.data], laidTests := true, laidLooks := .later }
def LangMorganUptoCardSaid : Prop := Claim7.holds Tryd.pinned (.plain (OpenSpec.upto langMorganSpec)) langMorganUptoCard

/-- THE SECOND FORM's CARD OF 'semigrouplaw10.LangCuts'. -/
def langCutsUptoCard : Claim7 := { stood := { row := langCutsUptoRow, standIns := [], harness := (true, "0feca441c2d3efbcfb89f7fefbf30d8111a8c3e650af14d011a68981f808fdc9"), looks := false }, kinds := [], alts := [], laidByText := true, laidKinds := [.data], laidTests := true, laidLooks := .later }
def LangCutsUptoCardSaid : Prop := Claim7.holds Tryd.pinned (.plain (OpenSpec.upto langCutsSpec)) langCutsUptoCard

/-- THE SECOND FORM's CARD OF 'semigrouplaw10.LangStars'. -/
def langStarsUptoCard : Claim7 := { stood := { row := langStarsUptoRow, standIns := [], harness := (true, "0feca441c2d3efbcfb89f7fefbf30d8111a8c3e650af14d011a68981f808fdc9"), looks := false }, kinds := [], alts := [], laidByText := true, laidKinds := [.data], laidTests := true, laidLooks := .later }
def LangStarsUptoCardSaid : Prop := Claim7.holds Tryd.pinned (.plain (OpenSpec.upto langStarsSpec)) langStarsUptoCard

/-- THE SECOND FORM's CARD OF 'semigrouplaw10.LangTurns'. -/
def langTurnsUptoCard : Claim7 := { stood := { row := langTurnsUptoRow, standIns := [], harness := (true, "0feca441c2d3efbcfb89f7fefbf30d8111a8c3e650af14d011a68981f808fdc9"), looks := false }, kinds := [], alts := [], laidByText := true, laidKinds := [.data], laidTests := true, laidLooks := .later }
def LangTurnsUptoCardSaid : Prop := Claim7.holds Tryd.pinned (.plain (OpenSpec.upto langTurnsSpec)) langTurnsUptoCard

/-- THE SECOND FORM's CARD OF 'semigrouplaw10.LangCloses'. -/
def langClosesUptoCard : Claim7 := { stood := { row := langClosesUptoRow, standIns := [], harness := (true, "0feca441c2d3efbcfb89f7fefbf30d8111a8c3e650af14d011a68981f808fdc9"), looks := false }, kinds := [], alts := [], laidByText := true, laidKinds := [.data], laidTests := true, laidLooks := .later }
def LangClosesUptoCardSaid : Prop := Claim7.holds Tryd.pinned (.plain (OpenSpec.upto langClosesSpec)) langClosesUptoCard

/-- THE SECOND FORM's CARD OF 'semigrouplaw10.LangKleene'. -/
def langKleeneUptoCard : Claim7 := { stood := { row := langKleeneUptoRow, standIns := [], harness := (true, "0feca441c2d3efbcfb89f7fefbf30d8111a8c3e650af14d011a68981f808fdc9"), looks := false }, kinds := [], alts := [], laidByText := true, laidKinds := [.data], laidTests := true, laidLooks := .later }
def LangKleeneUptoCardSaid : Prop := Claim7.holds Tryd.pinned (.plain (OpenSpec.upto langKleeneSpec)) langKleeneUptoCard

/-- THE SECOND FORM's CARD OF 'semigrouplaw10.LangReverses'. -/
def langReversesUptoCard : Claim7 := { stood := { row := langReversesUptoRow, standIns := [], harness := (true, "0feca441c2d3efbcfb89f7fefbf30d8111a8c3e650af14d011a68981f808fdc9"), looks := false }, kinds := [], alts := [], laidByText := true, laidKinds := [.data], laidTests := true, laidLooks := .later }
def LangReversesUptoCardSaid : Prop := Claim7.holds Tryd.pinned (.plain (OpenSpec.upto langReversesSpec)) langReversesUptoCard
end Rows
end Go.Proofs.YtmcdbnalaobmpaaDoor
