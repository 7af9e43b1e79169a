/-
  NARROWER THAN 'FOR EVERY INPUT', by the rows' own cells (each row's printed sentence says how): LangPreimages: laid · LangImages: laid · LangShuffles: laid · LangCombines: laid · LangConcats: laid · LangQuotients: laid · LangMorgan: laid · LangCuts: laid · LangStars: laid · LangTurns: laid · LangCloses: laid · LangKleene: laid · LangReverses: laid.
  DERIVED. THE GIVEN ROWS OF THIS SEAT. 13 by the template 'for every input the law returns true; each argument reads behind the call as it read before'; 0 by the template 'total and deterministic' (their statements: YtmcdbnalaobmpaaDoorTotals.lean).
  GIVEN WITH THE SEED: the statements are not yours to turn. If you find one false, say at which input.
  Laid BY PROGRAM, IN A SANDBOX (cutbox-rows.mjs): the forced cells as the released guide's own fill.sh prints them over the translation de5c9f690d16af76… (all of the seat's roots in one cut). By AI agents, Wed Nov 11 2026. No macro, syntax, notation, axiom, sorry.
-/
import Derived.Test.YtmcdbnalaobmpaaDoorChecked
import GoSem.Claim
import GoSem.ClaimJoined
import GoSem.ClaimMapViews
import Derived.JoinedTies
import Derived.KernelRfl
namespace Go.Proofs.YtmcdbnalaobmpaaDoor
/- THE CELL 'sum', in the pinned program and in every row, IS THE sha256 OF THE DUMP (.gsa) THAT YtmcdbnalaobmpaaDoorProg.lean LOADS. Nothing in Lean hashes anything: it is a label: what it is worth is what the hold of that sum in a sandbox is worth. -/
noncomputable def Tryd.pinned : Pinned := { name := "ytmcdbnalaobmpaadoor", sum := "de5c9f690d16af767ebfca915c8714c32bb885c65a7cec71c43132f7b67f186c", checked := Tryd.checked }
namespace Rows
def none {H : Type} : Left H := { results := [], args := [] }

/- WHAT THE LISTED PACKAGE-LEVEL VARIABLES READ AS WHEN THE CALL BEGINS. Each datum BY PROGRAM (the guide's laid-datum.mjs) off the statement by which the dump's own 'gosem.cut.vars' lays the variable. In a bare row this is a premise. The card (YtmcdbnalaobmpaaDoorCards.lean) ties it to the program's text. -/
def laid_math_bits_deBruijn64tab {H : Type} : DataW H := .agg [.lit (.int .u8 0), .lit (.int .u8 1), .lit (.int .u8 56), .lit (.int .u8 2), .lit (.int .u8 57), .lit (.int .u8 49), .lit (.int .u8 28), .lit (.int .u8 3), .lit (.int .u8 61), .lit (.int .u8 58), .lit (.int .u8 42), .lit (.int .u8 50), .lit (.int .u8 38), .lit (.int .u8 29), .lit (.int .u8 17), .lit (.int .u8 4), .lit (.int .u8 62), .lit (.int .u8 47), .lit (.int .u8 59), .lit (.int .u8 36), .lit (.int .u8 45), .lit (.int .u8 43), .lit (.int .u8 51), .lit (.int .u8 22), .lit (.int .u8 53), .lit (.int .u8 39), .lit (.int .u8 33), .lit (.int .u8 30), .lit (.int .u8 24), .lit (.int .u8 18), .lit (.int .u8 12), .lit (.int .u8 5), .lit (.int .u8 63), .lit (.int .u8 55), .lit (.int .u8 48), .lit (.int .u8 27), .lit (.int .u8 60), .lit (.int .u8 41), .lit (.int .u8 37), .lit (.int .u8 16), .lit (.int .u8 46), .lit (.int .u8 35), .lit (.int .u8 44), .lit (.int .u8 21), .lit (.int .u8 52), .lit (.int .u8 32), .lit (.int .u8 23), .lit (.int .u8 11), .lit (.int .u8 54), .lit (.int .u8 26), .lit (.int .u8 40), .lit (.int .u8 15), .lit (.int .u8 34), .lit (.int .u8 20), .lit (.int .u8 31), .lit (.int .u8 10), .lit (.int .u8 25), .lit (.int .u8 14), .lit (.int .u8 19), .lit (.int .u8 9), .lit (.int .u8 13), .lit (.int .u8 8), .lit (.int .u8 7), .lit (.int .u8 6)]

/-- 'semigrouplaw10.LangPreimages': WHATEVER THE INPUT: true; the input reads as it did. -/
def langPreimagesSpec : ChangeSpec := { name := "langPreimages", fn := fun _ => fun
  | [d1, d2] => { results := [.lit (.bool true)], args := [d1, d2] }
  | _ => none }
def langPreimagesRow : OpenClaim := { program := "ytmcdbnalaobmpaadoor", sum := "de5c9f690d16af767ebfca915c8714c32bb885c65a7cec71c43132f7b67f186c", func := "semigroup/semigrouplaw10.LangPreimages", spec := "langPreimages", unfollowed := true, recurses := true, named := ["math/bits.deBruijn64tab"], plainKeys := false, apart := false, laid := [("math/bits.deBruijn64tab", laid_math_bits_deBruijn64tab)] }
def LangPreimagesSaid : Prop := langPreimagesRow.holds Tryd.pinned (OpenSpec.ofChange langPreimagesSpec)

/-- ITS FALSE NEIGHBOUR: 'it returns false'. Refute it at one input. -/
def langPreimagesWrong : ChangeSpec := { name := "langPreimages", fn := fun _ => fun
  | [d1, d2] => { results := [.lit (.bool false)], args := [d1, d2] }
  | _ => none }
def LangPreimagesWrongFalsely : Prop := langPreimagesRow.holds Tryd.pinned (OpenSpec.ofChange langPreimagesWrong)

/-- 'semigrouplaw10.LangImages': WHATEVER THE INPUT: true; the input reads as it did. -/
def langImagesSpec : ChangeSpec := { name := "langImages", fn := fun _ => fun
  | [d1, d2, d3] => { results := [.lit (.bool true)], args := [d1, d2, d3] }
  | _ => none }
def langImagesRow : OpenClaim := { program := "ytmcdbnalaobmpaadoor", sum := "de5c9f690d16af767ebfca915c8714c32bb885c65a7cec71c43132f7b67f186c", func := "semigroup/semigrouplaw10.LangImages", spec := "langImages", unfollowed := true, recurses := true, named := ["math/bits.deBruijn64tab"], plainKeys := false, apart := false, laid := [("math/bits.deBruijn64tab", laid_math_bits_deBruijn64tab)] }
def LangImagesSaid : Prop := langImagesRow.holds Tryd.pinned (OpenSpec.ofChange langImagesSpec)

/-- ITS FALSE NEIGHBOUR: 'it returns false'. Refute it at one input. -/
def langImagesWrong : ChangeSpec := { name := "langImages", fn := fun _ => fun
  | [d1, d2, d3] => { results := [.lit (.bool false)], args := [d1, d2, d3] }
  | _ => none }
def LangImagesWrongFalsely : Prop := langImagesRow.holds Tryd.pinned (OpenSpec.ofChange langImagesWrong)

/-- 'semigrouplaw10.LangShuffles': WHATEVER THE INPUT: true; the input reads as it did. -/
def langShufflesSpec : ChangeSpec := { name := "langShuffles", fn := fun _ => fun
  | [d1, d2] => { results := [.lit (.bool true)], args := [d1, d2] }
  | _ => none }
def langShufflesRow : OpenClaim := { program := "ytmcdbnalaobmpaadoor", sum := "de5c9f690d16af767ebfca915c8714c32bb885c65a7cec71c43132f7b67f186c", func := "semigroup/semigrouplaw10.LangShuffles", spec := "langShuffles", unfollowed := true, recurses := true, named := ["math/bits.deBruijn64tab"], plainKeys := false, apart := false, laid := [("math/bits.deBruijn64tab", laid_math_bits_deBruijn64tab)] }
def LangShufflesSaid : Prop := langShufflesRow.holds Tryd.pinned (OpenSpec.ofChange langShufflesSpec)

/-- ITS FALSE NEIGHBOUR: 'it returns false'. Refute it at one input. -/
def langShufflesWrong : ChangeSpec := { name := "langShuffles", fn := fun _ => fun
  | [d1, d2] => { results := [.lit (.bool false)], args := [d1, d2] }
  | _ => none }
def LangShufflesWrongFalsely : Prop := langShufflesRow.holds Tryd.pinned (OpenSpec.ofChange langShufflesWrong)

/-- 'semigrouplaw10.LangCombines': WHATEVER THE INPUT: true; the input reads as it did. -/
def langCombinesSpec : ChangeSpec := { name := "langCombines", fn := fun _ => fun
  | [d1, d2, d3] => { results := [.lit (.bool true)], args := [d1, d2, d3] }
  | _ => none }
def langCombinesRow : OpenClaim := { program := "ytmcdbnalaobmpaadoor", sum := "de5c9f690d16af767ebfca915c8714c32bb885c65a7cec71c43132f7b67f186c", func := "semigroup/semigrouplaw10.LangCombines", spec := "langCombines", unfollowed := true, recurses := true, named := ["math/bits.deBruijn64tab"], plainKeys := false, apart := false, laid := [("math/bits.deBruijn64tab", laid_math_bits_deBruijn64tab)] }
def LangCombinesSaid : Prop := langCombinesRow.holds Tryd.pinned (OpenSpec.ofChange langCombinesSpec)

/-- ITS FALSE NEIGHBOUR: 'it returns false'. Refute it at one input. -/
def langCombinesWrong : ChangeSpec := { name := "langCombines", fn := fun _ => fun
  | [d1, d2, d3] => { results := [.lit (.bool false)], args := [d1, d2, d3] }
  | _ => none }
def LangCombinesWrongFalsely : Prop := langCombinesRow.holds Tryd.pinned (OpenSpec.ofChange langCombinesWrong)

/-- 'semigrouplaw10.LangConcats': WHATEVER THE INPUT: true; the input reads as it did. -/
def langConcatsSpec : ChangeSpec := { name := "langConcats", fn := fun _ => fun
  | [d1, d2] => { results := [.lit (.bool true)], args := [d1, d2] }
  | _ => none }
def langConcatsRow : OpenClaim := { program := "ytmcdbnalaobmpaadoor", sum := "de5c9f690d16af767ebfca915c8714c32bb885c65a7cec71c43132f7b67f186c", func := "semigroup/semigrouplaw10.LangConcats", spec := "langConcats", unfollowed := true, recurses := true, named := ["math/bits.deBruijn64tab"], plainKeys := false, apart := false, laid := [("math/bits.deBruijn64tab", laid_math_bits_deBruijn64tab)] }
def LangConcatsSaid : Prop := langConcatsRow.holds Tryd.pinned (OpenSpec.ofChange langConcatsSpec)

/-- ITS FALSE NEIGHBOUR: 'it returns false'. Refute it at one input. -/
def langConcatsWrong : ChangeSpec := { name := "langConcats", fn := fun _ => fun
  | [d1, d2] => { results := [.lit (.bool false)], args := [d1, d2] }
  | _ => none }
def LangConcatsWrongFalsely : Prop := langConcatsRow.holds Tryd.pinned (OpenSpec.ofChange langConcatsWrong)

/-- 'semigrouplaw10.LangQuotients': WHATEVER THE INPUT: true; the input reads as it did. -/
def langQuotientsSpec : ChangeSpec := { name := "langQuotients", fn := fun _ => fun
  | [d1, d2] => { results := [.lit (.bool true)], args := [d1, d2] }
  | _ => none }
def langQuotientsRow : OpenClaim := { program := "ytmcdbnalaobmpaadoor", sum := "de5c9f690d16af767ebfca915c8714c32bb885c65a7cec71c43132f7b67f186c", func := "semigroup/semigrouplaw10.LangQuotients", spec := "langQuotients", unfollowed := true, recurses := true, named := ["math/bits.deBruijn64tab"], plainKeys := false, apart := false, laid := [("math/bits.deBruijn64tab", laid_math_bits_deBruijn64tab)] }
def LangQuotientsSaid : Prop := langQuotientsRow.holds Tryd.pinned (OpenSpec.ofChange langQuotientsSpec)

/-- ITS FALSE NEIGHBOUR: 'it returns false'. Refute it at one input. -/
def langQuotientsWrong : ChangeSpec := { name := "langQuotients", fn := fun _ => fun
  | [d1, d2] => { results := [.lit (.bool false)], args := [d1, d2] }
  | _ => none }
def LangQuotientsWrongFalsely : Prop := langQuotientsRow.holds Tryd.pinned (OpenSpec.ofChange langQuotientsWrong)

/-- 'semigrouplaw10.LangMorgan': WHATEVER THE INPUT: true; the input reads as it did. -/
def langMorganSpec : ChangeSpec := { name := "langMorgan", fn := fun _ => fun
  | [d1, d2, d3] => { results := [.lit (.bool true)], args := [d1, d2, d3] }
  | _ => none }
def langMorganRow : OpenClaim := { program := "ytmcdbnalaobmpaadoor", sum := "de5c9f690d16af767ebfca915c8714c32bb885c65a7cec71c43132f7b67f186c", func := "semigroup/semigrouplaw10.LangMorgan", spec := "langMorgan", unfollowed := true, recurses := true, named := ["math/bits.deBruijn64tab"], plainKeys := false, apart := false, laid := [("math/bits.deBruijn64tab", laid_math_bits_deBruijn64tab)] }
def LangMorganSaid : Prop := langMorganRow.holds Tryd.pinned (OpenSpec.ofChange langMorganSpec)

/-- ITS FALSE NEIGHBOUR: 'it returns false'. Refute it at one input. -/
def langMorganWrong : ChangeSpec := { name := "langMorgan", fn := fun _ => fun
  | [d1, d2, d3] => { results := [.lit (.bool false)], args := [d1, d2, d3] }
  | _ => none }
def LangMorganWrongFalsely : Prop := langMorganRow.holds Tryd.pinned (OpenSpec.ofChange langMorganWrong)

/-- 'semigrouplaw10.LangCuts': WHATEVER THE INPUT: true; the input reads as it did. -/
def langCutsSpec : ChangeSpec := { name := "langCuts", fn := fun _ => fun
  | [d1, d2, d3] => { results := [.lit (.bool true)], args := [d1, d2, d3] }
  | _ => none }
def langCutsRow : OpenClaim := { program := "ytmcdbnalaobmpaadoor", sum := "de5c9f690d16af767ebfca915c8714c32bb885c65a7cec71c43132f7b67f186c", func := "semigroup/semigrouplaw10.LangCuts", spec := "langCuts", unfollowed := true, recurses := true, named := ["math/bits.deBruijn64tab"], plainKeys := false, apart := false, laid := [("math/bits.deBruijn64tab", laid_math_bits_deBruijn64tab)] }
def LangCutsSaid : Prop := langCutsRow.holds Tryd.pinned (OpenSpec.ofChange langCutsSpec)

/-- ITS FALSE NEIGHBOUR: 'it returns false'. Refute it at one input. -/
def langCutsWrong : ChangeSpec := { name := "langCuts", fn := fun _ => fun
  | [d1, d2, d3] => { results := [.lit (.bool false)], args := [d1, d2, d3] }
  | _ => none }
def LangCutsWrongFalsely : Prop := langCutsRow.holds Tryd.pinned (OpenSpec.ofChange langCutsWrong)

/-- 'semigrouplaw10.LangStars': WHATEVER THE INPUT: true; the input reads as it did. -/
def langStarsSpec : ChangeSpec := { name := "langStars", fn := fun _ => fun
  | [d] => { results := [.lit (.bool true)], args := [d] }
  | _ => none }
def langStarsRow : OpenClaim := { program := "ytmcdbnalaobmpaadoor", sum := "de5c9f690d16af767ebfca915c8714c32bb885c65a7cec71c43132f7b67f186c", func := "semigroup/semigrouplaw10.LangStars", spec := "langStars", unfollowed := true, recurses := true, named := ["math/bits.deBruijn64tab"], plainKeys := false, apart := false, laid := [("math/bits.deBruijn64tab", laid_math_bits_deBruijn64tab)] }
def LangStarsSaid : Prop := langStarsRow.holds Tryd.pinned (OpenSpec.ofChange langStarsSpec)

/-- ITS FALSE NEIGHBOUR: 'it returns false'. Refute it at one input. -/
def langStarsWrong : ChangeSpec := { name := "langStars", fn := fun _ => fun
  | [d] => { results := [.lit (.bool false)], args := [d] }
  | _ => none }
def LangStarsWrongFalsely : Prop := langStarsRow.holds Tryd.pinned (OpenSpec.ofChange langStarsWrong)

/-- 'semigrouplaw10.LangTurns': WHATEVER THE INPUT: true; the input reads as it did. -/
def langTurnsSpec : ChangeSpec := { name := "langTurns", fn := fun _ => fun
  | [d1, d2, d3, d4] => { results := [.lit (.bool true)], args := [d1, d2, d3, d4] }
  | _ => none }
def langTurnsRow : OpenClaim := { program := "ytmcdbnalaobmpaadoor", sum := "de5c9f690d16af767ebfca915c8714c32bb885c65a7cec71c43132f7b67f186c", func := "semigroup/semigrouplaw10.LangTurns", spec := "langTurns", unfollowed := true, recurses := true, named := ["math/bits.deBruijn64tab"], plainKeys := false, apart := false, laid := [("math/bits.deBruijn64tab", laid_math_bits_deBruijn64tab)] }
def LangTurnsSaid : Prop := langTurnsRow.holds Tryd.pinned (OpenSpec.ofChange langTurnsSpec)

/-- ITS FALSE NEIGHBOUR: 'it returns false'. Refute it at one input. -/
def langTurnsWrong : ChangeSpec := { name := "langTurns", fn := fun _ => fun
  | [d1, d2, d3, d4] => { results := [.lit (.bool false)], args := [d1, d2, d3, d4] }
  | _ => none }
def LangTurnsWrongFalsely : Prop := langTurnsRow.holds Tryd.pinned (OpenSpec.ofChange langTurnsWrong)

/-- 'semigrouplaw10.LangCloses': WHATEVER THE INPUT: true; the input reads as it did. -/
def langClosesSpec : ChangeSpec := { name := "langCloses", fn := fun _ => fun
  | [d1, d2, d3, d4] => { results := [.lit (.bool true)], args := [d1, d2, d3, d4] }
  | _ => none }
def langClosesRow : OpenClaim := { program := "ytmcdbnalaobmpaadoor", sum := "de5c9f690d16af767ebfca915c8714c32bb885c65a7cec71c43132f7b67f186c", func := "semigroup/semigrouplaw10.LangCloses", spec := "langCloses", unfollowed := true, recurses := true, named := ["math/bits.deBruijn64tab"], plainKeys := false, apart := false, laid := [("math/bits.deBruijn64tab", laid_math_bits_deBruijn64tab)] }
def LangClosesSaid : Prop := langClosesRow.holds Tryd.pinned (OpenSpec.ofChange langClosesSpec)

/-- ITS FALSE NEIGHBOUR: 'it returns false'. Refute it at one input. -/
def langClosesWrong : ChangeSpec := { name := "langCloses", fn := fun _ => fun
  | [d1, d2, d3, d4] => { results := [.lit (.bool false)], args := [d1, d2, d3, d4] }
  | _ => none }
def LangClosesWrongFalsely : Prop := langClosesRow.holds Tryd.pinned (OpenSpec.ofChange langClosesWrong)

/-- 'semigrouplaw10.LangKleene': WHATEVER THE INPUT: true; the input reads as it did. -/
def langKleeneSpec : ChangeSpec := { name := "langKleene", fn := fun _ => fun
  | [d1, d2, d3] => { results := [.lit (.bool true)], args := [d1, d2, d3] }
  | _ => none }
def langKleeneRow : OpenClaim := { program := "ytmcdbnalaobmpaadoor", sum := "de5c9f690d16af767ebfca915c8714c32bb885c65a7cec71c43132f7b67f186c", func := "semigroup/semigrouplaw10.LangKleene", spec := "langKleene", unfollowed := true, recurses := true, named := ["math/bits.deBruijn64tab"], plainKeys := false, apart := false, laid := [("math/bits.deBruijn64tab", laid_math_bits_deBruijn64tab)] }
def LangKleeneSaid : Prop := langKleeneRow.holds Tryd.pinned (OpenSpec.ofChange langKleeneSpec)

/-- ITS FALSE NEIGHBOUR: 'it returns false'. Refute it at one input. -/
def langKleeneWrong : ChangeSpec := { name := "langKleene", fn := fun _ => fun
  | [d1, d2, d3] => { results := [.lit (.bool false)], args := [d1, d2, d3] }
  | _ => none }
def LangKleeneWrongFalsely : Prop := langKleeneRow.holds Tryd.pinned (OpenSpec.ofChange langKleeneWrong)

/-- 'semigrouplaw10.LangReverses': WHATEVER THE INPUT: true; the input reads as it did. -/
def langReversesSpec : ChangeSpec := { name := "langReverses", fn := fun _ => fun
  | [d1, d2] => { results := [.lit (.bool true)], args := [d1, d2] }
  | _ => none }
def langReversesRow : OpenClaim := { program := "ytmcdbnalaobmpaadoor", sum := "de5c9f690d16af767ebfca915c8714c32bb885c65a7cec71c43132f7b67f186c", func := "semigroup/semigrouplaw10.LangReverses", spec := "langReverses", unfollowed := true, recurses := true, named := ["math/bits.deBruijn64tab"], plainKeys := false, apart := false, laid := [("math/bits.deBruijn64tab", laid_math_bits_deBruijn64tab)] }
def LangReversesSaid : Prop := langReversesRow.holds Tryd.pinned (OpenSpec.ofChange langReversesSpec)

/-- ITS FALSE NEIGHBOUR: 'it returns false'. Refute it at one input. -/
def langReversesWrong : ChangeSpec := { name := "langReverses", fn := fun _ => fun
  | [d1, d2] => { results := [.lit (.bool false)], args := [d1, d2] }
  | _ => none }
def LangReversesWrongFalsely : Prop := langReversesRow.holds Tryd.pinned (OpenSpec.ofChange langReversesWrong)

/- THE SECOND FORM. 'bulk': how many values and letters a reading holds, each counted each time it is reached (what is shared counts as often as it is met; a slice's spare places count too). A statement '..UptoSaid' is the law's where the arguments, and the package variables that the reading takes, are together of bulk at most 1048576: NARROWER than '..Said'. Prove '..Said' where nothing that the law and all that it calls make is longer than what came in: it says more and counts as full. Else prove '..UptoSaid'. A law counts once. -/
mutual
def uptoBulk {H : Type} : DataW H → Nat
  | .lit (.string bytes) => bytes.length + 1
  | .lit _ => 1
  | .nil => 1
  | .ptr d => uptoBulk d + 1
  | .slice elems spare => uptoBulkAll elems + uptoBulkAll spare + 1
  | .agg parts => uptoBulkAll parts + 1
  | .iface _ d => uptoBulk d + 1
  | .map entries => uptoBulkEntries entries + 1
  | .held _ => 1
def uptoBulkAll {H : Type} : List (DataW H) → Nat
  | [] => 0
  | d :: r => uptoBulk d + uptoBulkAll r
def uptoBulkEntries {H : Type} : List (Lit × DataW H) → Nat
  | [] => 0
  | x :: r => uptoBulkEntry x + uptoBulkEntries r
def uptoBulkEntry {H : Type} : Lit × DataW H → Nat
  | (.string bytes, d) => bytes.length + uptoBulk d + 1
  | (_, d) => uptoBulk d + 1
 end
def uptoSmall : (H : Type) → List (DataW H) → Bool := fun _ ds => decide (uptoBulkAll ds ≤ 1048576)
def OpenSpec.upto (s : _root_.Go.ChangeSpec) : _root_.Go.OpenSpec := { _root_.Go.OpenSpec.ofChange s with cond := some uptoSmall }

/-- 'semigrouplaw10.LangPreimages', WHERE WHAT IT READS IS OF BULK AT MOST 1048576: true; the input reads as it did. -/
def langPreimagesUptoRow : OpenClaim := { program := "ytmcdbnalaobmpaadoor", sum := "de5c9f690d16af767ebfca915c8714c32bb885c65a7cec71c43132f7b67f186c", func := "semigroup/semigrouplaw10.LangPreimages", spec := "langPreimages", unfollowed := true, recurses := true, named := ["math/bits.deBruijn64tab"], plainKeys := false, apart := false, laid := [("math/bits.deBruijn64tab", laid_math_bits_deBruijn64tab)], narrowed := true }
def LangPreimagesUptoSaid : Prop := langPreimagesUptoRow.holds Tryd.pinned (OpenSpec.upto langPreimagesSpec)

/-- 'semigrouplaw10.LangImages', WHERE WHAT IT READS IS OF BULK AT MOST 1048576: true; the input reads as it did. -/
def langImagesUptoRow : OpenClaim := { program := "ytmcdbnalaobmpaadoor", sum := "de5c9f690d16af767ebfca915c8714c32bb885c65a7cec71c43132f7b67f186c", func := "semigroup/semigrouplaw10.LangImages", spec := "langImages", unfollowed := true, recurses := true, named := ["math/bits.deBruijn64tab"], plainKeys := false, apart := false, laid := [("math/bits.deBruijn64tab", laid_math_bits_deBruijn64tab)], narrowed := true }
def LangImagesUptoSaid : Prop := langImagesUptoRow.holds Tryd.pinned (OpenSpec.upto langImagesSpec)

/-- 'semigrouplaw10.LangShuffles', WHERE WHAT IT READS IS OF BULK AT MOST 1048576: true; the input reads as it did. -/
def langShufflesUptoRow : OpenClaim := { program := "ytmcdbnalaobmpaadoor", sum := "de5c9f690d16af767ebfca915c8714c32bb885c65a7cec71c43132f7b67f186c", func := "semigroup/semigrouplaw10.LangShuffles", spec := "langShuffles", unfollowed := true, recurses := true, named := ["math/bits.deBruijn64tab"], plainKeys := false, apart := false, laid := [("math/bits.deBruijn64tab", laid_math_bits_deBruijn64tab)], narrowed := true }
def LangShufflesUptoSaid : Prop := langShufflesUptoRow.holds Tryd.pinned (OpenSpec.upto langShufflesSpec)

/-- 'semigrouplaw10.LangCombines', WHERE WHAT IT READS IS OF BULK AT MOST 1048576: true; the input reads as it did. -/
def langCombinesUptoRow : OpenClaim := { program := "ytmcdbnalaobmpaadoor", sum := "de5c9f690d16af767ebfca915c8714c32bb885c65a7cec71c43132f7b67f186c", func := "semigroup/semigrouplaw10.LangCombines", spec := "langCombines", unfollowed := true, recurses := true, named := ["math/bits.deBruijn64tab"], plainKeys := false, apart := false, laid := [("math/bits.deBruijn64tab", laid_math_bits_deBruijn64tab)], narrowed := true }
def LangCombinesUptoSaid : Prop := langCombinesUptoRow.holds Tryd.pinned (OpenSpec.upto langCombinesSpec)

/-- 'semigrouplaw10.LangConcats', WHERE WHAT IT READS IS OF BULK AT MOST 1048576: true; the input reads as it did. -/
def langConcatsUptoRow : OpenClaim := { program := "ytmcdbnalaobmpaadoor", sum := "de5c9f690d16af767ebfca915c8714c32bb885c65a7cec71c43132f7b67f186c", func := "semigroup/semigrouplaw10.LangConcats", spec := "langConcats", unfollowed := true, recurses := true, named := ["math/bits.deBruijn64tab"], plainKeys := false, apart := false, laid := [("math/bits.deBruijn64tab", laid_math_bits_deBruijn64tab)], narrowed := true }
def LangConcatsUptoSaid : Prop := langConcatsUptoRow.holds Tryd.pinned (OpenSpec.upto langConcatsSpec)

/-- 'semigrouplaw10.LangQuotients', WHERE WHAT IT READS IS OF BULK AT MOST 1048576: true; the input reads as it did. -/
def langQuotientsUptoRow : OpenClaim := { program := "ytmcdbnalaobmpaadoor", sum := "de5c9f690d16af767ebfca915c8714c32bb885c65a7cec71c43132f7b67f186c", func := "semigroup/semigrouplaw10.LangQuotients", spec := "langQuotients", unfollowed := true, recurses := true, named := ["math/bits.deBruijn64tab"], plainKeys := false, apart := false, laid := [("math/bits.deBruijn64tab", laid_math_bits_deBruijn64tab)], narrowed := true }
def LangQuotientsUptoSaid : Prop := langQuotientsUptoRow.holds Tryd.pinned (OpenSpec.upto langQuotientsSpec)

/-- 'semigrouplaw10.LangMorgan', WHERE WHAT IT READS IS OF BULK AT MOST 1048576: true; the input reads as it did. -/
def langMorganUptoRow : OpenClaim := { program := "ytmcdbnalaobmpaadoor", sum := "de5c9f690d16af767ebfca915c8714c32bb885c65a7cec71c43132f7b67f186c", func := "semigroup/semigrouplaw10.LangMorgan", spec := "langMorgan", unfollowed := true, recurses := true, named := ["math/bits.deBruijn64tab"], plainKeys := false, apart := false, laid := [("math/bits.deBruijn64tab", laid_math_bits_deBruijn64tab)], narrowed := true }
def LangMorganUptoSaid : Prop := langMorganUptoRow.holds Tryd.pinned (OpenSpec.upto langMorganSpec)

/-- 'semigrouplaw10.LangCuts', WHERE WHAT IT READS IS OF BULK AT MOST 1048576: true; the input reads as it did. -/
def langCutsUptoRow : OpenClaim := { program := "ytmcdbnalaobmpaadoor", sum := "de5c9f690d16af767ebfca915c8714c32bb885c65a7cec71c43132f7b67f186c", func := "semigroup/semigrouplaw10.LangCuts", spec := "langCuts", unfollowed := true, recurses := true, named := ["math/bits.deBruijn64tab"], plainKeys := false, apart := false, laid := [("math/bits.deBruijn64tab", laid_math_bits_deBruijn64tab)], narrowed := true }
def LangCutsUptoSaid : Prop := langCutsUptoRow.holds Tryd.pinned (OpenSpec.upto langCutsSpec)

/-- 'semigrouplaw10.LangStars', WHERE WHAT IT READS IS OF BULK AT MOST 1048576: true; the input reads as it did. -/
def langStarsUptoRow : OpenClaim := { program := "ytmcdbnalaobmpaadoor", sum := "de5c9f690d16af767ebfca915c8714c32bb885c65a7cec71c43132f7b67f186c", func := "semigroup/semigrouplaw10.LangStars", spec := "langStars", unfollowed := true, recurses := true, named := ["math/bits.deBruijn64tab"], plainKeys := false, apart := false, laid := [("math/bits.deBruijn64tab", laid_math_bits_deBruijn64tab)], narrowed := true }
def LangStarsUptoSaid : Prop := langStarsUptoRow.holds Tryd.pinned (OpenSpec.upto langStarsSpec)

/-- 'semigrouplaw10.LangTurns', WHERE WHAT IT READS IS OF BULK AT MOST 1048576: true; the input reads as it did. -/
def langTurnsUptoRow : OpenClaim := { program := "ytmcdbnalaobmpaadoor", sum := "de5c9f690d16af767ebfca915c8714c32bb885c65a7cec71c43132f7b67f186c", func := "semigroup/semigrouplaw10.LangTurns", spec := "langTurns", unfollowed := true, recurses := true, named := ["math/bits.deBruijn64tab"], plainKeys := false, apart := false, laid := [("math/bits.deBruijn64tab", laid_math_bits_deBruijn64tab)], narrowed := true }
def LangTurnsUptoSaid : Prop := langTurnsUptoRow.holds Tryd.pinned (OpenSpec.upto langTurnsSpec)

/-- 'semigrouplaw10.LangCloses', WHERE WHAT IT READS IS OF BULK AT MOST 1048576: true; the input reads as it did. -/
def langClosesUptoRow : OpenClaim := { program := "ytmcdbnalaobmpaadoor", sum := "de5c9f690d16af767ebfca915c8714c32bb885c65a7cec71c43132f7b67f186c", func := "semigroup/semigrouplaw10.LangCloses", spec := "langCloses", unfollowed := true, recurses := true, named := ["math/bits.deBruijn64tab"], plainKeys := false, apart := false, laid := [("math/bits.deBruijn64tab", laid_math_bits_deBruijn64tab)], narrowed := true }
def LangClosesUptoSaid : Prop := langClosesUptoRow.holds Tryd.pinned (OpenSpec.upto langClosesSpec)

/-- 'semigrouplaw10.LangKleene', WHERE WHAT IT READS IS OF BULK AT MOST 1048576: true; the input reads as it did. -/
def langKleeneUptoRow : OpenClaim := { program := "ytmcdbnalaobmpaadoor", sum := "de5c9f690d16af767ebfca915c8714c32bb885c65a7cec71c43132f7b67f186c", func := "semigroup/semigrouplaw10.LangKleene", spec := "langKleene", unfollowed := true, recurses := true, named := ["math/bits.deBruijn64tab"], plainKeys := false, apart := false, laid := [("math/bits.deBruijn64tab", laid_math_bits_deBruijn64tab)], narrowed := true }
def LangKleeneUptoSaid : Prop := langKleeneUptoRow.holds Tryd.pinned (OpenSpec.upto langKleeneSpec)

/-- 'semigrouplaw10.LangReverses', WHERE WHAT IT READS IS OF BULK AT MOST 1048576: true; the input reads as it did. -/
def langReversesUptoRow : OpenClaim := { program := "ytmcdbnalaobmpaadoor", sum := "de5c9f690d16af767ebfca915c8714c32bb885c65a7cec71c43132f7b67f186c", func := "semigroup/semigrouplaw10.LangReverses", spec := "langReverses", unfollowed := true, recurses := true, named := ["math/bits.deBruijn64tab"], plainKeys := false, apart := false, laid := [("math/bits.deBruijn64tab", laid_math_bits_deBruijn64tab)], narrowed := true }
def LangReversesUptoSaid : Prop := langReversesUptoRow.holds Tryd.pinned (OpenSpec.upto langReversesSpec)

end Rows
end Go.Proofs.YtmcdbnalaobmpaaDoor
