/-
  NARROWER THAN 'FOR EVERY INPUT', by the rows' own cells (each row's printed sentence says how): NfaValidates: laid · NfaPositions: loops, laid · NfaBounds: loops, laid · NfaSteps: laid · NfaAccepts: laid · NfaReverses: laid · NfaReaches: laid · NfaSums: laid.
  DERIVED. THE GIVEN ROWS OF THIS SEAT. 8 by the template 'for every input the law returns true; each argument reads behind the call as it read before'; 0 by the template 'total and deterministic' (their statements: YtjdpkmoloccebaaDoorTotals.lean).
  GIVEN WITH THE SEED: the statements are not yours to turn. If you find one false, say at which input.
  Laid BY PROGRAM, IN A SANDBOX (cutbox-rows.mjs): the forced cells as the released guide's own fill.sh prints them over the translation 9dbd5d1b9190d27a… (all of the seat's roots in one cut). By AI agents, Wed Nov 11 2026. No macro, syntax, notation, axiom, sorry.
-/
import Derived.Test.YtjdpkmoloccebaaDoorChecked
import GoSem.Claim
import GoSem.ClaimJoined
import GoSem.ClaimMapViews
import Derived.JoinedTies
import Derived.KernelRfl
namespace Go.Proofs.YtjdpkmoloccebaaDoor
/- THE CELL 'sum', in the pinned program and in every row, IS THE sha256 OF THE DUMP (.gsa) THAT YtjdpkmoloccebaaDoorProg.lean LOADS. Nothing in Lean hashes anything: it is a label: what it is worth is what the hold of that sum in a sandbox is worth. -/
noncomputable def Tryd.pinned : Pinned := { name := "ytjdpkmoloccebaadoor", sum := "9dbd5d1b9190d27a55f3b5eb06102dc7b23e518909b613469476a866a355c895", checked := Tryd.checked }
namespace Rows
def none {H : Type} : Left H := { results := [], args := [] }

/- WHAT THE LISTED PACKAGE-LEVEL VARIABLES READ AS WHEN THE CALL BEGINS. Each datum BY PROGRAM (the guide's laid-datum.mjs) off the statement by which the dump's own 'gosem.cut.vars' lays the variable. In a bare row this is a premise. The card (YtjdpkmoloccebaaDoorCards.lean) ties it to the program's text. -/
def laid_math_bits_deBruijn64tab {H : Type} : DataW H := .agg [.lit (.int .u8 0), .lit (.int .u8 1), .lit (.int .u8 56), .lit (.int .u8 2), .lit (.int .u8 57), .lit (.int .u8 49), .lit (.int .u8 28), .lit (.int .u8 3), .lit (.int .u8 61), .lit (.int .u8 58), .lit (.int .u8 42), .lit (.int .u8 50), .lit (.int .u8 38), .lit (.int .u8 29), .lit (.int .u8 17), .lit (.int .u8 4), .lit (.int .u8 62), .lit (.int .u8 47), .lit (.int .u8 59), .lit (.int .u8 36), .lit (.int .u8 45), .lit (.int .u8 43), .lit (.int .u8 51), .lit (.int .u8 22), .lit (.int .u8 53), .lit (.int .u8 39), .lit (.int .u8 33), .lit (.int .u8 30), .lit (.int .u8 24), .lit (.int .u8 18), .lit (.int .u8 12), .lit (.int .u8 5), .lit (.int .u8 63), .lit (.int .u8 55), .lit (.int .u8 48), .lit (.int .u8 27), .lit (.int .u8 60), .lit (.int .u8 41), .lit (.int .u8 37), .lit (.int .u8 16), .lit (.int .u8 46), .lit (.int .u8 35), .lit (.int .u8 44), .lit (.int .u8 21), .lit (.int .u8 52), .lit (.int .u8 32), .lit (.int .u8 23), .lit (.int .u8 11), .lit (.int .u8 54), .lit (.int .u8 26), .lit (.int .u8 40), .lit (.int .u8 15), .lit (.int .u8 34), .lit (.int .u8 20), .lit (.int .u8 31), .lit (.int .u8 10), .lit (.int .u8 25), .lit (.int .u8 14), .lit (.int .u8 19), .lit (.int .u8 9), .lit (.int .u8 13), .lit (.int .u8 8), .lit (.int .u8 7), .lit (.int .u8 6)]

/-- 'semigrouplaw06.NfaValidates': WHATEVER THE INPUT: true; the input reads as it did. -/
def nfaValidatesSpec : ChangeSpec := { name := "nfaValidates", fn := fun _ => fun
  | [d] => { results := [.lit (.bool true)], args := [d] }
  | _ => none }
def nfaValidatesRow : OpenClaim := { program := "ytjdpkmoloccebaadoor", sum := "9dbd5d1b9190d27a55f3b5eb06102dc7b23e518909b613469476a866a355c895", func := "semigroup/semigrouplaw06.NfaValidates", spec := "nfaValidates", unfollowed := true, recurses := true, named := ["math/bits.deBruijn64tab"], apart := false, laid := [("math/bits.deBruijn64tab", laid_math_bits_deBruijn64tab)] }
def NfaValidatesSaid : Prop := nfaValidatesRow.holds Tryd.pinned (OpenSpec.ofChange nfaValidatesSpec)

/-- ITS FALSE NEIGHBOUR: 'it returns false'. Refute it at one input. -/
def nfaValidatesWrong : ChangeSpec := { name := "nfaValidates", fn := fun _ => fun
  | [d] => { results := [.lit (.bool false)], args := [d] }
  | _ => none }
def NfaValidatesWrongFalsely : Prop := nfaValidatesRow.holds Tryd.pinned (OpenSpec.ofChange nfaValidatesWrong)

/-- 'semigrouplaw06.NfaPositions': WHATEVER THE INPUT: true; the input reads as it did. -/
def nfaPositionsSpec : ChangeSpec := { name := "nfaPositions", fn := fun _ => fun
  | [d1, d2] => { results := [.lit (.bool true)], args := [d1, d2] }
  | _ => none }
def nfaPositionsRow : OpenClaim := { program := "ytjdpkmoloccebaadoor", sum := "9dbd5d1b9190d27a55f3b5eb06102dc7b23e518909b613469476a866a355c895", func := "semigroup/semigrouplaw06.NfaPositions", spec := "nfaPositions", unfollowed := true, recurses := true, named := ["math/bits.deBruijn64tab"], loops := true, apart := false, laid := [("math/bits.deBruijn64tab", laid_math_bits_deBruijn64tab)] }
def NfaPositionsSaid : Prop := nfaPositionsRow.holds Tryd.pinned (OpenSpec.ofChange nfaPositionsSpec)

/-- ITS FALSE NEIGHBOUR: 'it returns false'. Refute it at one input. -/
def nfaPositionsWrong : ChangeSpec := { name := "nfaPositions", fn := fun _ => fun
  | [d1, d2] => { results := [.lit (.bool false)], args := [d1, d2] }
  | _ => none }
def NfaPositionsWrongFalsely : Prop := nfaPositionsRow.holds Tryd.pinned (OpenSpec.ofChange nfaPositionsWrong)

/-- 'semigrouplaw06.NfaBounds': WHATEVER THE INPUT: true; the input reads as it did. -/
def nfaBoundsSpec : ChangeSpec := { name := "nfaBounds", fn := fun _ => fun
  | [d1, d2] => { results := [.lit (.bool true)], args := [d1, d2] }
  | _ => none }
def nfaBoundsRow : OpenClaim := { program := "ytjdpkmoloccebaadoor", sum := "9dbd5d1b9190d27a55f3b5eb06102dc7b23e518909b613469476a866a355c895", func := "semigroup/semigrouplaw06.NfaBounds", spec := "nfaBounds", unfollowed := true, recurses := true, named := ["math/bits.deBruijn64tab"], loops := true, apart := false, laid := [("math/bits.deBruijn64tab", laid_math_bits_deBruijn64tab)] }
def NfaBoundsSaid : Prop := nfaBoundsRow.holds Tryd.pinned (OpenSpec.ofChange nfaBoundsSpec)

/-- ITS FALSE NEIGHBOUR: 'it returns false'. Refute it at one input. -/
def nfaBoundsWrong : ChangeSpec := { name := "nfaBounds", fn := fun _ => fun
  | [d1, d2] => { results := [.lit (.bool false)], args := [d1, d2] }
  | _ => none }
def NfaBoundsWrongFalsely : Prop := nfaBoundsRow.holds Tryd.pinned (OpenSpec.ofChange nfaBoundsWrong)

/-- 'semigrouplaw06.NfaSteps': WHATEVER THE INPUT: true; the input reads as it did. -/
def nfaStepsSpec : ChangeSpec := { name := "nfaSteps", fn := fun _ => fun
  | [d1, d2, d3] => { results := [.lit (.bool true)], args := [d1, d2, d3] }
  | _ => none }
def nfaStepsRow : OpenClaim := { program := "ytjdpkmoloccebaadoor", sum := "9dbd5d1b9190d27a55f3b5eb06102dc7b23e518909b613469476a866a355c895", func := "semigroup/semigrouplaw06.NfaSteps", spec := "nfaSteps", unfollowed := true, recurses := true, named := ["math/bits.deBruijn64tab"], apart := false, laid := [("math/bits.deBruijn64tab", laid_math_bits_deBruijn64tab)] }
def NfaStepsSaid : Prop := nfaStepsRow.holds Tryd.pinned (OpenSpec.ofChange nfaStepsSpec)

/-- ITS FALSE NEIGHBOUR: 'it returns false'. Refute it at one input. -/
def nfaStepsWrong : ChangeSpec := { name := "nfaSteps", fn := fun _ => fun
  | [d1, d2, d3] => { results := [.lit (.bool false)], args := [d1, d2, d3] }
  | _ => none }
def NfaStepsWrongFalsely : Prop := nfaStepsRow.holds Tryd.pinned (OpenSpec.ofChange nfaStepsWrong)

/-- 'semigrouplaw06.NfaAccepts': WHATEVER THE INPUT: true; the input reads as it did. -/
def nfaAcceptsSpec : ChangeSpec := { name := "nfaAccepts", fn := fun _ => fun
  | [d1, d2] => { results := [.lit (.bool true)], args := [d1, d2] }
  | _ => none }
def nfaAcceptsRow : OpenClaim := { program := "ytjdpkmoloccebaadoor", sum := "9dbd5d1b9190d27a55f3b5eb06102dc7b23e518909b613469476a866a355c895", func := "semigroup/semigrouplaw06.NfaAccepts", spec := "nfaAccepts", unfollowed := true, recurses := true, named := ["math/bits.deBruijn64tab"], apart := false, laid := [("math/bits.deBruijn64tab", laid_math_bits_deBruijn64tab)] }
def NfaAcceptsSaid : Prop := nfaAcceptsRow.holds Tryd.pinned (OpenSpec.ofChange nfaAcceptsSpec)

/-- ITS FALSE NEIGHBOUR: 'it returns false'. Refute it at one input. -/
def nfaAcceptsWrong : ChangeSpec := { name := "nfaAccepts", fn := fun _ => fun
  | [d1, d2] => { results := [.lit (.bool false)], args := [d1, d2] }
  | _ => none }
def NfaAcceptsWrongFalsely : Prop := nfaAcceptsRow.holds Tryd.pinned (OpenSpec.ofChange nfaAcceptsWrong)

/-- 'semigrouplaw06.NfaReverses': WHATEVER THE INPUT: true; the input reads as it did. -/
def nfaReversesSpec : ChangeSpec := { name := "nfaReverses", fn := fun _ => fun
  | [d1, d2] => { results := [.lit (.bool true)], args := [d1, d2] }
  | _ => none }
def nfaReversesRow : OpenClaim := { program := "ytjdpkmoloccebaadoor", sum := "9dbd5d1b9190d27a55f3b5eb06102dc7b23e518909b613469476a866a355c895", func := "semigroup/semigrouplaw06.NfaReverses", spec := "nfaReverses", unfollowed := true, recurses := true, named := ["math/bits.deBruijn64tab"], apart := false, laid := [("math/bits.deBruijn64tab", laid_math_bits_deBruijn64tab)] }
def NfaReversesSaid : Prop := nfaReversesRow.holds Tryd.pinned (OpenSpec.ofChange nfaReversesSpec)

/-- ITS FALSE NEIGHBOUR: 'it returns false'. Refute it at one input. -/
def nfaReversesWrong : ChangeSpec := { name := "nfaReverses", fn := fun _ => fun
  | [d1, d2] => { results := [.lit (.bool false)], args := [d1, d2] }
  | _ => none }
def NfaReversesWrongFalsely : Prop := nfaReversesRow.holds Tryd.pinned (OpenSpec.ofChange nfaReversesWrong)

/-- 'semigrouplaw06.NfaReaches': WHATEVER THE INPUT: true; the input reads as it did. -/
def nfaReachesSpec : ChangeSpec := { name := "nfaReaches", fn := fun _ => fun
  | [d] => { results := [.lit (.bool true)], args := [d] }
  | _ => none }
def nfaReachesRow : OpenClaim := { program := "ytjdpkmoloccebaadoor", sum := "9dbd5d1b9190d27a55f3b5eb06102dc7b23e518909b613469476a866a355c895", func := "semigroup/semigrouplaw06.NfaReaches", spec := "nfaReaches", unfollowed := true, recurses := true, named := ["math/bits.deBruijn64tab"], apart := false, laid := [("math/bits.deBruijn64tab", laid_math_bits_deBruijn64tab)] }
def NfaReachesSaid : Prop := nfaReachesRow.holds Tryd.pinned (OpenSpec.ofChange nfaReachesSpec)

/-- ITS FALSE NEIGHBOUR: 'it returns false'. Refute it at one input. -/
def nfaReachesWrong : ChangeSpec := { name := "nfaReaches", fn := fun _ => fun
  | [d] => { results := [.lit (.bool false)], args := [d] }
  | _ => none }
def NfaReachesWrongFalsely : Prop := nfaReachesRow.holds Tryd.pinned (OpenSpec.ofChange nfaReachesWrong)

/-- 'semigrouplaw06.NfaSums': WHATEVER THE INPUT: true; the input reads as it did. -/
def nfaSumsSpec : ChangeSpec := { name := "nfaSums", fn := fun _ => fun
  | [d1, d2, d3] => { results := [.lit (.bool true)], args := [d1, d2, d3] }
  | _ => none }
def nfaSumsRow : OpenClaim := { program := "ytjdpkmoloccebaadoor", sum := "9dbd5d1b9190d27a55f3b5eb06102dc7b23e518909b613469476a866a355c895", func := "semigroup/semigrouplaw06.NfaSums", spec := "nfaSums", unfollowed := true, recurses := true, named := ["math/bits.deBruijn64tab"], apart := false, laid := [("math/bits.deBruijn64tab", laid_math_bits_deBruijn64tab)] }
def NfaSumsSaid : Prop := nfaSumsRow.holds Tryd.pinned (OpenSpec.ofChange nfaSumsSpec)

/-- ITS FALSE NEIGHBOUR: 'it returns false'. Refute it at one input. -/
def nfaSumsWrong : ChangeSpec := { name := "nfaSums", fn := fun _ => fun
  | [d1, d2, d3] => { results := [.lit (.bool false)], args := [d1, d2, d3] }
  | _ => none }
def NfaSumsWrongFalsely : Prop := nfaSumsRow.holds Tryd.pinned (OpenSpec.ofChange nfaSumsWrong)

/- THE SECOND FORM. 'bulk': how many values and letters a reading holds, each counted each time it is reached (what is shared counts as often as it is met; a slice's spare places count too). A statement '..UptoSaid' is the law's where the arguments, and the package variables that the reading takes, are together of bulk at most 1048576: NARROWER than '..Said'. Prove '..Said' where nothing that the law and all that it calls make is longer than what came in: it says more and counts as full. Else prove '..UptoSaid'. A law counts once. -/
mutual
def uptoBulk {H : Type} : DataW H → Nat
  | .lit (.string bytes) => bytes.length + 1
  | .lit _ => 1
  | .nil => 1
  | .ptr d => uptoBulk d + 1
  | .slice elems spare => uptoBulkAll elems + uptoBulkAll spare + 1
  | .agg parts => uptoBulkAll parts + 1
  | .iface _ d => uptoBulk d + 1
  | .map entries => uptoBulkEntries entries + 1
  | .held _ => 1
def uptoBulkAll {H : Type} : List (DataW H) → Nat
  | [] => 0
  | d :: r => uptoBulk d + uptoBulkAll r
def uptoBulkEntries {H : Type} : List (Lit × DataW H) → Nat
  | [] => 0
  | x :: r => uptoBulkEntry x + uptoBulkEntries r
def uptoBulkEntry {H : Type} : Lit × DataW H → Nat
  | (.string bytes, d) => bytes.length + uptoBulk d + 1
  | (_, d) => uptoBulk d + 1
 end
def uptoSmall : (H : Type) → List (DataW H) → Bool := fun _ ds => decide (uptoBulkAll ds ≤ 1048576)
def OpenSpec.upto (s : _root_.Go.ChangeSpec) : _root_.Go.OpenSpec := { _root_.Go.OpenSpec.ofChange s with cond := some uptoSmall }

/-- 'semigrouplaw06.NfaValidates', WHERE WHAT IT READS IS OF BULK AT MOST 1048576: true; the input reads as it did. -/
def nfaValidatesUptoRow : OpenClaim := { program := "ytjdpkmoloccebaadoor", sum := "9dbd5d1b9190d27a55f3b5eb06102dc7b23e518909b613469476a866a355c895", func := "semigroup/semigrouplaw06.NfaValidates", spec := "nfaValidates", unfollowed := true, recurses := true, named := ["math/bits.deBruijn64tab"], apart := false, laid := [("math/bits.deBruijn64tab", laid_math_bits_deBruijn64tab)], narrowed := true }
def NfaValidatesUptoSaid : Prop := nfaValidatesUptoRow.holds Tryd.pinned (OpenSpec.upto nfaValidatesSpec)

/-- 'semigrouplaw06.NfaPositions', WHERE WHAT IT READS IS OF BULK AT MOST 1048576: true; the input reads as it did. -/
def nfaPositionsUptoRow : OpenClaim := { program := "ytjdpkmoloccebaadoor", sum := "9dbd5d1b9190d27a55f3b5eb06102dc7b23e518909b613469476a866a355c895", func := "semigroup/semigrouplaw06.NfaPositions", spec := "nfaPositions", unfollowed := true, recurses := true, named := ["math/bits.deBruijn64tab"], loops := true, apart := false, laid := [("math/bits.deBruijn64tab", laid_math_bits_deBruijn64tab)], narrowed := true }
def NfaPositionsUptoSaid : Prop := nfaPositionsUptoRow.holds Tryd.pinned (OpenSpec.upto nfaPositionsSpec)

/-- 'semigrouplaw06.NfaBounds', WHERE WHAT IT READS IS OF BULK AT MOST 1048576: true; the input reads as it did. -/
def nfaBoundsUptoRow : OpenClaim := { program := "ytjdpkmoloccebaadoor", sum := "9dbd5d1b9190d27a55f3b5eb06102dc7b23e518909b613469476a866a355c895", func := "semigroup/semigrouplaw06.NfaBounds", spec := "nfaBounds", unfollowed := true, recurses := true, named := ["math/bits.deBruijn64tab"], loops := true, apart := false, laid := [("math/bits.deBruijn64tab", laid_math_bits_deBruijn64tab)], narrowed := true }
def NfaBoundsUptoSaid : Prop := nfaBoundsUptoRow.holds Tryd.pinned (OpenSpec.upto nfaBoundsSpec)

/-- 'semigrouplaw06.NfaSteps', WHERE WHAT IT READS IS OF BULK AT MOST 1048576: true; the input reads as it did. -/
def nfaStepsUptoRow : OpenClaim := { program := "ytjdpkmoloccebaadoor", sum := "9dbd5d1b9190d27a55f3b5eb06102dc7b23e518909b613469476a866a355c895", func := "semigroup/semigrouplaw06.NfaSteps", spec := "nfaSteps", unfollowed := true, recurses := true, named := ["math/bits.deBruijn64tab"], apart := false, laid := [("math/bits.deBruijn64tab", laid_math_bits_deBruijn64tab)], narrowed := true }
def NfaStepsUptoSaid : Prop := nfaStepsUptoRow.holds Tryd.pinned (OpenSpec.upto nfaStepsSpec)

/-- 'semigrouplaw06.NfaAccepts', WHERE WHAT IT READS IS OF BULK AT MOST 1048576: true; the input reads as it did. -/
def nfaAcceptsUptoRow : OpenClaim := { program := "ytjdpkmoloccebaadoor", sum := "9dbd5d1b9190d27a55f3b5eb06102dc7b23e518909b613469476a866a355c895", func := "semigroup/semigrouplaw06.NfaAccepts", spec := "nfaAccepts", unfollowed := true, recurses := true, named := ["math/bits.deBruijn64tab"], apart := false, laid := [("math/bits.deBruijn64tab", laid_math_bits_deBruijn64tab)], narrowed := true }
def NfaAcceptsUptoSaid : Prop := nfaAcceptsUptoRow.holds Tryd.pinned (OpenSpec.upto nfaAcceptsSpec)

/-- 'semigrouplaw06.NfaReverses', WHERE WHAT IT READS IS OF BULK AT MOST 1048576: true; the input reads as it did. -/
def nfaReversesUptoRow : OpenClaim := { program := "ytjdpkmoloccebaadoor", sum := "9dbd5d1b9190d27a55f3b5eb06102dc7b23e518909b613469476a866a355c895", func := "semigroup/semigrouplaw06.NfaReverses", spec := "nfaReverses", unfollowed := true, recurses := true, named := ["math/bits.deBruijn64tab"], apart := false, laid := [("math/bits.deBruijn64tab", laid_math_bits_deBruijn64tab)], narrowed := true }
def NfaReversesUptoSaid : Prop := nfaReversesUptoRow.holds Tryd.pinned (OpenSpec.upto nfaReversesSpec)

/-- 'semigrouplaw06.NfaReaches', WHERE WHAT IT READS IS OF BULK AT MOST 1048576: true; the input reads as it did. -/
def nfaReachesUptoRow : OpenClaim := { program := "ytjdpkmoloccebaadoor", sum := "9dbd5d1b9190d27a55f3b5eb06102dc7b23e518909b613469476a866a355c895", func := "semigroup/semigrouplaw06.NfaReaches", spec := "nfaReaches", unfollowed := true, recurses := true, named := ["math/bits.deBruijn64tab"], apart := false, laid := [("math/bits.deBruijn64tab", laid_math_bits_deBruijn64tab)], narrowed := true }
def NfaReachesUptoSaid : Prop := nfaReachesUptoRow.holds Tryd.pinned (OpenSpec.upto nfaReachesSpec)

/-- 'semigrouplaw06.NfaSums', WHERE WHAT IT READS IS OF BULK AT MOST 1048576: true; the input reads as it did. -/
def nfaSumsUptoRow : OpenClaim := { program := "ytjdpkmoloccebaadoor", sum := "9dbd5d1b9190d27a55f3b5eb06102dc7b23e518909b613469476a866a355c895", func := "semigroup/semigrouplaw06.NfaSums", spec := "nfaSums", unfollowed := true, recurses := true, named := ["math/bits.deBruijn64tab"], apart := false, laid := [("math/bits.deBruijn64tab", laid_math_bits_deBruijn64tab)], narrowed := true }
def NfaSumsUptoSaid : Prop := nfaSumsUptoRow.holds Tryd.pinned (OpenSpec.upto nfaSumsSpec)

end Rows
end Go.Proofs.YtjdpkmoloccebaaDoor
