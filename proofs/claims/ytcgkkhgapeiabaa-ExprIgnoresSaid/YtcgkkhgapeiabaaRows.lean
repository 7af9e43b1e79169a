/-
  NARROWER THAN 'FOR EVERY INPUT', by the rows' own cells (each row's printed sentence says how): ExprValidates: loops · ExprFormats: loops · ExprRoundTrips: loops · ExprCompares: loops · ExprMeasures: loops · ExprNormalizes: loops · ExprIgnores: loops · ExprSettles: loops.
  DERIVED. THE GIVEN ROWS OF THIS SEAT. 8 by the template 'for every input the law returns true; each argument reads behind the call as it read before'; 0 by the template 'total and deterministic' (their statements: YtcgkkhgapeiabaaTotals.lean).
  GIVEN WITH THE SEED: the statements are not yours to turn. If you find one false, say at which input.
  Laid BY PROGRAM, IN A SANDBOX (cutbox-rows.mjs): the forced cells as the released guide's own fill.sh prints them over the translation 12129c08bb6a0495… (all of the seat's roots in one cut). By AI agents, Wed Nov 11 2026. No macro, syntax, notation, axiom, sorry.
-/
import Derived.Test.YtcgkkhgapeiabaaChecked
import GoSem.Claim
import GoSem.ClaimJoined
import GoSem.ClaimMapViews
import Derived.JoinedTies
import Derived.KernelRfl
namespace Go.Proofs.Ytcgkkhgapeiabaa
/- THE CELL 'sum', in the pinned program and in every row, IS THE sha256 OF THE DUMP (.gsa) THAT YtcgkkhgapeiabaaProg.lean LOADS. Nothing in Lean hashes anything: it is a label: what it is worth is what the hold of that sum in a sandbox is worth. -/
noncomputable def Try.pinned : Pinned := { name := "ytcgkkhgapeiabaa", sum := "12129c08bb6a0495a4770989add727730da172dd4442dccc2bf4d0c97483663c", checked := Try.checked }
namespace Rows
def none {H : Type} : Left H := { results := [], args := [] }

/-- 'semigrouplaw04.ExprValidates': WHATEVER THE INPUT: true; the input reads as it did. -/
def exprValidatesSpec : ChangeSpec := { name := "exprValidates", fn := fun _ => fun
  | [d1, d2] => { results := [.lit (.bool true)], args := [d1, d2] }
  | _ => none }
def exprValidatesRow : OpenClaim := { program := "ytcgkkhgapeiabaa", sum := "12129c08bb6a0495a4770989add727730da172dd4442dccc2bf4d0c97483663c", func := "semigroup/semigrouplaw04.ExprValidates", spec := "exprValidates", inPlace := ["internal/abi.NoEscape"], unfollowed := true, recurses := true, loops := true, apart := false }
def ExprValidatesSaid : Prop := exprValidatesRow.holds Try.pinned (OpenSpec.ofChange exprValidatesSpec)

/-- ITS FALSE NEIGHBOUR: 'it returns false'. Refute it at one input. -/
def exprValidatesWrong : ChangeSpec := { name := "exprValidates", fn := fun _ => fun
  | [d1, d2] => { results := [.lit (.bool false)], args := [d1, d2] }
  | _ => none }
def ExprValidatesWrongFalsely : Prop := exprValidatesRow.holds Try.pinned (OpenSpec.ofChange exprValidatesWrong)

/-- 'semigrouplaw04.ExprFormats': WHATEVER THE INPUT: true; the input reads as it did. -/
def exprFormatsSpec : ChangeSpec := { name := "exprFormats", fn := fun _ => fun
  | [d] => { results := [.lit (.bool true)], args := [d] }
  | _ => none }
def exprFormatsRow : OpenClaim := { program := "ytcgkkhgapeiabaa", sum := "12129c08bb6a0495a4770989add727730da172dd4442dccc2bf4d0c97483663c", func := "semigroup/semigrouplaw04.ExprFormats", spec := "exprFormats", inPlace := ["internal/abi.NoEscape"], unfollowed := true, recurses := true, loops := true, apart := false }
def ExprFormatsSaid : Prop := exprFormatsRow.holds Try.pinned (OpenSpec.ofChange exprFormatsSpec)

/-- ITS FALSE NEIGHBOUR: 'it returns false'. Refute it at one input. -/
def exprFormatsWrong : ChangeSpec := { name := "exprFormats", fn := fun _ => fun
  | [d] => { results := [.lit (.bool false)], args := [d] }
  | _ => none }
def ExprFormatsWrongFalsely : Prop := exprFormatsRow.holds Try.pinned (OpenSpec.ofChange exprFormatsWrong)

/-- 'semigrouplaw04.ExprRoundTrips': WHATEVER THE INPUT: true; the input reads as it did. -/
def exprRoundTripsSpec : ChangeSpec := { name := "exprRoundTrips", fn := fun _ => fun
  | [d] => { results := [.lit (.bool true)], args := [d] }
  | _ => none }
def exprRoundTripsRow : OpenClaim := { program := "ytcgkkhgapeiabaa", sum := "12129c08bb6a0495a4770989add727730da172dd4442dccc2bf4d0c97483663c", func := "semigroup/semigrouplaw04.ExprRoundTrips", spec := "exprRoundTrips", inPlace := ["internal/abi.NoEscape"], unfollowed := true, recurses := true, loops := true, apart := false }
def ExprRoundTripsSaid : Prop := exprRoundTripsRow.holds Try.pinned (OpenSpec.ofChange exprRoundTripsSpec)

/-- ITS FALSE NEIGHBOUR: 'it returns false'. Refute it at one input. -/
def exprRoundTripsWrong : ChangeSpec := { name := "exprRoundTrips", fn := fun _ => fun
  | [d] => { results := [.lit (.bool false)], args := [d] }
  | _ => none }
def ExprRoundTripsWrongFalsely : Prop := exprRoundTripsRow.holds Try.pinned (OpenSpec.ofChange exprRoundTripsWrong)

/-- 'semigrouplaw04.ExprCompares': WHATEVER THE INPUT: true; the input reads as it did. -/
def exprComparesSpec : ChangeSpec := { name := "exprCompares", fn := fun _ => fun
  | [d1, d2, d3] => { results := [.lit (.bool true)], args := [d1, d2, d3] }
  | _ => none }
def exprComparesRow : OpenClaim := { program := "ytcgkkhgapeiabaa", sum := "12129c08bb6a0495a4770989add727730da172dd4442dccc2bf4d0c97483663c", func := "semigroup/semigrouplaw04.ExprCompares", spec := "exprCompares", inPlace := ["internal/abi.NoEscape"], unfollowed := true, recurses := true, loops := true, apart := false }
def ExprComparesSaid : Prop := exprComparesRow.holds Try.pinned (OpenSpec.ofChange exprComparesSpec)

/-- ITS FALSE NEIGHBOUR: 'it returns false'. Refute it at one input. -/
def exprComparesWrong : ChangeSpec := { name := "exprCompares", fn := fun _ => fun
  | [d1, d2, d3] => { results := [.lit (.bool false)], args := [d1, d2, d3] }
  | _ => none }
def ExprComparesWrongFalsely : Prop := exprComparesRow.holds Try.pinned (OpenSpec.ofChange exprComparesWrong)

/-- 'semigrouplaw04.ExprMeasures': WHATEVER THE INPUT: true; the input reads as it did. -/
def exprMeasuresSpec : ChangeSpec := { name := "exprMeasures", fn := fun _ => fun
  | [d] => { results := [.lit (.bool true)], args := [d] }
  | _ => none }
def exprMeasuresRow : OpenClaim := { program := "ytcgkkhgapeiabaa", sum := "12129c08bb6a0495a4770989add727730da172dd4442dccc2bf4d0c97483663c", func := "semigroup/semigrouplaw04.ExprMeasures", spec := "exprMeasures", inPlace := ["internal/abi.NoEscape"], unfollowed := true, recurses := true, loops := true, apart := false }
def ExprMeasuresSaid : Prop := exprMeasuresRow.holds Try.pinned (OpenSpec.ofChange exprMeasuresSpec)

/-- ITS FALSE NEIGHBOUR: 'it returns false'. Refute it at one input. -/
def exprMeasuresWrong : ChangeSpec := { name := "exprMeasures", fn := fun _ => fun
  | [d] => { results := [.lit (.bool false)], args := [d] }
  | _ => none }
def ExprMeasuresWrongFalsely : Prop := exprMeasuresRow.holds Try.pinned (OpenSpec.ofChange exprMeasuresWrong)

/-- 'semigrouplaw04.ExprNormalizes': WHATEVER THE INPUT: true; the input reads as it did. -/
def exprNormalizesSpec : ChangeSpec := { name := "exprNormalizes", fn := fun _ => fun
  | [d] => { results := [.lit (.bool true)], args := [d] }
  | _ => none }
def exprNormalizesRow : OpenClaim := { program := "ytcgkkhgapeiabaa", sum := "12129c08bb6a0495a4770989add727730da172dd4442dccc2bf4d0c97483663c", func := "semigroup/semigrouplaw04.ExprNormalizes", spec := "exprNormalizes", inPlace := ["internal/abi.NoEscape"], unfollowed := true, recurses := true, loops := true, apart := false }
def ExprNormalizesSaid : Prop := exprNormalizesRow.holds Try.pinned (OpenSpec.ofChange exprNormalizesSpec)

/-- ITS FALSE NEIGHBOUR: 'it returns false'. Refute it at one input. -/
def exprNormalizesWrong : ChangeSpec := { name := "exprNormalizes", fn := fun _ => fun
  | [d] => { results := [.lit (.bool false)], args := [d] }
  | _ => none }
def ExprNormalizesWrongFalsely : Prop := exprNormalizesRow.holds Try.pinned (OpenSpec.ofChange exprNormalizesWrong)

/-- 'semigrouplaw04.ExprIgnores': WHATEVER THE INPUT: true; the input reads as it did. -/
def exprIgnoresSpec : ChangeSpec := { name := "exprIgnores", fn := fun _ => fun
  | [d1, d2, d3] => { results := [.lit (.bool true)], args := [d1, d2, d3] }
  | _ => none }
def exprIgnoresRow : OpenClaim := { program := "ytcgkkhgapeiabaa", sum := "12129c08bb6a0495a4770989add727730da172dd4442dccc2bf4d0c97483663c", func := "semigroup/semigrouplaw04.ExprIgnores", spec := "exprIgnores", inPlace := ["internal/abi.NoEscape"], unfollowed := true, recurses := true, loops := true, apart := false }
def ExprIgnoresSaid : Prop := exprIgnoresRow.holds Try.pinned (OpenSpec.ofChange exprIgnoresSpec)

/-- ITS FALSE NEIGHBOUR: 'it returns false'. Refute it at one input. -/
def exprIgnoresWrong : ChangeSpec := { name := "exprIgnores", fn := fun _ => fun
  | [d1, d2, d3] => { results := [.lit (.bool false)], args := [d1, d2, d3] }
  | _ => none }
def ExprIgnoresWrongFalsely : Prop := exprIgnoresRow.holds Try.pinned (OpenSpec.ofChange exprIgnoresWrong)

/-- 'semigrouplaw04.ExprSettles': WHATEVER THE INPUT: true; the input reads as it did. -/
def exprSettlesSpec : ChangeSpec := { name := "exprSettles", fn := fun _ => fun
  | [d] => { results := [.lit (.bool true)], args := [d] }
  | _ => none }
def exprSettlesRow : OpenClaim := { program := "ytcgkkhgapeiabaa", sum := "12129c08bb6a0495a4770989add727730da172dd4442dccc2bf4d0c97483663c", func := "semigroup/semigrouplaw04.ExprSettles", spec := "exprSettles", inPlace := ["internal/abi.NoEscape"], unfollowed := true, recurses := true, loops := true, apart := false }
def ExprSettlesSaid : Prop := exprSettlesRow.holds Try.pinned (OpenSpec.ofChange exprSettlesSpec)

/-- ITS FALSE NEIGHBOUR: 'it returns false'. Refute it at one input. -/
def exprSettlesWrong : ChangeSpec := { name := "exprSettles", fn := fun _ => fun
  | [d] => { results := [.lit (.bool false)], args := [d] }
  | _ => none }
def ExprSettlesWrongFalsely : Prop := exprSettlesRow.holds Try.pinned (OpenSpec.ofChange exprSettlesWrong)

/- THE SECOND FORM. 'bulk': how many values and letters a reading holds, each counted each time it is reached (what is shared counts as often as it is met; a slice's spare places count too). A statement '..UptoSaid' is the law's where the arguments, and the package variables that the reading takes, are together of bulk at most 1048576: NARROWER than '..Said'. Prove '..Said' where nothing that the law and all that it calls make is longer than what came in: it says more and counts as full. Else prove '..UptoSaid'. A law counts once. -/
mutual
def uptoBulk {H : Type} : DataW H → Nat
  | .lit (.string bytes) => bytes.length + 1
  | .lit _ => 1
  | .nil => 1
  | .ptr d => uptoBulk d + 1
  | .slice elems spare => uptoBulkAll elems + uptoBulkAll spare + 1
  | .agg parts => uptoBulkAll parts + 1
  | .iface _ d => uptoBulk d + 1
  | .map entries => uptoBulkEntries entries + 1
  | .held _ => 1
def uptoBulkAll {H : Type} : List (DataW H) → Nat
  | [] => 0
  | d :: r => uptoBulk d + uptoBulkAll r
def uptoBulkEntries {H : Type} : List (Lit × DataW H) → Nat
  | [] => 0
  | x :: r => uptoBulkEntry x + uptoBulkEntries r
def uptoBulkEntry {H : Type} : Lit × DataW H → Nat
  | (.string bytes, d) => bytes.length + uptoBulk d + 1
  | (_, d) => uptoBulk d + 1
 end
def uptoSmall : (H : Type) → List (DataW H) → Bool := fun _ ds => decide (uptoBulkAll ds ≤ 1048576)
def OpenSpec.upto (s : _root_.Go.ChangeSpec) : _root_.Go.OpenSpec := { _root_.Go.OpenSpec.ofChange s with cond := some uptoSmall }

/-- 'semigrouplaw04.ExprValidates', WHERE WHAT IT READS IS OF BULK AT MOST 1048576: true; the input reads as it did. -/
def exprValidatesUptoRow : OpenClaim := { program := "ytcgkkhgapeiabaa", sum := "12129c08bb6a0495a4770989add727730da172dd4442dccc2bf4d0c97483663c", func := "semigroup/semigrouplaw04.ExprValidates", spec := "exprValidates", inPlace := ["internal/abi.NoEscape"], unfollowed := true, recurses := true, loops := true, apart := false, narrowed := true }
def ExprValidatesUptoSaid : Prop := exprValidatesUptoRow.holds Try.pinned (OpenSpec.upto exprValidatesSpec)

/-- 'semigrouplaw04.ExprFormats', WHERE WHAT IT READS IS OF BULK AT MOST 1048576: true; the input reads as it did. -/
def exprFormatsUptoRow : OpenClaim := { program := "ytcgkkhgapeiabaa", sum := "12129c08bb6a0495a4770989add727730da172dd4442dccc2bf4d0c97483663c", func := "semigroup/semigrouplaw04.ExprFormats", spec := "exprFormats", inPlace := ["internal/abi.NoEscape"], unfollowed := true, recurses := true, loops := true, apart := false, narrowed := true }
def ExprFormatsUptoSaid : Prop := exprFormatsUptoRow.holds Try.pinned (OpenSpec.upto exprFormatsSpec)

/-- 'semigrouplaw04.ExprRoundTrips', WHERE WHAT IT READS IS OF BULK AT MOST 1048576: true; the input reads as it did. -/
def exprRoundTripsUptoRow : OpenClaim := { program := "ytcgkkhgapeiabaa", sum := "12129c08bb6a0495a4770989add727730da172dd4442dccc2bf4d0c97483663c", func := "semigroup/semigrouplaw04.ExprRoundTrips", spec := "exprRoundTrips", inPlace := ["internal/abi.NoEscape"], unfollowed := true, recurses := true, loops := true, apart := false, narrowed := true }
def ExprRoundTripsUptoSaid : Prop := exprRoundTripsUptoRow.holds Try.pinned (OpenSpec.upto exprRoundTripsSpec)

/-- 'semigrouplaw04.ExprCompares', WHERE WHAT IT READS IS OF BULK AT MOST 1048576: true; the input reads as it did. -/
def exprComparesUptoRow : OpenClaim := { program := "ytcgkkhgapeiabaa", sum := "12129c08bb6a0495a4770989add727730da172dd4442dccc2bf4d0c97483663c", func := "semigroup/semigrouplaw04.ExprCompares", spec := "exprCompares", inPlace := ["internal/abi.NoEscape"], unfollowed := true, recurses := true, loops := true, apart := false, narrowed := true }
def ExprComparesUptoSaid : Prop := exprComparesUptoRow.holds Try.pinned (OpenSpec.upto exprComparesSpec)

/-- 'semigrouplaw04.ExprMeasures', WHERE WHAT IT READS IS OF BULK AT MOST 1048576: true; the input reads as it did. -/
def exprMeasuresUptoRow : OpenClaim := { program := "ytcgkkhgapeiabaa", sum := "12129c08bb6a0495a4770989add727730da172dd4442dccc2bf4d0c97483663c", func := "semigroup/semigrouplaw04.ExprMeasures", spec := "exprMeasures", inPlace := ["internal/abi.NoEscape"], unfollowed := true, recurses := true, loops := true, apart := false, narrowed := true }
def ExprMeasuresUptoSaid : Prop := exprMeasuresUptoRow.holds Try.pinned (OpenSpec.upto exprMeasuresSpec)

/-- 'semigrouplaw04.ExprNormalizes', WHERE WHAT IT READS IS OF BULK AT MOST 1048576: true; the input reads as it did. -/
def exprNormalizesUptoRow : OpenClaim := { program := "ytcgkkhgapeiabaa", sum := "12129c08bb6a0495a4770989add727730da172dd4442dccc2bf4d0c97483663c", func := "semigroup/semigrouplaw04.ExprNormalizes", spec := "exprNormalizes", inPlace := ["internal/abi.NoEscape"], unfollowed := true, recurses := true, loops := true, apart := false, narrowed := true }
def ExprNormalizesUptoSaid : Prop := exprNormalizesUptoRow.holds Try.pinned (OpenSpec.upto exprNormalizesSpec)

/-- 'semigrouplaw04.ExprIgnores', WHERE WHAT IT READS IS OF BULK AT MOST 1048576: true; the input reads as it did. -/
def exprIgnoresUptoRow : OpenClaim := { program := "ytcgkkhgapeiabaa", sum := "12129c08bb6a0495a4770989add727730da172dd4442dccc2bf4d0c97483663c", func := "semigroup/semigrouplaw04.ExprIgnores", spec := "exprIgnores", inPlace := ["internal/abi.NoEscape"], unfollowed := true, recurses := true, loops := true, apart := false, narrowed := true }
def ExprIgnoresUptoSaid : Prop := exprIgnoresUptoRow.holds Try.pinned (OpenSpec.upto exprIgnoresSpec)

/-- 'semigrouplaw04.ExprSettles', WHERE WHAT IT READS IS OF BULK AT MOST 1048576: true; the input reads as it did. -/
def exprSettlesUptoRow : OpenClaim := { program := "ytcgkkhgapeiabaa", sum := "12129c08bb6a0495a4770989add727730da172dd4442dccc2bf4d0c97483663c", func := "semigroup/semigrouplaw04.ExprSettles", spec := "exprSettles", inPlace := ["internal/abi.NoEscape"], unfollowed := true, recurses := true, loops := true, apart := false, narrowed := true }
def ExprSettlesUptoSaid : Prop := exprSettlesUptoRow.holds Try.pinned (OpenSpec.upto exprSettlesSpec)

end Rows
end Go.Proofs.Ytcgkkhgapeiabaa
