/-
  No cell of these rows narrows 'for every input' (looked for: loops, veiled, ifaces, maps, wideKeys, modest, calm, conditions, laid).
  DERIVED. THE GIVEN ROWS OF THIS SEAT. 4 by the template 'for every input the law returns true; each argument reads behind the call as it read before'; 0 by the template 'total and deterministic' (their statements: YtffbfcncnleiaaaTotals.lean).
  GIVEN WITH THE SEED: the statements are not yours to turn. If you find one false, say at which input.
  Laid BY PROGRAM, IN A SANDBOX (cutbox-rows.mjs): the forced cells as the released guide's own fill.sh prints them over the translation a9a187c9289675b7… (all of the seat's roots in one cut). By AI agents, Wed Nov 11 2026. No macro, syntax, notation, axiom, sorry.
-/
import Derived.Test.YtffbfcncnleiaaaChecked
import GoSem.Claim
import GoSem.ClaimJoined
import GoSem.ClaimMapViews
import Derived.JoinedTies
import Derived.KernelRfl
namespace Go.Proofs.Ytffbfcncnleiaaa
/- THE CELL 'sum', in the pinned program and in every row, IS THE sha256 OF THE DUMP (.gsa) THAT YtffbfcncnleiaaaProg.lean LOADS. Nothing in Lean hashes anything: it is a label: what it is worth is what the hold of that sum in a sandbox is worth. -/
noncomputable def Try.pinned : Pinned := { name := "ytffbfcncnleiaaa", sum := "a9a187c9289675b79537540cedb05f249bdd1643e9697fc295beb12e2060ed6b", checked := Try.checked }
namespace Rows
def none {H : Type} : Left H := { results := [], args := [] }

/-- 'semigrouplaw31.StarfreeBoolean': WHATEVER THE INPUT: true; the input reads as it did. -/
def starfreeBooleanSpec : ChangeSpec := { name := "starfreeBoolean", fn := fun _ => fun
  | [d1, d2, d3] => { results := [.lit (.bool true)], args := [d1, d2, d3] }
  | _ => none }
def starfreeBooleanRow : OpenClaim := { program := "ytffbfcncnleiaaa", sum := "a9a187c9289675b79537540cedb05f249bdd1643e9697fc295beb12e2060ed6b", func := "semigroup/semigrouplaw31.StarfreeBoolean", spec := "starfreeBoolean", apart := false }
def StarfreeBooleanSaid : Prop := starfreeBooleanRow.holds Try.pinned (OpenSpec.ofChange starfreeBooleanSpec)

/-- ITS FALSE NEIGHBOUR: 'it returns false'. Refute it at one input. -/
def starfreeBooleanWrong : ChangeSpec := { name := "starfreeBoolean", fn := fun _ => fun
  | [d1, d2, d3] => { results := [.lit (.bool false)], args := [d1, d2, d3] }
  | _ => none }
def StarfreeBooleanWrongFalsely : Prop := starfreeBooleanRow.holds Try.pinned (OpenSpec.ofChange starfreeBooleanWrong)

/-- 'semigrouplaw31.StarfreeCuts': WHATEVER THE INPUT: true; the input reads as it did. -/
def starfreeCutsSpec : ChangeSpec := { name := "starfreeCuts", fn := fun _ => fun
  | [d1, d2, d3] => { results := [.lit (.bool true)], args := [d1, d2, d3] }
  | _ => none }
def starfreeCutsRow : OpenClaim := { program := "ytffbfcncnleiaaa", sum := "a9a187c9289675b79537540cedb05f249bdd1643e9697fc295beb12e2060ed6b", func := "semigroup/semigrouplaw31.StarfreeCuts", spec := "starfreeCuts", apart := false }
def StarfreeCutsSaid : Prop := starfreeCutsRow.holds Try.pinned (OpenSpec.ofChange starfreeCutsSpec)

/-- ITS FALSE NEIGHBOUR: 'it returns false'. Refute it at one input. -/
def starfreeCutsWrong : ChangeSpec := { name := "starfreeCuts", fn := fun _ => fun
  | [d1, d2, d3] => { results := [.lit (.bool false)], args := [d1, d2, d3] }
  | _ => none }
def StarfreeCutsWrongFalsely : Prop := starfreeCutsRow.holds Try.pinned (OpenSpec.ofChange starfreeCutsWrong)

/-- 'semigrouplaw31.StarfreeRaw': WHATEVER THE INPUT: true; the input reads as it did. -/
def starfreeRawSpec : ChangeSpec := { name := "starfreeRaw", fn := fun _ => fun
  | [d1, d2, d3] => { results := [.lit (.bool true)], args := [d1, d2, d3] }
  | _ => none }
def starfreeRawRow : OpenClaim := { program := "ytffbfcncnleiaaa", sum := "a9a187c9289675b79537540cedb05f249bdd1643e9697fc295beb12e2060ed6b", func := "semigroup/semigrouplaw31.StarfreeRaw", spec := "starfreeRaw", recurses := true, apart := false }
def StarfreeRawSaid : Prop := starfreeRawRow.holds Try.pinned (OpenSpec.ofChange starfreeRawSpec)

/-- ITS FALSE NEIGHBOUR: 'it returns false'. Refute it at one input. -/
def starfreeRawWrong : ChangeSpec := { name := "starfreeRaw", fn := fun _ => fun
  | [d1, d2, d3] => { results := [.lit (.bool false)], args := [d1, d2, d3] }
  | _ => none }
def StarfreeRawWrongFalsely : Prop := starfreeRawRow.holds Try.pinned (OpenSpec.ofChange starfreeRawWrong)

/-- 'semigrouplaw31.StarfreeMade': WHATEVER THE INPUT: true; the input reads as it did. -/
def starfreeMadeSpec : ChangeSpec := { name := "starfreeMade", fn := fun _ => fun
  | [d1, d2, d3, d4] => { results := [.lit (.bool true)], args := [d1, d2, d3, d4] }
  | _ => none }
def starfreeMadeRow : OpenClaim := { program := "ytffbfcncnleiaaa", sum := "a9a187c9289675b79537540cedb05f249bdd1643e9697fc295beb12e2060ed6b", func := "semigroup/semigrouplaw31.StarfreeMade", spec := "starfreeMade", recurses := true, apart := false }
def StarfreeMadeSaid : Prop := starfreeMadeRow.holds Try.pinned (OpenSpec.ofChange starfreeMadeSpec)

/-- ITS FALSE NEIGHBOUR: 'it returns false'. Refute it at one input. -/
def starfreeMadeWrong : ChangeSpec := { name := "starfreeMade", fn := fun _ => fun
  | [d1, d2, d3, d4] => { results := [.lit (.bool false)], args := [d1, d2, d3, d4] }
  | _ => none }
def StarfreeMadeWrongFalsely : Prop := starfreeMadeRow.holds Try.pinned (OpenSpec.ofChange starfreeMadeWrong)

/- THE SECOND FORM. 'bulk': how many values and letters a reading holds, each counted each time it is reached (what is shared counts as often as it is met; a slice's spare places count too). A statement '..UptoSaid' is the law's where the arguments, and the package variables that the reading takes, are together of bulk at most 1048576: NARROWER than '..Said'. Prove '..Said' where nothing that the law and all that it calls make is longer than what came in: it says more and counts as full. Else prove '..UptoSaid'. A law counts once. -/
mutual
def uptoBulk {H : Type} : DataW H → Nat
  | .lit (.string bytes) => bytes.length + 1
  | .lit _ => 1
  | .nil => 1
  | .ptr d => uptoBulk d + 1
  | .slice elems spare => uptoBulkAll elems + uptoBulkAll spare + 1
  | .agg parts => uptoBulkAll parts + 1
  | .iface _ d => uptoBulk d + 1
  | .map entries => uptoBulkEntries entries + 1
  | .held _ => 1
def uptoBulkAll {H : Type} : List (DataW H) → Nat
  | [] => 0
  | d :: r => uptoBulk d + uptoBulkAll r
def uptoBulkEntries {H : Type} : List (Lit × DataW H) → Nat
  | [] => 0
  | x :: r => uptoBulkEntry x + uptoBulkEntries r
def uptoBulkEntry {H : Type} : Lit × DataW H → Nat
  | (.string bytes, d) => bytes.length + uptoBulk d + 1
  | (_, d) => uptoBulk d + 1
 end
def uptoSmall : (H : Type) → List (DataW H) → Bool := fun _ ds => decide (uptoBulkAll ds ≤ 1048576)
def OpenSpec.upto (s : _root_.Go.ChangeSpec) : _root_.Go.OpenSpec := { _root_.Go.OpenSpec.ofChange s with cond := some uptoSmall }

/-- 'semigrouplaw31.StarfreeBoolean', WHERE WHAT IT READS IS OF BULK AT MOST 1048576: true; the input reads as it did. -/
def starfreeBooleanUptoRow : OpenClaim := { program := "ytffbfcncnleiaaa", sum := "a9a187c9289675b79537540cedb05f249bdd1643e9697fc295beb12e2060ed6b", func := "semigroup/semigrouplaw31.StarfreeBoolean", spec := "starfreeBoolean", apart := false, narrowed := true }
def StarfreeBooleanUptoSaid : Prop := starfreeBooleanUptoRow.holds Try.pinned (OpenSpec.upto starfreeBooleanSpec)

/-- 'semigrouplaw31.StarfreeCuts', WHERE WHAT IT READS IS OF BULK AT MOST 1048576: true; the input reads as it did. -/
def starfreeCutsUptoRow : OpenClaim := { program := "ytffbfcncnleiaaa", sum := "a9a187c9289675b79537540cedb05f249bdd1643e9697fc295beb12e2060ed6b", func := "semigroup/semigrouplaw31.StarfreeCuts", spec := "starfreeCuts", apart := false, narrowed := true }
def StarfreeCutsUptoSaid : Prop := starfreeCutsUptoRow.holds Try.pinned (OpenSpec.upto starfreeCutsSpec)

/-- 'semigrouplaw31.StarfreeRaw', WHERE WHAT IT READS IS OF BULK AT MOST 1048576: true; the input reads as it did. -/
def starfreeRawUptoRow : OpenClaim := { program := "ytffbfcncnleiaaa", sum := "a9a187c9289675b79537540cedb05f249bdd1643e9697fc295beb12e2060ed6b", func := "semigroup/semigrouplaw31.StarfreeRaw", spec := "starfreeRaw", recurses := true, apart := false, narrowed := true }
def StarfreeRawUptoSaid : Prop := starfreeRawUptoRow.holds Try.pinned (OpenSpec.upto starfreeRawSpec)

/-- 'semigrouplaw31.StarfreeMade', WHERE WHAT IT READS IS OF BULK AT MOST 1048576: true; the input reads as it did. -/
def starfreeMadeUptoRow : OpenClaim := { program := "ytffbfcncnleiaaa", sum := "a9a187c9289675b79537540cedb05f249bdd1643e9697fc295beb12e2060ed6b", func := "semigroup/semigrouplaw31.StarfreeMade", spec := "starfreeMade", recurses := true, apart := false, narrowed := true }
def StarfreeMadeUptoSaid : Prop := starfreeMadeUptoRow.holds Try.pinned (OpenSpec.upto starfreeMadeSpec)

end Rows
end Go.Proofs.Ytffbfcncnleiaaa
