/-
  NARROWER THAN 'FOR EVERY INPUT', by the rows' own cells (each row's printed sentence says how): DeriveBuilds: loops · DeriveComplements: loops · DeriveStarts: loops · DeriveLetters: loops · DeriveWords: loops · DeriveChains: loops · DeriveResumes: loops · DeriveFinishes: loops.
  DERIVED. THE GIVEN ROWS OF THIS SEAT. 8 by the template 'for every input the law returns true; each argument reads behind the call as it read before'; 0 by the template 'total and deterministic' (their statements: YtppefogdkedaiaaTotals.lean).
  GIVEN WITH THE SEED: the statements are not yours to turn. If you find one false, say at which input.
  Laid BY PROGRAM, IN A SANDBOX (cutbox-rows.mjs): the forced cells as the released guide's own fill.sh prints them over the translation 684ef3262ec0f847… (all of the seat's roots in one cut). By AI agents, Wed Nov 11 2026. No macro, syntax, notation, axiom, sorry.
-/
import Derived.Test.YtppefogdkedaiaaChecked
import GoSem.Claim
import GoSem.ClaimJoined
import GoSem.ClaimMapViews
import Derived.JoinedTies
import Derived.KernelRfl
namespace Go.Proofs.Ytppefogdkedaiaa
/- THE CELL 'sum', in the pinned program and in every row, IS THE sha256 OF THE DUMP (.gsa) THAT YtppefogdkedaiaaProg.lean LOADS. Nothing in Lean hashes anything: it is a label: what it is worth is what the hold of that sum in a sandbox is worth. -/
noncomputable def Try.pinned : Pinned := { name := "ytppefogdkedaiaa", sum := "684ef3262ec0f8474c9642913daef1916e6bafed48b3ae9aed6ea26784a42596", checked := Try.checked }
namespace Rows
def none {H : Type} : Left H := { results := [], args := [] }

/-- 'semigrouplaw05.DeriveBuilds': WHATEVER THE INPUT: true; the input reads as it did. -/
def deriveBuildsSpec : ChangeSpec := { name := "deriveBuilds", fn := fun _ => fun
  | [d1, d2] => { results := [.lit (.bool true)], args := [d1, d2] }
  | _ => none }
def deriveBuildsRow : OpenClaim := { program := "ytppefogdkedaiaa", sum := "684ef3262ec0f8474c9642913daef1916e6bafed48b3ae9aed6ea26784a42596", func := "semigroup/semigrouplaw05.DeriveBuilds", spec := "deriveBuilds", inPlace := ["internal/abi.NoEscape"], unfollowed := true, recurses := true, loops := true, apart := false }
def DeriveBuildsSaid : Prop := deriveBuildsRow.holds Try.pinned (OpenSpec.ofChange deriveBuildsSpec)

/-- ITS FALSE NEIGHBOUR: 'it returns false'. Refute it at one input. -/
def deriveBuildsWrong : ChangeSpec := { name := "deriveBuilds", fn := fun _ => fun
  | [d1, d2] => { results := [.lit (.bool false)], args := [d1, d2] }
  | _ => none }
def DeriveBuildsWrongFalsely : Prop := deriveBuildsRow.holds Try.pinned (OpenSpec.ofChange deriveBuildsWrong)

/-- 'semigrouplaw05.DeriveComplements': WHATEVER THE INPUT: true; the input reads as it did. -/
def deriveComplementsSpec : ChangeSpec := { name := "deriveComplements", fn := fun _ => fun
  | [d1, d2] => { results := [.lit (.bool true)], args := [d1, d2] }
  | _ => none }
def deriveComplementsRow : OpenClaim := { program := "ytppefogdkedaiaa", sum := "684ef3262ec0f8474c9642913daef1916e6bafed48b3ae9aed6ea26784a42596", func := "semigroup/semigrouplaw05.DeriveComplements", spec := "deriveComplements", inPlace := ["internal/abi.NoEscape"], unfollowed := true, recurses := true, loops := true, apart := false }
def DeriveComplementsSaid : Prop := deriveComplementsRow.holds Try.pinned (OpenSpec.ofChange deriveComplementsSpec)

/-- ITS FALSE NEIGHBOUR: 'it returns false'. Refute it at one input. -/
def deriveComplementsWrong : ChangeSpec := { name := "deriveComplements", fn := fun _ => fun
  | [d1, d2] => { results := [.lit (.bool false)], args := [d1, d2] }
  | _ => none }
def DeriveComplementsWrongFalsely : Prop := deriveComplementsRow.holds Try.pinned (OpenSpec.ofChange deriveComplementsWrong)

/-- 'semigrouplaw05.DeriveStarts': WHATEVER THE INPUT: true; the input reads as it did. -/
def deriveStartsSpec : ChangeSpec := { name := "deriveStarts", fn := fun _ => fun
  | [d1, d2] => { results := [.lit (.bool true)], args := [d1, d2] }
  | _ => none }
def deriveStartsRow : OpenClaim := { program := "ytppefogdkedaiaa", sum := "684ef3262ec0f8474c9642913daef1916e6bafed48b3ae9aed6ea26784a42596", func := "semigroup/semigrouplaw05.DeriveStarts", spec := "deriveStarts", inPlace := ["internal/abi.NoEscape"], unfollowed := true, recurses := true, loops := true, apart := false }
def DeriveStartsSaid : Prop := deriveStartsRow.holds Try.pinned (OpenSpec.ofChange deriveStartsSpec)

/-- ITS FALSE NEIGHBOUR: 'it returns false'. Refute it at one input. -/
def deriveStartsWrong : ChangeSpec := { name := "deriveStarts", fn := fun _ => fun
  | [d1, d2] => { results := [.lit (.bool false)], args := [d1, d2] }
  | _ => none }
def DeriveStartsWrongFalsely : Prop := deriveStartsRow.holds Try.pinned (OpenSpec.ofChange deriveStartsWrong)

/-- 'semigrouplaw05.DeriveLetters': WHATEVER THE INPUT: true; the input reads as it did. -/
def deriveLettersSpec : ChangeSpec := { name := "deriveLetters", fn := fun _ => fun
  | [d1, d2] => { results := [.lit (.bool true)], args := [d1, d2] }
  | _ => none }
def deriveLettersRow : OpenClaim := { program := "ytppefogdkedaiaa", sum := "684ef3262ec0f8474c9642913daef1916e6bafed48b3ae9aed6ea26784a42596", func := "semigroup/semigrouplaw05.DeriveLetters", spec := "deriveLetters", inPlace := ["internal/abi.NoEscape"], unfollowed := true, recurses := true, loops := true, apart := false }
def DeriveLettersSaid : Prop := deriveLettersRow.holds Try.pinned (OpenSpec.ofChange deriveLettersSpec)

/-- ITS FALSE NEIGHBOUR: 'it returns false'. Refute it at one input. -/
def deriveLettersWrong : ChangeSpec := { name := "deriveLetters", fn := fun _ => fun
  | [d1, d2] => { results := [.lit (.bool false)], args := [d1, d2] }
  | _ => none }
def DeriveLettersWrongFalsely : Prop := deriveLettersRow.holds Try.pinned (OpenSpec.ofChange deriveLettersWrong)

/-- 'semigrouplaw05.DeriveWords': WHATEVER THE INPUT: true; the input reads as it did. -/
def deriveWordsSpec : ChangeSpec := { name := "deriveWords", fn := fun _ => fun
  | [d1, d2] => { results := [.lit (.bool true)], args := [d1, d2] }
  | _ => none }
def deriveWordsRow : OpenClaim := { program := "ytppefogdkedaiaa", sum := "684ef3262ec0f8474c9642913daef1916e6bafed48b3ae9aed6ea26784a42596", func := "semigroup/semigrouplaw05.DeriveWords", spec := "deriveWords", inPlace := ["internal/abi.NoEscape"], unfollowed := true, recurses := true, loops := true, apart := false }
def DeriveWordsSaid : Prop := deriveWordsRow.holds Try.pinned (OpenSpec.ofChange deriveWordsSpec)

/-- ITS FALSE NEIGHBOUR: 'it returns false'. Refute it at one input. -/
def deriveWordsWrong : ChangeSpec := { name := "deriveWords", fn := fun _ => fun
  | [d1, d2] => { results := [.lit (.bool false)], args := [d1, d2] }
  | _ => none }
def DeriveWordsWrongFalsely : Prop := deriveWordsRow.holds Try.pinned (OpenSpec.ofChange deriveWordsWrong)

/-- 'semigrouplaw05.DeriveChains': WHATEVER THE INPUT: true; the input reads as it did. -/
def deriveChainsSpec : ChangeSpec := { name := "deriveChains", fn := fun _ => fun
  | [d1, d2, d3] => { results := [.lit (.bool true)], args := [d1, d2, d3] }
  | _ => none }
def deriveChainsRow : OpenClaim := { program := "ytppefogdkedaiaa", sum := "684ef3262ec0f8474c9642913daef1916e6bafed48b3ae9aed6ea26784a42596", func := "semigroup/semigrouplaw05.DeriveChains", spec := "deriveChains", inPlace := ["internal/abi.NoEscape"], unfollowed := true, recurses := true, loops := true, apart := false }
def DeriveChainsSaid : Prop := deriveChainsRow.holds Try.pinned (OpenSpec.ofChange deriveChainsSpec)

/-- ITS FALSE NEIGHBOUR: 'it returns false'. Refute it at one input. -/
def deriveChainsWrong : ChangeSpec := { name := "deriveChains", fn := fun _ => fun
  | [d1, d2, d3] => { results := [.lit (.bool false)], args := [d1, d2, d3] }
  | _ => none }
def DeriveChainsWrongFalsely : Prop := deriveChainsRow.holds Try.pinned (OpenSpec.ofChange deriveChainsWrong)

/-- 'semigrouplaw05.DeriveResumes': WHATEVER THE INPUT: true; the input reads as it did. -/
def deriveResumesSpec : ChangeSpec := { name := "deriveResumes", fn := fun _ => fun
  | [d1, d2, d3] => { results := [.lit (.bool true)], args := [d1, d2, d3] }
  | _ => none }
def deriveResumesRow : OpenClaim := { program := "ytppefogdkedaiaa", sum := "684ef3262ec0f8474c9642913daef1916e6bafed48b3ae9aed6ea26784a42596", func := "semigroup/semigrouplaw05.DeriveResumes", spec := "deriveResumes", inPlace := ["internal/abi.NoEscape"], unfollowed := true, recurses := true, loops := true, apart := false }
def DeriveResumesSaid : Prop := deriveResumesRow.holds Try.pinned (OpenSpec.ofChange deriveResumesSpec)

/-- ITS FALSE NEIGHBOUR: 'it returns false'. Refute it at one input. -/
def deriveResumesWrong : ChangeSpec := { name := "deriveResumes", fn := fun _ => fun
  | [d1, d2, d3] => { results := [.lit (.bool false)], args := [d1, d2, d3] }
  | _ => none }
def DeriveResumesWrongFalsely : Prop := deriveResumesRow.holds Try.pinned (OpenSpec.ofChange deriveResumesWrong)

/-- 'semigrouplaw05.DeriveFinishes': WHATEVER THE INPUT: true; the input reads as it did. -/
def deriveFinishesSpec : ChangeSpec := { name := "deriveFinishes", fn := fun _ => fun
  | [d1, d2] => { results := [.lit (.bool true)], args := [d1, d2] }
  | _ => none }
def deriveFinishesRow : OpenClaim := { program := "ytppefogdkedaiaa", sum := "684ef3262ec0f8474c9642913daef1916e6bafed48b3ae9aed6ea26784a42596", func := "semigroup/semigrouplaw05.DeriveFinishes", spec := "deriveFinishes", inPlace := ["internal/abi.NoEscape"], unfollowed := true, recurses := true, loops := true, apart := false }
def DeriveFinishesSaid : Prop := deriveFinishesRow.holds Try.pinned (OpenSpec.ofChange deriveFinishesSpec)

/-- ITS FALSE NEIGHBOUR: 'it returns false'. Refute it at one input. -/
def deriveFinishesWrong : ChangeSpec := { name := "deriveFinishes", fn := fun _ => fun
  | [d1, d2] => { results := [.lit (.bool false)], args := [d1, d2] }
  | _ => none }
def DeriveFinishesWrongFalsely : Prop := deriveFinishesRow.holds Try.pinned (OpenSpec.ofChange deriveFinishesWrong)

/- THE SECOND FORM. 'bulk': how many values and letters a reading holds, each counted each time it is reached (what is shared counts as often as it is met; a slice's spare places count too). A statement '..UptoSaid' is the law's where the arguments, and the package variables that the reading takes, are together of bulk at most 1048576: NARROWER than '..Said'. Prove '..Said' where nothing that the law and all that it calls make is longer than what came in: it says more and counts as full. Else prove '..UptoSaid'. A law counts once. -/
mutual
def uptoBulk {H : Type} : DataW H → Nat
  | .lit (.string bytes) => bytes.length + 1
  | .lit _ => 1
  | .nil => 1
  | .ptr d => uptoBulk d + 1
  | .slice elems spare => uptoBulkAll elems + uptoBulkAll spare + 1
  | .agg parts => uptoBulkAll parts + 1
  | .iface _ d => uptoBulk d + 1
  | .map entries => uptoBulkEntries entries + 1
  | .held _ => 1
def uptoBulkAll {H : Type} : List (DataW H) → Nat
  | [] => 0
  | d :: r => uptoBulk d + uptoBulkAll r
def uptoBulkEntries {H : Type} : List (Lit × DataW H) → Nat
  | [] => 0
  | x :: r => uptoBulkEntry x + uptoBulkEntries r
def uptoBulkEntry {H : Type} : Lit × DataW H → Nat
  | (.string bytes, d) => bytes.length + uptoBulk d + 1
  | (_, d) => uptoBulk d + 1
 end
def uptoSmall : (H : Type) → List (DataW H) → Bool := fun _ ds => decide (uptoBulkAll ds ≤ 1048576)
def OpenSpec.upto (s : _root_.Go.ChangeSpec) : _root_.Go.OpenSpec := { _root_.Go.OpenSpec.ofChange s with cond := some uptoSmall }

/-- 'semigrouplaw05.DeriveBuilds', WHERE WHAT IT READS IS OF BULK AT MOST 1048576: true; the input reads as it did. -/
def deriveBuildsUptoRow : OpenClaim := { program := "ytppefogdkedaiaa", sum := "684ef3262ec0f8474c9642913daef1916e6bafed48b3ae9aed6ea26784a42596", func := "semigroup/semigrouplaw05.DeriveBuilds", spec := "deriveBuilds", inPlace := ["internal/abi.NoEscape"], unfollowed := true, recurses := true, loops := true, apart := false, narrowed := true }
def DeriveBuildsUptoSaid : Prop := deriveBuildsUptoRow.holds Try.pinned (OpenSpec.upto deriveBuildsSpec)

/-- 'semigrouplaw05.DeriveComplements', WHERE WHAT IT READS IS OF BULK AT MOST 1048576: true; the input reads as it did. -/
def deriveComplementsUptoRow : OpenClaim := { program := "ytppefogdkedaiaa", sum := "684ef3262ec0f8474c9642913daef1916e6bafed48b3ae9aed6ea26784a42596", func := "semigroup/semigrouplaw05.DeriveComplements", spec := "deriveComplements", inPlace := ["internal/abi.NoEscape"], unfollowed := true, recurses := true, loops := true, apart := false, narrowed := true }
def DeriveComplementsUptoSaid : Prop := deriveComplementsUptoRow.holds Try.pinned (OpenSpec.upto deriveComplementsSpec)

/-- 'semigrouplaw05.DeriveStarts', WHERE WHAT IT READS IS OF BULK AT MOST 1048576: true; the input reads as it did. -/
def deriveStartsUptoRow : OpenClaim := { program := "ytppefogdkedaiaa", sum := "684ef3262ec0f8474c9642913daef1916e6bafed48b3ae9aed6ea26784a42596", func := "semigroup/semigrouplaw05.DeriveStarts", spec := "deriveStarts", inPlace := ["internal/abi.NoEscape"], unfollowed := true, recurses := true, loops := true, apart := false, narrowed := true }
def DeriveStartsUptoSaid : Prop := deriveStartsUptoRow.holds Try.pinned (OpenSpec.upto deriveStartsSpec)

/-- 'semigrouplaw05.DeriveLetters', WHERE WHAT IT READS IS OF BULK AT MOST 1048576: true; the input reads as it did. -/
def deriveLettersUptoRow : OpenClaim := { program := "ytppefogdkedaiaa", sum := "684ef3262ec0f8474c9642913daef1916e6bafed48b3ae9aed6ea26784a42596", func := "semigroup/semigrouplaw05.DeriveLetters", spec := "deriveLetters", inPlace := ["internal/abi.NoEscape"], unfollowed := true, recurses := true, loops := true, apart := false, narrowed := true }
def DeriveLettersUptoSaid : Prop := deriveLettersUptoRow.holds Try.pinned (OpenSpec.upto deriveLettersSpec)

/-- 'semigrouplaw05.DeriveWords', WHERE WHAT IT READS IS OF BULK AT MOST 1048576: true; the input reads as it did. -/
def deriveWordsUptoRow : OpenClaim := { program := "ytppefogdkedaiaa", sum := "684ef3262ec0f8474c9642913daef1916e6bafed48b3ae9aed6ea26784a42596", func := "semigroup/semigrouplaw05.DeriveWords", spec := "deriveWords", inPlace := ["internal/abi.NoEscape"], unfollowed := true, recurses := true, loops := true, apart := false, narrowed := true }
def DeriveWordsUptoSaid : Prop := deriveWordsUptoRow.holds Try.pinned (OpenSpec.upto deriveWordsSpec)

/-- 'semigrouplaw05.DeriveChains', WHERE WHAT IT READS IS OF BULK AT MOST 1048576: true; the input reads as it did. -/
def deriveChainsUptoRow : OpenClaim := { program := "ytppefogdkedaiaa", sum := "684ef3262ec0f8474c9642913daef1916e6bafed48b3ae9aed6ea26784a42596", func := "semigroup/semigrouplaw05.DeriveChains", spec := "deriveChains", inPlace := ["internal/abi.NoEscape"], unfollowed := true, recurses := true, loops := true, apart := false, narrowed := true }
def DeriveChainsUptoSaid : Prop := deriveChainsUptoRow.holds Try.pinned (OpenSpec.upto deriveChainsSpec)

/-- 'semigrouplaw05.DeriveResumes', WHERE WHAT IT READS IS OF BULK AT MOST 1048576: true; the input reads as it did. -/
def deriveResumesUptoRow : OpenClaim := { program := "ytppefogdkedaiaa", sum := "684ef3262ec0f8474c9642913daef1916e6bafed48b3ae9aed6ea26784a42596", func := "semigroup/semigrouplaw05.DeriveResumes", spec := "deriveResumes", inPlace := ["internal/abi.NoEscape"], unfollowed := true, recurses := true, loops := true, apart := false, narrowed := true }
def DeriveResumesUptoSaid : Prop := deriveResumesUptoRow.holds Try.pinned (OpenSpec.upto deriveResumesSpec)

/-- 'semigrouplaw05.DeriveFinishes', WHERE WHAT IT READS IS OF BULK AT MOST 1048576: true; the input reads as it did. -/
def deriveFinishesUptoRow : OpenClaim := { program := "ytppefogdkedaiaa", sum := "684ef3262ec0f8474c9642913daef1916e6bafed48b3ae9aed6ea26784a42596", func := "semigroup/semigrouplaw05.DeriveFinishes", spec := "deriveFinishes", inPlace := ["internal/abi.NoEscape"], unfollowed := true, recurses := true, loops := true, apart := false, narrowed := true }
def DeriveFinishesUptoSaid : Prop := deriveFinishesUptoRow.holds Try.pinned (OpenSpec.upto deriveFinishesSpec)

end Rows
end Go.Proofs.Ytppefogdkedaiaa
