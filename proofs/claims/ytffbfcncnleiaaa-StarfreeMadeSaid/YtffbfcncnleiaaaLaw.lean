/-
 StarfreeMade holds: the specified results for generated graphs, and for graphs with a change.
-/
import Derived.Test.YtffbfcncnleiaaaRows
import Derived.WalkKit
import Derived.ProofKit
import Derived.OpenShut
import Derived.Test.YtffbfcncnleiaaaP6
set_option linter.unusedVariables false
namespace Go.Proofs.Ytffbfcncnleiaaa
open Go.AM Go.ChangeShapes Go.WideShapes Go.ChangeAt Go.RowKit
theorem own : ownKnob Try.prog.godebug = none := by kernel_rfl
theorem noCount : NoCount Try.prog := noCount_of (by kernel_rfl)
theorem mixed : Try.prog.follows .mixedOrders = true := by kernel_rfl
theorem starfreeMade_wt (xs : List V) (h : WTall Try.prog [22, 3, 3, 3] xs) : Go.AM.Call Try.prog ann 6 xs [] = some (.bool true, []) := by
 obtain ⟨x, ys, rfl, h1, h⟩ := wtall_one h
 obtain ⟨y, zs, rfl, h2, h⟩ := wtall_one h
 obtain ⟨z, us, rfl, h3, h⟩ := wtall_one h
 obtain ⟨u, vs, rfl, h4, h⟩ := wtall_one h
 obtain rfl := wtall_nil h
 obtain ⟨l, rfl, _⟩ := h1.ints (e := 3) (by kernel_rfl) (by kernel_rfl)
 obtain ⟨v, rfl, _⟩ := h2.int (by kernel_rfl)
 obtain ⟨w, rfl, _⟩ := h3.int (by kernel_rfl)
 obtain ⟨q, rfl, _⟩ := h4.int (by kernel_rfl)
 exact starfreeMade l v w q
set_option maxRecDepth 100000 in
theorem starfreeMade_lifted (os : Os) (started : os.Started) (H : Type) (enc : TypeId × Value → H) :
 ReturnsInHanded {} Try.checked os 6 .any (Rows.starfreeMadeSpec.pre6 enc Try.prog Try.f6 Rows.starfreeMadeRow.domain false) (Rows.starfreeMadeSpec.post enc Try.prog Try.f6 false true false false) := by
 refine returnsInHanded_of_change (C := Try.checked) own started (by kernel_rfl) Try.func6
  (ChangeSpec.witness6 (enc := enc) (C := Try.checked) false ⟨#[], #[.slice none 0 0, .int .i64 0, .int .i64 0, .int .i64 0], []⟩ 8 (by kernel_rfl) (by kernel_rfl) (by kernel_rfl) (by kernel_rfl)) ?_
 intro W base args ds gs before hval hW _ _
 refine law_contract (A := ann) (L := [22, 3, 4]) (tb := 4) noCount mixed Try.func6 (by kernel_rfl) (by kernel_rfl) (by kernel_rfl) (by kernel_rfl) rfl ?_ (by kernel_rfl) (by kernel_rfl) ?_ hval hW
 · intro ds hds
   match ds, hds with
   | [d1, d2, d3, d4], _ => rfl
 · exact starfreeMade_wt
theorem starfreeMade_over : Rows.starfreeMadeRow.holds Try.pinned (OpenSpec.ofChange Rows.starfreeMadeSpec) :=
 OpenClaim.holds_of_wide 6 Try.f6 rfl rfl rfl rfl rfl rfl rfl ⟨rfl, rfl, rfl, rfl, rfl⟩ rfl rfl rfl rfl rfl (by kernel_rfl) Try.func6 (by kernel_rfl)
  (of_decide_eq_true (by kernel_rfl)) (by unfold Func.isWrapper; first | (rw [if_pos (by decide +kernel)]; kernel_rfl) | (rw [if_neg (by decide +kernel)]; exact ⟨rfl, rfl⟩))
  (fun os started H enc _ => starfreeMade_lifted os started H enc)
theorem starfreeMade_holds : Rows.StarfreeMadeSaid := starfreeMade_over
#print axioms starfreeMade_holds
end Go.Proofs.Ytffbfcncnleiaaa
