/-
  ExprIgnores holds.
-/
import Derived.Test.YtcgkkhgapeiabaaRows
import Derived.WalkKit
import Derived.ProofKit
import Derived.OpenShut
import Derived.Test.YtcgkkhgapeiabaaP6
set_option linter.unusedVariables false
set_option linter.unusedSimpArgs false
namespace Go.Proofs.Ytcgkkhgapeiabaa
open Go Go.AM Go.ChangeShapes Go.WideShapes Go.ChangeAt Go.RowKit
theorem own : ownKnob Try.prog.godebug = none := by kernel_rfl
theorem noCount : NoCount Try.prog := noCount_of (by kernel_rfl)
theorem mixed : Try.prog.follows .mixedOrders = true := by kernel_rfl
theorem exprIgnores_wt (xs : List V) (h : WTall Try.prog [24, 24, 24] xs) : ∃ ds, readVs ((ann.sin 9).slots.map (·.2)) xs = some ds ∧ Go.AM.Call Try.prog ann 9 ds = some [.bool true] := by
  obtain ⟨x0, ys0, rfl, h0, h⟩ := wtall_one h
  obtain ⟨x1, ys1, rfl, h1, h⟩ := wtall_one h
  obtain ⟨x2, ys2, rfl, h2, h⟩ := wtall_one h
  obtain rfl := wtall_nil h
  obtain ⟨a, rfl, ha⟩ := wt_ex _ _ (Nat.lt_succ_self _) h0
  obtain ⟨b, rfl, hb⟩ := wt_ex _ _ (Nat.lt_succ_self _) h1
  obtain ⟨c, rfl, hc⟩ := wt_ex _ _ (Nat.lt_succ_self _) h2
  exact ⟨exA a (exA b (exA c [])), by (rw [Ex.enc_eq a, Ex.enc_eq b, Ex.enc_eq c]; kernel_rfl), exprIgnores a ha b hb c hc⟩
set_option maxRecDepth 100000 in
theorem exprIgnores_lifted (os : Os) (started : os.Started) (H : Type) (enc : TypeId × Value → H) :
    ReturnsInHanded {} Try.checked os 9 .any (Rows.exprIgnoresSpec.pre6 enc Try.prog Try.f9 Rows.exprIgnoresRow.domain false) (Rows.exprIgnoresSpec.post enc Try.prog Try.f9 false true false false) := by
  refine returnsInHanded_of_change (C := Try.checked) own started (by kernel_rfl) Try.func9
    (ChangeSpec.witness6 (enc := enc) (C := Try.checked) false ⟨#[], #[.agg #[.int .i64 0, .int .i64 0, .slice none 0 0], .agg #[.int .i64 0, .int .i64 0, .slice none 0 0], .agg #[.int .i64 0, .int .i64 0, .slice none 0 0]], []⟩ 8 (by kernel_rfl) (by kernel_rfl) (by kernel_rfl) (by kernel_rfl)) ?_
  intro W base args ds gs before hval hW _ _
  refine law_contract (A := ann) (key := 9) (L := [24, 3, 22]) (tb := 4) (fine noCount) mixed Try.func9 (by kernel_rfl) (by kernel_rfl) (by kernel_rfl) (by kernel_rfl) (by kernel_rfl) rfl ?_ (by kernel_rfl) (by kernel_rfl) (by kernel_rfl) (by kernel_rfl) (by kernel_rfl) (by kernel_rfl) ?_ GlobOk.none hval hW
  · intro ds hds
    match ds, hds with
    | [d0, d1, d2], _ => rfl
  · exact exprIgnores_wt
theorem exprIgnores_holds : Rows.ExprIgnoresSaid :=
  OpenClaim.holds_of_wide 9 Try.f9 rfl rfl rfl rfl rfl rfl rfl ⟨rfl, rfl, rfl, rfl, rfl⟩ rfl rfl rfl rfl rfl (by kernel_rfl) Try.func9 (by kernel_rfl)
    (of_decide_eq_true (by kernel_rfl)) (by unfold Func.isWrapper; first | (rw [if_pos (by decide +kernel)]; kernel_rfl) | (rw [if_neg (by decide +kernel)]; exact ⟨rfl, rfl⟩))
    (fun os started H enc _ => exprIgnores_lifted os started H enc)
#print axioms exprIgnores_holds
end Go.Proofs.Ytcgkkhgapeiabaa
