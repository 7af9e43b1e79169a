/-
  ExprCompares holds.
-/
import Derived.Test.YtcgkkhgapeiabaaRows
import Derived.WalkKit
import Derived.ProofKit
import Derived.OpenShut
import Derived.Test.YtcgkkhgapeiabaaP4
set_option linter.unusedVariables false
set_option linter.unusedSimpArgs false
namespace Go.Proofs.Ytcgkkhgapeiabaa
open Go.AM Go.ChangeShapes Go.WideShapes Go.ChangeAt Go.RowKit
theorem own : ownKnob Try.prog.godebug = none := by kernel_rfl
theorem noCount : NoCount Try.prog := noCount_of (by kernel_rfl)
theorem mixed : Try.prog.follows .mixedOrders = true := by kernel_rfl
theorem exprCompares_wt (xs : List V) (h : WTall Try.prog [24, 24, 24] xs) : ∃ ds, readVs ((ann.sin 6).slots.map (·.2)) xs = some ds ∧ Go.AM.Call Try.prog ann 6 ds = some [.bool true] := by
  obtain ⟨x, ys, rfl, h1, h⟩ := wtall_one h
  obtain ⟨y, zs, rfl, h2, h⟩ := wtall_one h
  obtain ⟨z, us, rfl, h3, h⟩ := wtall_one h
  obtain rfl := wtall_nil h
  obtain ⟨a, rfl, ha⟩ := wt_ex _ x (Nat.lt_succ_self _) h1
  obtain ⟨b, rfl, hb⟩ := wt_ex _ y (Nat.lt_succ_self _) h2
  obtain ⟨c, rfl, hc⟩ := wt_ex _ z (Nat.lt_succ_self _) h3
  refine ⟨exA a (exA b (exA c [])), ?_, exprCompares a b c ha hb hc⟩
  rw [Ex.enc_eq, Ex.enc_eq, Ex.enc_eq]
  kernel_rfl
set_option maxRecDepth 100000 in
theorem exprCompares_lifted (os : Os) (started : os.Started) (H : Type) (enc : TypeId × Value → H) :
    ReturnsInHanded {} Try.checked os 6 .any (Rows.exprComparesSpec.pre6 enc Try.prog Try.f6 Rows.exprComparesRow.domain false) (Rows.exprComparesSpec.post enc Try.prog Try.f6 false true false false) := by
  refine returnsInHanded_of_change (C := Try.checked) own started (by kernel_rfl) Try.func6
    (ChangeSpec.witness6 (enc := enc) (C := Try.checked) false ⟨#[], #[.agg #[.int .i64 0, .int .i64 0, .slice none 0 0], .agg #[.int .i64 0, .int .i64 0, .slice none 0 0], .agg #[.int .i64 0, .int .i64 0, .slice none 0 0]], []⟩ 8 (by kernel_rfl) (by kernel_rfl) (by kernel_rfl) (by kernel_rfl)) ?_
  intro W base args ds gs before hval hW _ _
  refine law_contract (A := ann) (key := 6) (L := [24, 3, 22]) (tb := 4) (fine noCount) mixed Try.func6 (by kernel_rfl) (by kernel_rfl) (by kernel_rfl) (by kernel_rfl) (by kernel_rfl) rfl ?_ (by kernel_rfl) (by kernel_rfl) (by kernel_rfl) (by kernel_rfl) (by kernel_rfl) ?_ hval hW
  · intro ds hds
    match ds, hds with
    | [d1, d2, d3], _ => rfl
  · exact exprCompares_wt
theorem exprCompares_over : Rows.exprComparesRow.holds Try.pinned (OpenSpec.ofChange Rows.exprComparesSpec) :=
  OpenClaim.holds_of_wide 6 Try.f6 rfl rfl rfl rfl rfl rfl rfl ⟨rfl, rfl, rfl, rfl, rfl⟩ rfl rfl rfl rfl rfl (by kernel_rfl) Try.func6 (by kernel_rfl)
    (of_decide_eq_true (by kernel_rfl)) (by unfold Func.isWrapper; first | (rw [if_pos (by decide +kernel)]; kernel_rfl) | (rw [if_neg (by decide +kernel)]; exact ⟨rfl, rfl⟩))
    (fun os started H enc _ => exprCompares_lifted os started H enc)
theorem exprCompares_holds : Rows.ExprComparesSaid := exprCompares_over
#print axioms exprCompares_holds
end Go.Proofs.Ytcgkkhgapeiabaa
