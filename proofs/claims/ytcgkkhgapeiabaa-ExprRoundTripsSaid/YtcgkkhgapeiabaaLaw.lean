/-
  ExprRoundTrips holds.
-/
import Derived.Test.YtcgkkhgapeiabaaRows
import Derived.WalkKit
import Derived.ProofKit
import Derived.OpenShut
import Derived.Test.YtcgkkhgapeiabaaP5
set_option linter.unusedVariables false
set_option linter.unusedSimpArgs false
namespace Go.Proofs.Ytcgkkhgapeiabaa
open Go.AM Go.ChangeShapes Go.WideShapes Go.ChangeAt Go.RowKit
theorem own : ownKnob Try.prog.godebug = none := by kernel_rfl
theorem noCount : NoCount Try.prog := noCount_of (by kernel_rfl)
theorem mixed : Try.prog.follows .mixedOrders = true := by kernel_rfl
theorem exprRoundTrips_wt (xs : List V) (h : WTall Try.prog [24] xs) : ∃ ds, readVs ((ann.sin 5).slots.map (·.2)) xs = some ds ∧ Go.AM.Call Try.prog ann 5 ds = some [.bool true] := by
  obtain ⟨x, ys, rfl, h1, h⟩ := wtall_one h
  obtain rfl := wtall_nil h
  obtain ⟨e, rfl, he⟩ := wt_ex _ x (Nat.lt_succ_self _) h1
  refine ⟨exA e [], ?_, exprRoundTrips e he⟩
  rw [Ex.enc_eq]
  kernel_rfl
set_option maxRecDepth 100000 in
theorem exprRoundTrips_lifted (os : Os) (started : os.Started) (H : Type) (enc : TypeId × Value → H) :
    ReturnsInHanded {} Try.checked os 5 .any (Rows.exprRoundTripsSpec.pre6 enc Try.prog Try.f5 Rows.exprRoundTripsRow.domain false) (Rows.exprRoundTripsSpec.post enc Try.prog Try.f5 false true false false) := by
  refine returnsInHanded_of_change (C := Try.checked) own started (by kernel_rfl) Try.func5
    (ChangeSpec.witness6 (enc := enc) (C := Try.checked) false ⟨#[], #[.agg #[.int .i64 0, .int .i64 0, .slice none 0 0]], []⟩ 8 (by kernel_rfl) (by kernel_rfl) (by kernel_rfl) (by kernel_rfl)) ?_
  intro W base args ds gs before hval hW _ _
  refine law_contract (A := ann) (key := 5) (L := [24, 3, 22]) (tb := 4) (fine noCount) mixed Try.func5 (by kernel_rfl) (by kernel_rfl) (by kernel_rfl) (by kernel_rfl) (by kernel_rfl) rfl ?_ (by kernel_rfl) (by kernel_rfl) (by kernel_rfl) (by kernel_rfl) (by kernel_rfl) ?_ hval hW
  · intro ds hds
    match ds, hds with
    | [d1], _ => rfl
  · exact exprRoundTrips_wt
theorem exprRoundTrips_over : Rows.exprRoundTripsRow.holds Try.pinned (OpenSpec.ofChange Rows.exprRoundTripsSpec) :=
  OpenClaim.holds_of_wide 5 Try.f5 rfl rfl rfl rfl rfl rfl rfl ⟨rfl, rfl, rfl, rfl, rfl⟩ rfl rfl rfl rfl rfl (by kernel_rfl) Try.func5 (by kernel_rfl)
    (of_decide_eq_true (by kernel_rfl)) (by unfold Func.isWrapper; first | (rw [if_pos (by decide +kernel)]; kernel_rfl) | (rw [if_neg (by decide +kernel)]; exact ⟨rfl, rfl⟩))
    (fun os started H enc _ => exprRoundTrips_lifted os started H enc)
theorem exprRoundTrips_holds : Rows.ExprRoundTripsSaid := exprRoundTrips_over
#print axioms exprRoundTrips_holds
end Go.Proofs.Ytcgkkhgapeiabaa
