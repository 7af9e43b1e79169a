/-
  The card of ExprBoolean holds.
-/
import Derived.Test.YtcgkkhgapeiabaaDoorRows
import Derived.Test.YtcgkkhgapeiabaaDoorCards
import Derived.Test.YtcgkkhgapeiabaaDoorTie
import Derived.WalkKit
import Derived.ProofKit
import Derived.OpenShut
import Derived.ChangeSame
import Derived.ChangeVars
import Derived.JoinedOf
import Derived.SevenTiedAt
import Derived.Test.YtcgkkhgapeiabaaDoorP5
set_option linter.unusedVariables false
set_option linter.unusedSimpArgs false
namespace Go.Proofs.YtcgkkhgapeiabaaDoor
open Go Go.AM Go.ChangeShapes Go.WideShapes Go.ChangeAt Go.RowKit
theorem exprBoolean_wt (xs : List V) (h : WTall Tryd.prog [24, 24, 9] xs) : ∃ ds, readVs ((ann.sin 4).slots.map (·.2)) xs = some ds ∧ Go.AM.Call Tryd.prog ann 4 ds = some [.bool true] := by
  obtain ⟨x0, ys0, rfl, h0, h⟩ := wtall_one h
  obtain ⟨x1, ys1, rfl, h1, h⟩ := wtall_one h
  obtain ⟨x2, ys2, rfl, h2, h⟩ := wtall_one h
  obtain rfl := wtall_nil h
  obtain ⟨a, rfl, ha⟩ := wt_ex _ _ (Nat.lt_succ_self _) h0
  obtain ⟨b, rfl, hb⟩ := wt_ex _ _ (Nat.lt_succ_self _) h1
  obtain ⟨c, rfl, hc⟩ := WTv.str (by kernel_rfl) h2
  exact ⟨exA a (exA b [.str c]), by (rw [Ex.enc_eq a, Ex.enc_eq b]; kernel_rfl), exprBoolean a ha b hb c⟩
set_option maxRecDepth 100000 in
theorem exprBoolean_lifted (os : Os) (started : os.Started) (H : Type) (enc : TypeId × Value → H) :
    ReturnsInHanded {} Tryd.checked os 4 .any (fun w args => (Rows.exprBooleanSpec.pre enc Tryd.prog Tryd.f4 [] false w args ∧ laidMetH Tryd.prog Rows.exprBooleanRow.laid w) ∧ sizedMet enc Tryd.prog Tryd.f4 (OpenSpec.ofChange Rows.exprBooleanSpec) false w args)
      (Rows.exprBooleanSpec.post enc Tryd.prog Tryd.f4 false true false false) := by
  refine returnsInHanded_of_change_and (C := Tryd.checked) (X := fun w _ => laidMetH Tryd.prog Rows.exprBooleanRow.laid w) (fun _ _ _ hh h => h.of_heap hh) own started (by kernel_rfl) Tryd.func4
    (ChangeSpec.witness_at (enc := enc) (C := Tryd.checked) (os := os) (X := fun w _ => laidMetH Tryd.prog Rows.exprBooleanRow.laid w) false (laidWorld os) #[.agg #[.int .i64 0, .int .i64 0, .slice none 0 0], .agg #[.int .i64 0, .int .i64 0, .slice none 0 0], .string ⟨#[]⟩] 8 rfl (by kernel_rfl) (by kernel_rfl) (by kernel_rfl) (by kernel_rfl) (by kernel_rfl) (laidWorld_met os _)) ?_
  intro W base args ds gs before hval hW _ _ hL _
  refine law_contract (A := ann) (key := 4) (L := [24, 3, 22, 9]) (tb := 4) fine mixed Tryd.func4 (by kernel_rfl) (by kernel_rfl) (by kernel_rfl) (by kernel_rfl) (by kernel_rfl) rfl ?_ (by kernel_rfl) (by kernel_rfl) (by kernel_rfl) (by kernel_rfl) (by kernel_rfl) (by kernel_rfl) ?_ (globOk hL) hval hW
  · intro ds hds
    match ds, hds with
    | [d0, d1, d2], _ => rfl
  · exact exprBoolean_wt
theorem exprBoolean_row : Rows.ExprBooleanSaid :=
  OpenClaim.holds_of_wide 4 Tryd.f4 rfl rfl rfl rfl rfl rfl rfl ⟨rfl, rfl, rfl, rfl, rfl⟩ rfl rfl rfl rfl rfl (by kernel_rfl) Tryd.func4 (by kernel_rfl)
    (of_decide_eq_true (by kernel_rfl)) (by unfold Func.isWrapper; first | (rw [if_pos (by decide +kernel)]; kernel_rfl) | (rw [if_neg (by decide +kernel)]; exact ⟨rfl, rfl⟩))
    (fun os started H enc _ => exprBoolean_lifted os started H enc)
theorem exprBoolean_holds : Rows.ExprBooleanCardSaid :=
  Claim7.holds_tied_plain_at .later [] [.data] true (true, "2d0167ba1b2d3cc5fbd546aad4c9b569307ad5df15c513fc9e34b75a63aa43bc") true
    exprBoolean_row (fun _ h => by cases h) (by kernel_rfl) (fun _ h => by cases h) exprBoolean_row_tie rfl ⟨rfl, rfl⟩ (by kernel_rfl) rfl
    (fun f fn hf hfn => by
      obtain rfl : f = 4 := Option.some.inj ((show Tryd.prog.funcNamed "semigroup/semigrouplaw04.ExprBoolean" = some 4 by kernel_rfl).symm.trans hf) |>.symm
      obtain rfl : fn = Tryd.f4 := (Option.some.inj (Tryd.func4.symm.trans hfn)).symm
      exact ⟨by kernel_rfl, fun j t ht => by
        rw [show Tryd.f4.params = #[24, 24, 9] by kernel_rfl] at ht
        rcases j with _ | j
        · obtain rfl : (24 : TypeId) = t := by simpa using ht
          exact (show Tryd.prog.wantsStandIn 24 = false by kernel_rfl)
        rcases j with _ | j
        · obtain rfl : (24 : TypeId) = t := by simpa using ht
          exact (show Tryd.prog.wantsStandIn 24 = false by kernel_rfl)
        rcases j with _ | j
        · obtain rfl : (9 : TypeId) = t := by simpa using ht
          exact (show Tryd.prog.wantsStandIn 9 = false by kernel_rfl)
        simp at ht⟩)
    (by kernel_rfl)
#print axioms exprBoolean_holds
end Go.Proofs.YtcgkkhgapeiabaaDoor
