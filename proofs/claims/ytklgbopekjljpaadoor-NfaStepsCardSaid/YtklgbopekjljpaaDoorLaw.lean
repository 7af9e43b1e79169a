/-
  The card of NfaSteps holds.
-/
import Derived.Test.YtklgbopekjljpaaDoorRows
import Derived.Test.YtklgbopekjljpaaDoorCards
import Derived.Test.YtklgbopekjljpaaDoorTie
import Derived.WalkKit
import Derived.ProofKit
import Derived.OpenShut
import Derived.ChangeSame
import Derived.ChangeVars
import Derived.JoinedOf
import Derived.SevenTiedAt
import Derived.Test.YtklgbopekjljpaaDoorP4
set_option linter.unusedVariables false
set_option linter.unusedSimpArgs false
namespace Go.Proofs.YtklgbopekjljpaaDoor
open Go Go.AM Go.ChangeShapes Go.WideShapes Go.ChangeAt Go.RowKit
theorem nfaSteps_wt (xs : List V) (h : WTall Tryd.prog [25, 22, 3] xs) : ∃ ds, readVs ((ann.sin 6).slots.map (·.2)) xs = some ds ∧ Go.AM.Call Tryd.prog ann 6 ds = some [.bool true] := by
  obtain ⟨x0, ys0, rfl, h0, h⟩ := wtall_one h
  obtain ⟨x1, ys1, rfl, h1, h⟩ := wtall_one h
  obtain ⟨x2, ys2, rfl, h2, h⟩ := wtall_one h
  obtain rfl := wtall_nil h
  obtain ⟨a, rfl, ha⟩ := wt_nf (by kernel_rfl) (by kernel_rfl) h0
  obtain ⟨b, rfl, hb⟩ := WT.u64_inv (by kernel_rfl) (WTv.one (by kernel_rfl) h1)
  obtain ⟨c, rfl, hc1, hc2⟩ := WT.i64_inv (by kernel_rfl) (WTv.one (by kernel_rfl) h2)
  exact ⟨nfA a [.int .u64 (b : Int), .int .i64 c], by kernel_rfl, nfaSteps a ha hb c⟩
set_option maxRecDepth 100000 in
theorem nfaSteps_lifted (os : Os) (started : os.Started) (H : Type) (enc : TypeId × Value → H) :
    ReturnsInHanded {} Tryd.checked os 6 .any (fun w args => (Rows.nfaStepsSpec.pre enc Tryd.prog Tryd.f6 [] false w args ∧ laidMetH Tryd.prog Rows.nfaStepsRow.laid w) ∧ sizedMet enc Tryd.prog Tryd.f6 (OpenSpec.ofChange Rows.nfaStepsSpec) false w args)
      (Rows.nfaStepsSpec.post enc Tryd.prog Tryd.f6 false true false false) := by
  refine returnsInHanded_of_change_and (C := Tryd.checked) (X := fun w _ => laidMetH Tryd.prog Rows.nfaStepsRow.laid w) (fun _ _ _ hh h => h.of_heap hh) own started (by kernel_rfl) Tryd.func6
    (ChangeSpec.witness_at (enc := enc) (C := Tryd.checked) (os := os) (X := fun w _ => laidMetH Tryd.prog Rows.nfaStepsRow.laid w) false (laidWorld os) #[.agg #[.int .i64 0, .int .i64 0, .int .u64 0, .int .u64 0, .slice none 0 0], .int .u64 0, .int .i64 0] 8 rfl (by kernel_rfl) (by kernel_rfl) (by kernel_rfl) (by kernel_rfl) (by kernel_rfl) (laidWorld_met os _)) ?_
  intro W base args ds gs before hval hW _ _ hL _
  refine law_contract (A := ann) (key := 6) (L := [25, 3, 22, 23, 38]) (tb := 4) fine mixed Tryd.func6 (by kernel_rfl) (by kernel_rfl) (by kernel_rfl) (by kernel_rfl) (by kernel_rfl) rfl ?_ (by kernel_rfl) (by kernel_rfl) (by kernel_rfl) (by kernel_rfl) (by kernel_rfl) ?_ (globOk hL) hval hW
  · intro ds hds
    match ds, hds with
    | [d0, d1, d2], _ => rfl
  · exact nfaSteps_wt
theorem nfaSteps_row : Rows.NfaStepsSaid :=
  OpenClaim.holds_of_wide 6 Tryd.f6 rfl rfl rfl rfl rfl rfl rfl ⟨rfl, rfl, rfl, rfl, rfl⟩ rfl rfl rfl rfl rfl (by kernel_rfl) Tryd.func6 (by kernel_rfl)
    (of_decide_eq_true (by kernel_rfl)) (by unfold Func.isWrapper; first | (rw [if_pos (by decide +kernel)]; kernel_rfl) | (rw [if_neg (by decide +kernel)]; exact ⟨rfl, rfl⟩))
    (fun os started H enc _ => nfaSteps_lifted os started H enc)
theorem nfaSteps_holds : Rows.NfaStepsCardSaid :=
  Claim7.holds_tied_plain_at .later [] [.data] true (true, "d1a67acc17534d703a33c302454e087c86d8831a37e6032a7dba0a3709da1b84") false
    nfaSteps_row (fun _ h => by cases h) (by kernel_rfl) (fun _ h => by cases h) nfaSteps_row_tie rfl ⟨rfl, rfl⟩ (by kernel_rfl) rfl
    (fun f fn hf hfn => by
      obtain rfl : f = 6 := Option.some.inj ((show Tryd.prog.funcNamed "semigroup/semigrouplaw06.NfaSteps" = some 6 by kernel_rfl).symm.trans hf) |>.symm
      obtain rfl : fn = Tryd.f6 := (Option.some.inj (Tryd.func6.symm.trans hfn)).symm
      exact ⟨by kernel_rfl, fun j t ht => by
        rw [show Tryd.f6.params = #[25, 22, 3] by kernel_rfl] at ht
        rcases j with _ | j
        · obtain rfl : (25 : TypeId) = t := by simpa using ht
          exact (show Tryd.prog.wantsStandIn 25 = false by kernel_rfl)
        rcases j with _ | j
        · obtain rfl : (22 : TypeId) = t := by simpa using ht
          exact (show Tryd.prog.wantsStandIn 22 = false by kernel_rfl)
        rcases j with _ | j
        · obtain rfl : (3 : TypeId) = t := by simpa using ht
          exact (show Tryd.prog.wantsStandIn 3 = false by kernel_rfl)
        simp at ht⟩)
    (by kernel_rfl)
#print axioms nfaSteps_holds
end Go.Proofs.YtklgbopekjljpaaDoor
