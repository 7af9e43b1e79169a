/-
  The card of NfaPositions holds.
-/
import Derived.Test.YtjdpkmoloccebaaDoorRows
import Derived.Test.YtjdpkmoloccebaaDoorCards
import Derived.Test.YtjdpkmoloccebaaDoorTie
import Derived.WalkKit
import Derived.ProofKit
import Derived.OpenShut
import Derived.ChangeSame
import Derived.ChangeVars
import Derived.JoinedOf
import Derived.SevenTiedAt
import Derived.Test.YtjdpkmoloccebaaDoorP6
set_option linter.unusedVariables false
set_option linter.unusedSimpArgs false
namespace Go.Proofs.YtjdpkmoloccebaaDoor
open Go Go.AM Go.ChangeShapes Go.WideShapes Go.ChangeAt Go.RowKit
theorem nfaPositions_wt (xs : List V) (h : WTall Tryd.prog [32, 3] xs) : ∃ ds, readVs ((ann.sin 4).slots.map (·.2)) xs = some ds ∧ Go.AM.Call Tryd.prog ann 4 ds = some [.bool true] := by
  obtain ⟨x0, ys0, rfl, h0, h⟩ := wtall_one h
  obtain ⟨x1, ys1, rfl, h1, h⟩ := wtall_one h
  obtain rfl := wtall_nil h
  obtain ⟨a, rfl, ha⟩ := wt_ex _ _ (Nat.lt_succ_self _) h0
  obtain ⟨b, rfl, hb⟩ := WT.i64_inv (by kernel_rfl) (WTv.one (by kernel_rfl) h1)
  exact ⟨exA a [.int .i64 b], by (rw [Ex.enc_eq a]; kernel_rfl), nfaPositions a ha b⟩
set_option maxRecDepth 100000 in
theorem nfaPositions_lifted (os : Os) (started : os.Started) (H : Type) (enc : TypeId × Value → H) :
    ReturnsInHanded {} Tryd.checked os 4 .any (fun w args => (Rows.nfaPositionsSpec.pre enc Tryd.prog Tryd.f4 [] false w args ∧ laidMetH Tryd.prog Rows.nfaPositionsRow.laid w) ∧ sizedMet enc Tryd.prog Tryd.f4 (OpenSpec.ofChange Rows.nfaPositionsSpec) false w args)
      (Rows.nfaPositionsSpec.post enc Tryd.prog Tryd.f4 false true false false) := by
  refine returnsInHanded_of_change_and (C := Tryd.checked) (X := fun w _ => laidMetH Tryd.prog Rows.nfaPositionsRow.laid w) (fun _ _ _ hh h => h.of_heap hh) own started (by kernel_rfl) Tryd.func4
    (ChangeSpec.witness_at (enc := enc) (C := Tryd.checked) (os := os) (X := fun w _ => laidMetH Tryd.prog Rows.nfaPositionsRow.laid w) false (laidWorld os) #[.agg #[.int .i64 0, .int .i64 0, .slice none 0 0], .int .i64 0] 8 rfl (by kernel_rfl) (by kernel_rfl) (by kernel_rfl) (by kernel_rfl) (by kernel_rfl) (laidWorld_met os _)) ?_
  intro W base args ds gs before hval hW _ _ hL _
  refine law_contract (A := ann) (key := 4) (L := [32, 3, 30]) (tb := 4) fine mixed Tryd.func4 (by kernel_rfl) (by kernel_rfl) (by kernel_rfl) (by kernel_rfl) (by kernel_rfl) rfl ?_ (by kernel_rfl) (by kernel_rfl) (by kernel_rfl) (by kernel_rfl) (by kernel_rfl) (by kernel_rfl) ?_ (globOk hL) hval hW
  · intro ds hds
    match ds, hds with
    | [d0, d1], _ => rfl
  · exact nfaPositions_wt
theorem nfaPositions_row : Rows.NfaPositionsSaid :=
  OpenClaim.holds_of_wide 4 Tryd.f4 rfl rfl rfl rfl rfl rfl rfl ⟨rfl, rfl, rfl, rfl, rfl⟩ rfl rfl rfl rfl rfl (by kernel_rfl) Tryd.func4 (by kernel_rfl)
    (of_decide_eq_true (by kernel_rfl)) (by unfold Func.isWrapper; first | (rw [if_pos (by decide +kernel)]; kernel_rfl) | (rw [if_neg (by decide +kernel)]; exact ⟨rfl, rfl⟩))
    (fun os started H enc _ => nfaPositions_lifted os started H enc)
theorem nfaPositions_holds : Rows.NfaPositionsCardSaid :=
  Claim7.holds_tied_plain_at .later [] [.data] true (true, "d1a67acc17534d703a33c302454e087c86d8831a37e6032a7dba0a3709da1b84") false
    nfaPositions_row (fun _ h => by cases h) (by kernel_rfl) (fun _ h => by cases h) nfaPositions_row_tie rfl ⟨rfl, rfl⟩ (by kernel_rfl) rfl
    (fun f fn hf hfn => by
      obtain rfl : f = 4 := Option.some.inj ((show Tryd.prog.funcNamed "semigroup/semigrouplaw06.NfaPositions" = some 4 by kernel_rfl).symm.trans hf) |>.symm
      obtain rfl : fn = Tryd.f4 := (Option.some.inj (Tryd.func4.symm.trans hfn)).symm
      exact ⟨by kernel_rfl, fun j t ht => by
        rw [show Tryd.f4.params = #[32, 3] by kernel_rfl] at ht
        rcases j with _ | j
        · obtain rfl : (32 : TypeId) = t := by simpa using ht
          exact (show Tryd.prog.wantsStandIn 32 = false by kernel_rfl)
        rcases j with _ | j
        · obtain rfl : (3 : TypeId) = t := by simpa using ht
          exact (show Tryd.prog.wantsStandIn 3 = false by kernel_rfl)
        simp at ht⟩)
    (by kernel_rfl)
#print axioms nfaPositions_holds
end Go.Proofs.YtjdpkmoloccebaaDoor
