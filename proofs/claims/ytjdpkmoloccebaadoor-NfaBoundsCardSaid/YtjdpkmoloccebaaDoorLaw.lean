/-
  The card of NfaBounds holds.
-/
import Derived.Test.YtjdpkmoloccebaaDoorRows
import Derived.Test.YtjdpkmoloccebaaDoorCards
import Derived.Test.YtjdpkmoloccebaaDoorTie
import Derived.WalkKit
import Derived.ProofKit
import Derived.OpenShut
import Derived.ChangeSame
import Derived.ChangeVars
import Derived.JoinedOf
import Derived.SevenTiedAt
import Derived.Test.YtjdpkmoloccebaaDoorP5
set_option linter.unusedVariables false
set_option linter.unusedSimpArgs false
namespace Go.Proofs.YtjdpkmoloccebaaDoor
open Go Go.AM Go.ChangeShapes Go.WideShapes Go.ChangeAt Go.RowKit
theorem nfaBounds_wt (xs : List V) (h : WTall Tryd.prog [32, 3] xs) : ∃ ds, readVs ((ann.sin 5).slots.map (·.2)) xs = some ds ∧ Go.AM.Call Tryd.prog ann 5 ds = some [.bool true] := by
  obtain ⟨x0, ys0, rfl, h0, h⟩ := wtall_one h
  obtain ⟨x1, ys1, rfl, h1, h⟩ := wtall_one h
  obtain rfl := wtall_nil h
  obtain ⟨a, rfl, ha⟩ := wt_ex _ _ (Nat.lt_succ_self _) h0
  obtain ⟨b, rfl, hb⟩ := WT.i64_inv (by kernel_rfl) (WTv.one (by kernel_rfl) h1)
  exact ⟨exA a [.int .i64 b], by (rw [Ex.enc_eq a]; kernel_rfl), nfaBounds a ha b⟩
set_option maxRecDepth 100000 in
theorem nfaBounds_lifted (os : Os) (started : os.Started) (H : Type) (enc : TypeId × Value → H) :
    ReturnsInHanded {} Tryd.checked os 5 .any (fun w args => (Rows.nfaBoundsSpec.pre enc Tryd.prog Tryd.f5 [] false w args ∧ laidMetH Tryd.prog Rows.nfaBoundsRow.laid w) ∧ sizedMet enc Tryd.prog Tryd.f5 (OpenSpec.ofChange Rows.nfaBoundsSpec) false w args)
      (Rows.nfaBoundsSpec.post enc Tryd.prog Tryd.f5 false true false false) := by
  refine returnsInHanded_of_change_and (C := Tryd.checked) (X := fun w _ => laidMetH Tryd.prog Rows.nfaBoundsRow.laid w) (fun _ _ _ hh h => h.of_heap hh) own started (by kernel_rfl) Tryd.func5
    (ChangeSpec.witness_at (enc := enc) (C := Tryd.checked) (os := os) (X := fun w _ => laidMetH Tryd.prog Rows.nfaBoundsRow.laid w) false (laidWorld os) #[.agg #[.int .i64 0, .int .i64 0, .slice none 0 0], .int .i64 0] 8 rfl (by kernel_rfl) (by kernel_rfl) (by kernel_rfl) (by kernel_rfl) (by kernel_rfl) (laidWorld_met os _)) ?_
  intro W base args ds gs before hval hW _ _ hL _
  refine law_contract (A := ann) (key := 5) (L := [32, 3, 30]) (tb := 4) fine mixed Tryd.func5 (by kernel_rfl) (by kernel_rfl) (by kernel_rfl) (by kernel_rfl) (by kernel_rfl) rfl ?_ (by kernel_rfl) (by kernel_rfl) (by kernel_rfl) (by kernel_rfl) (by kernel_rfl) (by kernel_rfl) ?_ (globOk hL) hval hW
  · intro ds hds
    match ds, hds with
    | [d0, d1], _ => rfl
  · exact nfaBounds_wt
theorem nfaBounds_row : Rows.NfaBoundsSaid :=
  OpenClaim.holds_of_wide 5 Tryd.f5 rfl rfl rfl rfl rfl rfl rfl ⟨rfl, rfl, rfl, rfl, rfl⟩ rfl rfl rfl rfl rfl (by kernel_rfl) Tryd.func5 (by kernel_rfl)
    (of_decide_eq_true (by kernel_rfl)) (by unfold Func.isWrapper; first | (rw [if_pos (by decide +kernel)]; kernel_rfl) | (rw [if_neg (by decide +kernel)]; exact ⟨rfl, rfl⟩))
    (fun os started H enc _ => nfaBounds_lifted os started H enc)
theorem nfaBounds_holds : Rows.NfaBoundsCardSaid :=
  Claim7.holds_tied_plain_at .later [] [.data] true (true, "d1a67acc17534d703a33c302454e087c86d8831a37e6032a7dba0a3709da1b84") false
    nfaBounds_row (fun _ h => by cases h) (by kernel_rfl) (fun _ h => by cases h) nfaBounds_row_tie rfl ⟨rfl, rfl⟩ (by kernel_rfl) rfl
    (fun f fn hf hfn => by
      obtain rfl : f = 5 := Option.some.inj ((show Tryd.prog.funcNamed "semigroup/semigrouplaw06.NfaBounds" = some 5 by kernel_rfl).symm.trans hf) |>.symm
      obtain rfl : fn = Tryd.f5 := (Option.some.inj (Tryd.func5.symm.trans hfn)).symm
      exact ⟨by kernel_rfl, fun j t ht => by
        rw [show Tryd.f5.params = #[32, 3] by kernel_rfl] at ht
        rcases j with _ | j
        · obtain rfl : (32 : TypeId) = t := by simpa using ht
          exact (show Tryd.prog.wantsStandIn 32 = false by kernel_rfl)
        rcases j with _ | j
        · obtain rfl : (3 : TypeId) = t := by simpa using ht
          exact (show Tryd.prog.wantsStandIn 3 = false by kernel_rfl)
        simp at ht⟩)
    (by kernel_rfl)
#print axioms nfaBounds_holds
end Go.Proofs.YtjdpkmoloccebaaDoor
