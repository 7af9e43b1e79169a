/-
  The card of NfaSums holds.
-/
import Derived.Test.YtjdpkmoloccebaaDoorRows
import Derived.Test.YtjdpkmoloccebaaDoorCards
import Derived.Test.YtjdpkmoloccebaaDoorTie
import Derived.WalkKit
import Derived.ProofKit
import Derived.OpenShut
import Derived.ChangeSame
import Derived.ChangeVars
import Derived.JoinedOf
import Derived.SevenTiedAt
import Derived.Test.YtjdpkmoloccebaaDoorP4
set_option linter.unusedVariables false
set_option linter.unusedSimpArgs false
namespace Go.Proofs.YtjdpkmoloccebaaDoor
open Go Go.AM Go.ChangeShapes Go.WideShapes Go.ChangeAt Go.RowKit
theorem nfaSums_wt (xs : List V) (h : WTall Tryd.prog [25, 25, 9] xs) : ∃ ds, readVs ((ann.sin 10).slots.map (·.2)) xs = some ds ∧ Go.AM.Call Tryd.prog ann 10 ds = some [.bool true] := by
  obtain ⟨x0, ys0, rfl, h0, h⟩ := wtall_one h
  obtain ⟨x1, ys1, rfl, h1, h⟩ := wtall_one h
  obtain ⟨x2, ys2, rfl, h2, h⟩ := wtall_one h
  obtain rfl := wtall_nil h
  obtain ⟨a, rfl, ha⟩ := wt_nf (by kernel_rfl) (by kernel_rfl) h0
  obtain ⟨b, rfl, hb⟩ := wt_nf (by kernel_rfl) (by kernel_rfl) h1
  obtain ⟨c, rfl, hc⟩ := WTv.str (by kernel_rfl) h2
  exact ⟨nfA a (nfA b [.str c]), by kernel_rfl, nfaSums a b ha hb c⟩
set_option maxRecDepth 100000 in
theorem nfaSums_lifted (os : Os) (started : os.Started) (H : Type) (enc : TypeId × Value → H) :
    ReturnsInHanded {} Tryd.checked os 10 .any (fun w args => (Rows.nfaSumsSpec.pre enc Tryd.prog Tryd.f10 [] false w args ∧ laidMetH Tryd.prog Rows.nfaSumsRow.laid w) ∧ sizedMet enc Tryd.prog Tryd.f10 (OpenSpec.ofChange Rows.nfaSumsSpec) false w args)
      (Rows.nfaSumsSpec.post enc Tryd.prog Tryd.f10 false true false false) := by
  refine returnsInHanded_of_change_and (C := Tryd.checked) (X := fun w _ => laidMetH Tryd.prog Rows.nfaSumsRow.laid w) (fun _ _ _ hh h => h.of_heap hh) own started (by kernel_rfl) Tryd.func10
    (ChangeSpec.witness_at (enc := enc) (C := Tryd.checked) (os := os) (X := fun w _ => laidMetH Tryd.prog Rows.nfaSumsRow.laid w) false (laidWorld os) #[.agg #[.int .i64 0, .int .i64 0, .int .u64 0, .int .u64 0, .slice none 0 0], .agg #[.int .i64 0, .int .i64 0, .int .u64 0, .int .u64 0, .slice none 0 0], .string ⟨#[]⟩] 8 rfl (by kernel_rfl) (by kernel_rfl) (by kernel_rfl) (by kernel_rfl) (by kernel_rfl) (laidWorld_met os _)) ?_
  intro W base args ds gs before hval hW _ _ hL _
  refine law_contract (A := ann) (key := 10) (L := [25, 3, 22, 23, 38, 9]) (tb := 4) fine mixed Tryd.func10 (by kernel_rfl) (by kernel_rfl) (by kernel_rfl) (by kernel_rfl) (by kernel_rfl) rfl ?_ (by kernel_rfl) (by kernel_rfl) (by kernel_rfl) (by kernel_rfl) (by kernel_rfl) ?_ (globOk hL) hval hW
  · intro ds hds
    match ds, hds with
    | [d0, d1, d2], _ => rfl
  · exact nfaSums_wt
theorem nfaSums_row : Rows.NfaSumsSaid :=
  OpenClaim.holds_of_wide 10 Tryd.f10 rfl rfl rfl rfl rfl rfl rfl ⟨rfl, rfl, rfl, rfl, rfl⟩ rfl rfl rfl rfl rfl (by kernel_rfl) Tryd.func10 (by kernel_rfl)
    (of_decide_eq_true (by kernel_rfl)) (by unfold Func.isWrapper; first | (rw [if_pos (by decide +kernel)]; kernel_rfl) | (rw [if_neg (by decide +kernel)]; exact ⟨rfl, rfl⟩))
    (fun os started H enc _ => nfaSums_lifted os started H enc)
theorem nfaSums_holds : Rows.NfaSumsCardSaid :=
  Claim7.holds_tied_plain_at .later [] [.data] true (true, "d1a67acc17534d703a33c302454e087c86d8831a37e6032a7dba0a3709da1b84") false
    nfaSums_row (fun _ h => by cases h) (by kernel_rfl) (fun _ h => by cases h) nfaSums_row_tie rfl ⟨rfl, rfl⟩ (by kernel_rfl) rfl
    (fun f fn hf hfn => by
      obtain rfl : f = 10 := Option.some.inj ((show Tryd.prog.funcNamed "semigroup/semigrouplaw06.NfaSums" = some 10 by kernel_rfl).symm.trans hf) |>.symm
      obtain rfl : fn = Tryd.f10 := (Option.some.inj (Tryd.func10.symm.trans hfn)).symm
      exact ⟨by kernel_rfl, fun j t ht => by
        rw [show Tryd.f10.params = #[25, 25, 9] by kernel_rfl] at ht
        rcases j with _ | j
        · obtain rfl : (25 : TypeId) = t := by simpa using ht
          exact (show Tryd.prog.wantsStandIn 25 = false by kernel_rfl)
        rcases j with _ | j
        · obtain rfl : (25 : TypeId) = t := by simpa using ht
          exact (show Tryd.prog.wantsStandIn 25 = false by kernel_rfl)
        rcases j with _ | j
        · obtain rfl : (9 : TypeId) = t := by simpa using ht
          exact (show Tryd.prog.wantsStandIn 9 = false by kernel_rfl)
        simp at ht⟩)
    (by kernel_rfl)
#print axioms nfaSums_holds
end Go.Proofs.YtjdpkmoloccebaaDoor
