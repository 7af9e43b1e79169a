/-
  The card of TopClosedComplement holds.
-/
import Derived.Test.YtbpldbfoleicgaaGreatDoorRows
import Derived.Test.YtbpldbfoleicgaaGreatDoorCards
import Derived.Test.YtbpldbfoleicgaaGreatDoorTie
import Derived.WalkKit
import Derived.ProofKit
import Derived.OpenShut
import Derived.ChangeSame
import Derived.ChangeVars
import Derived.JoinedOf
import Derived.SevenTiedAt
import Derived.Test.YtbpldbfoleicgaaGreatDoorP10
set_option linter.unusedVariables false
set_option linter.unusedSimpArgs false
set_option linter.unusedSectionVars false
namespace Go.Proofs.YtbpldbfoleicgaaGreatDoor
open Go Go.AM Go.ChangeShapes Go.WideShapes Go.ChangeAt Go.RowKit
theorem afA (xs:List V) (h:ub Tryz.prog [22] xs): ∃ds,uc ((lR.sin 3).ch.map (·.2)) xs=some ds∧Go.AM.Call Tryz.prog lR 3 ds=some [.bool true]:=by
 obtain ⟨x0,ys0,rfl,h0,h⟩:=afB h;obtain rfl:=afC h;obtain ⟨a,rfl,ha⟩:=afD (by kernel_rfl) (by kernel_rfl) h0;exact ⟨[VC a],by kernel_rfl,afE a⟩
set_option maxRecDepth 100000 in
theorem afF (os:Os) (started:os.Started) (H:Type) (enc:TypeId×Value→H):
  ReturnsInHanded {} Tryz.checked os 3 .any (fun w args=>(Rows.topClosedComplementSpec.pre enc Tryz.prog Tryz.f3 [] false w args∧laidMetH Tryz.prog Rows.topClosedComplementRow.laid w)∧sizedMet enc Tryz.prog Tryz.f3 (OpenSpec.ofChange Rows.topClosedComplementSpec) false w args)
   (Rows.topClosedComplementSpec.post enc Tryz.prog Tryz.f3 false true false false):=by
 refine returnsInHanded_of_change_and (C:=Tryz.checked) (X:=fun w _=>laidMetH Tryz.prog Rows.topClosedComplementRow.laid w) (fun _ _ _ hh h=>h.of_heap hh) own started (by kernel_rfl) Tryz.func3
  (ChangeSpec.witness_at (enc:=enc) (C:=Tryz.checked) (os:=os) (X:=fun w _=>laidMetH Tryz.prog Rows.topClosedComplementRow.laid w) false (VD os) #[.slice none 0 0] 8 rfl (by kernel_rfl) (by kernel_rfl) (by kernel_rfl) (by kernel_rfl) (by kernel_rfl) (afG os _)) ?_
 intro W base args ds gs before jq hW _ _ hL _;refine afH (A:=lR) (key:=3) (L:=[22,3]) (tb:=4) afI mixed Tryz.func3 (by kernel_rfl) (by kernel_rfl) (by kernel_rfl) (by kernel_rfl) (by kernel_rfl) rfl ?_ (by kernel_rfl) (by kernel_rfl) (by kernel_rfl) (by kernel_rfl) (by kernel_rfl) (by kernel_rfl) ?_ (afJ hL) jq hW
 ·intro ds oJ
  match ds,oJ with
  | [d0],_=>rfl
 ·exact afA
theorem afK:Rows.TopClosedComplementSaid:=
 OpenClaim.holds_of_wide 3 Tryz.f3 rfl rfl rfl rfl rfl rfl rfl ⟨rfl,rfl,rfl,rfl,rfl⟩ rfl rfl rfl rfl rfl (by kernel_rfl) Tryz.func3 (by kernel_rfl)
  (of_decide_eq_true (by kernel_rfl)) (by unfold Func.isWrapper;first|(rw[aE (by decide+kernel)];kernel_rfl)|(rw[aF (by decide+kernel)];exact ⟨rfl,rfl⟩))
  (fun os started H enc _=>afF os started H enc)
theorem topClosedComplement_holds:Rows.TopClosedComplementCardSaid:=
 Claim7.holds_tied_plain_at .later [] [.data] true (true, "040ce14906b9bdfe8a712c8b377ce1b9bb2021e17754157ad05b42556d960b71") false
  afK (fun _ h=>by cases h) (by kernel_rfl) (fun _ h=>by cases h) topClosedComplement_row_tie rfl ⟨rfl,rfl⟩ (by kernel_rfl) rfl
  (fun f fn hf hfn=>by
   obtain rfl : f = 3 := dM ((show Tryz.prog.funcNamed "semigroup/semigrouptop.TopClosedComplement" = some 3 by kernel_rfl).symm.trans hf) |>.symm;obtain rfl:fn=Tryz.f3:=(dM (Tryz.func3.symm.trans hfn)).symm;exact ⟨by kernel_rfl,fun j t ht=>by
    rw[show Tryz.f3.params= #[22] by kernel_rfl] at ht;rcases j with _|j
    ·obtain rfl:(22:TypeId)=t:=by simpa using ht
     exact (show Tryz.prog.wantsStandIn 22=false by kernel_rfl)
    simp at ht⟩)
  (by kernel_rfl)
#print axioms topClosedComplement_holds
end Go.Proofs.YtbpldbfoleicgaaGreatDoor
