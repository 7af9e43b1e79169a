/-
  The card of TopMinimalAnswers holds.
-/
import Derived.Test.YtmdfofkbhepjaaaGreatDoorRows
import Derived.Test.YtmdfofkbhepjaaaGreatDoorCards
import Derived.Test.YtmdfofkbhepjaaaGreatDoorTie
import Derived.WalkKit
import Derived.ProofKit
import Derived.OpenShut
import Derived.ChangeSame
import Derived.ChangeVars
import Derived.JoinedOf
import Derived.SevenTiedAt
import Derived.Test.YtmdfofkbhepjaaaGreatDoorP10
set_option linter.unusedVariables false
set_option linter.unusedSimpArgs false
set_option linter.unusedSectionVars false
namespace Go.Proofs.YtmdfofkbhepjaaaGreatDoor
open Go Go.AM Go.ChangeShapes Go.WideShapes Go.ChangeAt Go.RowKit
theorem agN (xs:List V) (h:uT Tryz.prog [22] xs): ∃ds,uU ((lU.sin 3).cp.map (·.2)) xs=some ds∧Go.AM.Call Tryz.prog lU 3 ds=some [.bool true]:=by
 obtain ⟨x0,ys0,rfl,h0,h⟩:=agO h;obtain rfl:=agP h;obtain ⟨a,rfl,ha⟩:=agQ (by kernel_rfl) (by kernel_rfl) h0;exact ⟨[WU a],by kernel_rfl,agR a⟩
set_option maxRecDepth 100000 in
theorem agS (os:Os) (started:os.Started) (H:Type) (enc:TypeId×Value→H):
  ReturnsInHanded {} Tryz.checked os 3 .any (fun w args=>(Rows.topMinimalAnswersSpec.pre enc Tryz.prog Tryz.f3 [] false w args∧laidMetH Tryz.prog Rows.topMinimalAnswersRow.laid w)∧sizedMet enc Tryz.prog Tryz.f3 (OpenSpec.ofChange Rows.topMinimalAnswersSpec) false w args)
   (Rows.topMinimalAnswersSpec.post enc Tryz.prog Tryz.f3 false true false false):=by
 refine returnsInHanded_of_change_and (C:=Tryz.checked) (X:=fun w _=>laidMetH Tryz.prog Rows.topMinimalAnswersRow.laid w) (fun _ _ _ hh h=>h.of_heap hh) own started (by kernel_rfl) Tryz.func3
  (ChangeSpec.witness_at (enc:=enc) (C:=Tryz.checked) (os:=os) (X:=fun w _=>laidMetH Tryz.prog Rows.topMinimalAnswersRow.laid w) false (WV os) #[.slice none 0 0] 8 rfl (by kernel_rfl) (by kernel_rfl) (by kernel_rfl) (by kernel_rfl) (by kernel_rfl) (agT os _)) ?_
 intro W base args ds gs before jn hW _ _ hL _;refine agU (A:=lU) (key:=3) (L:=[22,3]) (tb:=4) agV mixed Tryz.func3 (by kernel_rfl) (by kernel_rfl) (by kernel_rfl) (by kernel_rfl) (by kernel_rfl) rfl ?_ (by kernel_rfl) (by kernel_rfl) (by kernel_rfl) (by kernel_rfl) (by kernel_rfl) (by kernel_rfl) ?_ (agW hL) jn hW
 ·intro ds o4
  match ds,o4 with
  | [d0],_=>rfl
 ·exact agN
theorem agX:Rows.TopMinimalAnswersSaid:=
 OpenClaim.holds_of_wide 3 Tryz.f3 rfl rfl rfl rfl rfl rfl rfl ⟨rfl,rfl,rfl,rfl,rfl⟩ rfl rfl rfl rfl rfl (by kernel_rfl) Tryz.func3 (by kernel_rfl)
  (of_decide_eq_true (by kernel_rfl)) (by unfold Func.isWrapper;first|(rw[aB (by decide+kernel)];kernel_rfl)|(rw[aC (by decide+kernel)];exact ⟨rfl,rfl⟩))
  (fun os started H enc _=>agS os started H enc)
theorem topMinimalAnswers_holds:Rows.TopMinimalAnswersCardSaid:=
 Claim7.holds_tied_plain_at .later [] [.data] true (true, "40617027917db8bd4fa3393733e9a86557ac971bca04408a08d7c82772e6fe01") false
  agX (fun _ h=>by cases h) (by kernel_rfl) (fun _ h=>by cases h) topMinimalAnswers_row_tie rfl ⟨rfl,rfl⟩ (by kernel_rfl) rfl
  (fun f fn hf hfn=>by
   obtain rfl : f = 3 := dL ((show Tryz.prog.funcNamed "semigroup/semigrouptop.TopMinimalAnswers" = some 3 by kernel_rfl).symm.trans hf) |>.symm;obtain rfl:fn=Tryz.f3:=(dL (Tryz.func3.symm.trans hfn)).symm;exact ⟨by kernel_rfl,fun j t ht=>by
    rw[show Tryz.f3.params= #[22] by kernel_rfl] at ht;rcases j with _|j
    ·obtain rfl:(22:TypeId)=t:=by simpa using ht
     exact (show Tryz.prog.wantsStandIn 22=false by kernel_rfl)
    simp at ht⟩)
  (by kernel_rfl)
#print axioms topMinimalAnswers_holds
end Go.Proofs.YtmdfofkbhepjaaaGreatDoor
