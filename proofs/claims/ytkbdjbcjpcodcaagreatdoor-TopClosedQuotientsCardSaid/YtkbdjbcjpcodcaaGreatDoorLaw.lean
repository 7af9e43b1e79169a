/-
  The card of TopClosedQuotients holds.
-/
import Derived.Test.YtkbdjbcjpcodcaaGreatDoorRows
import Derived.Test.YtkbdjbcjpcodcaaGreatDoorCards
import Derived.Test.YtkbdjbcjpcodcaaGreatDoorTie
import Derived.WalkKit
import Derived.ProofKit
import Derived.OpenShut
import Derived.ChangeSame
import Derived.ChangeVars
import Derived.JoinedOf
import Derived.SevenTiedAt
import Derived.Test.YtkbdjbcjpcodcaaGreatDoorP10
set_option linter.unusedVariables false
set_option linter.unusedSimpArgs false
set_option linter.unusedSectionVars false
namespace Go.Proofs.YtkbdjbcjpcodcaaGreatDoor
open Go Go.AM Go.ChangeShapes Go.WideShapes Go.ChangeAt Go.RowKit
theorem agT (xs:List V) (h:uG Tryz.prog [22,22] xs): ∃ds,uH ((lY.sin 3).cx.map (·.2)) xs=some ds∧Go.AM.Call Tryz.prog lY 3 ds=some [.bool true]:=by
 obtain ⟨x0,ys0,rfl,h0,h⟩:=WI h;obtain ⟨x1,ys1,rfl,h1,h⟩:=WI h;obtain rfl:=agU h;obtain ⟨a,rfl,ha⟩:=WJ (by kernel_rfl) (by kernel_rfl) h0;obtain ⟨b,rfl,hb⟩:=WJ (by kernel_rfl) (by kernel_rfl) h1;exact ⟨[OY a,OY b],by kernel_rfl,agV a b⟩
set_option maxRecDepth 100000 in
theorem agW (os:Os) (started:os.Started) (H:Type) (enc:TypeId×Value→H):
  ReturnsInHanded {} Tryz.checked os 3 .any (fun w args=>(Rows.topClosedQuotientsSpec.pre enc Tryz.prog Tryz.f3 [] false w args∧laidMetH Tryz.prog Rows.topClosedQuotientsRow.laid w)∧sizedMet enc Tryz.prog Tryz.f3 (OpenSpec.ofChange Rows.topClosedQuotientsSpec) false w args)
   (Rows.topClosedQuotientsSpec.post enc Tryz.prog Tryz.f3 false true false false):=by
 refine returnsInHanded_of_change_and (C:=Tryz.checked) (X:=fun w _=>laidMetH Tryz.prog Rows.topClosedQuotientsRow.laid w) (fun _ _ _ hh h=>h.of_heap hh) own started (by kernel_rfl) Tryz.func3
  (ChangeSpec.witness_at (enc:=enc) (C:=Tryz.checked) (os:=os) (X:=fun w _=>laidMetH Tryz.prog Rows.topClosedQuotientsRow.laid w) false (WK os) #[.slice none 0 0,.slice none 0 0] 8 rfl (by kernel_rfl) (by kernel_rfl) (by kernel_rfl) (by kernel_rfl) (by kernel_rfl) (agX os _)) ?_
 intro W base args ds gs before jt hW _ _ hL _;refine agY (A:=lY) (key:=3) (L:=[22,3]) (tb:=4) agZ mixed Tryz.func3 (by kernel_rfl) (by kernel_rfl) (by kernel_rfl) (by kernel_rfl) (by kernel_rfl) rfl ?_ (by kernel_rfl) (by kernel_rfl) (by kernel_rfl) (by kernel_rfl) (by kernel_rfl) (by kernel_rfl) ?_ (ag0 hL) jt hW
 ·intro ds oY
  match ds,oY with
  | [d0,d1],_=>rfl
 ·exact agT
theorem ag1:Rows.TopClosedQuotientsSaid:=
 OpenClaim.holds_of_wide 3 Tryz.f3 rfl rfl rfl rfl rfl rfl rfl ⟨rfl,rfl,rfl,rfl,rfl⟩ rfl rfl rfl rfl rfl (by kernel_rfl) Tryz.func3 (by kernel_rfl)
  (D0 (by kernel_rfl)) (by unfold Func.isWrapper;first|(rw[aA (by decide+kernel)];kernel_rfl)|(rw[aw (by decide+kernel)];exact ⟨rfl,rfl⟩))
  (fun os started H enc _=>agW os started H enc)
theorem topClosedQuotients_holds:Rows.TopClosedQuotientsCardSaid:=
 Claim7.holds_tied_plain_at .later [] [.data] true (true, "fe42647b86e3c4f5395dc6a4f06a1d0842d5e61a1c86c3723b25e8fd9f2e56de") false
  ag1 (fun _ h=>by cases h) (by kernel_rfl) (fun _ h=>by cases h) topClosedQuotients_row_tie rfl ⟨rfl,rfl⟩ (by kernel_rfl) rfl
  (fun f fn hf hfn=>by
   obtain rfl : f = 3 := dU ((show Tryz.prog.funcNamed "semigroup/semigrouptop.TopClosedQuotients" = some 3 by kernel_rfl).symm.trans hf) |>.symm;obtain rfl:fn=Tryz.f3:=(dU (Tryz.func3.symm.trans hfn)).symm;exact ⟨by kernel_rfl,fun j t ht=>by
    rw[show Tryz.f3.params= #[22,22] by kernel_rfl] at ht;rcases j with _|j
    ·obtain rfl:(22:TypeId)=t:=by simpa using ht
     exact (show Tryz.prog.wantsStandIn 22=false by kernel_rfl)
    rcases j with _|j
    ·obtain rfl:(22:TypeId)=t:=by simpa using ht
     exact (show Tryz.prog.wantsStandIn 22=false by kernel_rfl)
    simp at ht⟩)
  (by kernel_rfl)
#print axioms topClosedQuotients_holds
end Go.Proofs.YtkbdjbcjpcodcaaGreatDoor
