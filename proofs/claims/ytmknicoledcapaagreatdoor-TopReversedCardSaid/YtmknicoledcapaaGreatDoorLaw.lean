/-
  The card of TopReversed holds.
-/
import Derived.Test.YtmknicoledcapaaGreatDoorRows
import Derived.Test.YtmknicoledcapaaGreatDoorCards
import Derived.Test.YtmknicoledcapaaGreatDoorTie
import Derived.WalkKit
import Derived.ProofKit
import Derived.OpenShut
import Derived.ChangeSame
import Derived.ChangeVars
import Derived.JoinedOf
import Derived.SevenTiedAt
import Derived.Test.YtmknicoledcapaaGreatDoorP11
set_option linter.unusedVariables false
set_option linter.unusedSimpArgs false
set_option linter.unusedSectionVars false
namespace Go.Proofs.YtmknicoledcapaaGreatDoor
open Go Go.AM Go.ChangeShapes Go.WideShapes Go.ChangeAt Go.RowKit
theorem aml(xs:List V)(h:xl Tryz.prog [22] xs):∃ds,xm ((lY.sin 3).ch.map (·.2)) xs=some ds∧Go.AM.Call Tryz.prog lY 3 ds=some [.bool true]:=by
 obtain⟨x0,ys0,rfl,h0,h⟩:=amm h;obtain rfl:=amn h;obtain⟨a,rfl,ha⟩:=amo (by kernel_rfl) (by kernel_rfl) h0;exact⟨[abA a],by kernel_rfl,amp a⟩
set_option maxRecDepth 100000 in
theorem amq(os:Os)(started:os.Started)(H:Type)(enc:TypeId×Value→H):
  ReturnsInHanded {} Tryz.checked os 3 .any (fun w args=>(Rows.topReversedSpec.pre enc Tryz.prog Tryz.f3 [] false w args∧laidMetH Tryz.prog Rows.topReversedRow.laid w)∧sizedMet enc Tryz.prog Tryz.f3 (OpenSpec.ofChange Rows.topReversedSpec) false w args)
   (Rows.topReversedSpec.post enc Tryz.prog Tryz.f3 false true false false):=by
 refine returnsInHanded_of_change_and (C:=Tryz.checked) (X:=fun w _=>laidMetH Tryz.prog Rows.topReversedRow.laid w) (fun _ _ _ hh h=>h.of_heap hh) own started (by kernel_rfl) Tryz.func3
  (ChangeSpec.witness_at (enc:=enc) (C:=Tryz.checked) (os:=os) (X:=fun w _=>laidMetH Tryz.prog Rows.topReversedRow.laid w) false (abB os) #[.slice none 0 0] 8 rfl (by kernel_rfl) (by kernel_rfl) (by kernel_rfl) (by kernel_rfl) (by kernel_rfl) (amr os _)) ?_
 intro W base args ds gs before jT hW _ _ hL _;refine ams (A:=lY) (key:=3) (L:=[22,3]) (tb:=4) amt mixed Tryz.func3 (by kernel_rfl) (by kernel_rfl) (by kernel_rfl) (by kernel_rfl) (by kernel_rfl) rfl ?_ (by kernel_rfl) (by kernel_rfl) (by kernel_rfl) (by kernel_rfl) (by kernel_rfl) (by kernel_rfl) ?_ (amu hL) jT hW
 ·intro ds qt
  match ds,qt with
  | [d0],_=>rfl
 ·exact aml
theorem amv:Rows.TopReversedSaid:=
 OpenClaim.holds_of_wide 3 Tryz.f3 rfl rfl rfl rfl rfl rfl rfl ⟨rfl,rfl,rfl,rfl,rfl⟩ rfl rfl rfl rfl rfl (by kernel_rfl) Tryz.func3 (by kernel_rfl)
  (Gz (by kernel_rfl)) (by unfold Func.isWrapper;first|(rw[aF (by decide+kernel)];kernel_rfl)|(rw[aD (by decide+kernel)];exact⟨rfl,rfl⟩))
  (fun os started H enc _=>amq os started H enc)
theorem topReversed_holds:Rows.TopReversedCardSaid:=
 Claim7.holds_tied_plain_at .later [] [.data] true (true, "06e0ee4dfdf4eddb0d556a0ae80f66a34f33b7a5cb516987105c4dd28f71d0f9") false
  amv (fun _ h=>by cases h) (by kernel_rfl) (fun _ h=>by cases h) topReversed_row_tie rfl ⟨rfl,rfl⟩ (by kernel_rfl) rfl
  (fun f fn hf hfn=>by
   obtain rfl : f = 3 := eX ((show Tryz.prog.funcNamed "semigroup/semigrouptop.TopReversed" = some 3 by kernel_rfl).symm.trans hf) |>.symm;obtain rfl:fn=Tryz.f3:=(eX (Tryz.func3.symm.trans hfn)).symm;exact ⟨by kernel_rfl,fun j t ht=>by
    rw[show Tryz.f3.params= #[22] by kernel_rfl]at ht;rcases j with _|j
    ·obtain rfl:(22:TypeId)=t:=by simpa using ht
     exact(show Tryz.prog.wantsStandIn 22=false by kernel_rfl)
    simp at ht⟩)
  (by kernel_rfl)
#print axioms topReversed_holds
end Go.Proofs.YtmknicoledcapaaGreatDoor
