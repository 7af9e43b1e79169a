/-
  The card of StarfreeAgrees holds.
-/
import Derived.Test.YtpfiomngchimkaaGreatDoorRows
import Derived.Test.YtpfiomngchimkaaGreatDoorCards
import Derived.Test.YtpfiomngchimkaaGreatDoorTie
import Derived.WalkKit
import Derived.ProofKit
import Derived.OpenShut
import Derived.ChangeSame
import Derived.ChangeVars
import Derived.JoinedOf
import Derived.SevenTiedAt
import Derived.Test.YtpfiomngchimkaaGreatDoorP9
set_option linter.unusedVariables false
set_option linter.unusedSimpArgs false
set_option linter.unusedSectionVars false
set_option maxRecDepth 100000
namespace Go.Proofs.YtpfiomngchimkaaGreatDoor
open Go Go.AM Go.ChangeShapes Go.WideShapes Go.ChangeAt Go.RowKit
theorem aq1(xs:List V)(h:yj Tryz.prog [22,22] xs):∃ds,yk ((mC.sin 3).cW.map (·.2)) xs=some ds∧Go.AM.Call Tryz.prog mC 3 ds=some [.bool true]:=by
 obtain⟨x0,ys0,rfl,h0,h⟩:=afe h;obtain⟨x1,ys1,rfl,h1,h⟩:=afe h;obtain rfl:=aq2 h;obtain⟨a,rfl,ha⟩:=aff (by kernel_rfl) (by kernel_rfl) h0;obtain⟨b,rfl,hb⟩:=aff (by kernel_rfl) (by kernel_rfl) h1;exact⟨[HV a,HV b],by kernel_rfl,aq3 a b⟩
set_option maxRecDepth 100000 in
theorem aq4(os:Os)(started:os.Started)(H:Type)(enc:TypeId×Value→H):
  ReturnsInHanded {} Tryz.checked os 3 .any (fun w args=>(Rows.starfreeAgreesSpec.pre enc Tryz.prog Tryz.f3 [] false w args∧laidMetH Tryz.prog Rows.starfreeAgreesRow.laid w)∧sizedMet enc Tryz.prog Tryz.f3 (OpenSpec.ofChange Rows.starfreeAgreesSpec) false w args)
   (Rows.starfreeAgreesSpec.post enc Tryz.prog Tryz.f3 false true false false):=by
 refine returnsInHanded_of_change_and (C:=Tryz.checked) (X:=fun w _=>laidMetH Tryz.prog Rows.starfreeAgreesRow.laid w) (fun _ _ _ hh h=>h.of_heap hh) own started (by kernel_rfl) Tryz.func3
  (ChangeSpec.witness_at (enc:=enc) (C:=Tryz.checked) (os:=os) (X:=fun w _=>laidMetH Tryz.prog Rows.starfreeAgreesRow.laid w) false (afg os) #[.slice none 0 0,.slice none 0 0] 8 rfl (by kernel_rfl) (by kernel_rfl) (by kernel_rfl) (by kernel_rfl) (by kernel_rfl) (aq5 os _)) ?_
 intro W base args ds gs before iY hW _ _ hL _;refine aq6 (A:=mC) (key:=3) (L:=[22,3]) (tb:=4) aq7 mixed Tryz.func3 (by kernel_rfl) (by kernel_rfl) (by kernel_rfl) (by kernel_rfl) (by kernel_rfl) rfl ?_ (by kernel_rfl) (by kernel_rfl) (by kernel_rfl) (by kernel_rfl) (by kernel_rfl) (by kernel_rfl) ?_ (aq8 hL) iY hW
 ·intro ds ra
  match ds,ra with
  | [d0,d1],_=>rfl
 ·exact aq1
theorem aq9:Rows.StarfreeAgreesSaid:=
 OpenClaim.holds_of_wide 3 Tryz.f3 rfl rfl rfl rfl rfl rfl rfl ⟨rfl,rfl,rfl,rfl,rfl⟩ rfl rfl rfl rfl rfl (by kernel_rfl) Tryz.func3 (by kernel_rfl)
  (tH (by kernel_rfl)) (by unfold Func.isWrapper;first|(rw[ai (by decide+kernel)];kernel_rfl)|(rw[af (by decide+kernel)];exact⟨rfl,rfl⟩))
  (fun os started H enc _=>aq4 os started H enc)
theorem starfreeAgrees_holds:Rows.StarfreeAgreesCardSaid:=
 Claim7.holds_tied_plain_at .later [] [.data, .data, .data] true (true, "809d8df6753d1719bd77d2b32606500f9f5fc4c0de0a15d0b9185863f80ad50d") false
  aq9 (fun _ h=>by cases h) (by kernel_rfl) (fun _ h=>by cases h) starfreeAgrees_row_tie rfl ⟨rfl,rfl⟩ (by kernel_rfl) rfl
  (fun f fn hf hfn=>by
   obtain rfl : f = 3 := ee ((show Tryz.prog.funcNamed "semigroup/semigrouplaw31.StarfreeAgrees" = some 3 by kernel_rfl).symm.trans hf) |>.symm;obtain rfl:fn=Tryz.f3:=(ee (Tryz.func3.symm.trans hfn)).symm;exact ⟨by kernel_rfl,fun j t ht=>by
    rw[show Tryz.f3.params= #[22,22] by kernel_rfl]at ht;rcases j with _|j
    ·obtain rfl:(22:TypeId)=t:=by simpa using ht
     exact(show Tryz.prog.wantsStandIn 22=false by kernel_rfl)
    rcases j with _|j
    ·obtain rfl:(22:TypeId)=t:=by simpa using ht
     exact(show Tryz.prog.wantsStandIn 22=false by kernel_rfl)
    simp at ht⟩)
  (by kernel_rfl)
#print axioms starfreeAgrees_holds
end Go.Proofs.YtpfiomngchimkaaGreatDoor
