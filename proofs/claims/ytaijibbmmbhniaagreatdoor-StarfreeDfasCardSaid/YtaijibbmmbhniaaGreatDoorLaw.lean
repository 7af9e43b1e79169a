/-
  The card of StarfreeDfas holds.
-/
import Derived.Test.YtaijibbmmbhniaaGreatDoorRows
import Derived.Test.YtaijibbmmbhniaaGreatDoorCards
import Derived.Test.YtaijibbmmbhniaaGreatDoorTie
import Derived.WalkKit
import Derived.ProofKit
import Derived.OpenShut
import Derived.ChangeSame
import Derived.ChangeVars
import Derived.JoinedOf
import Derived.SevenTiedAt
import Derived.Test.YtaijibbmmbhniaaGreatDoorP8
set_option linter.unusedVariables false
set_option linter.unusedSimpArgs false
set_option linter.unusedSectionVars false
namespace Go.Proofs.YtaijibbmmbhniaaGreatDoor
open Go Go.AM Go.ChangeShapes Go.WideShapes Go.ChangeAt Go.RowKit
theorem ajn (xs:List V) (h:uY Tryz.prog [22] xs): ∃ds,uZ ((lE.sin 3).cC.map (·.2)) xs=some ds∧Go.AM.Call Tryz.prog lE 3 ds=some [.bool true]:=by
 obtain ⟨x0,ys0,rfl,h0,h⟩:=ajo h;obtain rfl:=ajp h;obtain ⟨a,rfl,ha⟩:=ajq (by kernel_rfl) (by kernel_rfl) h0;exact ⟨[P6 a],by kernel_rfl,ajr a⟩
set_option maxRecDepth 100000 in
theorem ajs (os:Os) (started:os.Started) (H:Type) (enc:TypeId×Value→H):
  ReturnsInHanded {} Tryz.checked os 3 .any (fun w args=>(Rows.starfreeDfasSpec.pre enc Tryz.prog Tryz.f3 [] false w args∧laidMetH Tryz.prog Rows.starfreeDfasRow.laid w)∧sizedMet enc Tryz.prog Tryz.f3 (OpenSpec.ofChange Rows.starfreeDfasSpec) false w args)
   (Rows.starfreeDfasSpec.post enc Tryz.prog Tryz.f3 false true false false):=by
 refine returnsInHanded_of_change_and (C:=Tryz.checked) (X:=fun w _=>laidMetH Tryz.prog Rows.starfreeDfasRow.laid w) (fun _ _ _ hh h=>h.of_heap hh) own started (by kernel_rfl) Tryz.func3
  (ChangeSpec.witness_at (enc:=enc) (C:=Tryz.checked) (os:=os) (X:=fun w _=>laidMetH Tryz.prog Rows.starfreeDfasRow.laid w) false (Y6 os) #[.slice none 0 0] 8 rfl (by kernel_rfl) (by kernel_rfl) (by kernel_rfl) (by kernel_rfl) (by kernel_rfl) (ajt os _)) ?_
 intro W base args ds gs before ig hW _ _ hL _;refine aju (A:=lE) (key:=3) (L:=[22,3]) (tb:=4) ajv mixed Tryz.func3 (by kernel_rfl) (by kernel_rfl) (by kernel_rfl) (by kernel_rfl) (by kernel_rfl) rfl ?_ (by kernel_rfl) (by kernel_rfl) (by kernel_rfl) (by kernel_rfl) (by kernel_rfl) (by kernel_rfl) ?_ (ajw hL) ig hW
 ·intro ds oZ
  match ds,oZ with
  | [d0],_=>rfl
 ·exact ajn
theorem ajx:Rows.StarfreeDfasSaid:=
 OpenClaim.holds_of_wide 3 Tryz.f3 rfl rfl rfl rfl rfl rfl rfl ⟨rfl,rfl,rfl,rfl,rfl⟩ rfl rfl rfl rfl rfl (by kernel_rfl) Tryz.func3 (by kernel_rfl)
  (D0 (by kernel_rfl)) (by unfold Func.isWrapper;first|(rw[ah (by decide+kernel)];kernel_rfl)|(rw[ag (by decide+kernel)];exact ⟨rfl,rfl⟩))
  (fun os started H enc _=>ajs os started H enc)
theorem starfreeDfas_holds:Rows.StarfreeDfasCardSaid:=
 Claim7.holds_tied_plain_at .later [] [.data, .data, .data] true (true, "181d7fd026335c7b0bd62720481ee2352266594a6a8fd49839d5db71d36e7102") false
  ajx (fun _ h=>by cases h) (by kernel_rfl) (fun _ h=>by cases h) starfreeDfas_row_tie rfl ⟨rfl,rfl⟩ (by kernel_rfl) rfl
  (fun f fn hf hfn=>by
   obtain rfl : f = 3 := ew ((show Tryz.prog.funcNamed "semigroup/semigrouplaw31.StarfreeDfas" = some 3 by kernel_rfl).symm.trans hf) |>.symm;obtain rfl:fn=Tryz.f3:=(ew (Tryz.func3.symm.trans hfn)).symm;exact ⟨by kernel_rfl,fun j t ht=>by
    rw[show Tryz.f3.params= #[22] by kernel_rfl] at ht;rcases j with _|j
    ·obtain rfl:(22:TypeId)=t:=by simpa using ht
     exact (show Tryz.prog.wantsStandIn 22=false by kernel_rfl)
    simp at ht⟩)
  (by kernel_rfl)
#print axioms starfreeDfas_holds
end Go.Proofs.YtaijibbmmbhniaaGreatDoor
