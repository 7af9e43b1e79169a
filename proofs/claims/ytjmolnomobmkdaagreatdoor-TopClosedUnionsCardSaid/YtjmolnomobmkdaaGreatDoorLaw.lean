/-
  The card of TopClosedUnions holds.
-/
import Derived.Test.YtjmolnomobmkdaaGreatDoorRows
import Derived.Test.YtjmolnomobmkdaaGreatDoorCards
import Derived.Test.YtjmolnomobmkdaaGreatDoorTie
import Derived.WalkKit
import Derived.ProofKit
import Derived.OpenShut
import Derived.ChangeSame
import Derived.ChangeVars
import Derived.JoinedOf
import Derived.SevenTiedAt
import Derived.Test.YtjmolnomobmkdaaGreatDoorP10
set_option linter.unusedVariables false
set_option linter.unusedSimpArgs false
set_option linter.unusedSectionVars false
namespace Go.Proofs.YtjmolnomobmkdaaGreatDoor
open Go Go.AM Go.ChangeShapes Go.WideShapes Go.ChangeAt Go.RowKit
theorem ahF (xs:List V) (h:vp Tryz.prog [22] xs): ∃ds,vq ((mh.sin 3).cu.map (·.2)) xs=some ds∧Go.AM.Call Tryz.prog mh 3 ds=some [.bool true]:=by
 obtain ⟨x0,ys0,rfl,h0,h⟩:=ahG h;obtain rfl:=ahH h;obtain ⟨a,rfl,ha⟩:=ahI (by kernel_rfl) (by kernel_rfl) h0;exact ⟨[XE a],by kernel_rfl,ahJ a⟩
set_option maxRecDepth 100000 in
theorem ahK (os:Os) (started:os.Started) (H:Type) (enc:TypeId×Value→H):
  ReturnsInHanded {} Tryz.checked os 3 .any (fun w args=>(Rows.topClosedUnionsSpec.pre enc Tryz.prog Tryz.f3 [] false w args∧laidMetH Tryz.prog Rows.topClosedUnionsRow.laid w)∧sizedMet enc Tryz.prog Tryz.f3 (OpenSpec.ofChange Rows.topClosedUnionsSpec) false w args)
   (Rows.topClosedUnionsSpec.post enc Tryz.prog Tryz.f3 false true false false):=by
 refine returnsInHanded_of_change_and (C:=Tryz.checked) (X:=fun w _=>laidMetH Tryz.prog Rows.topClosedUnionsRow.laid w) (fun _ _ _ hh h=>h.of_heap hh) own started (by kernel_rfl) Tryz.func3
  (ChangeSpec.witness_at (enc:=enc) (C:=Tryz.checked) (os:=os) (X:=fun w _=>laidMetH Tryz.prog Rows.topClosedUnionsRow.laid w) false (XF os) #[.slice none 0 0] 8 rfl (by kernel_rfl) (by kernel_rfl) (by kernel_rfl) (by kernel_rfl) (by kernel_rfl) (ahL os _)) ?_
 intro W base args ds gs before jz hW _ _ hL _;refine ahM (A:=mh) (key:=3) (L:=[22,3]) (tb:=4) ahN mixed Tryz.func3 (by kernel_rfl) (by kernel_rfl) (by kernel_rfl) (by kernel_rfl) (by kernel_rfl) rfl ?_ (by kernel_rfl) (by kernel_rfl) (by kernel_rfl) (by kernel_rfl) (by kernel_rfl) (by kernel_rfl) ?_ (ahO hL) jz hW
 ·intro ds pB
  match ds,pB with
  | [d0],_=>rfl
 ·exact ahF
theorem ahP:Rows.TopClosedUnionsSaid:=
 OpenClaim.holds_of_wide 3 Tryz.f3 rfl rfl rfl rfl rfl rfl rfl ⟨rfl,rfl,rfl,rfl,rfl⟩ rfl rfl rfl rfl rfl (by kernel_rfl) Tryz.func3 (by kernel_rfl)
  (EF (by kernel_rfl)) (by unfold Func.isWrapper;first|(rw[aB (by decide+kernel)];kernel_rfl)|(rw[ax (by decide+kernel)];exact ⟨rfl,rfl⟩))
  (fun os started H enc _=>ahK os started H enc)
theorem topClosedUnions_holds:Rows.TopClosedUnionsCardSaid:=
 Claim7.holds_tied_plain_at .later [] [.data] true (true, "e5a97a4297a1ec9ea2f2e5f55ffabaf936a4bf15d96e2ec67bdba79430dc4ff7") false
  ahP (fun _ h=>by cases h) (by kernel_rfl) (fun _ h=>by cases h) topClosedUnions_row_tie rfl ⟨rfl,rfl⟩ (by kernel_rfl) rfl
  (fun f fn hf hfn=>by
   obtain rfl : f = 3 := dN ((show Tryz.prog.funcNamed "semigroup/semigrouptop.TopClosedUnions" = some 3 by kernel_rfl).symm.trans hf) |>.symm;obtain rfl:fn=Tryz.f3:=(dN (Tryz.func3.symm.trans hfn)).symm;exact ⟨by kernel_rfl,fun j t ht=>by
    rw[show Tryz.f3.params= #[22] by kernel_rfl] at ht;rcases j with _|j
    ·obtain rfl:(22:TypeId)=t:=by simpa using ht
     exact (show Tryz.prog.wantsStandIn 22=false by kernel_rfl)
    simp at ht⟩)
  (by kernel_rfl)
#print axioms topClosedUnions_holds
end Go.Proofs.YtjmolnomobmkdaaGreatDoor
