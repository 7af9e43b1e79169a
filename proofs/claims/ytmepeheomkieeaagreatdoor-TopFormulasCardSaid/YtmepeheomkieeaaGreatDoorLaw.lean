/-
  The card of TopFormulas holds.
-/
import Derived.Test.YtmepeheomkieeaaGreatDoorRows
import Derived.Test.YtmepeheomkieeaaGreatDoorCards
import Derived.Test.YtmepeheomkieeaaGreatDoorTie
import Derived.WalkKit
import Derived.ProofKit
import Derived.OpenShut
import Derived.ChangeSame
import Derived.ChangeVars
import Derived.JoinedOf
import Derived.SevenTiedAt
import Derived.Test.YtmepeheomkieeaaGreatDoorP8
set_option linter.unusedVariables false
set_option linter.unusedSimpArgs false
set_option linter.unusedSectionVars false
namespace Go.Proofs.YtmepeheomkieeaaGreatDoor
open Go Go.AM Go.ChangeShapes Go.WideShapes Go.ChangeAt Go.RowKit
theorem aoS(xs:List V)(h:yI Tryz.prog [22,22] xs):∃ds,yJ ((oB.sin 3).cY.map (·.2)) xs=some ds∧Go.AM.Call Tryz.prog oB 3 ds=some [.bool true]:=by
 obtain⟨x0,ys0,rfl,h0,h⟩:=ae1 h;obtain⟨x1,ys1,rfl,h1,h⟩:=ae1 h;obtain rfl:=aoT h;obtain⟨a,rfl,ha⟩:=ae2 (by kernel_rfl) (by kernel_rfl) h0;obtain⟨b,rfl,hb⟩:=ae2 (by kernel_rfl) (by kernel_rfl) h1;exact⟨[V6 a,V6 b],by kernel_rfl,aoU a b⟩
set_option maxRecDepth 100000 in
theorem aoV(os:Os)(started:os.Started)(H:Type)(enc:TypeId×Value→H):
  ReturnsInHanded {} Tryz.checked os 3 .any (fun w args=>(Rows.topFormulasSpec.pre enc Tryz.prog Tryz.f3 [] false w args∧laidMetH Tryz.prog Rows.topFormulasRow.laid w)∧sizedMet enc Tryz.prog Tryz.f3 (OpenSpec.ofChange Rows.topFormulasSpec) false w args)
   (Rows.topFormulasSpec.post enc Tryz.prog Tryz.f3 false true false false):=by
 refine returnsInHanded_of_change_and (C:=Tryz.checked) (X:=fun w _=>laidMetH Tryz.prog Rows.topFormulasRow.laid w) (fun _ _ _ hh h=>h.of_heap hh) own started (by kernel_rfl) Tryz.func3
  (ChangeSpec.witness_at (enc:=enc) (C:=Tryz.checked) (os:=os) (X:=fun w _=>laidMetH Tryz.prog Rows.topFormulasRow.laid w) false (ae3 os) #[.slice none 0 0,.slice none 0 0] 8 rfl (by kernel_rfl) (by kernel_rfl) (by kernel_rfl) (by kernel_rfl) (by kernel_rfl) (aoW os _)) ?_
 intro W base args ds gs before lQ hW _ _ hL _;refine aoX (A:=oB) (key:=3) (L:=[22,3]) (tb:=4) aoY mixed Tryz.func3 (by kernel_rfl) (by kernel_rfl) (by kernel_rfl) (by kernel_rfl) (by kernel_rfl) rfl ?_ (by kernel_rfl) (by kernel_rfl) (by kernel_rfl) (by kernel_rfl) (by kernel_rfl) (by kernel_rfl) ?_ (aoZ hL) lQ hW
 ·intro ds wE
  match ds,wE with
  | [d0,d1],_=>rfl
 ·exact aoS
theorem ao0:Rows.TopFormulasSaid:=
 OpenClaim.holds_of_wide 3 Tryz.f3 rfl rfl rfl rfl rfl rfl rfl ⟨rfl,rfl,rfl,rfl,rfl⟩ rfl rfl rfl rfl rfl (by kernel_rfl) Tryz.func3 (by kernel_rfl)
  (AA (by kernel_rfl)) (by unfold Func.isWrapper;first|(rw[aP (by decide+kernel)];kernel_rfl)|(rw[aM (by decide+kernel)];exact⟨rfl,rfl⟩))
  (fun os started H enc _=>aoV os started H enc)
theorem topFormulas_holds:Rows.TopFormulasCardSaid:=
 Claim7.holds_tied_plain_at .later [] [.data] true (true, "5c5761e33f5a4d8cc54b28505d125220128922f64d6e571e43bedec9a624d60f") false
  ao0 (fun _ h=>by cases h) (by kernel_rfl) (fun _ h=>by cases h) topFormulas_row_tie rfl ⟨rfl,rfl⟩ (by kernel_rfl) rfl
  (fun f fn hf hfn=>by
   obtain rfl : f = 3 := fP ((show Tryz.prog.funcNamed "semigroup/semigrouptop.TopFormulas" = some 3 by kernel_rfl).symm.trans hf) |>.symm;obtain rfl:fn=Tryz.f3:=(fP (Tryz.func3.symm.trans hfn)).symm;exact ⟨by kernel_rfl,fun j t ht=>by
    rw[show Tryz.f3.params= #[22,22] by kernel_rfl]at ht;rcases j with _|j
    ·obtain rfl:(22:TypeId)=t:=by simpa using ht
     exact(show Tryz.prog.wantsStandIn 22=false by kernel_rfl)
    rcases j with _|j
    ·obtain rfl:(22:TypeId)=t:=by simpa using ht
     exact(show Tryz.prog.wantsStandIn 22=false by kernel_rfl)
    simp at ht⟩)
  (by kernel_rfl)
#print axioms topFormulas_holds
end Go.Proofs.YtmepeheomkieeaaGreatDoor
