/-
  DeriveSteps holds.
-/
import Derived.Test.YtppefogdkedaiaaGreatRows
import Derived.WalkKit
import Derived.ProofKit
import Derived.OpenShut
import Derived.Test.YtppefogdkedaiaaGreatP7
set_option linter.unusedVariables false
set_option linter.unusedSimpArgs false
namespace Go.Proofs.YtppefogdkedaiaaGreat
open Go Go.AM Go.ChangeShapes Go.WideShapes Go.ChangeAt Go.RowKit
theorem own:ownKnob Tryz.prog.godebug=none:=by kernel_rfl
theorem Yz:zH Tryz.prog:=YA (by kernel_rfl)
theorem mixed:Tryz.prog.follows .mixedOrders=true:=by kernel_rfl
theorem YB (xs:List V) (h:qw Tryz.prog [24,3,25] xs): ∃ds,qx ((ax.sin 3).bZ.map (·.2)) xs=some ds∧Go.AM.Call Tryz.prog ax 3 ds=some [.bool true]:=by
 obtain ⟨x0,ys0,rfl,h0,h⟩:=IC h
 obtain ⟨x1,ys1,rfl,h1,h⟩:=IC h
 obtain ⟨x2,ys2,rfl,U,h⟩:=IC h
 obtain rfl:=YC h
 obtain ⟨a,rfl,ha⟩:=OI _ _ (zI _) h0
 obtain ⟨b,rfl,hb⟩:=WT.OJ (by kernel_rfl) (iO.one (by kernel_rfl) h1)
 obtain ⟨c,rfl,hc⟩:=YD (by kernel_rfl) (by kernel_rfl) U
 exact ⟨bQ a [.int .i64 b,ID c],by (rw[Ex.dx a];kernel_rfl),YE a ha b c⟩
set_option maxRecDepth 100000 in
theorem YF (os:Os) (started:os.Started) (H:Type) (enc:TypeId × Value→H):
  ReturnsInHanded {} Tryz.checked os 3 .any (Rows.deriveStepsSpec.pre6 enc Tryz.prog Tryz.f3 Rows.deriveStepsRow.domain false) (Rows.deriveStepsSpec.post enc Tryz.prog Tryz.f3 false true false false):=by
 refine returnsInHanded_of_change (C:=Tryz.checked) own started (by kernel_rfl) Tryz.func3
  (ChangeSpec.witness6 (enc:=enc) (C:=Tryz.checked) false ⟨#[],#[.agg #[.int .i64 0,.int .i64 0,.slice none 0 0],.int .i64 0,.slice none 0 0],[]⟩ 8 (by kernel_rfl) (by kernel_rfl) (by kernel_rfl) (by kernel_rfl)) ?_
 intro W base args ds gs before fc hW _ _
 refine YG (A:=ax) (key:=3) (L:=[24,3,22,25]) (tb:=4) (YH Yz) mixed Tryz.func3 (by kernel_rfl) (by kernel_rfl) (by kernel_rfl) (by kernel_rfl) (by kernel_rfl) rfl ?_ (by kernel_rfl) (by kernel_rfl) (by kernel_rfl) (by kernel_rfl) (by kernel_rfl) (by kernel_rfl) ?_ gE.none fc hW
 ·intro ds lJ
  match ds,lJ with
  | [d0,d1,d2],_=>rfl
 ·exact YB
theorem deriveSteps_holds:Rows.DeriveStepsSaid:=
 OpenClaim.holds_of_wide 3 Tryz.f3 rfl rfl rfl rfl rfl rfl rfl ⟨rfl,rfl,rfl,rfl,rfl⟩ rfl rfl rfl rfl rfl (by kernel_rfl) Tryz.func3 (by kernel_rfl)
  (gm (by kernel_rfl)) (by unfold Func.isWrapper;first|(rw[aj (by decide+kernel)];kernel_rfl)|(rw[ai (by decide+kernel)];exact ⟨rfl,rfl⟩))
  (fun os started H enc _=>YF os started H enc)
#print axioms deriveSteps_holds
end Go.Proofs.YtppefogdkedaiaaGreat
