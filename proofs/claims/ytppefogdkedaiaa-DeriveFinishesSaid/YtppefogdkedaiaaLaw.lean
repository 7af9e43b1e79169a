/-
  DeriveFinishes holds.
-/
import Derived.Test.YtppefogdkedaiaaRows
import Derived.WalkKit
import Derived.ProofKit
import Derived.OpenShut
import Derived.Test.YtppefogdkedaiaaP6
set_option linter.unusedVariables false
set_option linter.unusedSimpArgs false
namespace Go.Proofs.Ytppefogdkedaiaa
open Go Go.AM Go.ChangeShapes Go.WideShapes Go.ChangeAt Go.RowKit
theorem own:ownKnob Try.prog.godebug=none:=by kernel_rfl
theorem Vg:xX Try.prog:=Vh (by kernel_rfl)
theorem mixed:Try.prog.follows .mixedOrders=true:=by kernel_rfl
theorem Vi (xs:List V) (h:pE Try.prog [24,5] xs): ∃ds,pF ((ax.sin 10).bJ.map (·.2)) xs=some ds∧Go.AM.Call Try.prog ax 10 ds=some [.bool true]:=by
 obtain ⟨x0,ys0,rfl,h0,h⟩:=LQ h
 obtain ⟨x1,ys1,rfl,h1,h⟩:=LQ h
 obtain rfl:=Vj h
 obtain ⟨a,rfl,ha⟩:=LR _ _ (xY _) h0
 obtain ⟨b,rfl,hb⟩:=WT.BP (by kernel_rfl) (jJ.one (by kernel_rfl) h1)
 exact ⟨bW a [.int .u8 b],by (rw[Ex.eC a];kernel_rfl),Vk a ha b hb⟩
set_option maxRecDepth 100000 in
theorem Vl (os:Os) (started:os.Started) (H:Type) (enc:TypeId × Value→H):
  ReturnsInHanded {} Try.checked os 10 .any (Rows.deriveFinishesSpec.pre6 enc Try.prog Try.f10 Rows.deriveFinishesRow.domain false) (Rows.deriveFinishesSpec.post enc Try.prog Try.f10 false true false false):=by
 refine returnsInHanded_of_change (C:=Try.checked) own started (by kernel_rfl) Try.func10
  (ChangeSpec.witness6 (enc:=enc) (C:=Try.checked) false ⟨#[],#[.agg #[.int .i64 0,.int .i64 0,.slice none 0 0],.int .u8 0],[]⟩ 8 (by kernel_rfl) (by kernel_rfl) (by kernel_rfl) (by kernel_rfl)) ?_
 intro W base args ds gs before eI hW _ _
 refine Vm (A:=ax) (key:=10) (L:=[24,3,22,5]) (tb:=4) (Vn Vg) mixed Try.func10 (by kernel_rfl) (by kernel_rfl) (by kernel_rfl) (by kernel_rfl) (by kernel_rfl) rfl ?_ (by kernel_rfl) (by kernel_rfl) (by kernel_rfl) (by kernel_rfl) (by kernel_rfl) (by kernel_rfl) ?_ fR.none eI hW
 ·intro ds kP
  match ds,kP with
  | [d0,d1],_=>rfl
 ·exact Vi
theorem deriveFinishes_holds:Rows.DeriveFinishesSaid:=
 OpenClaim.holds_of_wide 10 Try.f10 rfl rfl rfl rfl rfl rfl rfl ⟨rfl,rfl,rfl,rfl,rfl⟩ rfl rfl rfl rfl rfl (by kernel_rfl) Try.func10 (by kernel_rfl)
  (gP (by kernel_rfl)) (by unfold Func.isWrapper;first|(rw[aj (by decide+kernel)];kernel_rfl)|(rw[ai (by decide+kernel)];exact ⟨rfl,rfl⟩))
  (fun os started H enc _=>Vl os started H enc)
#print axioms deriveFinishes_holds
end Go.Proofs.Ytppefogdkedaiaa
