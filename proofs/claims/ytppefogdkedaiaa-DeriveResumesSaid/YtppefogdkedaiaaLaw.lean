/-
  DeriveResumes holds.
-/
import Derived.Test.YtppefogdkedaiaaRows
import Derived.WalkKit
import Derived.ProofKit
import Derived.OpenShut
import Derived.Test.YtppefogdkedaiaaP6
set_option linter.unusedVariables false
set_option linter.unusedSimpArgs false
namespace Go.Proofs.Ytppefogdkedaiaa
open Go Go.AM Go.ChangeShapes Go.WideShapes Go.ChangeAt Go.RowKit
theorem own:ownKnob Try.prog.godebug=none:=by kernel_rfl
theorem Vb:yj Try.prog:=Vc (by kernel_rfl)
theorem mixed:Try.prog.follows .mixedOrders=true:=by kernel_rfl
theorem Vd (xs:List V) (h:pJ Try.prog [24,5,5] xs): ∃ds,pK ((ax.sin 9).bK.map (·.2)) xs=some ds∧Go.AM.Call Try.prog ax 9 ds=some [.bool true]:=by
 obtain ⟨x0,ys0,rfl,h0,h⟩:=Gt h
 obtain ⟨x1,ys1,rfl,h1,h⟩:=Gt h
 obtain ⟨x2,ys2,rfl,U,h⟩:=Gt h
 obtain rfl:=Ve h
 obtain ⟨a,rfl,ha⟩:=L0 _ _ (yk _) h0
 obtain ⟨b,rfl,hb⟩:=WT.yl (by kernel_rfl) (jn.one (by kernel_rfl) h1)
 obtain ⟨c,rfl,hc⟩:=WT.yl (by kernel_rfl) (jn.one (by kernel_rfl) U)
 exact ⟨bM a [.int .u8 b,.int .u8 c],by (rw[Ex.eF a];kernel_rfl),Vf a ha b c⟩
set_option maxRecDepth 100000 in
theorem Vg (os:Os) (started:os.Started) (H:Type) (enc:TypeId × Value→H):
  ReturnsInHanded {} Try.checked os 9 .any (Rows.deriveResumesSpec.pre6 enc Try.prog Try.f9 Rows.deriveResumesRow.domain false) (Rows.deriveResumesSpec.post enc Try.prog Try.f9 false true false false):=by
 refine returnsInHanded_of_change (C:=Try.checked) own started (by kernel_rfl) Try.func9
  (ChangeSpec.witness6 (enc:=enc) (C:=Try.checked) false ⟨#[],#[.agg #[.int .i64 0,.int .i64 0,.slice none 0 0],.int .u8 0,.int .u8 0],[]⟩ 8 (by kernel_rfl) (by kernel_rfl) (by kernel_rfl) (by kernel_rfl)) ?_
 intro W base args ds gs before eN hW _ _
 refine Vh (A:=ax) (key:=9) (L:=[24,3,22,5]) (tb:=4) (Vi Vb) mixed Try.func9 (by kernel_rfl) (by kernel_rfl) (by kernel_rfl) (by kernel_rfl) (by kernel_rfl) rfl ?_ (by kernel_rfl) (by kernel_rfl) (by kernel_rfl) (by kernel_rfl) (by kernel_rfl) (by kernel_rfl) ?_ fZ.none eN hW
 ·intro ds kV
  match ds,kV with
  | [d0,d1,d2],_=>rfl
 ·exact Vd
theorem deriveResumes_holds:Rows.DeriveResumesSaid:=
 OpenClaim.holds_of_wide 9 Try.f9 rfl rfl rfl rfl rfl rfl rfl ⟨rfl,rfl,rfl,rfl,rfl⟩ rfl rfl rfl rfl rfl (by kernel_rfl) Try.func9 (by kernel_rfl)
  (gy (by kernel_rfl)) (by unfold Func.isWrapper;first|(rw[aj (by decide+kernel)];kernel_rfl)|(rw[ah (by decide+kernel)];exact ⟨rfl,rfl⟩))
  (fun os started H enc _=>Vg os started H enc)
#print axioms deriveResumes_holds
end Go.Proofs.Ytppefogdkedaiaa
