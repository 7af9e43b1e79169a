/-
  DeriveBuilds holds.
-/
import Derived.Test.YtppefogdkedaiaaRows
import Derived.WalkKit
import Derived.ProofKit
import Derived.OpenShut
import Derived.Test.YtppefogdkedaiaaP7
set_option linter.unusedVariables false
set_option linter.unusedSimpArgs false
namespace Go.Proofs.Ytppefogdkedaiaa
open Go Go.AM Go.ChangeShapes Go.WideShapes Go.ChangeAt Go.RowKit
theorem own:ownKnob Try.prog.godebug=none:=by kernel_rfl
theorem XK:y8 Try.prog:=XL (by kernel_rfl)
theorem mixed:Try.prog.follows .mixedOrders=true:=by kernel_rfl
theorem XM (xs:List V) (h:qm Try.prog [24,3] xs): ∃ds,qn ((ay.sin 3).bR.map (·.2)) xs=some ds∧Go.AM.Call Try.prog ay 3 ds=some [.bool true]:=by
 obtain ⟨x0,ys0,rfl,h0,h⟩:=N0 h
 obtain ⟨x1,ys1,rfl,h1,h⟩:=N0 h
 obtain rfl:=XN h
 obtain ⟨a,rfl,ha⟩:=N3 _ _ (y9 _) h0
 obtain ⟨b,rfl,hb⟩:=WT.XO (by kernel_rfl) (kp.one (by kernel_rfl) h1)
 exact ⟨bS a [.int .i64 b],by (rw[Ex.dg a];kernel_rfl),XP a ha b⟩
set_option maxRecDepth 100000 in
theorem XQ (os:Os) (started:os.Started) (H:Type) (enc:TypeId × Value→H):
  ReturnsInHanded {} Try.checked os 3 .any (Rows.deriveBuildsSpec.pre6 enc Try.prog Try.f3 Rows.deriveBuildsRow.domain false) (Rows.deriveBuildsSpec.post enc Try.prog Try.f3 false true false false):=by
 refine returnsInHanded_of_change (C:=Try.checked) own started (by kernel_rfl) Try.func3
  (ChangeSpec.witness6 (enc:=enc) (C:=Try.checked) false ⟨#[],#[.agg #[.int .i64 0,.int .i64 0,.slice none 0 0],.int .i64 0],[]⟩ 8 (by kernel_rfl) (by kernel_rfl) (by kernel_rfl) (by kernel_rfl)) ?_
 intro W base args ds gs before fb hW _ _
 refine XR (A:=ay) (key:=3) (L:=[24,3,22]) (tb:=4) (XS XK) mixed Try.func3 (by kernel_rfl) (by kernel_rfl) (by kernel_rfl) (by kernel_rfl) (by kernel_rfl) rfl ?_ (by kernel_rfl) (by kernel_rfl) (by kernel_rfl) (by kernel_rfl) (by kernel_rfl) (by kernel_rfl) ?_ gF.none fb hW
 ·intro ds lH
  match ds,lH with
  | [d0,d1],_=>rfl
 ·exact XM
theorem deriveBuilds_holds:Rows.DeriveBuildsSaid:=
 OpenClaim.holds_of_wide 3 Try.f3 rfl rfl rfl rfl rfl rfl rfl ⟨rfl,rfl,rfl,rfl,rfl⟩ rfl rfl rfl rfl rfl (by kernel_rfl) Try.func3 (by kernel_rfl)
  (kq (by kernel_rfl)) (by unfold Func.isWrapper;first|(rw[aj (by decide+kernel)];kernel_rfl)|(rw[ai (by decide+kernel)];exact ⟨rfl,rfl⟩))
  (fun os started H enc _=>XQ os started H enc)
#print axioms deriveBuilds_holds
end Go.Proofs.Ytppefogdkedaiaa
