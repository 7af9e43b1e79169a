/-
  DeriveStarts holds.
-/
import Derived.Test.YtppefogdkedaiaaRows
import Derived.WalkKit
import Derived.ProofKit
import Derived.OpenShut
import Derived.Test.YtppefogdkedaiaaP6
set_option linter.unusedVariables false
set_option linter.unusedSimpArgs false
namespace Go.Proofs.Ytppefogdkedaiaa
open Go Go.AM Go.ChangeShapes Go.WideShapes Go.ChangeAt Go.RowKit
theorem own:ownKnob Try.prog.godebug=none:=by kernel_rfl
theorem U7:yf Try.prog:=U8 (by kernel_rfl)
theorem mixed:Try.prog.follows .mixedOrders=true:=by kernel_rfl
theorem U9 (xs:List V) (h:pL Try.prog [24,3] xs): ∃ds,pM ((ax.sin 5).bJ.map (·.2)) xs=some ds∧Go.AM.Call Try.prog ax 5 ds=some [.bool true]:=by
 obtain ⟨x0,ys0,rfl,h0,h⟩:=L1 h
 obtain ⟨x1,ys1,rfl,h1,h⟩:=L1 h
 obtain rfl:=Va h
 obtain ⟨a,rfl,ha⟩:=L2 _ _ (yg _) h0
 obtain ⟨b,rfl,hb⟩:=WT.Vb (by kernel_rfl) (jI.one (by kernel_rfl) h1)
 exact ⟨bN a [.int .i64 b],by (rw[Ex.dD a];kernel_rfl),Vc a ha b⟩
set_option maxRecDepth 100000 in
theorem Vd (os:Os) (started:os.Started) (H:Type) (enc:TypeId × Value→H):
  ReturnsInHanded {} Try.checked os 5 .any (Rows.deriveStartsSpec.pre6 enc Try.prog Try.f5 Rows.deriveStartsRow.domain false) (Rows.deriveStartsSpec.post enc Try.prog Try.f5 false true false false):=by
 refine returnsInHanded_of_change (C:=Try.checked) own started (by kernel_rfl) Try.func5
  (ChangeSpec.witness6 (enc:=enc) (C:=Try.checked) false ⟨#[],#[.agg #[.int .i64 0,.int .i64 0,.slice none 0 0],.int .i64 0],[]⟩ 8 (by kernel_rfl) (by kernel_rfl) (by kernel_rfl) (by kernel_rfl)) ?_
 intro W base args ds gs before eJ hW _ _
 refine Ve (A:=ax) (key:=5) (L:=[24,3,22]) (tb:=4) (Vf U7) mixed Try.func5 (by kernel_rfl) (by kernel_rfl) (by kernel_rfl) (by kernel_rfl) (by kernel_rfl) rfl ?_ (by kernel_rfl) (by kernel_rfl) (by kernel_rfl) (by kernel_rfl) (by kernel_rfl) (by kernel_rfl) ?_ ga.none eJ hW
 ·intro ds kQ
  match ds,kQ with
  | [d0,d1],_=>rfl
 ·exact U9
theorem deriveStarts_holds:Rows.DeriveStartsSaid:=
 OpenClaim.holds_of_wide 5 Try.f5 rfl rfl rfl rfl rfl rfl rfl ⟨rfl,rfl,rfl,rfl,rfl⟩ rfl rfl rfl rfl rfl (by kernel_rfl) Try.func5 (by kernel_rfl)
  (my (by kernel_rfl)) (by unfold Func.isWrapper;first|(rw[aj (by decide+kernel)];kernel_rfl)|(rw[ai (by decide+kernel)];exact ⟨rfl,rfl⟩))
  (fun os started H enc _=>Vd os started H enc)
#print axioms deriveStarts_holds
end Go.Proofs.Ytppefogdkedaiaa
