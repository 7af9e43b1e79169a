/-
  DeriveComplements holds.
-/
import Derived.Test.YtppefogdkedaiaaRows
import Derived.WalkKit
import Derived.ProofKit
import Derived.OpenShut
import Derived.Test.YtppefogdkedaiaaP6
set_option linter.unusedVariables false
set_option linter.unusedSimpArgs false
namespace Go.Proofs.Ytppefogdkedaiaa
open Go Go.AM Go.ChangeShapes Go.WideShapes Go.ChangeAt Go.RowKit
theorem own:ownKnob Try.prog.godebug=none:=by kernel_rfl
theorem Ud:xm Try.prog:=Ue (by kernel_rfl)
theorem mixed:Try.prog.follows .mixedOrders=true:=by kernel_rfl
theorem Uf (xs:List V) (h:po Try.prog [24,9] xs): ∃ds,pq ((az.sin 4).bE.map (·.2)) xs=some ds∧Go.AM.Call Try.prog az 4 ds=some [.bool true]:=by
 obtain ⟨x0,ys0,rfl,h0,h⟩:=KR h
 obtain ⟨x1,ys1,rfl,h1,h⟩:=KR h
 obtain rfl:=Ug h
 obtain ⟨a,rfl,ha⟩:=KS _ _ (xn _) h0
 obtain ⟨b,rfl,hb⟩:=ju.str (by kernel_rfl) h1
 exact ⟨bW a [.str b],by (rw[Ex.en a];kernel_rfl),Uh a ha b⟩
set_option maxRecDepth 100000 in
theorem Ui (os:Os) (started:os.Started) (H:Type) (enc:TypeId × Value→H):
  ReturnsInHanded {} Try.checked os 4 .any (Rows.deriveComplementsSpec.pre6 enc Try.prog Try.f4 Rows.deriveComplementsRow.domain false) (Rows.deriveComplementsSpec.post enc Try.prog Try.f4 false true false false):=by
 refine returnsInHanded_of_change (C:=Try.checked) own started (by kernel_rfl) Try.func4
  (ChangeSpec.witness6 (enc:=enc) (C:=Try.checked) false ⟨#[],#[.agg #[.int .i64 0,.int .i64 0,.slice none 0 0],.string ⟨#[]⟩],[]⟩ 8 (by kernel_rfl) (by kernel_rfl) (by kernel_rfl) (by kernel_rfl)) ?_
 intro W base args ds gs before eC hW _ _
 refine Uj (A:=az) (key:=4) (L:=[24,3,22,9]) (tb:=4) (Uk Ud) mixed Try.func4 (by kernel_rfl) (by kernel_rfl) (by kernel_rfl) (by kernel_rfl) (by kernel_rfl) rfl ?_ (by kernel_rfl) (by kernel_rfl) (by kernel_rfl) (by kernel_rfl) (by kernel_rfl) (by kernel_rfl) ?_ fN.none eC hW
 ·intro ds kH
  match ds,kH with
  | [d0,d1],_=>rfl
 ·exact Uf
theorem deriveComplements_holds:Rows.DeriveComplementsSaid:=
 OpenClaim.holds_of_wide 4 Try.f4 rfl rfl rfl rfl rfl rfl rfl ⟨rfl,rfl,rfl,rfl,rfl⟩ rfl rfl rfl rfl rfl (by kernel_rfl) Try.func4 (by kernel_rfl)
  (mh (by kernel_rfl)) (by unfold Func.isWrapper;first|(rw[ak (by decide+kernel)];kernel_rfl)|(rw[ai (by decide+kernel)];exact ⟨rfl,rfl⟩))
  (fun os started H enc _=>Ui os started H enc)
#print axioms deriveComplements_holds
end Go.Proofs.Ytppefogdkedaiaa
