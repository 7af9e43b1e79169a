/-
  DeriveWords holds.
-/
import Derived.Test.YtppefogdkedaiaaRows
import Derived.WalkKit
import Derived.ProofKit
import Derived.OpenShut
import Derived.Test.YtppefogdkedaiaaP6
set_option linter.unusedVariables false
set_option linter.unusedSimpArgs false
namespace Go.Proofs.Ytppefogdkedaiaa
open Go Go.AM Go.ChangeShapes Go.WideShapes Go.ChangeAt Go.RowKit
theorem own:ownKnob Try.prog.godebug=none:=by kernel_rfl
theorem Wc:yw Try.prog:=Wd (by kernel_rfl)
theorem mixed:Try.prog.follows .mixedOrders=true:=by kernel_rfl
theorem We (xs:List V) (h:pS Try.prog [24,9] xs): ∃ds,pT ((ay.sin 7).bP.map (·.2)) xs=some ds∧Go.AM.Call Try.prog ay 7 ds=some [.bool true]:=by
 obtain ⟨x0,ys0,rfl,h0,h⟩:=Mz h
 obtain ⟨x1,ys1,rfl,h1,h⟩:=Mz h
 obtain rfl:=Wf h
 obtain ⟨a,rfl,ha⟩:=MA _ _ (yx _) h0
 obtain ⟨b,rfl,hb⟩:=jP.str (by kernel_rfl) h1
 exact ⟨bH a [.str b],by (rw[Ex.dg a];kernel_rfl),Wg a ha b⟩
set_option maxRecDepth 100000 in
theorem Wh (os:Os) (started:os.Started) (H:Type) (enc:TypeId × Value→H):
  ReturnsInHanded {} Try.checked os 7 .any (Rows.deriveWordsSpec.pre6 enc Try.prog Try.f7 Rows.deriveWordsRow.domain false) (Rows.deriveWordsSpec.post enc Try.prog Try.f7 false true false false):=by
 refine returnsInHanded_of_change (C:=Try.checked) own started (by kernel_rfl) Try.func7
  (ChangeSpec.witness6 (enc:=enc) (C:=Try.checked) false ⟨#[],#[.agg #[.int .i64 0,.int .i64 0,.slice none 0 0],.string ⟨#[]⟩],[]⟩ 8 (by kernel_rfl) (by kernel_rfl) (by kernel_rfl) (by kernel_rfl)) ?_
 intro W base args ds gs before eN hW _ _
 refine Wi (A:=ay) (key:=7) (L:=[24,3,22,9]) (tb:=4) (Wj Wc) mixed Try.func7 (by kernel_rfl) (by kernel_rfl) (by kernel_rfl) (by kernel_rfl) (by kernel_rfl) rfl ?_ (by kernel_rfl) (by kernel_rfl) (by kernel_rfl) (by kernel_rfl) (by kernel_rfl) (by kernel_rfl) ?_ gf.none eN hW
 ·intro ds k9
  match ds,k9 with
  | [d0,d1],_=>rfl
 ·exact We
theorem deriveWords_holds:Rows.DeriveWordsSaid:=
 OpenClaim.holds_of_wide 7 Try.f7 rfl rfl rfl rfl rfl rfl rfl ⟨rfl,rfl,rfl,rfl,rfl⟩ rfl rfl rfl rfl rfl (by kernel_rfl) Try.func7 (by kernel_rfl)
  (mJ (by kernel_rfl)) (by unfold Func.isWrapper;first|(rw[aj (by decide+kernel)];kernel_rfl)|(rw[ai (by decide+kernel)];exact ⟨rfl,rfl⟩))
  (fun os started H enc _=>Wh os started H enc)
#print axioms deriveWords_holds
end Go.Proofs.Ytppefogdkedaiaa
