/-
  DeriveLetters holds.
-/
import Derived.Test.YtppefogdkedaiaaRows
import Derived.WalkKit
import Derived.ProofKit
import Derived.OpenShut
import Derived.Test.YtppefogdkedaiaaP6
set_option linter.unusedVariables false
set_option linter.unusedSimpArgs false
namespace Go.Proofs.Ytppefogdkedaiaa
open Go Go.AM Go.ChangeShapes Go.WideShapes Go.ChangeAt Go.RowKit
theorem own:ownKnob Try.prog.godebug=none:=by kernel_rfl
theorem Vj:yc Try.prog:=Vk (by kernel_rfl)
theorem mixed:Try.prog.follows .mixedOrders=true:=by kernel_rfl
theorem Vl (xs:List V) (h:pL Try.prog [24,3] xs): ∃ds,pM ((ay.sin 6).bN.map (·.2)) xs=some ds∧Go.AM.Call Try.prog ay 6 ds=some [.bool true]:=by
 obtain ⟨x0,ys0,rfl,h0,h⟩:=L0 h
 obtain ⟨x1,ys1,rfl,h1,h⟩:=L0 h
 obtain rfl:=Vm h
 obtain ⟨a,rfl,ha⟩:=L1 _ _ (yd _) h0
 obtain ⟨b,rfl,hb⟩:=WT.Vn (by kernel_rfl) (jL.one (by kernel_rfl) h1)
 exact ⟨bG a [.int .i64 b],by (rw[Ex.dc a];kernel_rfl),Vo a ha b⟩
set_option maxRecDepth 100000 in
theorem Vp (os:Os) (started:os.Started) (H:Type) (enc:TypeId × Value→H):
  ReturnsInHanded {} Try.checked os 6 .any (Rows.deriveLettersSpec.pre6 enc Try.prog Try.f6 Rows.deriveLettersRow.domain false) (Rows.deriveLettersSpec.post enc Try.prog Try.f6 false true false false):=by
 refine returnsInHanded_of_change (C:=Try.checked) own started (by kernel_rfl) Try.func6
  (ChangeSpec.witness6 (enc:=enc) (C:=Try.checked) false ⟨#[],#[.agg #[.int .i64 0,.int .i64 0,.slice none 0 0],.int .i64 0],[]⟩ 8 (by kernel_rfl) (by kernel_rfl) (by kernel_rfl) (by kernel_rfl)) ?_
 intro W base args ds gs before eM hW _ _
 refine Vq (A:=ay) (key:=6) (L:=[24,3,22]) (tb:=4) (Vr Vj) mixed Try.func6 (by kernel_rfl) (by kernel_rfl) (by kernel_rfl) (by kernel_rfl) (by kernel_rfl) rfl ?_ (by kernel_rfl) (by kernel_rfl) (by kernel_rfl) (by kernel_rfl) (by kernel_rfl) (by kernel_rfl) ?_ fW.none eM hW
 ·intro ds kR
  match ds,kR with
  | [d0,d1],_=>rfl
 ·exact Vl
theorem deriveLetters_holds:Rows.DeriveLettersSaid:=
 OpenClaim.holds_of_wide 6 Try.f6 rfl rfl rfl rfl rfl rfl rfl ⟨rfl,rfl,rfl,rfl,rfl⟩ rfl rfl rfl rfl rfl (by kernel_rfl) Try.func6 (by kernel_rfl)
  (mu (by kernel_rfl)) (by unfold Func.isWrapper;first|(rw[aj (by decide+kernel)];kernel_rfl)|(rw[ai (by decide+kernel)];exact ⟨rfl,rfl⟩))
  (fun os started H enc _=>Vp os started H enc)
#print axioms deriveLetters_holds
end Go.Proofs.Ytppefogdkedaiaa
