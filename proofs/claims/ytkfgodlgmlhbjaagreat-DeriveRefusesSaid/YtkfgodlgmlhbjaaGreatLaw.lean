/-
  DeriveRefuses holds.
-/
import Derived.Test.YtkfgodlgmlhbjaaGreatRows
import Derived.WalkKit
import Derived.ProofKit
import Derived.OpenShut
import Derived.Test.YtkfgodlgmlhbjaaGreatP7
set_option linter.unusedVariables false
set_option linter.unusedSimpArgs false
namespace Go.Proofs.YtkfgodlgmlhbjaaGreat
open Go Go.AM Go.ChangeShapes Go.WideShapes Go.ChangeAt Go.RowKit
theorem own:ownKnob Tryz.prog.godebug=none:=by kernel_rfl
theorem YG:Ac Tryz.prog:=YH (by kernel_rfl)
theorem mixed:Tryz.prog.follows .mixedOrders=true:=by kernel_rfl
theorem YI (xs:List V) (h:qO Tryz.prog [25,27,5,3,3,3] xs): ∃ds,qP ((ln.sin 3).cd.map (·.2)) xs=some ds∧Go.AM.Call Tryz.prog ln 3 ds=some [.bool true]:=by
 obtain ⟨x0,ys0,rfl,h0,h⟩:=w6 h
 obtain ⟨x1,ys1,rfl,h1,h⟩:=w6 h
 obtain ⟨x2,ys2,rfl,U,h⟩:=w6 h
 obtain ⟨x3,ys3,rfl,h3,h⟩:=w6 h
 obtain ⟨x4,ys4,rfl,h4,h⟩:=w6 h
 obtain ⟨x5,ys5,rfl,h5,h⟩:=w6 h
 obtain rfl:=YJ h
 obtain ⟨a,rfl,ha⟩:=YK (t1:=I4) (t2:=YL) (by kernel_rfl) (by kernel_rfl) (by kernel_rfl) (by kernel_rfl) h0
 obtain ⟨b,rfl,hb⟩:=I5 _ _ (w7 _) h1
 obtain ⟨c,rfl,hc⟩:=WT.Ew (by kernel_rfl) (fV.one (by kernel_rfl) U)
 obtain ⟨d,rfl,hd⟩:=WT.w8 (by kernel_rfl) (fV.one (by kernel_rfl) h3)
 obtain ⟨e,rfl,he⟩:=WT.w8 (by kernel_rfl) (fV.one (by kernel_rfl) h4)
 obtain ⟨f,rfl,hf⟩:=WT.w8 (by kernel_rfl) (fV.one (by kernel_rfl) h5)
 exact ⟨gz a (bV b [.int .u8 c,.int .i64 d,.int .i64 e,.int .i64 f]),by (rw[Ex.dA b];kernel_rfl),YM a ha b hb c d e f⟩
set_option maxRecDepth 100000 in
theorem YN (os:Os) (started:os.Started) (H:Type) (enc:TypeId × Value→H):
  ReturnsInHanded {} Tryz.checked os 3 .any (Rows.deriveRefusesSpec.pre6 enc Tryz.prog Tryz.f3 Rows.deriveRefusesRow.domain false) (Rows.deriveRefusesSpec.post enc Tryz.prog Tryz.f3 false true false false):=by
 refine returnsInHanded_of_change (C:=Tryz.checked) own started (by kernel_rfl) Tryz.func3
  (ChangeSpec.witness6 (enc:=enc) (C:=Tryz.checked) false ⟨#[],#[.agg #[.int .i64 0,.slice none 0 0,.slice none 0 0,.int .i64 0],.agg #[.int .i64 0,.int .i64 0,.slice none 0 0],.int .u8 0,.int .i64 0,.int .i64 0,.int .i64 0],[]⟩ 8 (by kernel_rfl) (by kernel_rfl) (by kernel_rfl) (by kernel_rfl)) ?_
 intro W base args ds gs before fw hW _ _
 refine YO (A:=ln) (key:=3) (L:=[25,3,22,27,23,36,5]) (tb:=4) (YP YG) mixed Tryz.func3 (by kernel_rfl) (by kernel_rfl) (by kernel_rfl) (by kernel_rfl) (by kernel_rfl) rfl ?_ (by kernel_rfl) (by kernel_rfl) (by kernel_rfl) (by kernel_rfl) (by kernel_rfl) (by kernel_rfl) ?_ gA.none fw hW
 ·intro ds lW
  match ds,lW with
  | [d0,d1,d2,d3,d4,d5],_=>rfl
 ·exact YI
theorem deriveRefuses_holds:Rows.DeriveRefusesSaid:=
 OpenClaim.holds_of_wide 3 Tryz.f3 rfl rfl rfl rfl rfl rfl rfl ⟨rfl,rfl,rfl,rfl,rfl⟩ rfl rfl rfl rfl rfl (by kernel_rfl) Tryz.func3 (by kernel_rfl)
  (gB (by kernel_rfl)) (by unfold Func.isWrapper;first|(rw[aj (by decide+kernel)];kernel_rfl)|(rw[an (by decide+kernel)];exact ⟨rfl,rfl⟩))
  (fun os started H enc _=>YN os started H enc)
#print axioms deriveRefuses_holds
end Go.Proofs.YtkfgodlgmlhbjaaGreat
