/-
  DeriveChains holds.
-/
import Derived.Test.YtppefogdkedaiaaRows
import Derived.WalkKit
import Derived.ProofKit
import Derived.OpenShut
import Derived.Test.YtppefogdkedaiaaP6
set_option linter.unusedVariables false
set_option linter.unusedSimpArgs false
namespace Go.Proofs.Ytppefogdkedaiaa
open Go Go.AM Go.ChangeShapes Go.WideShapes Go.ChangeAt Go.RowKit
theorem own:ownKnob Try.prog.godebug=none:=by kernel_rfl
theorem TN:xj Try.prog:=TO (by kernel_rfl)
theorem mixed:Try.prog.follows .mixedOrders=true:=by kernel_rfl
theorem TP (xs:List V) (h:pj Try.prog [24,9,9] xs) (hz: ∀l,V.str l∈xs→l.length≤reachBytes): ∃ds,qE ((ay.sin 8).bI.map (·.2)) xs=some ds∧Go.AM.Call Try.prog ay 8 ds=some [.bool true]:=by
 obtain ⟨x0,ys0,rfl,h0,h⟩:=A7 h
 obtain ⟨x1,ys1,rfl,h1,h⟩:=A7 h
 obtain ⟨x2,ys2,rfl,U,h⟩:=A7 h
 obtain rfl:=TQ h
 obtain ⟨a,rfl,ha⟩:=KD _ _ (xk _) h0
 obtain ⟨b,rfl,hb⟩:=gH.str (by kernel_rfl) h1
 obtain ⟨c,rfl,hc⟩:=gH.str (by kernel_rfl) U
 exact ⟨bJ a [.str b,.str c],by (rw[Ex.et a];kernel_rfl),TR a ha b c (hz b (by simp)) (hz c (by simp))⟩
set_option maxRecDepth 100000 in
theorem TS (os:Os) (started:os.Started) (H:Type) (enc:TypeId × Value→H):
  ReturnsInHanded {} Try.checked os 8 .any (Rows.deriveChainsSpec.pre6 enc Try.prog Try.f8 Rows.deriveChainsRow.domain false) (Rows.deriveChainsSpec.post enc Try.prog Try.f8 false true false false):=by
 refine TT (C:=Try.checked) own started (by kernel_rfl) Try.func8
  (ChangeSpec.witness6 (enc:=enc) (C:=Try.checked) false ⟨#[],#[.agg #[.int .i64 0,.int .i64 0,.slice none 0 0],.string ⟨#[]⟩,.string ⟨#[]⟩],[]⟩ 8 (by kernel_rfl) (by kernel_rfl) (by kernel_rfl) (by kernel_rfl)) ?_
 intro W base args ds gs before eC hW hz
 obtain ⟨p,q,hA,hV,af2⟩:=id hW
 refine TU (A:=ay) (key:=8) (L:=[24,3,22,9]) (tb:=4) (TV TN) mixed Try.func8 (by kernel_rfl) (by kernel_rfl) (by kernel_rfl) (by kernel_rfl) (by kernel_rfl) rfl ?_ (by kernel_rfl) (by kernel_rfl) (by kernel_rfl) (by kernel_rfl) (by kernel_rfl) (by kernel_rfl) gh.none eC hW (fun xs=> ∀l,V.str l∈xs→l.length≤reachBytes) (fun xs hx hr=>KE hA hx hr hz) ?_
 ·intro ds kH
  match ds,kH with
  | [d0,d1,d2],_=>rfl
 ·exact TP
theorem deriveChains_holds:Rows.DeriveChainsSaid:=
 OpenClaim.holds_of_wide 8 Try.f8 rfl rfl rfl rfl rfl rfl rfl ⟨rfl,rfl,rfl,rfl,rfl⟩ rfl rfl rfl rfl rfl (by kernel_rfl) Try.func8 (by kernel_rfl)
  (lr (by kernel_rfl)) (by unfold Func.isWrapper;first|(rw[aj (by decide+kernel)];kernel_rfl)|(rw[ai (by decide+kernel)];exact ⟨rfl,rfl⟩))
  (fun os started H enc _=>TS os started H enc)
#print axioms deriveChains_holds
end Go.Proofs.Ytppefogdkedaiaa
