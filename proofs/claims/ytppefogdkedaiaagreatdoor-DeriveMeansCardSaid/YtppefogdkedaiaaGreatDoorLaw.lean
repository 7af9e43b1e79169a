/-
  The card of DeriveMeans holds.
-/
import Derived.Test.YtppefogdkedaiaaGreatDoorRows
import Derived.Test.YtppefogdkedaiaaGreatDoorCards
import Derived.Test.YtppefogdkedaiaaGreatDoorTie
import Derived.WalkKit
import Derived.ProofKit
import Derived.OpenShut
import Derived.ChangeSame
import Derived.ChangeVars
import Derived.JoinedOf
import Derived.SevenTiedAt
import Derived.Test.YtppefogdkedaiaaGreatDoorP7
set_option linter.unusedVariables false
set_option linter.unusedSimpArgs false
namespace Go.Proofs.YtppefogdkedaiaaGreatDoor
open Go Go.AM Go.ChangeShapes Go.WideShapes Go.ChangeAt Go.RowKit
theorem aaa (xs:List V) (h:qM Tryz.prog [24,9,9] xs) (hz: ∀l,V.str l∈xs→l.length≤reachBytes): ∃ds,sC ((av.sin 4).bV.map (·.2)) xs=some ds∧Go.AM.Call Tryz.prog av 4 ds=some [.bool true]:=by
 obtain ⟨x0,ys0,rfl,h0,h⟩:=ED h
 obtain ⟨x1,ys1,rfl,h1,h⟩:=ED h
 obtain ⟨x2,ys2,rfl,U,h⟩:=ED h
 obtain rfl:=aab h
 obtain ⟨a,rfl,ha⟩:=PD _ _ (z7 _) h0
 obtain ⟨b,rfl,hb⟩:=ik.str (by kernel_rfl) h1
 obtain ⟨c,rfl,hc⟩:=ik.str (by kernel_rfl) U
 exact ⟨bY a [.str b,.str c],by (rw[Ex.eY a];kernel_rfl),aac a ha b c (hz b (by simp)) (hz c (by simp))⟩
set_option maxRecDepth 100000 in
theorem aad (os:Os) (started:os.Started) (H:Type) (enc:TypeId × Value→H):
  ReturnsInHanded {} Tryz.checked os 4 .any (fun w args=>(Rows.deriveMeansSpec.pre enc Tryz.prog Tryz.f4 [] false w args∧laidMetH Tryz.prog Rows.deriveMeansRow.laid w)∧sizedMet enc Tryz.prog Tryz.f4 (OpenSpec.ofChange Rows.deriveMeansSpec) false w args)
   (Rows.deriveMeansSpec.post enc Tryz.prog Tryz.f4 false true false false):=by
 refine returnsInHanded_of_change_and (C:=Tryz.checked) (X:=fun w _=>laidMetH Tryz.prog Rows.deriveMeansRow.laid w) (fun _ _ _ hh h=>h.of_heap hh) own started (by kernel_rfl) Tryz.func4
  (ChangeSpec.witness_at (enc:=enc) (C:=Tryz.checked) (os:=os) (X:=fun w _=>laidMetH Tryz.prog Rows.deriveMeansRow.laid w) false (PE os) #[.agg #[.int .i64 0,.int .i64 0,.slice none 0 0],.string ⟨#[]⟩,.string ⟨#[]⟩] 8 rfl (by kernel_rfl) (by kernel_rfl) (by kernel_rfl) (by kernel_rfl) (by kernel_rfl) (aae os _)) ?_
 intro W base args ds gs before fD hW _ hz0 hL _
 obtain ⟨p,q,hA,hV,anN⟩:=id hW
 have hz: ∀n∈DataW.weightsEach _ _ _,n≤reachBytes:=fun n hn=>gP (fc.1 hz0 n hn)
 refine aaf (A:=av) (key:=4) (L:=[24,3,22,9]) (tb:=4) aag mixed Tryz.func4 (by kernel_rfl) (by kernel_rfl) (by kernel_rfl) (by kernel_rfl) (by kernel_rfl) rfl ?_ (by kernel_rfl) (by kernel_rfl) (by kernel_rfl) (by kernel_rfl) (by kernel_rfl) (by kernel_rfl) (aah hL) fD hW (fun xs=> ∀l,V.str l∈xs→l.length≤reachBytes) (fun xs hx hr=>PF hA hx hr hz) ?_
 ·intro ds lJ
  match ds,lJ with
  | [d0,d1,d2],_=>rfl
 ·exact aaa
theorem aai:Rows.DeriveMeansSaid:=
 OpenClaim.holds_of_wide 4 Tryz.f4 rfl rfl rfl rfl rfl rfl rfl ⟨rfl,rfl,rfl,rfl,rfl⟩ rfl rfl rfl rfl rfl (by kernel_rfl) Tryz.func4 (by kernel_rfl)
  (gP (by kernel_rfl)) (by unfold Func.isWrapper;first|(rw[ah (by decide+kernel)];kernel_rfl)|(rw[ai (by decide+kernel)];exact ⟨rfl,rfl⟩))
  (fun os started H enc _=>aad os started H enc)
theorem deriveMeans_holds:Rows.DeriveMeansCardSaid:=
 Claim7.holds_tied_plain_at .later [] [.data] true (true, "36043eb7f7018a67eba6a71711003cff264a7f3d1f3e00de6295422071b1e513") false
  aai (fun _ h=>by cases h) (by kernel_rfl) (fun _ h=>by cases h) deriveMeans_row_tie rfl ⟨rfl,rfl⟩ (by kernel_rfl) rfl
  (fun f fn hf hfn=>by
   obtain rfl : f = 4 := cT ((show Tryz.prog.funcNamed "semigroup/semigrouplaw05.DeriveMeans" = some 4 by kernel_rfl).symm.trans hf) |>.symm
   obtain rfl:fn=Tryz.f4:=(cT (Tryz.func4.symm.trans hfn)).symm
   exact ⟨by kernel_rfl,fun j t ht=>by
    rw[show Tryz.f4.params= #[24,9,9] by kernel_rfl] at ht
    rcases j with _|j
    ·obtain rfl:(24:TypeId)=t:=by simpa using ht
     exact (show Tryz.prog.wantsStandIn 24=false by kernel_rfl)
    rcases j with _|j
    ·obtain rfl:(9:TypeId)=t:=by simpa using ht
     exact (show Tryz.prog.wantsStandIn 9=false by kernel_rfl)
    rcases j with _|j
    ·obtain rfl:(9:TypeId)=t:=by simpa using ht
     exact (show Tryz.prog.wantsStandIn 9=false by kernel_rfl)
    simp at ht⟩)
  (by kernel_rfl)
#print axioms deriveMeans_holds
end Go.Proofs.YtppefogdkedaiaaGreatDoor
