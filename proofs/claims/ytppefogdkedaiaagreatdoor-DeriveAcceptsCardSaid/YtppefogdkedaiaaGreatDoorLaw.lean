/-
  The card of DeriveAccepts holds.
-/
import Derived.Test.YtppefogdkedaiaaGreatDoorRows
import Derived.Test.YtppefogdkedaiaaGreatDoorCards
import Derived.Test.YtppefogdkedaiaaGreatDoorTie
import Derived.WalkKit
import Derived.ProofKit
import Derived.OpenShut
import Derived.ChangeSame
import Derived.ChangeVars
import Derived.JoinedOf
import Derived.SevenTiedAt
import Derived.Test.YtppefogdkedaiaaGreatDoorP7
set_option linter.unusedVariables false
set_option linter.unusedSimpArgs false
namespace Go.Proofs.YtppefogdkedaiaaGreatDoor
open Go Go.AM Go.ChangeShapes Go.WideShapes Go.ChangeAt Go.RowKit
theorem aaq (xs:List V) (h:qS Tryz.prog [24,3,9] xs): ∃ds,qT ((au.sin 3).bR.map (·.2)) xs=some ds∧Go.AM.Call Tryz.prog au 3 ds=some [.bool true]:=by
 obtain ⟨x0,ys0,rfl,h0,h⟩:=JB h
 obtain ⟨x1,ys1,rfl,h1,h⟩:=JB h
 obtain ⟨x2,ys2,rfl,U,h⟩:=JB h
 obtain rfl:=aar h
 obtain ⟨a,rfl,ha⟩:=PY _ _ (Ag _) h0
 obtain ⟨b,rfl,hb⟩:=WT.aas (by kernel_rfl) (jO.one (by kernel_rfl) h1)
 obtain ⟨c,rfl,hc⟩:=jO.str (by kernel_rfl) U
 exact ⟨b9 a [.int .i64 b,.str c],by (rw[Ex.eY a];kernel_rfl),aat a ha b c⟩
set_option maxRecDepth 100000 in
theorem aau (os:Os) (started:os.Started) (H:Type) (enc:TypeId × Value→H):
  ReturnsInHanded {} Tryz.checked os 3 .any (fun w args=>(Rows.deriveAcceptsSpec.pre enc Tryz.prog Tryz.f3 [] false w args∧laidMetH Tryz.prog Rows.deriveAcceptsRow.laid w)∧sizedMet enc Tryz.prog Tryz.f3 (OpenSpec.ofChange Rows.deriveAcceptsSpec) false w args)
   (Rows.deriveAcceptsSpec.post enc Tryz.prog Tryz.f3 false true false false):=by
 refine returnsInHanded_of_change_and (C:=Tryz.checked) (X:=fun w _=>laidMetH Tryz.prog Rows.deriveAcceptsRow.laid w) (fun _ _ _ hh h=>h.of_heap hh) own started (by kernel_rfl) Tryz.func3
  (ChangeSpec.witness_at (enc:=enc) (C:=Tryz.checked) (os:=os) (X:=fun w _=>laidMetH Tryz.prog Rows.deriveAcceptsRow.laid w) false (PZ os) #[.agg #[.int .i64 0,.int .i64 0,.slice none 0 0],.int .i64 0,.string ⟨#[]⟩] 8 rfl (by kernel_rfl) (by kernel_rfl) (by kernel_rfl) (by kernel_rfl) (by kernel_rfl) (aav os _)) ?_
 intro W base args ds gs before fe hW _ _ hL _
 refine aaw (A:=au) (key:=3) (L:=[24,3,22,9]) (tb:=4) aax mixed Tryz.func3 (by kernel_rfl) (by kernel_rfl) (by kernel_rfl) (by kernel_rfl) (by kernel_rfl) rfl ?_ (by kernel_rfl) (by kernel_rfl) (by kernel_rfl) (by kernel_rfl) (by kernel_rfl) (by kernel_rfl) ?_ (aay hL) fe hW
 ·intro ds lN
  match ds,lN with
  | [d0,d1,d2],_=>rfl
 ·exact aaq
theorem aaz:Rows.DeriveAcceptsSaid:=
 OpenClaim.holds_of_wide 3 Tryz.f3 rfl rfl rfl rfl rfl rfl rfl ⟨rfl,rfl,rfl,rfl,rfl⟩ rfl rfl rfl rfl rfl (by kernel_rfl) Tryz.func3 (by kernel_rfl)
  (iw (by kernel_rfl)) (by unfold Func.isWrapper;first|(rw[ag (by decide+kernel)];kernel_rfl)|(rw[ah (by decide+kernel)];exact ⟨rfl,rfl⟩))
  (fun os started H enc _=>aau os started H enc)
theorem deriveAccepts_holds:Rows.DeriveAcceptsCardSaid:=
 Claim7.holds_tied_plain_at .later [] [.data] true (true, "36043eb7f7018a67eba6a71711003cff264a7f3d1f3e00de6295422071b1e513") false
  aaz (fun _ h=>by cases h) (by kernel_rfl) (fun _ h=>by cases h) deriveAccepts_row_tie rfl ⟨rfl,rfl⟩ (by kernel_rfl) rfl
  (fun f fn hf hfn=>by
   obtain rfl : f = 3 := cT ((show Tryz.prog.funcNamed "semigroup/semigrouplaw05.DeriveAccepts" = some 3 by kernel_rfl).symm.trans hf) |>.symm
   obtain rfl:fn=Tryz.f3:=(cT (Tryz.func3.symm.trans hfn)).symm
   exact ⟨by kernel_rfl,fun j t ht=>by
    rw[show Tryz.f3.params= #[24,3,9] by kernel_rfl] at ht
    rcases j with _|j
    ·obtain rfl:(24:TypeId)=t:=by simpa using ht
     exact (show Tryz.prog.wantsStandIn 24=false by kernel_rfl)
    rcases j with _|j
    ·obtain rfl:(3:TypeId)=t:=by simpa using ht
     exact (show Tryz.prog.wantsStandIn 3=false by kernel_rfl)
    rcases j with _|j
    ·obtain rfl:(9:TypeId)=t:=by simpa using ht
     exact (show Tryz.prog.wantsStandIn 9=false by kernel_rfl)
    simp at ht⟩)
  (by kernel_rfl)
#print axioms deriveAccepts_holds
end Go.Proofs.YtppefogdkedaiaaGreatDoor
