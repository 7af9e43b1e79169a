/-
  The card of NfaMeans holds.
-/
import Derived.Test.YtbbgbkiefjilcaaGreatDoorRows
import Derived.Test.YtbbgbkiefjilcaaGreatDoorCards
import Derived.Test.YtbbgbkiefjilcaaGreatDoorTie
import Derived.WalkKit
import Derived.ProofKit
import Derived.OpenShut
import Derived.ChangeSame
import Derived.ChangeVars
import Derived.JoinedOf
import Derived.SevenTiedAt
import Derived.Test.YtbbgbkiefjilcaaGreatDoorP7
set_option linter.unusedVariables false
set_option linter.unusedSimpArgs false
namespace Go.Proofs.YtbbgbkiefjilcaaGreatDoor
open Go Go.AM Go.ChangeShapes Go.WideShapes Go.ChangeAt Go.RowKit
theorem ad7 (xs:List V) (h:sg Tryz.prog [24,3,9] xs): ∃ds,sh ((kh.sin 5).bR.map (·.2)) xs=some ds∧Go.AM.Call Tryz.prog kh 5 ds=some [.bool true]:=by
 obtain ⟨x0,ys0,rfl,h0,h⟩:=LU h
 obtain ⟨x1,ys1,rfl,h1,h⟩:=LU h
 obtain ⟨x2,ys2,rfl,h2,h⟩:=LU h
 obtain rfl:=ad8 h
 obtain ⟨a,rfl,ha⟩:=UC _ _ (Nat.lt_succ_self _) h0
 obtain ⟨b,rfl,hb⟩:=WT.ad9 (by kernel_rfl) (kL.one (by kernel_rfl) h1)
 obtain ⟨c,rfl,hc⟩:=kL.str (by kernel_rfl) h2
 exact ⟨cJ a [.int .i64 b,.str c],by (rw[Ex.ja a];kernel_rfl),aea a ha b c⟩
set_option maxRecDepth 100000 in
theorem aeb (os:Os) (started:os.Started) (H:Type) (enc:TypeId × Value→H):
  ReturnsInHanded {} Tryz.checked os 5 .any (fun w args=>(Rows.nfaMeansSpec.pre enc Tryz.prog Tryz.f5 [] false w args∧laidMetH Tryz.prog Rows.nfaMeansRow.laid w)∧sizedMet enc Tryz.prog Tryz.f5 (OpenSpec.ofChange Rows.nfaMeansSpec) false w args)
   (Rows.nfaMeansSpec.post enc Tryz.prog Tryz.f5 false true false false):=by
 refine returnsInHanded_of_change_and (C:=Tryz.checked) (X:=fun w _=>laidMetH Tryz.prog Rows.nfaMeansRow.laid w) (fun _ _ _ hh h=>h.of_heap hh) own started (by kernel_rfl) Tryz.func5
  (ChangeSpec.witness_at (enc:=enc) (C:=Tryz.checked) (os:=os) (X:=fun w _=>laidMetH Tryz.prog Rows.nfaMeansRow.laid w) false (UD os) #[.agg #[.int .i64 0,.int .i64 0,.slice none 0 0],.int .i64 0,.string ⟨#[]⟩] 8 rfl (by kernel_rfl) (by kernel_rfl) (by kernel_rfl) (by kernel_rfl) (by kernel_rfl) (aec os _)) ?_
 intro W base args ds gs before fR hW _ _ hL _
 refine aed (A:=kh) (key:=5) (L:=[24,3,22,9]) (tb:=4) aee mixed Tryz.func5 (by kernel_rfl) (by kernel_rfl) (by kernel_rfl) (by kernel_rfl) (by kernel_rfl) rfl ?_ (by kernel_rfl) (by kernel_rfl) (by kernel_rfl) (by kernel_rfl) (by kernel_rfl) (by kernel_rfl) ?_ (aef hL) fR hW
 ·intro ds mV
  match ds,mV with
  | [d0,d1,d2],_=>rfl
 ·exact ad7
theorem aeg:Rows.NfaMeansSaid:=
 OpenClaim.holds_of_wide 5 Tryz.f5 rfl rfl rfl rfl rfl rfl rfl ⟨rfl,rfl,rfl,rfl,rfl⟩ rfl rfl rfl rfl rfl (by kernel_rfl) Tryz.func5 (by kernel_rfl)
  (fk (by kernel_rfl)) (by unfold Func.isWrapper;first|(rw[ai (by decide+kernel)];kernel_rfl)|(rw[aj (by decide+kernel)];exact ⟨rfl,rfl⟩))
  (fun os started H enc _=>aeb os started H enc)
theorem nfaMeans_holds:Rows.NfaMeansCardSaid:=
 Claim7.holds_tied_plain_at .later [] [.data] true (true, "093abf86d2f8db04efd959088ed84e97f2999eb7636c2444541369816cc23454") true
  aeg (fun _ h=>by cases h) (by kernel_rfl) (fun _ h=>by cases h) nfaMeans_row_tie rfl ⟨rfl,rfl⟩ (by kernel_rfl) rfl
  (fun f fn hf hfn=>by
   obtain rfl : f = 5 := dh ((show Tryz.prog.funcNamed "semigroup/semigrouplaw06.NfaMeans" = some 5 by kernel_rfl).symm.trans hf) |>.symm
   obtain rfl:fn=Tryz.f5:=(dh (Tryz.func5.symm.trans hfn)).symm
   exact ⟨by kernel_rfl,fun j t ht=>by
    rw[show Tryz.f5.params= #[24,3,9] by kernel_rfl] at ht
    rcases j with _|j
    ·obtain rfl:(24:TypeId)=t:=by simpa using ht
     exact (show Tryz.prog.wantsStandIn 24=false by kernel_rfl)
    rcases j with _|j
    ·obtain rfl:(3:TypeId)=t:=by simpa using ht
     exact (show Tryz.prog.wantsStandIn 3=false by kernel_rfl)
    rcases j with _|j
    ·obtain rfl:(9:TypeId)=t:=by simpa using ht
     exact (show Tryz.prog.wantsStandIn 9=false by kernel_rfl)
    simp at ht⟩)
  (by kernel_rfl)
#print axioms nfaMeans_holds
end Go.Proofs.YtbbgbkiefjilcaaGreatDoor
