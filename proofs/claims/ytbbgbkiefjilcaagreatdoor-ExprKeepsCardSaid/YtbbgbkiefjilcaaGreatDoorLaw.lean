/-
  The card of ExprKeeps holds.
-/
import Derived.Test.YtbbgbkiefjilcaaGreatDoorRows
import Derived.Test.YtbbgbkiefjilcaaGreatDoorCards
import Derived.Test.YtbbgbkiefjilcaaGreatDoorTie
import Derived.WalkKit
import Derived.ProofKit
import Derived.OpenShut
import Derived.ChangeSame
import Derived.ChangeVars
import Derived.JoinedOf
import Derived.SevenTiedAt
import Derived.Test.YtbbgbkiefjilcaaGreatDoorP6
set_option linter.unusedVariables false
set_option linter.unusedSimpArgs false
namespace Go.Proofs.YtbbgbkiefjilcaaGreatDoor
open Go Go.AM Go.ChangeShapes Go.WideShapes Go.ChangeAt Go.RowKit
theorem TW (xs:List V) (h:o4 Tryz.prog [24,9] xs): ∃ds,o5 ((ay.sin 4).bw.map (·.2)) xs=some ds∧Go.AM.Call Tryz.prog ay 4 ds=some [.bool true]:=by
 obtain ⟨x0,ys0,rfl,h0,h⟩:=KX h
 obtain ⟨x1,ys1,rfl,h1,h⟩:=KX h
 obtain rfl:=TX h
 obtain ⟨a,rfl,ha⟩:=KY _ _ (Nat.lt_succ_self _) h0
 obtain ⟨b,rfl,hb⟩:=iX.str (by kernel_rfl) h1
 exact ⟨c6 a [.str b],by (rw[Ex.j6 a];kernel_rfl),TY a ha b⟩
set_option maxRecDepth 100000 in
theorem TZ (os:Os) (started:os.Started) (H:Type) (enc:TypeId × Value→H):
  ReturnsInHanded {} Tryz.checked os 4 .any (fun w args=>(Rows.exprKeepsSpec.pre enc Tryz.prog Tryz.f4 [] false w args∧laidMetH Tryz.prog Rows.exprKeepsRow.laid w)∧sizedMet enc Tryz.prog Tryz.f4 (OpenSpec.ofChange Rows.exprKeepsSpec) false w args)
   (Rows.exprKeepsSpec.post enc Tryz.prog Tryz.f4 false true false false):=by
 refine returnsInHanded_of_change_and (C:=Tryz.checked) (X:=fun w _=>laidMetH Tryz.prog Rows.exprKeepsRow.laid w) (fun _ _ _ hh h=>h.of_heap hh) own started (by kernel_rfl) Tryz.func4
  (ChangeSpec.witness_at (enc:=enc) (C:=Tryz.checked) (os:=os) (X:=fun w _=>laidMetH Tryz.prog Rows.exprKeepsRow.laid w) false (KZ os) #[.agg #[.int .i64 0,.int .i64 0,.slice none 0 0],.string ⟨#[]⟩] 8 rfl (by kernel_rfl) (by kernel_rfl) (by kernel_rfl) (by kernel_rfl) (by kernel_rfl) (T4 os _)) ?_
 intro W base args ds gs before ey hW _ _ hL _
 refine T6 (A:=ay) (key:=4) (L:=[24,3,22,9]) (tb:=4) T7 mixed Tryz.func4 (by kernel_rfl) (by kernel_rfl) (by kernel_rfl) (by kernel_rfl) (by kernel_rfl) rfl ?_ (by kernel_rfl) (by kernel_rfl) (by kernel_rfl) (by kernel_rfl) (by kernel_rfl) (by kernel_rfl) ?_ (T8 hL) ey hW
 ·intro ds j7
  match ds,j7 with
  | [d0,d1],_=>rfl
 ·exact TW
theorem T9:Rows.ExprKeepsSaid:=
 OpenClaim.holds_of_wide 4 Tryz.f4 rfl rfl rfl rfl rfl rfl rfl ⟨rfl,rfl,rfl,rfl,rfl⟩ rfl rfl rfl rfl rfl (by kernel_rfl) Tryz.func4 (by kernel_rfl)
  (iB (by kernel_rfl)) (by unfold Func.isWrapper;first|(rw[ag (by decide+kernel)];kernel_rfl)|(rw[ai (by decide+kernel)];exact ⟨rfl,rfl⟩))
  (fun os started H enc _=>TZ os started H enc)
theorem exprKeeps_holds:Rows.ExprKeepsCardSaid:=
 Claim7.holds_tied_plain_at .later [] [.data] true (true, "093abf86d2f8db04efd959088ed84e97f2999eb7636c2444541369816cc23454") true
  T9 (fun _ h=>by cases h) (by kernel_rfl) (fun _ h=>by cases h) exprKeeps_row_tie rfl ⟨rfl,rfl⟩ (by kernel_rfl) rfl
  (fun f fn hf Ua=>by
   obtain rfl : f = 4 := cC ((show Tryz.prog.funcNamed "semigroup/semigrouplaw04.ExprKeeps" = some 4 by kernel_rfl).symm.trans hf) |>.symm
   obtain rfl:fn=Tryz.f4:=(cC (Tryz.func4.symm.trans Ua)).symm
   exact ⟨by kernel_rfl,fun j t ht=>by
    rw[show Tryz.f4.params= #[24,9] by kernel_rfl] at ht
    rcases j with _|j
    ·obtain rfl:(24:TypeId)=t:=by simpa using ht
     exact (show Tryz.prog.wantsStandIn 24=false by kernel_rfl)
    rcases j with _|j
    ·obtain rfl:(9:TypeId)=t:=by simpa using ht
     exact (show Tryz.prog.wantsStandIn 9=false by kernel_rfl)
    simp at ht⟩)
  (by kernel_rfl)
#print axioms exprKeeps_holds
end Go.Proofs.YtbbgbkiefjilcaaGreatDoor
