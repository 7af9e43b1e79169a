/-
  The card of NfaPartials holds.
-/
import Derived.Test.YtbbgbkiefjilcaaGreatDoorRows
import Derived.Test.YtbbgbkiefjilcaaGreatDoorCards
import Derived.Test.YtbbgbkiefjilcaaGreatDoorTie
import Derived.WalkKit
import Derived.ProofKit
import Derived.OpenShut
import Derived.ChangeSame
import Derived.ChangeVars
import Derived.JoinedOf
import Derived.SevenTiedAt
import Derived.Test.YtbbgbkiefjilcaaGreatDoorP8
set_option linter.unusedVariables false
set_option linter.unusedSimpArgs false
namespace Go.Proofs.YtbbgbkiefjilcaaGreatDoor
open Go Go.AM Go.ChangeShapes Go.WideShapes Go.ChangeAt Go.RowKit
theorem abS (xs:List V) (h:rB Tryz.prog [24,3] xs): ∃ds,rC ((az.sin 3).bQ.map (·.2)) xs=some ds∧Go.AM.Call Tryz.prog az 3 ds=some [.bool true]:=by
 obtain ⟨x0,ys0,rfl,h0,h⟩:=Sf h
 obtain ⟨x1,ys1,rfl,h1,h⟩:=Sf h
 obtain rfl:=abT h
 obtain ⟨a,rfl,ha⟩:=Sg _ _ (Nat.lt_succ_self _) h0
 obtain ⟨b,rfl,hb⟩:=WT.abU (by kernel_rfl) (kQ.one (by kernel_rfl) h1)
 exact ⟨ct a [.int .i64 b],by (rw[Ex.fS a];kernel_rfl),abV a ha b⟩
set_option maxRecDepth 100000 in
theorem abW (os:Os) (started:os.Started) (H:Type) (enc:TypeId × Value→H):
  ReturnsInHanded {} Tryz.checked os 3 .any (fun w args=>(Rows.nfaPartialsSpec.pre enc Tryz.prog Tryz.f3 [] false w args∧laidMetH Tryz.prog Rows.nfaPartialsRow.laid w)∧sizedMet enc Tryz.prog Tryz.f3 (OpenSpec.ofChange Rows.nfaPartialsSpec) false w args)
   (Rows.nfaPartialsSpec.post enc Tryz.prog Tryz.f3 false true false false):=by
 refine returnsInHanded_of_change_and (C:=Tryz.checked) (X:=fun w _=>laidMetH Tryz.prog Rows.nfaPartialsRow.laid w) (fun _ _ _ hh h=>h.of_heap hh) own started (by kernel_rfl) Tryz.func3
  (ChangeSpec.witness_at (enc:=enc) (C:=Tryz.checked) (os:=os) (X:=fun w _=>laidMetH Tryz.prog Rows.nfaPartialsRow.laid w) false (Sh os) #[.agg #[.int .i64 0,.int .i64 0,.slice none 0 0],.int .i64 0] 8 rfl (by kernel_rfl) (by kernel_rfl) (by kernel_rfl) (by kernel_rfl) (by kernel_rfl) (abX os _)) ?_
 intro W base args ds gs before fT hW _ _ hL _
 refine abY (A:=az) (key:=3) (L:=[24,3,22]) (tb:=4) abZ mixed Tryz.func3 (by kernel_rfl) (by kernel_rfl) (by kernel_rfl) (by kernel_rfl) (by kernel_rfl) rfl ?_ (by kernel_rfl) (by kernel_rfl) (by kernel_rfl) (by kernel_rfl) (by kernel_rfl) (by kernel_rfl) ?_ (ab0 hL) fT hW
 ·intro ds mf
  match ds,mf with
  | [d0,d1],_=>rfl
 ·exact abS
theorem ab1:Rows.NfaPartialsSaid:=
 OpenClaim.holds_of_wide 3 Tryz.f3 rfl rfl rfl rfl rfl rfl rfl ⟨rfl,rfl,rfl,rfl,rfl⟩ rfl rfl rfl rfl rfl (by kernel_rfl) Tryz.func3 (by kernel_rfl)
  (ly (by kernel_rfl)) (by unfold Func.isWrapper;first|(rw[ag (by decide+kernel)];kernel_rfl)|(rw[ah (by decide+kernel)];exact ⟨rfl,rfl⟩))
  (fun os started H enc _=>abW os started H enc)
theorem nfaPartials_holds:Rows.NfaPartialsCardSaid:=
 Claim7.holds_tied_plain_at .later [] [.data] true (true, "093abf86d2f8db04efd959088ed84e97f2999eb7636c2444541369816cc23454") true
  ab1 (fun _ h=>by cases h) (by kernel_rfl) (fun _ h=>by cases h) nfaPartials_row_tie rfl ⟨rfl,rfl⟩ (by kernel_rfl) rfl
  (fun f fn hf hfn=>by
   obtain rfl : f = 3 := dB ((show Tryz.prog.funcNamed "semigroup/semigrouplaw06.NfaPartials" = some 3 by kernel_rfl).symm.trans hf) |>.symm
   obtain rfl:fn=Tryz.f3:=(dB (Tryz.func3.symm.trans hfn)).symm
   exact ⟨by kernel_rfl,fun j t ht=>by
    rw[show Tryz.f3.params= #[24,3] by kernel_rfl] at ht
    rcases j with _|j
    ·obtain rfl:(24:TypeId)=t:=by simpa using ht
     exact (show Tryz.prog.wantsStandIn 24=false by kernel_rfl)
    rcases j with _|j
    ·obtain rfl:(3:TypeId)=t:=by simpa using ht
     exact (show Tryz.prog.wantsStandIn 3=false by kernel_rfl)
    simp at ht⟩)
  (by kernel_rfl)
#print axioms nfaPartials_holds
end Go.Proofs.YtbbgbkiefjilcaaGreatDoor
