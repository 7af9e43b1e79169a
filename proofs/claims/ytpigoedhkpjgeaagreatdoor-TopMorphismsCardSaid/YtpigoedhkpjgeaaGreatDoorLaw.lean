/-
  The card of TopMorphisms holds.
-/
import Derived.Test.YtpigoedhkpjgeaaGreatDoorRows
import Derived.Test.YtpigoedhkpjgeaaGreatDoorCards
import Derived.Test.YtpigoedhkpjgeaaGreatDoorTie
import Derived.WalkKit
import Derived.ProofKit
import Derived.OpenShut
import Derived.ChangeSame
import Derived.ChangeVars
import Derived.JoinedOf
import Derived.SevenTiedAt
import Derived.Test.YtpigoedhkpjgeaaGreatDoorP8
set_option linter.unusedVariables false
set_option linter.unusedSimpArgs false
set_option linter.unusedSectionVars false
namespace Go.Proofs.YtpigoedhkpjgeaaGreatDoor
open Go Go.AM Go.ChangeShapes Go.WideShapes Go.ChangeAt Go.RowKit
theorem aff (xs:List V) (h:tj Tryz.prog [25,26] xs): ∃ds,tk ((j9.sin 3).ch.map (·.2)) xs=some ds∧Go.AM.Call Tryz.prog j9 3 ds=some [.bool true]:=by
 obtain ⟨x0,ys0,rfl,h0,h⟩:=Vs h;obtain ⟨x1,ys1,rfl,h1,h⟩:=Vs h;obtain rfl:=afg h;obtain ⟨a,rfl,ha⟩:=afh (by kernel_rfl) (by kernel_rfl) h0;obtain ⟨b,rfl,hb⟩:=afi (by kernel_rfl) (by kernel_rfl) h1;exact ⟨rK a [y6 b],by kernel_rfl,afj a ha b hb.1⟩
set_option maxRecDepth 100000 in
theorem afk (os:Os) (started:os.Started) (H:Type) (enc:TypeId×Value→H):
  ReturnsInHanded {} Tryz.checked os 3 .any (fun w args=>(Rows.topMorphismsSpec.pre enc Tryz.prog Tryz.f3 [] false w args∧laidMetH Tryz.prog Rows.topMorphismsRow.laid w)∧sizedMet enc Tryz.prog Tryz.f3 (OpenSpec.ofChange Rows.topMorphismsSpec) false w args)
   (Rows.topMorphismsSpec.post enc Tryz.prog Tryz.f3 false true false false):=by
 refine returnsInHanded_of_change_and (C:=Tryz.checked) (X:=fun w _=>laidMetH Tryz.prog Rows.topMorphismsRow.laid w) (fun _ _ _ hh h=>h.of_heap hh) own started (by kernel_rfl) Tryz.func3
  (ChangeSpec.witness_at (enc:=enc) (C:=Tryz.checked) (os:=os) (X:=fun w _=>laidMetH Tryz.prog Rows.topMorphismsRow.laid w) false (Vt os) #[.agg #[.int .i64 0,.int .i64 0,.slice none 0 0,.slice none 0 0],.slice none 0 0] 8 rfl (by kernel_rfl) (by kernel_rfl) (by kernel_rfl) (by kernel_rfl) (by kernel_rfl) (afl os _)) ?_
 intro W base args ds gs before gW hW _ _ hL _;refine afm (A:=j9) (key:=3) (L:=[25,3,22,4,23,33,26,9]) (tb:=4) afn mixed Tryz.func3 (by kernel_rfl) (by kernel_rfl) (by kernel_rfl) (by kernel_rfl) (by kernel_rfl) rfl ?_ (by kernel_rfl) (by kernel_rfl) (by kernel_rfl) (by kernel_rfl) (by kernel_rfl) (by kernel_rfl) ?_ (afo hL) gW hW
 ·intro ds nP
  match ds,nP with
  | [d0,d1],_=>rfl
 ·exact aff
theorem afp:Rows.TopMorphismsSaid:=
 OpenClaim.holds_of_wide 3 Tryz.f3 rfl rfl rfl rfl rfl rfl rfl ⟨rfl,rfl,rfl,rfl,rfl⟩ rfl rfl rfl rfl rfl (by kernel_rfl) Tryz.func3 (by kernel_rfl)
  (of_decide_eq_true (by kernel_rfl)) (by unfold Func.isWrapper;first|(rw[ak (by decide+kernel)];kernel_rfl)|(rw[aj (by decide+kernel)];exact ⟨rfl,rfl⟩))
  (fun os started H enc _=>afk os started H enc)
theorem topMorphisms_holds:Rows.TopMorphismsCardSaid:=
 Claim7.holds_tied_plain_at .later [] [.data] true (true, "a4d1e8de39966a4b99598fd7d9918bfa1762b574ab0b36c945103921f8de5e15") false
  afp (fun _ h=>by cases h) (by kernel_rfl) (fun _ h=>by cases h) topMorphisms_row_tie rfl ⟨rfl,rfl⟩ (by kernel_rfl) rfl
  (fun f fn hf hfn=>by
   obtain rfl : f = 3 := dC ((show Tryz.prog.funcNamed "semigroup/semigrouptop.TopMorphisms" = some 3 by kernel_rfl).symm.trans hf) |>.symm;obtain rfl:fn=Tryz.f3:=(dC (Tryz.func3.symm.trans hfn)).symm;exact ⟨by kernel_rfl,fun j t ht=>by
    rw[show Tryz.f3.params= #[25,26] by kernel_rfl] at ht;rcases j with _|j
    ·obtain rfl:(25:TypeId)=t:=by simpa using ht
     exact (show Tryz.prog.wantsStandIn 25=false by kernel_rfl)
    rcases j with _|j
    ·obtain rfl:(26:TypeId)=t:=by simpa using ht
     exact (show Tryz.prog.wantsStandIn 26=false by kernel_rfl)
    simp at ht⟩)
  (by kernel_rfl)
#print axioms topMorphisms_holds
end Go.Proofs.YtpigoedhkpjgeaaGreatDoor
