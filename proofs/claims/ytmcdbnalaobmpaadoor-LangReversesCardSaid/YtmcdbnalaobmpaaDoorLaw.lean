/-
  The card of LangReverses holds.
-/
import Derived.Test.YtmcdbnalaobmpaaDoorRows
import Derived.Test.YtmcdbnalaobmpaaDoorCards
import Derived.Test.YtmcdbnalaobmpaaDoorTie
import Derived.WalkKit
import Derived.ProofKit
import Derived.OpenShut
import Derived.ChangeSame
import Derived.ChangeVars
import Derived.JoinedOf
import Derived.SevenTiedAt
import Derived.Test.YtmcdbnalaobmpaaDoorP7
set_option linter.unusedVariables false
set_option linter.unusedSimpArgs false
namespace Go.Proofs.YtmcdbnalaobmpaaDoor
open Go Go.AM Go.ChangeShapes Go.WideShapes Go.ChangeAt Go.RowKit
theorem acp (xs:List V) (h:vq Tryd.prog [25,25] xs): ∃ds,ua ((au.sin 15).bQ.map (·.2)) xs=some ds∧Go.AM.Call Tryd.prog au 15 ds=some [.bool true]:=by
 obtain ⟨x0,ys0,rfl,h0,h⟩:=Sv h
 obtain ⟨x1,ys1,rfl,h1,h⟩:=Sv h
 obtain rfl:=acq h
 obtain ⟨a,rfl,ha⟩:=Sw (by kernel_rfl) (by kernel_rfl) h0
 obtain ⟨b,rfl,hb⟩:=Sw (by kernel_rfl) (by kernel_rfl) h1
 exact ⟨nG a (nG b []),by kernel_rfl,acr a ha b hb⟩
set_option maxRecDepth 100000 in
theorem acs (os:Os) (started:os.Started) (H:Type) (enc:TypeId × Value→H):
  ReturnsInHanded {} Tryd.checked os 15 .any (fun w args=>(Rows.langReversesSpec.pre enc Tryd.prog Tryd.f15 [] false w args∧laidMetH Tryd.prog Rows.langReversesRow.laid w)∧sizedMet enc Tryd.prog Tryd.f15 (OpenSpec.ofChange Rows.langReversesSpec) false w args)
   (Rows.langReversesSpec.post enc Tryd.prog Tryd.f15 false true false false):=by
 refine returnsInHanded_of_change_and (C:=Tryd.checked) (X:=fun w _=>laidMetH Tryd.prog Rows.langReversesRow.laid w) (fun _ _ _ hh h=>h.of_heap hh) own started (by kernel_rfl) Tryd.func15
  (ChangeSpec.witness_at (enc:=enc) (C:=Tryd.checked) (os:=os) (X:=fun w _=>laidMetH Tryd.prog Rows.langReversesRow.laid w) false (Sy os) #[.agg #[.int .i64 0,.int .i64 0,.slice none 0 0,.slice none 0 0],.agg #[.int .i64 0,.int .i64 0,.slice none 0 0,.slice none 0 0]] 8 rfl (by kernel_rfl) (by kernel_rfl) (by kernel_rfl) (by kernel_rfl) (by kernel_rfl) (acu os _)) ?_
 intro W base args ds gs before gx hW _ _ hL _
 refine acv (A:=au) (key:=15) (L:=[25,3,22,4,23,57]) (tb:=4) acw mixed Tryd.func15 (by kernel_rfl) (by kernel_rfl) (by kernel_rfl) (by kernel_rfl) (by kernel_rfl) rfl ?_ (by kernel_rfl) (by kernel_rfl) (by kernel_rfl) (by kernel_rfl) (by kernel_rfl) (by kernel_rfl) ?_ (acx hL) gx hW
 ·intro ds mU
  match ds,mU with
  | [d0,d1],_=>rfl
 ·exact acp
theorem acy:Rows.LangReversesSaid:=
 OpenClaim.holds_of_wide 15 Tryd.f15 rfl rfl rfl rfl rfl rfl rfl ⟨rfl,rfl,rfl,rfl,rfl⟩ rfl rfl rfl rfl rfl (by kernel_rfl) Tryd.func15 (by kernel_rfl)
  (of_decide_eq_true (by kernel_rfl)) (by unfold Func.isWrapper;first|(rw[ag (by decide+kernel)];kernel_rfl)|(rw[ah (by decide+kernel)];exact ⟨rfl,rfl⟩))
  (fun os started H enc _=>acs os started H enc)
theorem langReverses_holds:Rows.LangReversesCardSaid:=
 Claim7.holds_tied_plain_at .later [] [.data] true (true, "0feca441c2d3efbcfb89f7fefbf30d8111a8c3e650af14d011a68981f808fdc9") false
  acy (fun _ h=>by cases h) (by kernel_rfl) (fun _ h=>by cases h) langReverses_row_tie rfl ⟨rfl,rfl⟩ (by kernel_rfl) rfl
  (fun f fn hf hfn=>by
   obtain rfl : f = 15 := dq ((show Tryd.prog.funcNamed "semigroup/semigrouplaw10.LangReverses" = some 15 by kernel_rfl).symm.trans hf) |>.symm
   obtain rfl:fn=Tryd.f15:=(dq (Tryd.func15.symm.trans hfn)).symm
   exact ⟨by kernel_rfl,fun j t ht=>by
    rw[show Tryd.f15.params= #[25,25] by kernel_rfl] at ht
    rcases j with _|j
    ·obtain rfl:(25:TypeId)=t:=by simpa using ht
     exact (show Tryd.prog.wantsStandIn 25=false by kernel_rfl)
    rcases j with _|j
    ·obtain rfl:(25:TypeId)=t:=by simpa using ht
     exact (show Tryd.prog.wantsStandIn 25=false by kernel_rfl)
    simp at ht⟩)
  (by kernel_rfl)
#print axioms langReverses_holds
end Go.Proofs.YtmcdbnalaobmpaaDoor
