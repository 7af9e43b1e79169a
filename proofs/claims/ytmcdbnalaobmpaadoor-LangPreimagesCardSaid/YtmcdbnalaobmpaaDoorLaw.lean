/-
  The card of LangPreimages holds.
-/
import Derived.Test.YtmcdbnalaobmpaaDoorRows
import Derived.Test.YtmcdbnalaobmpaaDoorCards
import Derived.Test.YtmcdbnalaobmpaaDoorTie
import Derived.WalkKit
import Derived.ProofKit
import Derived.OpenShut
import Derived.ChangeSame
import Derived.ChangeVars
import Derived.JoinedOf
import Derived.SevenTiedAt
import Derived.Test.YtmcdbnalaobmpaaDoorP6
set_option linter.unusedVariables false
set_option linter.unusedSimpArgs false
namespace Go.Proofs.YtmcdbnalaobmpaaDoor
open Go Go.AM Go.ChangeShapes Go.WideShapes Go.ChangeAt Go.RowKit
theorem langPreimages_wt (xs:List V) (h:WTall Tryd.prog [25,26] xs): ∃ds,readVs ((ann.sin 3).slots.map (·.2)) xs=some ds∧Go.AM.Call Tryd.prog ann 3 ds=some [.bool true]:=by
 obtain ⟨x0,ys0,rfl,h0,h⟩:=wtall_one h
 obtain ⟨x1,ys1,rfl,h1,h⟩:=wtall_one h
 obtain rfl:=wtall_nil h
 obtain ⟨a,rfl,ha⟩:=wt_dfa (by kernel_rfl) (by kernel_rfl) h0
 obtain ⟨b,rfl,hb⟩:=wt_strs (by kernel_rfl) (by kernel_rfl) h1
 exact ⟨dfaA a [strsV b],by kernel_rfl,langPreimages a ha b hb.1⟩
set_option maxRecDepth 100000 in
theorem langPreimages_lifted (os:Os) (started:os.Started) (H:Type) (enc:TypeId × Value→H):
  ReturnsInHanded {} Tryd.checked os 3 .any (fun w args=>(Rows.langPreimagesSpec.pre enc Tryd.prog Tryd.f3 [] false w args∧laidMetH Tryd.prog Rows.langPreimagesRow.laid w)∧sizedMet enc Tryd.prog Tryd.f3 (OpenSpec.ofChange Rows.langPreimagesSpec) false w args)
   (Rows.langPreimagesSpec.post enc Tryd.prog Tryd.f3 false true false false):=by
 refine returnsInHanded_of_change_and (C:=Tryd.checked) (X:=fun w _=>laidMetH Tryd.prog Rows.langPreimagesRow.laid w) (fun _ _ _ hh h=>h.of_heap hh) own started (by kernel_rfl) Tryd.func3
  (ChangeSpec.witness_at (enc:=enc) (C:=Tryd.checked) (os:=os) (X:=fun w _=>laidMetH Tryd.prog Rows.langPreimagesRow.laid w) false (laidWorld os) #[.agg #[.int .i64 0,.int .i64 0,.slice none 0 0,.slice none 0 0],.slice none 0 0] 8 rfl (by kernel_rfl) (by kernel_rfl) (by kernel_rfl) (by kernel_rfl) (by kernel_rfl) (laidWorld_met os _)) ?_
 intro W base args ds gs before hval hW _ _ hL _
 refine law_contract (A:=ann) (key:=3) (L:=[25,3,22,4,23,57,26,9]) (tb:=4) fine mixed Tryd.func3 (by kernel_rfl) (by kernel_rfl) (by kernel_rfl) (by kernel_rfl) (by kernel_rfl) rfl ?_ (by kernel_rfl) (by kernel_rfl) (by kernel_rfl) (by kernel_rfl) (by kernel_rfl) (by kernel_rfl) ?_ (globOk hL) hval hW
 ·intro ds hds
  match ds,hds with
  | [d0,d1],_=>rfl
 ·exact langPreimages_wt
theorem langPreimages_row:Rows.LangPreimagesSaid:=
 OpenClaim.holds_of_wide 3 Tryd.f3 rfl rfl rfl rfl rfl rfl rfl ⟨rfl,rfl,rfl,rfl,rfl⟩ rfl rfl rfl rfl rfl (by kernel_rfl) Tryd.func3 (by kernel_rfl)
  (of_decide_eq_true (by kernel_rfl)) (by unfold Func.isWrapper;first|(rw[if_pos (by decide+kernel)];kernel_rfl)|(rw[if_neg (by decide+kernel)];exact ⟨rfl,rfl⟩))
  (fun os started H enc _=>langPreimages_lifted os started H enc)
theorem langPreimages_holds:Rows.LangPreimagesCardSaid:=
 Claim7.holds_tied_plain_at .later [] [.data] true (true, "0feca441c2d3efbcfb89f7fefbf30d8111a8c3e650af14d011a68981f808fdc9") false
  langPreimages_row (fun _ h=>by cases h) (by kernel_rfl) (fun _ h=>by cases h) langPreimages_row_tie rfl ⟨rfl,rfl⟩ (by kernel_rfl) rfl
  (fun f fn hf hfn=>by
   obtain rfl : f = 3 := Option.some.inj ((show Tryd.prog.funcNamed "semigroup/semigrouplaw10.LangPreimages" = some 3 by kernel_rfl).symm.trans hf) |>.symm
   obtain rfl:fn=Tryd.f3:=(Option.some.inj (Tryd.func3.symm.trans hfn)).symm
   exact ⟨by kernel_rfl,fun j t ht=>by
    rw[show Tryd.f3.params= #[25,26] by kernel_rfl] at ht
    rcases j with _|j
    ·obtain rfl:(25:TypeId)=t:=by simpa using ht
     exact (show Tryd.prog.wantsStandIn 25=false by kernel_rfl)
    rcases j with _|j
    ·obtain rfl:(26:TypeId)=t:=by simpa using ht
     exact (show Tryd.prog.wantsStandIn 26=false by kernel_rfl)
    simp at ht⟩)
  (by kernel_rfl)
#print axioms langPreimages_holds
end Go.Proofs.YtmcdbnalaobmpaaDoor
