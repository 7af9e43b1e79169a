/-
  The card of LangImages holds.
-/
import Derived.Test.YtmcdbnalaobmpaaDoorRows
import Derived.Test.YtmcdbnalaobmpaaDoorCards
import Derived.Test.YtmcdbnalaobmpaaDoorTie
import Derived.WalkKit
import Derived.ProofKit
import Derived.OpenShut
import Derived.ChangeSame
import Derived.ChangeVars
import Derived.JoinedOf
import Derived.SevenTiedAt
import Derived.Test.YtmcdbnalaobmpaaDoorP7
set_option linter.unusedVariables false
set_option linter.unusedSimpArgs false
namespace Go.Proofs.YtmcdbnalaobmpaaDoor
open Go Go.AM Go.ChangeShapes Go.WideShapes Go.ChangeAt Go.RowKit
theorem abq (xs:List V) (h:u6 Tryd.prog [25,3,26] xs): ∃ds,tC ((au.sin 4).bX.map (·.2)) xs=some ds∧Go.AM.Call Tryd.prog au 4 ds=some [.bool true]:=by
 obtain ⟨x0,ys0,rfl,h0,h⟩:=Km h
 obtain ⟨x1,ys1,rfl,h1,h⟩:=Km h
 obtain ⟨x2,ys2,rfl,h2,h⟩:=Km h
 obtain rfl:=abr h
 obtain ⟨a,rfl,ha⟩:=abt (by kernel_rfl) (by kernel_rfl) h0
 obtain ⟨b,rfl,hb⟩:=WT.Fo (by kernel_rfl) (gx.one (by kernel_rfl) h1)
 obtain ⟨c,rfl,hc⟩:=abu (by kernel_rfl) (by kernel_rfl) h2
 exact ⟨rK a [.int .i64 b,mr c],by kernel_rfl,abv a ha b c hc.1⟩
set_option maxRecDepth 100000 in
theorem abw (os:Os) (started:os.Started) (H:Type) (enc:TypeId × Value→H):
  ReturnsInHanded {} Tryd.checked os 4 .any (fun w args=>(Rows.langImagesSpec.pre enc Tryd.prog Tryd.f4 [] false w args∧laidMetH Tryd.prog Rows.langImagesRow.laid w)∧sizedMet enc Tryd.prog Tryd.f4 (OpenSpec.ofChange Rows.langImagesSpec) false w args)
   (Rows.langImagesSpec.post enc Tryd.prog Tryd.f4 false true false false):=by
 refine returnsInHanded_of_change_and (C:=Tryd.checked) (X:=fun w _=>laidMetH Tryd.prog Rows.langImagesRow.laid w) (fun _ _ _ hh h=>h.of_heap hh) own started (by kernel_rfl) Tryd.func4
  (ChangeSpec.witness_at (enc:=enc) (C:=Tryd.checked) (os:=os) (X:=fun w _=>laidMetH Tryd.prog Rows.langImagesRow.laid w) false (Q6 os) #[.agg #[.int .i64 0,.int .i64 0,.slice none 0 0,.slice none 0 0],.int .i64 0,.slice none 0 0] 8 rfl (by kernel_rfl) (by kernel_rfl) (by kernel_rfl) (by kernel_rfl) (by kernel_rfl) (abx os _)) ?_
 intro W base args ds gs before gh hW _ _ hL _
 refine aby (A:=au) (key:=4) (L:=[25,3,22,4,23,57,26,9]) (tb:=4) abz mixed Tryd.func4 (by kernel_rfl) (by kernel_rfl) (by kernel_rfl) (by kernel_rfl) (by kernel_rfl) rfl ?_ (by kernel_rfl) (by kernel_rfl) (by kernel_rfl) (by kernel_rfl) (by kernel_rfl) (by kernel_rfl) ?_ (abA hL) gh hW
 ·intro ds mu
  match ds,mu with
  | [d0,d1,d2],_=>rfl
 ·exact abq
theorem abB:Rows.LangImagesSaid:=
 OpenClaim.holds_of_wide 4 Tryd.f4 rfl rfl rfl rfl rfl rfl rfl ⟨rfl,rfl,rfl,rfl,rfl⟩ rfl rfl rfl rfl rfl (by kernel_rfl) Tryd.func4 (by kernel_rfl)
  (of_decide_eq_true (by kernel_rfl)) (by unfold Func.isWrapper;first|(rw[af (by decide+kernel)];kernel_rfl)|(rw[ag (by decide+kernel)];exact ⟨rfl,rfl⟩))
  (fun os started H enc _=>abw os started H enc)
theorem langImages_holds:Rows.LangImagesCardSaid:=
 Claim7.holds_tied_plain_at .later [] [.data] true (true, "0feca441c2d3efbcfb89f7fefbf30d8111a8c3e650af14d011a68981f808fdc9") false
  abB (fun _ h=>by cases h) (by kernel_rfl) (fun _ h=>by cases h) langImages_row_tie rfl ⟨rfl,rfl⟩ (by kernel_rfl) rfl
  (fun f fn hf hfn=>by
   obtain rfl : f = 4 := dr ((show Tryd.prog.funcNamed "semigroup/semigrouplaw10.LangImages" = some 4 by kernel_rfl).symm.trans hf) |>.symm
   obtain rfl:fn=Tryd.f4:=(dr (Tryd.func4.symm.trans hfn)).symm
   exact ⟨by kernel_rfl,fun j t ht=>by
    rw[show Tryd.f4.params= #[25,3,26] by kernel_rfl] at ht
    rcases j with _|j
    ·obtain rfl:(25:TypeId)=t:=by simpa using ht
     exact (show Tryd.prog.wantsStandIn 25=false by kernel_rfl)
    rcases j with _|j
    ·obtain rfl:(3:TypeId)=t:=by simpa using ht
     exact (show Tryd.prog.wantsStandIn 3=false by kernel_rfl)
    rcases j with _|j
    ·obtain rfl:(26:TypeId)=t:=by simpa using ht
     exact (show Tryd.prog.wantsStandIn 26=false by kernel_rfl)
    simp at ht⟩)
  (by kernel_rfl)
#print axioms langImages_holds
end Go.Proofs.YtmcdbnalaobmpaaDoor
