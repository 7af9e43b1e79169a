/-
  The card of LangCloses holds.
-/
import Derived.Test.YtmcdbnalaobmpaaDoorRows
import Derived.Test.YtmcdbnalaobmpaaDoorCards
import Derived.Test.YtmcdbnalaobmpaaDoorTie
import Derived.WalkKit
import Derived.ProofKit
import Derived.OpenShut
import Derived.ChangeSame
import Derived.ChangeVars
import Derived.JoinedOf
import Derived.SevenTiedAt
import Derived.Test.YtmcdbnalaobmpaaDoorP7
set_option linter.unusedVariables false
set_option linter.unusedSimpArgs false
namespace Go.Proofs.YtmcdbnalaobmpaaDoor
open Go Go.AM Go.ChangeShapes Go.WideShapes Go.ChangeAt Go.RowKit
theorem aaa (xs:List V) (h:uw Tryd.prog [25,9,9,9] xs): ∃ds,sV ((aD.sin 13).bQ.map (·.2)) xs=some ds∧Go.AM.Call Tryd.prog aD 13 ds=some [.bool true]:=by
 obtain ⟨x0,ys0,rfl,h0,h⟩:=ES h
 obtain ⟨x1,ys1,rfl,h1,h⟩:=ES h
 obtain ⟨x2,ys2,rfl,h2,h⟩:=ES h
 obtain ⟨x3,ys3,rfl,h3,h⟩:=ES h
 obtain rfl:=aab h
 obtain ⟨a,rfl,ha⟩:=aac (by kernel_rfl) (by kernel_rfl) h0
 obtain ⟨b,rfl,hb⟩:=gF.str (by kernel_rfl) h1
 obtain ⟨c,rfl,hc⟩:=gF.str (by kernel_rfl) h2
 obtain ⟨d,rfl,hd⟩:=gF.str (by kernel_rfl) h3
 exact ⟨sW a [.str b,.str c,.str d],by kernel_rfl,aad a ha b c d⟩
set_option maxRecDepth 100000 in
theorem aae (os:Os) (started:os.Started) (H:Type) (enc:TypeId × Value→H):
  ReturnsInHanded {} Tryd.checked os 13 .any (fun w args=>(Rows.langClosesSpec.pre enc Tryd.prog Tryd.f13 [] false w args∧laidMetH Tryd.prog Rows.langClosesRow.laid w)∧sizedMet enc Tryd.prog Tryd.f13 (OpenSpec.ofChange Rows.langClosesSpec) false w args)
   (Rows.langClosesSpec.post enc Tryd.prog Tryd.f13 false true false false):=by
 refine returnsInHanded_of_change_and (C:=Tryd.checked) (X:=fun w _=>laidMetH Tryd.prog Rows.langClosesRow.laid w) (fun _ _ _ hh h=>h.of_heap hh) own started (by kernel_rfl) Tryd.func13
  (ChangeSpec.witness_at (enc:=enc) (C:=Tryd.checked) (os:=os) (X:=fun w _=>laidMetH Tryd.prog Rows.langClosesRow.laid w) false (Qh os) #[.agg #[.int .i64 0,.int .i64 0,.slice none 0 0,.slice none 0 0],.string ⟨#[]⟩,.string ⟨#[]⟩,.string ⟨#[]⟩] 8 rfl (by kernel_rfl) (by kernel_rfl) (by kernel_rfl) (by kernel_rfl) (by kernel_rfl) (aaf os _)) ?_
 intro W base args ds gs before fN hW _ _ hL _
 refine aag (A:=aD) (key:=13) (L:=[25,3,22,4,23,57,9]) (tb:=4) aah mixed Tryd.func13 (by kernel_rfl) (by kernel_rfl) (by kernel_rfl) (by kernel_rfl) (by kernel_rfl) rfl ?_ (by kernel_rfl) (by kernel_rfl) (by kernel_rfl) (by kernel_rfl) (by kernel_rfl) (by kernel_rfl) ?_ (aai hL) fN hW
 ·intro ds lK
  match ds,lK with
  | [d0,d1,d2,d3],_=>rfl
 ·exact aaa
theorem aaj:Rows.LangClosesSaid:=
 OpenClaim.holds_of_wide 13 Tryd.f13 rfl rfl rfl rfl rfl rfl rfl ⟨rfl,rfl,rfl,rfl,rfl⟩ rfl rfl rfl rfl rfl (by kernel_rfl) Tryd.func13 (by kernel_rfl)
  (ET (by kernel_rfl)) (by unfold Func.isWrapper;first|(rw[af (by decide+kernel)];kernel_rfl)|(rw[ah (by decide+kernel)];exact ⟨rfl,rfl⟩))
  (fun os started H enc _=>aae os started H enc)
theorem langCloses_holds:Rows.LangClosesCardSaid:=
 Claim7.holds_tied_plain_at .later [] [.data] true (true, "0feca441c2d3efbcfb89f7fefbf30d8111a8c3e650af14d011a68981f808fdc9") false
  aaj (fun _ h=>by cases h) (by kernel_rfl) (fun _ h=>by cases h) langCloses_row_tie rfl ⟨rfl,rfl⟩ (by kernel_rfl) rfl
  (fun f fn hf hfn=>by
   obtain rfl : f = 13 := cX ((show Tryd.prog.funcNamed "semigroup/semigrouplaw10.LangCloses" = some 13 by kernel_rfl).symm.trans hf) |>.symm
   obtain rfl:fn=Tryd.f13:=(cX (Tryd.func13.symm.trans hfn)).symm
   exact ⟨by kernel_rfl,fun j t ht=>by
    rw[show Tryd.f13.params= #[25,9,9,9] by kernel_rfl] at ht
    rcases j with _|j
    ·obtain rfl:(25:TypeId)=t:=by simpa using ht
     exact (show Tryd.prog.wantsStandIn 25=false by kernel_rfl)
    rcases j with _|j
    ·obtain rfl:(9:TypeId)=t:=by simpa using ht
     exact (show Tryd.prog.wantsStandIn 9=false by kernel_rfl)
    rcases j with _|j
    ·obtain rfl:(9:TypeId)=t:=by simpa using ht
     exact (show Tryd.prog.wantsStandIn 9=false by kernel_rfl)
    rcases j with _|j
    ·obtain rfl:(9:TypeId)=t:=by simpa using ht
     exact (show Tryd.prog.wantsStandIn 9=false by kernel_rfl)
    simp at ht⟩)
  (by kernel_rfl)
#print axioms langCloses_holds
end Go.Proofs.YtmcdbnalaobmpaaDoor
