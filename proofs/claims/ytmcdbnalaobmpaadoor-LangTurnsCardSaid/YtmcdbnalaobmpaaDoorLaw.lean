/-
  The alp of LangTurns holds.
-/
import Derived.Test.YtmcdbnalaobmpaaDoorRows
import Derived.Test.YtmcdbnalaobmpaaDoorCards
import Derived.Test.YtmcdbnalaobmpaaDoorTie
import Derived.WalkKit
import Derived.ProofKit
import Derived.OpenShut
import Derived.ChangeSame
import Derived.ChangeVars
import Derived.JoinedOf
import Derived.SevenTiedAt
import Derived.Test.YtmcdbnalaobmpaaDoorP7
set_option linter.unusedVariables false
set_option linter.unusedSimpArgs false
namespace Go.Proofs.YtmcdbnalaobmpaaDoor
open Go Go.AM Go.ChangeShapes Go.WideShapes Go.ChangeAt Go.RowKit
theorem Z1 (xs:List V) (h:tn Tryd.prog [25,9,9,26] xs): ∃ds,rX ((aq.sin 12).bJ.map (·.2)) xs=some ds∧Go.AM.Call Tryd.prog aq 12 ds=some [.bool true]:=by
 obtain ⟨x0,ys0,rfl,h0,h⟩:=Eb h
 obtain ⟨x1,ys1,rfl,h1,h⟩:=Eb h
 obtain ⟨x2,ys2,rfl,h2,h⟩:=Eb h
 obtain ⟨x3,ys3,rfl,h3,h⟩:=Eb h
 obtain rfl:=Z2 h
 obtain ⟨a,rfl,ha⟩:=Z3 (by kernel_rfl) (by kernel_rfl) h0
 obtain ⟨b,rfl,hb⟩:=fF.str (by kernel_rfl) h1
 obtain ⟨c,rfl,hc⟩:=fF.str (by kernel_rfl) h2
 obtain ⟨d,rfl,hd⟩:=Z4 (by kernel_rfl) (by kernel_rfl) h3
 exact ⟨rY a [.str b,.str c,vD d],by kernel_rfl,Z5 a ha b c d hd.1⟩
set_option maxRecDepth 100000 in
theorem Z6 (os:Os) (started:os.Started) (H:Type) (enc:TypeId × Value→H):
  ReturnsInHanded {} Tryd.checked os 12 .any (fun w args=>(Rows.langTurnsSpec.pre enc Tryd.prog Tryd.f12 [] false w args∧laidMetH Tryd.prog Rows.langTurnsRow.laid w)∧sizedMet enc Tryd.prog Tryd.f12 (OpenSpec.ofChange Rows.langTurnsSpec) false w args)
   (Rows.langTurnsSpec.post enc Tryd.prog Tryd.f12 false true false false):=by
 refine returnsInHanded_of_change_and (C:=Tryd.checked) (X:=fun w _=>laidMetH Tryd.prog Rows.langTurnsRow.laid w) (fun _ _ _ hh h=>h.of_heap hh) own started (by kernel_rfl) Tryd.func12
  (ChangeSpec.witness_at (enc:=enc) (C:=Tryd.checked) (os:=os) (X:=fun w _=>laidMetH Tryd.prog Rows.langTurnsRow.laid w) false (P1 os) #[.agg #[.int .i64 0,.int .i64 0,.slice none 0 0,.slice none 0 0],.string ⟨#[]⟩,.string ⟨#[]⟩,.slice none 0 0] 8 rfl (by kernel_rfl) (by kernel_rfl) (by kernel_rfl) (by kernel_rfl) (by kernel_rfl) (Z7 os _)) ?_
 intro W base args ds gs before fG hW _ _ hL _
 refine Z8 (A:=aq) (key:=12) (L:=[25,3,22,4,23,57,9,26]) (tb:=4) Z9 mixed Tryd.func12 (by kernel_rfl) (by kernel_rfl) (by kernel_rfl) (by kernel_rfl) (by kernel_rfl) rfl ?_ (by kernel_rfl) (by kernel_rfl) (by kernel_rfl) (by kernel_rfl) (by kernel_rfl) (by kernel_rfl) ?_ (aaa hL) fG hW
 ·intro ds lq
  match ds,lq with
  | [d0,d1,d2,d3],_=>rfl
 ·exact Z1
theorem aab:Rows.LangTurnsSaid:=
 OpenClaim.holds_of_wide 12 Tryd.f12 rfl rfl rfl rfl rfl rfl rfl ⟨rfl,rfl,rfl,rfl,rfl⟩ rfl rfl rfl rfl rfl (by kernel_rfl) Tryd.func12 (by kernel_rfl)
  (of_decide_eq_true (by kernel_rfl)) (by unfold Func.isWrapper;first|(rw[if_pos (by decide+kernel)];kernel_rfl)|(rw[if_neg (by decide+kernel)];exact ⟨rfl,rfl⟩))
  (fun os started H enc _=>Z6 os started H enc)
theorem langTurns_holds:Rows.LangTurnsCardSaid:=
 Claim7.holds_tied_plain_at .later [] [.data] true (true, "0feca441c2d3efbcfb89f7fefbf30d8111a8c3e650af14d011a68981f808fdc9") false
  aab (fun _ h=>by cases h) (by kernel_rfl) (fun _ h=>by cases h) langTurns_row_tie rfl ⟨rfl,rfl⟩ (by kernel_rfl) rfl
  (fun f fn hf hfn=>by
   obtain rfl : f = 12 := Option.some.inj ((show Tryd.prog.funcNamed "semigroup/semigrouplaw10.LangTurns" = some 12 by kernel_rfl).symm.trans hf) |>.symm
   obtain rfl:fn=Tryd.f12:=(Option.some.inj (Tryd.func12.symm.trans hfn)).symm
   exact ⟨by kernel_rfl,fun j t ht=>by
    rw[show Tryd.f12.params= #[25,9,9,26] by kernel_rfl] at ht
    rcases j with _|j
    ·obtain rfl:(25:TypeId)=t:=by simpa using ht
     exact (show Tryd.prog.wantsStandIn 25=false by kernel_rfl)
    rcases j with _|j
    ·obtain rfl:(9:TypeId)=t:=by simpa using ht
     exact (show Tryd.prog.wantsStandIn 9=false by kernel_rfl)
    rcases j with _|j
    ·obtain rfl:(9:TypeId)=t:=by simpa using ht
     exact (show Tryd.prog.wantsStandIn 9=false by kernel_rfl)
    rcases j with _|j
    ·obtain rfl:(26:TypeId)=t:=by simpa using ht
     exact (show Tryd.prog.wantsStandIn 26=false by kernel_rfl)
    simp at ht⟩)
  (by kernel_rfl)
#print axioms langTurns_holds
end Go.Proofs.YtmcdbnalaobmpaaDoor
