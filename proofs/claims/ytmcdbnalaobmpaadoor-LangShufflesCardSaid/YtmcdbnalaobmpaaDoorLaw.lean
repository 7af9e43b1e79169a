/-
  The akM of LangShuffles holds.
-/
import Derived.Test.YtmcdbnalaobmpaaDoorRows
import Derived.Test.YtmcdbnalaobmpaaDoorCards
import Derived.Test.YtmcdbnalaobmpaaDoorTie
import Derived.WalkKit
import Derived.ProofKit
import Derived.OpenShut
import Derived.ChangeSame
import Derived.ChangeVars
import Derived.JoinedOf
import Derived.SevenTiedAt
import Derived.Test.YtmcdbnalaobmpaaDoorP7
set_option linter.unusedVariables false
set_option linter.unusedSimpArgs false
namespace Go.Proofs.YtmcdbnalaobmpaaDoor
open Go Go.AM Go.ChangeShapes Go.WideShapes Go.ChangeAt Go.RowKit
theorem Yg (xs:List V) (h:td Tryd.prog [25,25] xs): ∃ds,rH ((ar.sin 5).bI.map (·.2)) xs=some ds∧Go.AM.Call Tryd.prog ar 5 ds=some [.bool true]:=by
 obtain ⟨x0,ys0,rfl,h0,h⟩:=N4 h
 obtain ⟨x1,ys1,rfl,h1,h⟩:=N4 h
 obtain rfl:=Yh h
 obtain ⟨a,rfl,ha⟩:=N5 (by kernel_rfl) (by kernel_rfl) h0
 obtain ⟨b,rfl,hb⟩:=N5 (by kernel_rfl) (by kernel_rfl) h1
 exact ⟨jo a (jo b []),by kernel_rfl,Yi a ha b hb⟩
set_option maxRecDepth 100000 in
theorem Yj (os:Os) (started:os.Started) (H:Type) (enc:TypeId × Value→H):
  ReturnsInHanded {} Tryd.checked os 5 .any (fun w args=>(Rows.langShufflesSpec.pre enc Tryd.prog Tryd.f5 [] false w args∧laidMetH Tryd.prog Rows.langShufflesRow.laid w)∧sizedMet enc Tryd.prog Tryd.f5 (OpenSpec.ofChange Rows.langShufflesSpec) false w args)
   (Rows.langShufflesSpec.post enc Tryd.prog Tryd.f5 false true false false):=by
 refine returnsInHanded_of_change_and (C:=Tryd.checked) (X:=fun w _=>laidMetH Tryd.prog Rows.langShufflesRow.laid w) (fun _ _ _ hh h=>h.of_heap hh) own started (by kernel_rfl) Tryd.func5
  (ChangeSpec.witness_at (enc:=enc) (C:=Tryd.checked) (os:=os) (X:=fun w _=>laidMetH Tryd.prog Rows.langShufflesRow.laid w) false (N6 os) #[.agg #[.int .i64 0,.int .i64 0,.slice none 0 0,.slice none 0 0],.agg #[.int .i64 0,.int .i64 0,.slice none 0 0,.slice none 0 0]] 8 rfl (by kernel_rfl) (by kernel_rfl) (by kernel_rfl) (by kernel_rfl) (by kernel_rfl) (Yk os _)) ?_
 intro W base args ds gs before fA hW _ _ hL _
 refine Yl (A:=ar) (key:=5) (L:=[25,3,22,4,23,57]) (tb:=4) Ym mixed Tryd.func5 (by kernel_rfl) (by kernel_rfl) (by kernel_rfl) (by kernel_rfl) (by kernel_rfl) rfl ?_ (by kernel_rfl) (by kernel_rfl) (by kernel_rfl) (by kernel_rfl) (by kernel_rfl) (by kernel_rfl) ?_ (Yn hL) fA hW
 ·intro ds kU
  match ds,kU with
  | [d0,d1],_=>rfl
 ·exact Yg
theorem Yo:Rows.LangShufflesSaid:=
 OpenClaim.holds_of_wide 5 Tryd.f5 rfl rfl rfl rfl rfl rfl rfl ⟨rfl,rfl,rfl,rfl,rfl⟩ rfl rfl rfl rfl rfl (by kernel_rfl) Tryd.func5 (by kernel_rfl)
  (of_decide_eq_true (by kernel_rfl)) (by unfold Func.isWrapper;first|(rw[if_pos (by decide+kernel)];kernel_rfl)|(rw[if_neg (by decide+kernel)];exact ⟨rfl,rfl⟩))
  (fun os started H enc _=>Yj os started H enc)
theorem langShuffles_holds:Rows.LangShufflesCardSaid:=
 Claim7.holds_tied_plain_at .later [] [.data] true (true, "0feca441c2d3efbcfb89f7fefbf30d8111a8c3e650af14d011a68981f808fdc9") false
  Yo (fun _ h=>by cases h) (by kernel_rfl) (fun _ h=>by cases h) langShuffles_row_tie rfl ⟨rfl,rfl⟩ (by kernel_rfl) rfl
  (fun f fn hf Yp=>by
   obtain rfl : f = 5 := Option.some.inj ((show Tryd.prog.funcNamed "semigroup/semigrouplaw10.LangShuffles" = some 5 by kernel_rfl).symm.trans hf) |>.symm
   obtain rfl:fn=Tryd.f5:=(Option.some.inj (Tryd.func5.symm.trans Yp)).symm
   exact ⟨by kernel_rfl,fun j t ht=>by
    rw[show Tryd.f5.params= #[25,25] by kernel_rfl] at ht
    rcases j with _|j
    ·obtain rfl:(25:TypeId)=t:=by simpa using ht
     exact (show Tryd.prog.wantsStandIn 25=false by kernel_rfl)
    rcases j with _|j
    ·obtain rfl:(25:TypeId)=t:=by simpa using ht
     exact (show Tryd.prog.wantsStandIn 25=false by kernel_rfl)
    simp at ht⟩)
  (by kernel_rfl)
#print axioms langShuffles_holds
end Go.Proofs.YtmcdbnalaobmpaaDoor
