/-
  The card of LangKleene holds.
-/
import Derived.Test.YtmcdbnalaobmpaaDoorRows
import Derived.Test.YtmcdbnalaobmpaaDoorCards
import Derived.Test.YtmcdbnalaobmpaaDoorTie
import Derived.WalkKit
import Derived.ProofKit
import Derived.OpenShut
import Derived.ChangeSame
import Derived.ChangeVars
import Derived.JoinedOf
import Derived.SevenTiedAt
import Derived.Test.YtmcdbnalaobmpaaDoorP7
set_option linter.unusedVariables false
set_option linter.unusedSimpArgs false
namespace Go.Proofs.YtmcdbnalaobmpaaDoor
open Go Go.AM Go.ChangeShapes Go.WideShapes Go.ChangeAt Go.RowKit
theorem YO (xs:List V) (h:tF Tryd.prog [25,25,25] xs): ∃ds,sg ((av.sin 14).bG.map (·.2)) xs=some ds∧Go.AM.Call Tryd.prog av 14 ds=some [.bool true]:=by
 obtain ⟨x0,ys0,rfl,h0,h⟩:=Ie h
 obtain ⟨x1,ys1,rfl,h1,h⟩:=Ie h
 obtain ⟨x2,ys2,rfl,h2,h⟩:=Ie h
 obtain rfl:=YP h
 obtain ⟨a,rfl,ha⟩:=Ig (by kernel_rfl) (by kernel_rfl) h0
 obtain ⟨b,rfl,hb⟩:=Ig (by kernel_rfl) (by kernel_rfl) h1
 obtain ⟨c,rfl,hc⟩:=Ig (by kernel_rfl) (by kernel_rfl) h2
 exact ⟨kz a (kz b (kz c [])),by kernel_rfl,YQ a ha b hb c hc⟩
set_option maxRecDepth 100000 in
theorem YR (os:Os) (started:os.Started) (H:Type) (enc:TypeId × Value→H):
  ReturnsInHanded {} Tryd.checked os 14 .any (fun w args=>(Rows.langKleeneSpec.pre enc Tryd.prog Tryd.f14 [] false w args∧laidMetH Tryd.prog Rows.langKleeneRow.laid w)∧sizedMet enc Tryd.prog Tryd.f14 (OpenSpec.ofChange Rows.langKleeneSpec) false w args)
   (Rows.langKleeneSpec.post enc Tryd.prog Tryd.f14 false true false false):=by
 refine returnsInHanded_of_change_and (C:=Tryd.checked) (X:=fun w _=>laidMetH Tryd.prog Rows.langKleeneRow.laid w) (fun _ _ _ hh h=>h.of_heap hh) own started (by kernel_rfl) Tryd.func14
  (ChangeSpec.witness_at (enc:=enc) (C:=Tryd.checked) (os:=os) (X:=fun w _=>laidMetH Tryd.prog Rows.langKleeneRow.laid w) false (ON os) #[.agg #[.int .i64 0,.int .i64 0,.slice none 0 0,.slice none 0 0],.agg #[.int .i64 0,.int .i64 0,.slice none 0 0,.slice none 0 0],.agg #[.int .i64 0,.int .i64 0,.slice none 0 0,.slice none 0 0]] 8 rfl (by kernel_rfl) (by kernel_rfl) (by kernel_rfl) (by kernel_rfl) (by kernel_rfl) (YS os _)) ?_
 intro W base args ds gs before fF hW _ _ hL _
 refine YT (A:=av) (key:=14) (L:=[25,3,22,4,23,57]) (tb:=4) YU mixed Tryd.func14 (by kernel_rfl) (by kernel_rfl) (by kernel_rfl) (by kernel_rfl) (by kernel_rfl) rfl ?_ (by kernel_rfl) (by kernel_rfl) (by kernel_rfl) (by kernel_rfl) (by kernel_rfl) (by kernel_rfl) ?_ (YV hL) fF hW
 ·intro ds lf
  match ds,lf with
  | [d0,d1,d2],_=>rfl
 ·exact YO
theorem YW:Rows.LangKleeneSaid:=
 OpenClaim.holds_of_wide 14 Tryd.f14 rfl rfl rfl rfl rfl rfl rfl ⟨rfl,rfl,rfl,rfl,rfl⟩ rfl rfl rfl rfl rfl (by kernel_rfl) Tryd.func14 (by kernel_rfl)
  (of_decide_eq_true (by kernel_rfl)) (by unfold Func.isWrapper;first|(rw[if_pos (by decide+kernel)];kernel_rfl)|(rw[if_neg (by decide+kernel)];exact ⟨rfl,rfl⟩))
  (fun os started H enc _=>YR os started H enc)
theorem langKleene_holds:Rows.LangKleeneCardSaid:=
 Claim7.holds_tied_plain_at .later [] [.data] true (true, "0feca441c2d3efbcfb89f7fefbf30d8111a8c3e650af14d011a68981f808fdc9") false
  YW (fun _ h=>by cases h) (by kernel_rfl) (fun _ h=>by cases h) langKleene_row_tie rfl ⟨rfl,rfl⟩ (by kernel_rfl) rfl
  (fun f fn hf YX=>by
   obtain rfl : f = 14 := Option.some.inj ((show Tryd.prog.funcNamed "semigroup/semigrouplaw10.LangKleene" = some 14 by kernel_rfl).symm.trans hf) |>.symm
   obtain rfl:fn=Tryd.f14:=(Option.some.inj (Tryd.func14.symm.trans YX)).symm
   exact ⟨by kernel_rfl,fun j t ht=>by
    rw[show Tryd.f14.params= #[25,25,25] by kernel_rfl] at ht
    rcases j with _|j
    ·obtain rfl:(25:TypeId)=t:=by simpa using ht
     exact (show Tryd.prog.wantsStandIn 25=false by kernel_rfl)
    rcases j with _|j
    ·obtain rfl:(25:TypeId)=t:=by simpa using ht
     exact (show Tryd.prog.wantsStandIn 25=false by kernel_rfl)
    rcases j with _|j
    ·obtain rfl:(25:TypeId)=t:=by simpa using ht
     exact (show Tryd.prog.wantsStandIn 25=false by kernel_rfl)
    simp at ht⟩)
  (by kernel_rfl)
#print axioms langKleene_holds
end Go.Proofs.YtmcdbnalaobmpaaDoor
