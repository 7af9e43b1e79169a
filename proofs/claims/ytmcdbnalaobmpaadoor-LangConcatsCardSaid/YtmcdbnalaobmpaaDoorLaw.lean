/-
  The aii of LangConcats holds.
-/
import Derived.Test.YtmcdbnalaobmpaaDoorRows
import Derived.Test.YtmcdbnalaobmpaaDoorCards
import Derived.Test.YtmcdbnalaobmpaaDoorTie
import Derived.WalkKit
import Derived.ProofKit
import Derived.OpenShut
import Derived.ChangeSame
import Derived.ChangeVars
import Derived.JoinedOf
import Derived.SevenTiedAt
import Derived.Test.YtmcdbnalaobmpaaDoorP7
set_option linter.unusedVariables false
set_option linter.unusedSimpArgs false
namespace Go.Proofs.YtmcdbnalaobmpaaDoor
open Go Go.AM Go.ChangeShapes Go.WideShapes Go.ChangeAt Go.RowKit
theorem VT (xs:List V) (h:sm Tryd.prog [25,25] xs): ∃ds,qO ((aw.sin 7).bI.map (·.2)) xs=some ds∧Go.AM.Call Tryd.prog aw 7 ds=some [.bool true]:=by
 obtain ⟨x0,ys0,rfl,h0,h⟩:=MI h
 obtain ⟨x1,ys1,rfl,h1,h⟩:=MI h
 obtain rfl:=VU h
 obtain ⟨a,rfl,ha⟩:=MJ (by kernel_rfl) (by kernel_rfl) h0
 obtain ⟨b,rfl,hb⟩:=MJ (by kernel_rfl) (by kernel_rfl) h1
 exact ⟨jb a (jb b []),by kernel_rfl,VV a ha b hb⟩
set_option maxRecDepth 100000 in
theorem VW (os:Os) (started:os.Started) (H:Type) (enc:TypeId × Value→H):
  ReturnsInHanded {} Tryd.checked os 7 .any (fun w args=>(Rows.langConcatsSpec.pre enc Tryd.prog Tryd.f7 [] false w args∧laidMetH Tryd.prog Rows.langConcatsRow.laid w)∧sizedMet enc Tryd.prog Tryd.f7 (OpenSpec.ofChange Rows.langConcatsSpec) false w args)
   (Rows.langConcatsSpec.post enc Tryd.prog Tryd.f7 false true false false):=by
 refine returnsInHanded_of_change_and (C:=Tryd.checked) (X:=fun w _=>laidMetH Tryd.prog Rows.langConcatsRow.laid w) (fun _ _ _ hh h=>h.of_heap hh) own started (by kernel_rfl) Tryd.func7
  (ChangeSpec.witness_at (enc:=enc) (C:=Tryd.checked) (os:=os) (X:=fun w _=>laidMetH Tryd.prog Rows.langConcatsRow.laid w) false (MK os) #[.agg #[.int .i64 0,.int .i64 0,.slice none 0 0,.slice none 0 0],.agg #[.int .i64 0,.int .i64 0,.slice none 0 0,.slice none 0 0]] 8 rfl (by kernel_rfl) (by kernel_rfl) (by kernel_rfl) (by kernel_rfl) (by kernel_rfl) (VX os _)) ?_
 intro W base args ds gs before fq hW _ _ hL _
 refine VY (A:=aw) (key:=7) (L:=[25,3,22,4,23,57]) (tb:=4) VZ mixed Tryd.func7 (by kernel_rfl) (by kernel_rfl) (by kernel_rfl) (by kernel_rfl) (by kernel_rfl) rfl ?_ (by kernel_rfl) (by kernel_rfl) (by kernel_rfl) (by kernel_rfl) (by kernel_rfl) (by kernel_rfl) ?_ (V0 hL) fq hW
 ·intro ds kF
  match ds,kF with
  | [d0,d1],_=>rfl
 ·exact VT
theorem V1:Rows.LangConcatsSaid:=
 OpenClaim.holds_of_wide 7 Tryd.f7 rfl rfl rfl rfl rfl rfl rfl ⟨rfl,rfl,rfl,rfl,rfl⟩ rfl rfl rfl rfl rfl (by kernel_rfl) Tryd.func7 (by kernel_rfl)
  (of_decide_eq_true (by kernel_rfl)) (by unfold Func.isWrapper;first|(rw[if_pos (by decide+kernel)];kernel_rfl)|(rw[if_neg (by decide+kernel)];exact ⟨rfl,rfl⟩))
  (fun os started H enc _=>VW os started H enc)
theorem langConcats_holds:Rows.LangConcatsCardSaid:=
 Claim7.holds_tied_plain_at .later [] [.data] true (true, "0feca441c2d3efbcfb89f7fefbf30d8111a8c3e650af14d011a68981f808fdc9") false
  V1 (fun _ h=>by cases h) (by kernel_rfl) (fun _ h=>by cases h) langConcats_row_tie rfl ⟨rfl,rfl⟩ (by kernel_rfl) rfl
  (fun f fn hf V2=>by
   obtain rfl : f = 7 := Option.some.inj ((show Tryd.prog.funcNamed "semigroup/semigrouplaw10.LangConcats" = some 7 by kernel_rfl).symm.trans hf) |>.symm
   obtain rfl:fn=Tryd.f7:=(Option.some.inj (Tryd.func7.symm.trans V2)).symm
   exact ⟨by kernel_rfl,fun j t ht=>by
    rw[show Tryd.f7.params= #[25,25] by kernel_rfl] at ht
    rcases j with _|j
    ·obtain rfl:(25:TypeId)=t:=by simpa using ht
     exact (show Tryd.prog.wantsStandIn 25=false by kernel_rfl)
    rcases j with _|j
    ·obtain rfl:(25:TypeId)=t:=by simpa using ht
     exact (show Tryd.prog.wantsStandIn 25=false by kernel_rfl)
    simp at ht⟩)
  (by kernel_rfl)
#print axioms langConcats_holds
end Go.Proofs.YtmcdbnalaobmpaaDoor
