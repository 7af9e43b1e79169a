/-
  The ahq of LangCuts holds.
-/
import Derived.Test.YtmcdbnalaobmpaaDoorRows
import Derived.Test.YtmcdbnalaobmpaaDoorCards
import Derived.Test.YtmcdbnalaobmpaaDoorTie
import Derived.WalkKit
import Derived.ProofKit
import Derived.OpenShut
import Derived.ChangeSame
import Derived.ChangeVars
import Derived.JoinedOf
import Derived.SevenTiedAt
import Derived.Test.YtmcdbnalaobmpaaDoorP6
set_option linter.unusedVariables false
set_option linter.unusedSimpArgs false
namespace Go.Proofs.YtmcdbnalaobmpaaDoor
open Go Go.AM Go.ChangeShapes Go.WideShapes Go.ChangeAt Go.RowKit
theorem Vw (xs:List V) (h:rQ Tryd.prog [25,25,9] xs): ∃ds,qx ((ar.sin 10).bu.map (·.2)) xs=some ds∧Go.AM.Call Tryd.prog ar 10 ds=some [.bool true]:=by
 obtain ⟨x0,ys0,rfl,h0,h⟩:=FY h
 obtain ⟨x1,ys1,rfl,h1,h⟩:=FY h
 obtain ⟨x2,ys2,rfl,h2,h⟩:=FY h
 obtain rfl:=Vx h
 obtain ⟨a,rfl,ha⟩:=LR (by kernel_rfl) (by kernel_rfl) h0
 obtain ⟨b,rfl,hb⟩:=LR (by kernel_rfl) (by kernel_rfl) h1
 obtain ⟨c,rfl,hc⟩:=gh.str (by kernel_rfl) h2
 exact ⟨kT a (kT b [.str c]),by kernel_rfl,Vy a ha b hb c⟩
set_option maxRecDepth 100000 in
theorem Vz (os:Os) (started:os.Started) (H:Type) (enc:TypeId × Value→H):
  ReturnsInHanded {} Tryd.checked os 10 .any (fun w args=>(Rows.langCutsSpec.pre enc Tryd.prog Tryd.f10 [] false w args∧laidMetH Tryd.prog Rows.langCutsRow.laid w)∧sizedMet enc Tryd.prog Tryd.f10 (OpenSpec.ofChange Rows.langCutsSpec) false w args)
   (Rows.langCutsSpec.post enc Tryd.prog Tryd.f10 false true false false):=by
 refine returnsInHanded_of_change_and (C:=Tryd.checked) (X:=fun w _=>laidMetH Tryd.prog Rows.langCutsRow.laid w) (fun _ _ _ hh h=>h.of_heap hh) own started (by kernel_rfl) Tryd.func10
  (ChangeSpec.witness_at (enc:=enc) (C:=Tryd.checked) (os:=os) (X:=fun w _=>laidMetH Tryd.prog Rows.langCutsRow.laid w) false (LU os) #[.agg #[.int .i64 0,.int .i64 0,.slice none 0 0,.slice none 0 0],.agg #[.int .i64 0,.int .i64 0,.slice none 0 0,.slice none 0 0],.string ⟨#[]⟩] 8 rfl (by kernel_rfl) (by kernel_rfl) (by kernel_rfl) (by kernel_rfl) (by kernel_rfl) (VA os _)) ?_
 intro W base args ds gs before eZ hW _ _ hL _
 refine VB (A:=ar) (key:=10) (L:=[25,3,22,4,23,57,9]) (tb:=4) VC mixed Tryd.func10 (by kernel_rfl) (by kernel_rfl) (by kernel_rfl) (by kernel_rfl) (by kernel_rfl) rfl ?_ (by kernel_rfl) (by kernel_rfl) (by kernel_rfl) (by kernel_rfl) (by kernel_rfl) (by kernel_rfl) ?_ (VD hL) eZ hW
 ·intro ds ka
  match ds,ka with
  | [d0,d1,d2],_=>rfl
 ·exact Vw
theorem VE:Rows.LangCutsSaid:=
 OpenClaim.holds_of_wide 10 Tryd.f10 rfl rfl rfl rfl rfl rfl rfl ⟨rfl,rfl,rfl,rfl,rfl⟩ rfl rfl rfl rfl rfl (by kernel_rfl) Tryd.func10 (by kernel_rfl)
  (of_decide_eq_true (by kernel_rfl)) (by unfold Func.isWrapper;first|(rw[if_pos (by decide+kernel)];kernel_rfl)|(rw[if_neg (by decide+kernel)];exact ⟨rfl,rfl⟩))
  (fun os started H enc _=>Vz os started H enc)
theorem langCuts_holds:Rows.LangCutsCardSaid:=
 Claim7.holds_tied_plain_at .later [] [.data] true (true, "0feca441c2d3efbcfb89f7fefbf30d8111a8c3e650af14d011a68981f808fdc9") false
  VE (fun _ h=>by cases h) (by kernel_rfl) (fun _ h=>by cases h) langCuts_row_tie rfl ⟨rfl,rfl⟩ (by kernel_rfl) rfl
  (fun f fn hf VF=>by
   obtain rfl : f = 10 := Option.some.inj ((show Tryd.prog.funcNamed "semigroup/semigrouplaw10.LangCuts" = some 10 by kernel_rfl).symm.trans hf) |>.symm
   obtain rfl:fn=Tryd.f10:=(Option.some.inj (Tryd.func10.symm.trans VF)).symm
   exact ⟨by kernel_rfl,fun j t ht=>by
    rw[show Tryd.f10.params= #[25,25,9] by kernel_rfl] at ht
    rcases j with _|j
    ·obtain rfl:(25:TypeId)=t:=by simpa using ht
     exact (show Tryd.prog.wantsStandIn 25=false by kernel_rfl)
    rcases j with _|j
    ·obtain rfl:(25:TypeId)=t:=by simpa using ht
     exact (show Tryd.prog.wantsStandIn 25=false by kernel_rfl)
    rcases j with _|j
    ·obtain rfl:(9:TypeId)=t:=by simpa using ht
     exact (show Tryd.prog.wantsStandIn 9=false by kernel_rfl)
    simp at ht⟩)
  (by kernel_rfl)
#print axioms langCuts_holds
end Go.Proofs.YtmcdbnalaobmpaaDoor
