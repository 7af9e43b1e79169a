/-
  The agL of LangStars holds.
-/
import Derived.Test.YtmcdbnalaobmpaaDoorRows
import Derived.Test.YtmcdbnalaobmpaaDoorCards
import Derived.Test.YtmcdbnalaobmpaaDoorTie
import Derived.WalkKit
import Derived.ProofKit
import Derived.OpenShut
import Derived.ChangeSame
import Derived.ChangeVars
import Derived.JoinedOf
import Derived.SevenTiedAt
import Derived.Test.YtmcdbnalaobmpaaDoorP6
set_option linter.unusedVariables false
set_option linter.unusedSimpArgs false
namespace Go.Proofs.YtmcdbnalaobmpaaDoor
open Go Go.AM Go.ChangeShapes Go.WideShapes Go.ChangeAt Go.RowKit
theorem U3 (xs:List V) (h:rP Tryd.prog [25] xs): ∃ds,qw ((av.sin 11).bu.map (·.2)) xs=some ds∧Go.AM.Call Tryd.prog av 11 ds=some [.bool true]:=by
 obtain ⟨x0,ys0,rfl,h0,h⟩:=U4 h
 obtain rfl:=U5 h
 obtain ⟨a,rfl,ha⟩:=U6 (by kernel_rfl) (by kernel_rfl) h0
 exact ⟨qx a [],by kernel_rfl,U7 a ha⟩
set_option maxRecDepth 100000 in
theorem U8 (os:Os) (started:os.Started) (H:Type) (enc:TypeId × Value→H):
  ReturnsInHanded {} Tryd.checked os 11 .any (fun w args=>(Rows.langStarsSpec.pre enc Tryd.prog Tryd.f11 [] false w args∧laidMetH Tryd.prog Rows.langStarsRow.laid w)∧sizedMet enc Tryd.prog Tryd.f11 (OpenSpec.ofChange Rows.langStarsSpec) false w args)
   (Rows.langStarsSpec.post enc Tryd.prog Tryd.f11 false true false false):=by
 refine returnsInHanded_of_change_and (C:=Tryd.checked) (X:=fun w _=>laidMetH Tryd.prog Rows.langStarsRow.laid w) (fun _ _ _ hh h=>h.of_heap hh) own started (by kernel_rfl) Tryd.func11
  (ChangeSpec.witness_at (enc:=enc) (C:=Tryd.checked) (os:=os) (X:=fun w _=>laidMetH Tryd.prog Rows.langStarsRow.laid w) false (Lx os) #[.agg #[.int .i64 0,.int .i64 0,.slice none 0 0,.slice none 0 0]] 8 rfl (by kernel_rfl) (by kernel_rfl) (by kernel_rfl) (by kernel_rfl) (by kernel_rfl) (U9 os _)) ?_
 intro W base args ds gs before eV hW _ _ hL _
 refine Va (A:=av) (key:=11) (L:=[25,3,22,4,23,57]) (tb:=4) Vb mixed Tryd.func11 (by kernel_rfl) (by kernel_rfl) (by kernel_rfl) (by kernel_rfl) (by kernel_rfl) rfl ?_ (by kernel_rfl) (by kernel_rfl) (by kernel_rfl) (by kernel_rfl) (by kernel_rfl) (by kernel_rfl) ?_ (Vc hL) eV hW
 ·intro ds j5
  match ds,j5 with
  | [d0],_=>rfl
 ·exact U3
theorem Vd:Rows.LangStarsSaid:=
 OpenClaim.holds_of_wide 11 Tryd.f11 rfl rfl rfl rfl rfl rfl rfl ⟨rfl,rfl,rfl,rfl,rfl⟩ rfl rfl rfl rfl rfl (by kernel_rfl) Tryd.func11 (by kernel_rfl)
  (of_decide_eq_true (by kernel_rfl)) (by unfold Func.isWrapper;first|(rw[if_pos (by decide+kernel)];kernel_rfl)|(rw[if_neg (by decide+kernel)];exact ⟨rfl,rfl⟩))
  (fun os started H enc _=>U8 os started H enc)
theorem langStars_holds:Rows.LangStarsCardSaid:=
 Claim7.holds_tied_plain_at .later [] [.data] true (true, "0feca441c2d3efbcfb89f7fefbf30d8111a8c3e650af14d011a68981f808fdc9") false
  Vd (fun _ h=>by cases h) (by kernel_rfl) (fun _ h=>by cases h) langStars_row_tie rfl ⟨rfl,rfl⟩ (by kernel_rfl) rfl
  (fun f fn hf Ve=>by
   obtain rfl : f = 11 := Option.some.inj ((show Tryd.prog.funcNamed "semigroup/semigrouplaw10.LangStars" = some 11 by kernel_rfl).symm.trans hf) |>.symm
   obtain rfl:fn=Tryd.f11:=(Option.some.inj (Tryd.func11.symm.trans Ve)).symm
   exact ⟨by kernel_rfl,fun j t ht=>by
    rw[show Tryd.f11.params= #[25] by kernel_rfl] at ht
    rcases j with _|j
    ·obtain rfl:(25:TypeId)=t:=by simpa using ht
     exact (show Tryd.prog.wantsStandIn 25=false by kernel_rfl)
    simp at ht⟩)
  (by kernel_rfl)
#print axioms langStars_holds
end Go.Proofs.YtmcdbnalaobmpaaDoor
