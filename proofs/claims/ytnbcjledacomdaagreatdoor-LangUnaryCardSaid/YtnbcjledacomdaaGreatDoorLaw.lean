/-
  The card of LangUnary holds.
-/
import Derived.Test.YtnbcjledacomdaaGreatDoorRows
import Derived.Test.YtnbcjledacomdaaGreatDoorCards
import Derived.Test.YtnbcjledacomdaaGreatDoorTie
import Derived.WalkKit
import Derived.ProofKit
import Derived.OpenShut
import Derived.ChangeSame
import Derived.ChangeVars
import Derived.JoinedOf
import Derived.SevenTiedAt
import Derived.Test.YtnbcjledacomdaaGreatDoorP7
set_option linter.unusedVariables false
set_option linter.unusedSimpArgs false
namespace Go.Proofs.YtnbcjledacomdaaGreatDoor
open Go Go.AM Go.ChangeShapes Go.WideShapes Go.ChangeAt Go.RowKit
theorem afs (xs:List V) (h:sJ Tryz.prog [25,3] xs): ∃ds,sK ((kP.sin 3).b6.map (·.2)) xs=some ds∧Go.AM.Call Tryz.prog kP 3 ds=some [.bool true]:=by
 obtain ⟨x0,ys0,rfl,h0,h⟩:=U8 h
 obtain ⟨x1,ys1,rfl,h1,h⟩:=U8 h
 obtain rfl:=aft h
 obtain ⟨a,rfl,ha⟩:=afu (by kernel_rfl) (by kernel_rfl) h0
 obtain ⟨b,rfl,hb⟩:=WT.Hi (by kernel_rfl) (iT.one (by kernel_rfl) h1)
 exact ⟨lx a [.int .i64 b],by kernel_rfl,afv a ha b⟩
set_option maxRecDepth 100000 in
theorem afw (os:Os) (started:os.Started) (H:Type) (enc:TypeId × Value→H):
  ReturnsInHanded {} Tryz.checked os 3 .any (fun w args=>(Rows.langUnarySpec.pre enc Tryz.prog Tryz.f3 [] false w args∧laidMetH Tryz.prog Rows.langUnaryRow.laid w)∧sizedMet enc Tryz.prog Tryz.f3 (OpenSpec.ofChange Rows.langUnarySpec) false w args)
   (Rows.langUnarySpec.post enc Tryz.prog Tryz.f3 false true false false):=by
 refine returnsInHanded_of_change_and (C:=Tryz.checked) (X:=fun w _=>laidMetH Tryz.prog Rows.langUnaryRow.laid w) (fun _ _ _ hh h=>h.of_heap hh) own started (by kernel_rfl) Tryz.func3
  (ChangeSpec.witness_at (enc:=enc) (C:=Tryz.checked) (os:=os) (X:=fun w _=>laidMetH Tryz.prog Rows.langUnaryRow.laid w) false (U9 os) #[.agg #[.int .i64 0,.int .i64 0,.slice none 0 0,.slice none 0 0],.int .i64 0] 8 rfl (by kernel_rfl) (by kernel_rfl) (by kernel_rfl) (by kernel_rfl) (by kernel_rfl) (afx os _)) ?_
 intro W base args ds gs before fW hW _ _ hL _
 refine afy (A:=kP) (key:=3) (L:=[25,3,22,4,23,35]) (tb:=4) afz mixed Tryz.func3 (by kernel_rfl) (by kernel_rfl) (by kernel_rfl) (by kernel_rfl) (by kernel_rfl) rfl ?_ (by kernel_rfl) (by kernel_rfl) (by kernel_rfl) (by kernel_rfl) (by kernel_rfl) (by kernel_rfl) ?_ (afA hL) fW hW
 ·intro ds mZ
  match ds,mZ with
  | [d0,d1],_=>rfl
 ·exact afs
theorem afB:Rows.LangUnarySaid:=
 OpenClaim.holds_of_wide 3 Tryz.f3 rfl rfl rfl rfl rfl rfl rfl ⟨rfl,rfl,rfl,rfl,rfl⟩ rfl rfl rfl rfl rfl (by kernel_rfl) Tryz.func3 (by kernel_rfl)
  (BH (by kernel_rfl)) (by unfold Func.isWrapper;first|(rw[af (by decide+kernel)];kernel_rfl)|(rw[ag (by decide+kernel)];exact ⟨rfl,rfl⟩))
  (fun os started H enc _=>afw os started H enc)
theorem langUnary_holds:Rows.LangUnaryCardSaid:=
 Claim7.holds_tied_plain_at .later [] [.data] true (true, "ef39b439e407b66ee622ec540b991e286c6ffe1ed98755b32c5e5401dbded313") false
  afB (fun _ h=>by cases h) (by kernel_rfl) (fun _ h=>by cases h) langUnary_row_tie rfl ⟨rfl,rfl⟩ (by kernel_rfl) rfl
  (fun f fn hf hfn=>by
   obtain rfl : f = 3 := dD ((show Tryz.prog.funcNamed "semigroup/semigrouplaw10.LangUnary" = some 3 by kernel_rfl).symm.trans hf) |>.symm
   obtain rfl:fn=Tryz.f3:=(dD (Tryz.func3.symm.trans hfn)).symm
   exact ⟨by kernel_rfl,fun j t ht=>by
    rw[show Tryz.f3.params= #[25,3] by kernel_rfl] at ht
    rcases j with _|j
    ·obtain rfl:(25:TypeId)=t:=by simpa using ht
     exact (show Tryz.prog.wantsStandIn 25=false by kernel_rfl)
    rcases j with _|j
    ·obtain rfl:(3:TypeId)=t:=by simpa using ht
     exact (show Tryz.prog.wantsStandIn 3=false by kernel_rfl)
    simp at ht⟩)
  (by kernel_rfl)
#print axioms langUnary_holds
end Go.Proofs.YtnbcjledacomdaaGreatDoor
