/-
  The card of LangMorgan holds.
-/
import Derived.Test.YtmcdbnalaobmpaaDoorRows
import Derived.Test.YtmcdbnalaobmpaaDoorCards
import Derived.Test.YtmcdbnalaobmpaaDoorTie
import Derived.WalkKit
import Derived.ProofKit
import Derived.OpenShut
import Derived.ChangeSame
import Derived.ChangeVars
import Derived.JoinedOf
import Derived.SevenTiedAt
import Derived.Test.YtmcdbnalaobmpaaDoorP6
set_option linter.unusedVariables false
set_option linter.unusedSimpArgs false
namespace Go.Proofs.YtmcdbnalaobmpaaDoor
open Go Go.AM Go.ChangeShapes Go.WideShapes Go.ChangeAt Go.RowKit
theorem langMorgan_wt (xs:List V) (h:WTall Tryd.prog [25,25,25] xs): ∃ds,readVs ((ann.sin 9).slots.map (·.2)) xs=some ds∧Go.AM.Call Tryd.prog ann 9 ds=some [.bool true]:=by
 obtain ⟨x0,ys0,rfl,h0,h⟩:=wtall_one h
 obtain ⟨x1,ys1,rfl,h1,h⟩:=wtall_one h
 obtain ⟨x2,ys2,rfl,h2,h⟩:=wtall_one h
 obtain rfl:=wtall_nil h
 obtain ⟨a,rfl,ha⟩:=wt_dfa (by kernel_rfl) (by kernel_rfl) h0
 obtain ⟨b,rfl,hb⟩:=wt_dfa (by kernel_rfl) (by kernel_rfl) h1
 obtain ⟨c,rfl,hc⟩:=wt_dfa (by kernel_rfl) (by kernel_rfl) h2
 exact ⟨dfaA a (dfaA b (dfaA c [])),by kernel_rfl,langMorgan a ha b hb c hc⟩
set_option maxRecDepth 100000 in
theorem langMorgan_lifted (os:Os) (started:os.Started) (H:Type) (enc:TypeId × Value→H):
  ReturnsInHanded {} Tryd.checked os 9 .any (fun w args=>(Rows.langMorganSpec.pre enc Tryd.prog Tryd.f9 [] false w args∧laidMetH Tryd.prog Rows.langMorganRow.laid w)∧sizedMet enc Tryd.prog Tryd.f9 (OpenSpec.ofChange Rows.langMorganSpec) false w args)
   (Rows.langMorganSpec.post enc Tryd.prog Tryd.f9 false true false false):=by
 refine returnsInHanded_of_change_and (C:=Tryd.checked) (X:=fun w _=>laidMetH Tryd.prog Rows.langMorganRow.laid w) (fun _ _ _ hh h=>h.of_heap hh) own started (by kernel_rfl) Tryd.func9
  (ChangeSpec.witness_at (enc:=enc) (C:=Tryd.checked) (os:=os) (X:=fun w _=>laidMetH Tryd.prog Rows.langMorganRow.laid w) false (laidWorld os) #[.agg #[.int .i64 0,.int .i64 0,.slice none 0 0,.slice none 0 0],.agg #[.int .i64 0,.int .i64 0,.slice none 0 0,.slice none 0 0],.agg #[.int .i64 0,.int .i64 0,.slice none 0 0,.slice none 0 0]] 8 rfl (by kernel_rfl) (by kernel_rfl) (by kernel_rfl) (by kernel_rfl) (by kernel_rfl) (laidWorld_met os _)) ?_
 intro W base args ds gs before hval hW _ _ hL _
 refine law_contract (A:=ann) (key:=9) (L:=[25,3,22,4,23,57]) (tb:=4) fine mixed Tryd.func9 (by kernel_rfl) (by kernel_rfl) (by kernel_rfl) (by kernel_rfl) (by kernel_rfl) rfl ?_ (by kernel_rfl) (by kernel_rfl) (by kernel_rfl) (by kernel_rfl) (by kernel_rfl) (by kernel_rfl) ?_ (globOk hL) hval hW
 ·intro ds hds
  match ds,hds with
  | [d0,d1,d2],_=>rfl
 ·exact langMorgan_wt
theorem langMorgan_row:Rows.LangMorganSaid:=
 OpenClaim.holds_of_wide 9 Tryd.f9 rfl rfl rfl rfl rfl rfl rfl ⟨rfl,rfl,rfl,rfl,rfl⟩ rfl rfl rfl rfl rfl (by kernel_rfl) Tryd.func9 (by kernel_rfl)
  (of_decide_eq_true (by kernel_rfl)) (by unfold Func.isWrapper;first|(rw[if_pos (by decide+kernel)];kernel_rfl)|(rw[if_neg (by decide+kernel)];exact ⟨rfl,rfl⟩))
  (fun os started H enc _=>langMorgan_lifted os started H enc)
theorem langMorgan_holds:Rows.LangMorganCardSaid:=
 Claim7.holds_tied_plain_at .later [] [.data] true (true, "0feca441c2d3efbcfb89f7fefbf30d8111a8c3e650af14d011a68981f808fdc9") false
  langMorgan_row (fun _ h=>by cases h) (by kernel_rfl) (fun _ h=>by cases h) langMorgan_row_tie rfl ⟨rfl,rfl⟩ (by kernel_rfl) rfl
  (fun f fn hf hfn=>by
   obtain rfl : f = 9 := Option.some.inj ((show Tryd.prog.funcNamed "semigroup/semigrouplaw10.LangMorgan" = some 9 by kernel_rfl).symm.trans hf) |>.symm
   obtain rfl:fn=Tryd.f9:=(Option.some.inj (Tryd.func9.symm.trans hfn)).symm
   exact ⟨by kernel_rfl,fun j t ht=>by
    rw[show Tryd.f9.params= #[25,25,25] by kernel_rfl] at ht
    rcases j with _|j
    ·obtain rfl:(25:TypeId)=t:=by simpa using ht
     exact (show Tryd.prog.wantsStandIn 25=false by kernel_rfl)
    rcases j with _|j
    ·obtain rfl:(25:TypeId)=t:=by simpa using ht
     exact (show Tryd.prog.wantsStandIn 25=false by kernel_rfl)
    rcases j with _|j
    ·obtain rfl:(25:TypeId)=t:=by simpa using ht
     exact (show Tryd.prog.wantsStandIn 25=false by kernel_rfl)
    simp at ht⟩)
  (by kernel_rfl)
#print axioms langMorgan_holds
end Go.Proofs.YtmcdbnalaobmpaaDoor
