/-
 StarfreeRaw holds: the specified results for arbitrary graphs and words.
-/
import Derived.Test.YtffbfcncnleiaaaRows
import Derived.WalkKit
import Derived.ProofKit
import Derived.OpenShut
import Derived.Test.YtffbfcncnleiaaaP6
set_option linter.unusedVariables false
namespace Go.Proofs.Ytffbfcncnleiaaa
open Go.AM Go.ChangeShapes Go.WideShapes Go.ChangeAt Go.RowKit
theorem own : ownKnob Try.prog.godebug = none := by kernel_rfl
theorem noCount : NoCount Try.prog := noCount_of (by kernel_rfl)
theorem mixed : Try.prog.follows .mixedOrders = true := by kernel_rfl
theorem node_inv {x : V} (h : WTv Try.prog 31 x) : ∃ n : AM.Node, x = n.v := by
 obtain ⟨xs, rfl, hl, h2⟩ := h.agg_inv (by kernel_rfl)
 have he : etys Try.prog 31 = [3, 3, 3, 3] := by kernel_rfl
 rw [he] at hl h2
 match xs, hl with
 | [a, b, c, d], _ =>
  obtain ⟨a, rfl, _⟩ := (h2 0 3 a rfl rfl).int_inv (k := .i64) (by kernel_rfl)
  obtain ⟨b, rfl, _⟩ := (h2 1 3 b rfl rfl).int_inv (k := .i64) (by kernel_rfl)
  obtain ⟨c, rfl, _⟩ := (h2 2 3 c rfl rfl).int_inv (k := .i64) (by kernel_rfl)
  obtain ⟨d, rfl, _⟩ := (h2 3 3 d rfl rfl).int_inv (k := .i64) (by kernel_rfl)
  exact ⟨⟨a, b, c, d⟩, rfl⟩
theorem graph_inv {x : V} (h : WTv Try.prog 28 x) : ∃ (l : List AM.Node) (root : Int), x = graphV l root := by
 obtain ⟨xs, rfl, hl, h2⟩ := h.agg_inv (by kernel_rfl)
 have he : etys Try.prog 28 = [26, 3] := by kernel_rfl
 rw [he] at hl h2
 match xs, hl with
 | [a, b], _ =>
  obtain ⟨es, rfl, _, h3⟩ := (h2 0 26 a rfl rfl).list_inv (e := 31) (by kernel_rfl)
  obtain ⟨b, rfl, _⟩ := (h2 1 3 b rfl rfl).int_inv (k := .i64) (by kernel_rfl)
  obtain ⟨l, rfl⟩ := map_of_forall (f := AM.Node.v) fun y hy => node_inv (h3 y hy)
  exact ⟨l, b, rfl⟩
theorem starfreeRaw_wt (xs : List V) (h : WTall Try.prog [28, 3, 9] xs) : Go.AM.Call Try.prog ann 5 xs [] = some (.bool true, []) := by
 obtain ⟨x, ys, rfl, h1, h⟩ := wtall_one h
 obtain ⟨y, zs, rfl, h2, h⟩ := wtall_one h
 obtain ⟨z, us, rfl, h3, h⟩ := wtall_one h
 obtain rfl := wtall_nil h
 obtain ⟨l, root, rfl⟩ := graph_inv h1
 obtain ⟨v, rfl, _⟩ := h2.int (by kernel_rfl)
 obtain ⟨w, rfl, _⟩ := h3.str (by kernel_rfl)
 exact starfreeRaw l root v w
set_option maxRecDepth 100000 in
theorem starfreeRaw_lifted (os : Os) (started : os.Started) (H : Type) (enc : TypeId × Value → H) :
 ReturnsInHanded {} Try.checked os 5 .any (Rows.starfreeRawSpec.pre6 enc Try.prog Try.f5 Rows.starfreeRawRow.domain false) (Rows.starfreeRawSpec.post enc Try.prog Try.f5 false true false false) := by
 refine returnsInHanded_of_change (C := Try.checked) own started (by kernel_rfl) Try.func5
  (ChangeSpec.witness6 (enc := enc) (C := Try.checked) false ⟨#[], #[.agg #[.slice none 0 0, .int .i64 0], .int .i64 0, .string ⟨#[]⟩], []⟩ 8 (by kernel_rfl) (by kernel_rfl) (by kernel_rfl) (by kernel_rfl)) ?_
 intro W base args ds gs before hval hW _ _
 refine law_contract (A := ann) (L := [28, 26, 31, 9, 3, 4]) (tb := 4) noCount mixed Try.func5 (by kernel_rfl) (by kernel_rfl) (by kernel_rfl) (by kernel_rfl) rfl ?_ (by kernel_rfl) (by kernel_rfl) ?_ hval hW
 · intro ds hds
   match ds, hds with
   | [d1, d2, d3], _ => rfl
 · exact starfreeRaw_wt
theorem starfreeRaw_over : Rows.starfreeRawRow.holds Try.pinned (OpenSpec.ofChange Rows.starfreeRawSpec) :=
 OpenClaim.holds_of_wide 5 Try.f5 rfl rfl rfl rfl rfl rfl rfl ⟨rfl, rfl, rfl, rfl, rfl⟩ rfl rfl rfl rfl rfl (by kernel_rfl) Try.func5 (by kernel_rfl)
  (of_decide_eq_true (by kernel_rfl)) (by unfold Func.isWrapper; first | (rw [if_pos (by decide +kernel)]; kernel_rfl) | (rw [if_neg (by decide +kernel)]; exact ⟨rfl, rfl⟩))
  (fun os started H enc _ => starfreeRaw_lifted os started H enc)
theorem starfreeRaw_holds : Rows.StarfreeRawSaid := starfreeRaw_over
#print axioms starfreeRaw_holds
end Go.Proofs.Ytffbfcncnleiaaa
