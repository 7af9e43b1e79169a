/-
  Functions of the program, lifted to plain data.
-/
import Derived.Test.YtcgkkhgapeiabaaP5
set_option linter.unusedVariables false
set_option linter.unusedSimpArgs false
set_option maxRecDepth 100000
set_option linter.unusedSimpArgs false
namespace Go.AM
open Go.Proofs Ex
def cptF (prev : Ex) : List Ex → List Ex
  | [] => []
  | x :: l => if cmp x prev = 0 then cptF x l else x :: cptF x l
def cpt : List Ex → List Ex
  | [] => []
  | x :: l => x :: cptF x l
theorem cptF_snoc : ∀ (m : List Ex) (prev x : Ex), cptF prev (m ++ [x]) = cptF prev m ++ (if cmp x ((prev :: m).getD m.length ex0) = 0 then [] else [x])
  | [], prev, x => by simp only [List.nil_append, cptF, List.length_nil, List.getD_cons_zero]
  | y :: m, prev, x => by
    have ih := cptF_snoc m y x
    simp only [List.cons_append, cptF, List.length_cons, List.getD_cons_succ]
    split
    · exact ih
    · rw [ih]; rfl
theorem cpt_snoc {l : List Ex} {p : Nat} (h1 : 1 ≤ p) (h2 : p < l.length) : cpt (l.take (p + 1)) = cpt (l.take p) ++ (if cmp (l.getD p ex0) (l.getD (p - 1) ex0) = 0 then [] else [l.getD p ex0]) := by
  match l, p, h1, h2 with
  | y :: l, p + 1, _, h2 =>
    simp only [List.length_cons] at h2
    rw [List.take_succ_cons, List.take_succ_cons, cpt, cpt, take_snoc (by omega), cptF_snoc]
    simp only [List.getD_cons_succ, List.length_take, Nat.add_sub_cancel]
    rw [show min p l.length = p by omega]
    have : (y :: l.take p).getD p ex0 = (y :: l).getD p ex0 := by
      match p with
      | 0 => rfl
      | q + 1 => simp only [List.getD_cons_succ]; rw [List.getD_eq_getElem?_getD, List.getD_eq_getElem?_getD, List.getElem?_take_of_lt (by omega)]
    rw [this]; rfl
theorem cptF_srt : ∀ (m : List Ex) (prev : Ex), (prev :: m).Pairwise (fun x y => ¬ y.lx x) → SrtX (prev :: cptF prev m) ∧ ∀ x, x ∈ prev :: cptF prev m ↔ x ∈ prev :: m
  | [], prev, _ => ⟨by simp [cptF], by simp [cptF]⟩
  | y :: m, prev, h => by
    have h1 := List.pairwise_cons.1 h
    obtain ⟨i1, i2⟩ := cptF_srt m y h1.2
    rw [cptF]
    by_cases hc : cmp y prev = 0
    · rw [if_pos hc]
      have := cmp_eq _ _ hc
      subst this
      refine ⟨i1, fun x => ?_⟩
      rw [i2 x]; simp
    · rw [if_neg hc]
      have hlt : prev.lx y := by
        by_cases h2 : prev.lx y
        · exact h2
        · exact absurd (Ex.lx_tri h2 (h1.1 y (by simp))) fun e => hc (by rw [e]; exact cmp_self _)
      refine ⟨List.pairwise_cons.2 ⟨fun x hx => ?_, i1⟩, fun x => ?_⟩
      · rcases List.mem_cons.1 hx with rfl | hx
        · exact hlt
        · exact Ex.lx_trans hlt ((List.pairwise_cons.1 i1).1 x hx)
      · rw [List.mem_cons, i2 x, ← List.mem_cons]
theorem cpt_srt {l : List Ex} (h : l.Pairwise (fun x y => ¬ y.lx x)) : SrtX (cpt l) ∧ ∀ x, x ∈ cpt l ↔ x ∈ l := by
  match l, h with
  | [], _ => exact ⟨List.Pairwise.nil, fun _ => Iff.rfl⟩
  | y :: l, h => exact cptF_srt l y h
theorem ordered1_spec (a : Ex) (ha : a.Ok) (b : Ex) (hb : b.Ok) : CC F_expr_ordered_1 (exA a (exA b [])) = some [.bool (decide (cmp a b = 0))] := by
  refine f_expr_ordered_1_of ?_
  unfold f_expr_ordered_1
  refine (congrArg (fun o => Option.bind o _) (Compare_spec a ha b hb)).trans ?_
  simp only [Option.bind_some, V.nth_zero, V.toInt_int]
  rw [beqd]
section
variable {l : List Ex} (hn : l.length ≤ 1000000) (hok : ∀ k ∈ l, k.Ok)
include hn hok
theorem compact_in {k : Nat} : ∀ (d k2 i : Nat) (ss : List Ex), k + k2 + d = l.length → 1 ≤ k2 → i + 1 ≤ k + k2 → ss.length = l.length → ss.take i = cpt (l.take (k + k2)) → ss.drop (k + k2 - 1) = l.drop (k + k2 - 1) →
    ∃ t u ss', Loop (s_slices_CompactFunc___api_Expr_api_Expr__1L CC k (l.length - k)) ((i : Int), (k2 : Int), ss.map enc) = some (((cpt l).length : Int), u, t, List.map enc ss') ∧ ss'.take (cpt l).length = cpt l ∧ ss'.length = l.length := by
  intro d
  induction d with
  | zero =>
    intro k2 i ss hj hk2 hi hl ht hd
    have e0 : l.take (k + k2) = l := List.take_of_length_le (by omega)
    rw [e0] at ht
    have hi2 : i = (cpt l).length := by rw [← ht, List.length_take]; omega
    refine ⟨false, (k2 : Int), ss, Loop_end ?_, by rw [← hi2]; exact ht, hl⟩
    simp only [s_slices_CompactFunc___api_Expr_api_Expr__1L, s_slices_CompactFunc___api_Expr_api_Expr__1, un, List.length_map, bif_decide]
    rw [if_neg (by omega), decide_eq_false (by omega), hi2]
  | succ d ih =>
    intro k2 i ss hj hk2 hi hl ht hd
    have hp : k + k2 < l.length := by omega
    have hd2 : ss.drop (k + k2) = l.drop (k + k2) := by
      have h := congrArg (List.drop 1) hd
      rw [List.drop_drop, List.drop_drop] at h
      rwa [show k + k2 - 1 + 1 = k + k2 by omega] at h
    have g1 := drop_get hl hd2 hp
    have g0 := drop_get hl hd (show k + k2 - 1 < l.length by omega)
    have x1 : (ss.map enc)[k + k2]? = some (l.getD (k + k2) ex0).enc := by rw [get_enc (by omega), g1]
    have x0 : (ss.map enc)[k + (k2 - 1)]? = some (l.getD (k + k2 - 1) ex0).enc := by rw [show k + (k2 - 1) = k + k2 - 1 by omega, get_enc (by omega), g0]
    have w1 : IntKind.wrap .i64 ((k2 : Int) - 1) = ((k2 - 1 : Nat) : Int) := by rw [wrap64 (by omega) (by omega)]; omega
    have t1 : ((k2 : Nat) : Int) < ((l.length - k : Nat) : Int) := by omega
    have t2 : (0 : Int) ≤ ((k2 : Nat) : Int) := by omega
    have t3 : (0 : Int) ≤ ((k2 - 1 : Nat) : Int) := by omega
    have t4 : ((k2 - 1 : Nat) : Int) < ((l.length - k : Nat) : Int) := by omega
    have t5 : ((i : Nat) : Int) < (ss.length : Int) := by omega
    have t6 : (0 : Int) ≤ ((i : Nat) : Int) := by omega
    have hix : ∃ y, (ss.map enc)[i]? = some y := ⟨_, get_enc (by omega)⟩
    obtain ⟨y, hy⟩ := hix
    have co := ordered1_spec (l.getD (k + k2) ex0) (okD hok hp) (l.getD (k + k2 - 1) ex0) (okD hok (by omega))
    have cs := cpt_snoc (l := l) (p := k + k2) (by omega) hp
    by_cases he : cmp (l.getD (k + k2) ex0) (l.getD (k + k2 - 1) ex0) = 0
    · have hst : s_slices_CompactFunc___api_Expr_api_Expr__1L CC k (l.length - k) ((i : Int), (k2 : Int), ss.map enc) = some (.inl ((i : Int), ((k2 + 1 : Nat) : Int), ss.map enc)) := by
        simp only [s_slices_CompactFunc___api_Expr_api_Expr__1L, s_slices_CompactFunc___api_Expr_api_Expr__1, un, List.length_map, bif_decide, bif_and, w1, t1, t2, t3, t4, if_true, Int.toNat_natCast, x1, x0, Option.bind_some, enc_0, enc_1, enc_2]
        refine (congrArg (fun o => Option.bind o _) co).trans ?_
        simp only [Option.bind_some, V.nth_zero, V.toBool_bool]
        rw [decide_eq_true he, Bool.not_true, cond_false, wrap64 (by omega) (by omega)]
        rfl
      rw [Loop_norm hst]
      refine ih (k2 + 1) i ss (by omega) (by omega) (by omega) hl ?_ (by rw [show k + (k2 + 1) - 1 = k + k2 by omega]; exact hd2)
      rw [show k + (k2 + 1) = k + k2 + 1 by omega, cs, if_pos he, List.append_nil, ht]
    · have hst : s_slices_CompactFunc___api_Expr_api_Expr__1L CC k (l.length - k) ((i : Int), (k2 : Int), ss.map enc) = some (.inl (((i + 1 : Nat) : Int), ((k2 + 1 : Nat) : Int), (ss.set i (l.getD (k + k2) ex0)).map enc)) := by
        simp only [s_slices_CompactFunc___api_Expr_api_Expr__1L, s_slices_CompactFunc___api_Expr_api_Expr__1, un, List.length_map, bif_decide, bif_and, w1, t1, t2, t3, t4, t5, t6, if_true, Int.toNat_natCast, x1, x0, hy, Option.bind_some, enc_0, enc_1, enc_2]
        refine (congrArg (fun o => Option.bind o _) co).trans ?_
        simp only [Option.bind_some, V.nth_zero, V.toBool_bool]
        rw [decide_eq_false he, Bool.not_false, cond_true, wrap64 (by omega) (by omega), wrap64 (by omega) (by omega), ← enc_eq, List.map_set]
        rfl
      rw [Loop_norm hst]
      refine ih (k2 + 1) (i + 1) (ss.set i (l.getD (k + k2) ex0)) (by omega) (by omega) (by omega) (by simpa using hl) ?_ ?_
      · rw [take_snoc (by rw [List.length_set]; omega), List.take_set_of_le (Nat.le_refl i), ht, show k + (k2 + 1) = k + k2 + 1 by omega, cs, if_neg he]
        simp [show i < ss.length by omega]
      · rw [show k + (k2 + 1) - 1 = k + k2 by omega, List.drop_set_of_lt (by omega), hd2]
theorem compact_out : ∀ (d p : Nat), p + d = l.length → 1 ≤ p → cpt (l.take p) = l.take p →
    (cpt l = l ∧ ∃ t, Loop (s_slices_CompactFunc___api_Expr_api_Expr__2L CC (l.map enc)) (p : Int) = some (.inr t)) ∨ Loop (s_slices_CompactFunc___api_Expr_api_Expr__2L CC (l.map enc)) (p : Int) = some (.inl ((cpt l).map enc)) := by
  intro d
  induction d with
  | zero =>
    intro p hp h1 hc
    obtain rfl : p = l.length := by omega
    rw [List.take_length] at hc
    refine .inl ⟨hc, ((l.length : Int), false), Loop_end ?_⟩
    simp only [s_slices_CompactFunc___api_Expr_api_Expr__2L, s_slices_CompactFunc___api_Expr_api_Expr__2, List.length_map, bif_decide]
    rw [if_neg (by omega), decide_eq_false (by omega)]
  | succ d ih =>
    intro p hp h1 hc
    have hpl : p < l.length := by omega
    have cs := cpt_snoc (l := l) h1 hpl
    have co := ordered1_spec (l.getD p ex0) (okD hok hpl) (l.getD (p - 1) ex0) (okD hok (by omega))
    have x1 : (l.map enc)[p]? = some (l.getD p ex0).enc := get_enc hpl
    have x0 : (l.map enc)[p - 1]? = some (l.getD (p - 1) ex0).enc := get_enc (by omega)
    have w1 : IntKind.wrap .i64 ((p : Int) - 1) = ((p - 1 : Nat) : Int) := by rw [wrap64 (by omega) (by omega)]; omega
    have t1 : ((p : Nat) : Int) < (l.length : Int) := by omega
    have t2 : (0 : Int) ≤ ((p : Nat) : Int) := by omega
    have t3 : (0 : Int) ≤ ((p - 1 : Nat) : Int) := by omega
    have t4 : ((p - 1 : Nat) : Int) < (l.length : Int) := by omega
    have t5 : ((p : Nat) : Int) ≤ (l.length : Int) := by omega
    by_cases he : cmp (l.getD p ex0) (l.getD (p - 1) ex0) = 0
    · refine .inr (Loop_end ?_)
      obtain ⟨t, u, ss', e1, e2, e3⟩ := compact_in hn hok (k := p) (l.length - (p + 1)) 1 p l (by omega) (by omega) (by omega) rfl (by rw [cs, if_pos he, List.append_nil, hc]) rfl
      have hm : (cpt l).length ≤ ss'.length := by
        have := congrArg List.length e2
        rw [List.length_take] at this
        omega
      have m1 : (0 : Int) ≤ (((cpt l).length : Nat) : Int) := by omega
      have m2 : (((cpt l).length : Nat) : Int) ≤ ((ss'.map enc).length : Int) := by rw [List.length_map]; omega
      simp only [s_slices_CompactFunc___api_Expr_api_Expr__2L, s_slices_CompactFunc___api_Expr_api_Expr__2, List.length_map, bif_decide, bif_and, w1, t1, t2, t3, t4, t5, if_true, Int.toNat_natCast, x1, x0, Option.bind_some, enc_0, enc_1, enc_2]
      refine (congrArg (fun o => Option.bind o _) co).trans ?_
      simp only [Option.bind_some, V.nth_zero, V.toBool_bool]
      rw [decide_eq_true he, cond_true]
      refine (congrArg (fun o => Option.bind o _) e1).trans ?_
      simp only [Option.bind_some, un, bif_and, bif_decide, Int.toNat_natCast]
      rw [if_pos m1, if_pos m2, if_pos m1, if_pos (by simp only [List.length_append, List.length_take, List.length_replicate, List.length_drop, List.length_map]; omega), cut_take _ _ _ hm, e2]
    · have hst : s_slices_CompactFunc___api_Expr_api_Expr__2L CC (l.map enc) (p : Int) = some (.inl ((p + 1 : Nat) : Int)) := by
        simp only [s_slices_CompactFunc___api_Expr_api_Expr__2L, s_slices_CompactFunc___api_Expr_api_Expr__2, List.length_map, bif_decide, bif_and, w1, t1, t2, t3, t4, if_true, Int.toNat_natCast, x1, x0, Option.bind_some, enc_0, enc_1, enc_2]
        refine (congrArg (fun o => Option.bind o _) co).trans ?_
        simp only [Option.bind_some, V.nth_zero, V.toBool_bool]
        rw [decide_eq_false he, cond_false, wrap64 (by omega) (by omega)]
        rfl
      rw [Loop_norm hst]
      exact ih (p + 1) (by omega) (by omega) (by rw [cs, if_neg he, hc, ← take_snoc hpl])
theorem compact_spec : ∃ b, CC F_slices_CompactFunc___api_Expr_api_Expr_ [.list T_api_Expr (l.map enc)] = some [.bool b, .list T_api_Expr ((cpt l).map enc)] := by
  by_cases h2 : l.length < 2
  · refine ⟨true, f_slices_CompactFunc___api_Expr_api_Expr__of ?_⟩
    unfold f_slices_CompactFunc___api_Expr_api_Expr_
    rw [List.length_map, bif_decide, if_pos (by omega)]
    match l, h2 with
    | [], _ => rfl
    | [k], _ => rfl
  · rcases compact_out hn hok (l.length - 1) 1 (by omega) (by omega) (by
      match l, h2 with
      | k :: l, _ => rfl) with ⟨h3, t, h4⟩ | h4
    · refine ⟨true, f_slices_CompactFunc___api_Expr_api_Expr__of ?_⟩
      unfold f_slices_CompactFunc___api_Expr_api_Expr_
      rw [List.length_map, bif_decide, if_neg (by omega)]
      refine (congrArg (fun o => Option.bind o _) h4).trans ?_
      rw [h3]; rfl
    · refine ⟨false, f_slices_CompactFunc___api_Expr_api_Expr__of ?_⟩
      unfold f_slices_CompactFunc___api_Expr_api_Expr_
      rw [List.length_map, bif_decide, if_neg (by omega)]
      refine (congrArg (fun o => Option.bind o _) h4).trans ?_
      rfl
theorem sortEx_spec : ∃ R : List Ex, CC F_slices_SortFunc___api_Expr_api_Expr_ [.list T_api_Expr (l.map enc)] = some [.list T_api_Expr (R.map enc)] ∧ R.Perm l ∧ R.Pairwise (fun x y => ¬ y.lx x) := by
  have hx : ∃ L : List SX.XE, L.map SX.XE.e = l := by
    clear hn
    induction l with
    | nil => exact ⟨[], rfl⟩
    | cons k l ih =>
      obtain ⟨L, hL⟩ := ih fun k hk => hok k (by simp [hk])
      exact ⟨⟨k, hok k (by simp)⟩ :: L, by rw [List.map_cons, hL]⟩
  obtain ⟨L, rfl⟩ := hx
  have he : ∀ L : List SX.XE, L.map SX.XE.enc = (L.map SX.XE.e).map enc := fun L => by rw [List.map_map]; rfl
  obtain ⟨R, e1, h1, h2⟩ := SX.sortX_spec L (by rw [List.length_map] at hn; omega)
  refine ⟨R.map SX.XE.e, ?_, h1.map _, List.pairwise_map.2 h2⟩
  rw [← he, ← he]; exact e1
theorem ordered_spec : ∃ b, CC F_expr_ordered [.list T_api_Expr (l.map enc)] = some [.bool b, .list T_api_Expr ((l.foldl insX []).map enc)] := by
  obtain ⟨R, e1, h1, h2⟩ := sortEx_spec hn hok
  obtain ⟨b, e2⟩ := compact_spec (l := R) (by rw [h1.length_eq]; exact hn) fun k hk => hok k (h1.mem_iff.1 hk)
  obtain ⟨c1, c2⟩ := cpt_srt h2
  have hc : cpt R = l.foldl insX [] := srt_extX c1 fold_srt fun x => by rw [c2, fold_mem, h1.mem_iff]
  rw [hc] at e2
  refine ⟨b, f_expr_ordered_of ?_⟩
  unfold f_expr_ordered
  refine (congrArg (fun o => Option.bind o _) e1).trans ?_
  simp only [Option.bind_some, V.nth_zero, V.toList_list]
  refine (congrArg (fun o => Option.bind o _) e2).trans ?_
  cases b <;> rfl
end
end Go.AM
set_option maxRecDepth 100000
namespace Go.AM
open Go.Proofs
noncomputable def f_expr_joinUnion (C : CallF) (kids : List V) : Option (List V) :=
  (C K_slices_ContainsFunc___api_Expr_api_Expr__k133 [.list T_api_Expr kids]).bind fun r1 =>
  bif (V.nth r1 0).toBool then
   (C F_expr_universal []).bind fun r2 =>
   some [.int .i64 ((V.nth r2 0).toInt), .int .i64 ((V.nth (r2.drop 1) 0).toInt), .list T_api_Expr ((V.nth (r2.drop 2) 0).toList)]
  else
   (C F_expr_flatten [.int .i64 4, .list T_api_Expr kids]).bind fun r3 =>
   (C K_slices_DeleteFunc___api_Expr_api_Expr__k137 [.list T_api_Expr ((V.nth r3 0).toList)]).bind fun r4 =>
   bif (V.nth r4 0).toBool then
    (C F_expr_ordered [.list T_api_Expr ((V.nth (r4.drop 1) 0).toList)]).bind fun r5 =>
    bif (V.nth r5 0).toBool then
     (C F_expr_empty []).bind fun r6 =>
     (C F_expr_collect [.int .i64 4, .list T_api_Expr ((V.nth (r5.drop 1) 0).toList), .int .i64 ((V.nth r6 0).toInt), .int .i64 ((V.nth (r6.drop 1) 0).toInt), .list T_api_Expr ((V.nth (r6.drop 2) 0).toList)]).bind fun r7 =>
     some [.int .i64 ((V.nth r7 0).toInt), .int .i64 ((V.nth (r7.drop 1) 0).toInt), .list T_api_Expr ((V.nth ((r7.drop 1).drop 1) 0).toList)]
    else
     (C F_expr_empty []).bind fun r8 =>
     (C F_expr_collect [.int .i64 4, .list T_api_Expr ((V.nth (r5.drop 1) 0).toList), .int .i64 ((V.nth r8 0).toInt), .int .i64 ((V.nth (r8.drop 1) 0).toInt), .list T_api_Expr ((V.nth (r8.drop 2) 0).toList)]).bind fun r9 =>
     some [.int .i64 ((V.nth r9 0).toInt), .int .i64 ((V.nth (r9.drop 1) 0).toInt), .list T_api_Expr ((V.nth ((r9.drop 1).drop 1) 0).toList)]
   else
    (C F_expr_ordered [.list T_api_Expr ((V.nth (r4.drop 1) 0).toList)]).bind fun r10 =>
    bif (V.nth r10 0).toBool then
     (C F_expr_empty []).bind fun r11 =>
     (C F_expr_collect [.int .i64 4, .list T_api_Expr ((V.nth (r10.drop 1) 0).toList), .int .i64 ((V.nth r11 0).toInt), .int .i64 ((V.nth (r11.drop 1) 0).toInt), .list T_api_Expr ((V.nth (r11.drop 2) 0).toList)]).bind fun r12 =>
     some [.int .i64 ((V.nth r12 0).toInt), .int .i64 ((V.nth (r12.drop 1) 0).toInt), .list T_api_Expr ((V.nth ((r12.drop 1).drop 1) 0).toList)]
    else
     (C F_expr_empty []).bind fun r13 =>
     (C F_expr_collect [.int .i64 4, .list T_api_Expr ((V.nth (r10.drop 1) 0).toList), .int .i64 ((V.nth r13 0).toInt), .int .i64 ((V.nth (r13.drop 1) 0).toInt), .list T_api_Expr ((V.nth (r13.drop 2) 0).toList)]).bind fun r14 =>
     some [.int .i64 ((V.nth r14 0).toInt), .int .i64 ((V.nth (r14.drop 1) 0).toInt), .list T_api_Expr ((V.nth ((r14.drop 1).drop 1) 0).toList)]
theorem f_expr_joinUnion_of {kids : List V} {r : Option (List V)} (h : f_expr_joinUnion CC kids = r) : CC F_expr_joinUnion [.list T_api_Expr kids] = r :=
  func_of (key := 73) (L := LT0) (bs := []) (by kernel_rfl) tells_nil (Eq.trans (by kernel_rfl) h)
end Go.AM
set_option maxRecDepth 100000
namespace Go.AM
open Go.Proofs
noncomputable def f_expr_joinConcat (C : CallF) (kids : List V) : Option (List V) :=
  (C F_slices_ContainsFunc___api_Expr_api_Expr_ [.list T_api_Expr kids]).bind fun r1 =>
  bif (V.nth r1 0).toBool then
   (C F_expr_empty []).bind fun r2 =>
   some [.int .i64 ((V.nth r2 0).toInt), .int .i64 ((V.nth (r2.drop 1) 0).toInt), .list T_api_Expr ((V.nth (r2.drop 2) 0).toList)]
  else
   (C F_expr_flatten [.int .i64 5, .list T_api_Expr kids]).bind fun r3 =>
   (C K_slices_DeleteFunc___api_Expr_api_Expr__k135 [.list T_api_Expr ((V.nth r3 0).toList)]).bind fun r4 =>
   bif (V.nth r4 0).toBool then
    (C F_expr_unit []).bind fun r5 =>
    (C F_expr_collect [.int .i64 5, .list T_api_Expr ((V.nth (r4.drop 1) 0).toList), .int .i64 ((V.nth r5 0).toInt), .int .i64 ((V.nth (r5.drop 1) 0).toInt), .list T_api_Expr ((V.nth (r5.drop 2) 0).toList)]).bind fun r6 =>
    some [.int .i64 ((V.nth r6 0).toInt), .int .i64 ((V.nth (r6.drop 1) 0).toInt), .list T_api_Expr ((V.nth ((r6.drop 1).drop 1) 0).toList)]
   else
    (C F_expr_unit []).bind fun r7 =>
    (C F_expr_collect [.int .i64 5, .list T_api_Expr ((V.nth (r4.drop 1) 0).toList), .int .i64 ((V.nth r7 0).toInt), .int .i64 ((V.nth (r7.drop 1) 0).toInt), .list T_api_Expr ((V.nth (r7.drop 2) 0).toList)]).bind fun r8 =>
    some [.int .i64 ((V.nth r8 0).toInt), .int .i64 ((V.nth (r8.drop 1) 0).toInt), .list T_api_Expr ((V.nth ((r8.drop 1).drop 1) 0).toList)]
theorem f_expr_joinConcat_of {kids : List V} {r : Option (List V)} (h : f_expr_joinConcat CC kids = r) : CC F_expr_joinConcat [.list T_api_Expr kids] = r :=
  func_of (key := 74) (L := LT0) (bs := []) (by kernel_rfl) tells_nil (Eq.trans (by kernel_rfl) h)
end Go.AM
set_option maxRecDepth 100000
namespace Go.AM
open Go.Proofs
noncomputable def f_expr_joinAnd (C : CallF) (kids : List V) : Option (List V) :=
  (C F_slices_ContainsFunc___api_Expr_api_Expr_ [.list T_api_Expr kids]).bind fun r1 =>
  bif (V.nth r1 0).toBool then
   (C F_expr_empty []).bind fun r2 =>
   some [.int .i64 ((V.nth r2 0).toInt), .int .i64 ((V.nth (r2.drop 1) 0).toInt), .list T_api_Expr ((V.nth (r2.drop 2) 0).toList)]
  else
   (C F_expr_flatten [.int .i64 6, .list T_api_Expr kids]).bind fun r3 =>
   (C F_slices_DeleteFunc___api_Expr_api_Expr_ [.list T_api_Expr ((V.nth r3 0).toList)]).bind fun r4 =>
   bif (V.nth r4 0).toBool then
    (C F_expr_ordered [.list T_api_Expr ((V.nth (r4.drop 1) 0).toList)]).bind fun r5 =>
    bif (V.nth r5 0).toBool then
     (C F_expr_universal []).bind fun r6 =>
     (C F_expr_collect [.int .i64 6, .list T_api_Expr ((V.nth (r5.drop 1) 0).toList), .int .i64 ((V.nth r6 0).toInt), .int .i64 ((V.nth (r6.drop 1) 0).toInt), .list T_api_Expr ((V.nth (r6.drop 2) 0).toList)]).bind fun r7 =>
     some [.int .i64 ((V.nth r7 0).toInt), .int .i64 ((V.nth (r7.drop 1) 0).toInt), .list T_api_Expr ((V.nth ((r7.drop 1).drop 1) 0).toList)]
    else
     (C F_expr_universal []).bind fun r8 =>
     (C F_expr_collect [.int .i64 6, .list T_api_Expr ((V.nth (r5.drop 1) 0).toList), .int .i64 ((V.nth r8 0).toInt), .int .i64 ((V.nth (r8.drop 1) 0).toInt), .list T_api_Expr ((V.nth (r8.drop 2) 0).toList)]).bind fun r9 =>
     some [.int .i64 ((V.nth r9 0).toInt), .int .i64 ((V.nth (r9.drop 1) 0).toInt), .list T_api_Expr ((V.nth ((r9.drop 1).drop 1) 0).toList)]
   else
    (C F_expr_ordered [.list T_api_Expr ((V.nth (r4.drop 1) 0).toList)]).bind fun r10 =>
    bif (V.nth r10 0).toBool then
     (C F_expr_universal []).bind fun r11 =>
     (C F_expr_collect [.int .i64 6, .list T_api_Expr ((V.nth (r10.drop 1) 0).toList), .int .i64 ((V.nth r11 0).toInt), .int .i64 ((V.nth (r11.drop 1) 0).toInt), .list T_api_Expr ((V.nth (r11.drop 2) 0).toList)]).bind fun r12 =>
     some [.int .i64 ((V.nth r12 0).toInt), .int .i64 ((V.nth (r12.drop 1) 0).toInt), .list T_api_Expr ((V.nth ((r12.drop 1).drop 1) 0).toList)]
    else
     (C F_expr_universal []).bind fun r13 =>
     (C F_expr_collect [.int .i64 6, .list T_api_Expr ((V.nth (r10.drop 1) 0).toList), .int .i64 ((V.nth r13 0).toInt), .int .i64 ((V.nth (r13.drop 1) 0).toInt), .list T_api_Expr ((V.nth (r13.drop 2) 0).toList)]).bind fun r14 =>
     some [.int .i64 ((V.nth r14 0).toInt), .int .i64 ((V.nth (r14.drop 1) 0).toInt), .list T_api_Expr ((V.nth ((r14.drop 1).drop 1) 0).toList)]
theorem f_expr_joinAnd_of {kids : List V} {r : Option (List V)} (h : f_expr_joinAnd CC kids = r) : CC F_expr_joinAnd [.list T_api_Expr kids] = r :=
  func_of (key := 75) (L := LT0) (bs := []) (by kernel_rfl) tells_nil (Eq.trans (by kernel_rfl) h)
end Go.AM
set_option maxRecDepth 100000
namespace Go.AM
open Go.Proofs
noncomputable def f_expr_Join (C : CallF) (op : Int) (kids : List V) : Option (List V) :=
  bif (op : Int) == 4 then
   (C F_expr_joinUnion [.list T_api_Expr kids]).bind fun r1 =>
   some [.int .i64 ((V.nth r1 0).toInt), .int .i64 ((V.nth (r1.drop 1) 0).toInt), .list T_api_Expr ((V.nth ((r1.drop 1).drop 1) 0).toList)]
  else
   bif (op : Int) == 5 then
    (C F_expr_joinConcat [.list T_api_Expr kids]).bind fun r2 =>
    some [.int .i64 ((V.nth r2 0).toInt), .int .i64 ((V.nth (r2.drop 1) 0).toInt), .list T_api_Expr ((V.nth ((r2.drop 1).drop 1) 0).toList)]
   else
    bif (op : Int) == 6 then
     (C F_expr_joinAnd [.list T_api_Expr kids]).bind fun r3 =>
     some [.int .i64 ((V.nth r3 0).toInt), .int .i64 ((V.nth (r3.drop 1) 0).toInt), .list T_api_Expr ((V.nth ((r3.drop 1).drop 1) 0).toList)]
    else
     bif ((kids.length : Int) : Int) != 1 then
      some [.int .i64 0, .int .i64 0, .list T_api_Expr ([] : List V)]
     else
      (kids[0]?).bind fun x4 =>
      bif (op : Int) == 8 then
       bif (((x4.cell 0).toInt) : Int) == 8 then
        bif ((((x4.cell 2).toList).length : Int) : Int) == 1 then
         (((x4.cell 2).toList)[0]?).bind fun x5 =>
         some [.int .i64 ((x5.cell 0).toInt), .int .i64 ((x5.cell 1).toInt), .list T_api_Expr ((x5.cell 2).toList)]
        else
         some [.int .i64 8, .int .i64 0, .list T_api_Expr ([.agg [.int .i64 ((x4.cell 0).toInt), .int .i64 ((x4.cell 1).toInt), .list T_api_Expr ((x4.cell 2).toList)]] : List V)]
       else
        some [.int .i64 8, .int .i64 0, .list T_api_Expr ([.agg [.int .i64 ((x4.cell 0).toInt), .int .i64 ((x4.cell 1).toInt), .list T_api_Expr ((x4.cell 2).toList)]] : List V)]
      else
       bif (op : Int) == 7 then
        bif (((x4.cell 0).toInt) : Int) == 1 then
         (C F_expr_unit []).bind fun r6 =>
         some [.int .i64 ((V.nth r6 0).toInt), .int .i64 ((V.nth (r6.drop 1) 0).toInt), .list T_api_Expr ((V.nth (r6.drop 2) 0).toList)]
        else
         bif (((x4.cell 0).toInt) : Int) == 2 then
          (C F_expr_unit []).bind fun r7 =>
          some [.int .i64 ((V.nth r7 0).toInt), .int .i64 ((V.nth (r7.drop 1) 0).toInt), .list T_api_Expr ((V.nth (r7.drop 2) 0).toList)]
         else
          bif (((x4.cell 0).toInt) : Int) == 7 then
           some [.int .i64 ((x4.cell 0).toInt), .int .i64 ((x4.cell 1).toInt), .list T_api_Expr ((x4.cell 2).toList)]
          else
           (C F_expr_isUniversal [.int .i64 ((x4.cell 0).toInt), .int .i64 ((x4.cell 1).toInt), .list T_api_Expr ((x4.cell 2).toList)]).bind fun r8 =>
           bif (V.nth r8 0).toBool then
            some [.int .i64 ((x4.cell 0).toInt), .int .i64 ((x4.cell 1).toInt), .list T_api_Expr ((x4.cell 2).toList)]
           else
            some [.int .i64 7, .int .i64 0, .list T_api_Expr ([.agg [.int .i64 ((x4.cell 0).toInt), .int .i64 ((x4.cell 1).toInt), .list T_api_Expr ((x4.cell 2).toList)]] : List V)]
       else
        some [.int .i64 0, .int .i64 0, .list T_api_Expr ([] : List V)]
theorem f_expr_Join_of {op : Int} {kids : List V} {r : Option (List V)} (h : f_expr_Join CC op kids = r) : CC F_expr_Join [.int .i64 op, .list T_api_Expr kids] = r :=
  func_of (key := 66) (L := LT0) (bs := []) (by kernel_rfl) tells_nil (Eq.trans (by kernel_rfl) h)
end Go.AM
set_option maxRecDepth 100000
namespace Go.AM
open Go.Proofs
noncomputable abbrev B_expr_Simplify : Code := bodyOf Try.prog (ann.fid 52)
noncomputable def s_expr_Simplify_1 (C : CallF) (t20 : List V) (t21 es_0 es_1 : Int) (es_2 : List V) (t2s_0 t2s_1 : Int) (b3_ : List V) (t22 : Int) (kidss : List V) {β : Type} (kn : (Int × (List V)) → Option β) (kr : (Int × Bool × (List V)) → Option β) : Option β :=
  bif decide ((t22 : Int) < t21) then
   (idx t20 t22).bind fun x1 =>
   (C F_expr_Simplify [.int .i64 ((x1.cell 0).toInt), .int .i64 ((x1.cell 1).toInt), .list T_api_Expr ((x1.cell 2).toList)]).bind fun r2 =>
   bif (decide (0 ≤ t22)) && (decide (t22 < (kidss.length : Int))) then
    (kidss[(t22 : Int).toNat]?).bind fun x3 =>
    kn (IntKind.wrap .i64 (t22 + 1), kidss.set ((t22 : Int).toNat) (.agg [.int .i64 ((V.nth r2 0).toInt), .int .i64 ((V.nth (r2.drop 1) 0).toInt), .list T_api_Expr ((V.nth ((r2.drop 1).drop 1) 0).toList)]))
   else none
  else
   kr (t22, decide ((t22 : Int) < t21), kidss)
noncomputable def s_expr_Simplify_1L (C : CallF) (t20 : List V) (t21 es_0 es_1 : Int) (es_2 : List V) (t2s_0 t2s_1 : Int) (b3_ : List V) : (Int × (List V)) → Option ((Int × (List V)) ⊕ (Int × Bool × (List V))) := un fun t22 kidss => s_expr_Simplify_1 C t20 t21 es_0 es_1 es_2 t2s_0 t2s_1 b3_ t22 kidss (fun y => some (.inl y)) (fun r => some (.inr r))
noncomputable def LT_expr_Simplify (C : CallF) : LTab := fun β n ds k =>
  bif Nat.beq n 81 then loopS S52_81 [false, false, true, false, false, false, false, false, true, false] [[1, 2, 0, 0, 4, 5, 6, 7, 8, 0, 10]] (@s_expr_Simplify_1 C) ds k else
  none
abbrev TS_expr_Simplify (C : CallF) (b : Bar) : Prop := Tells Try.prog ann C (LT_expr_Simplify C) 52 (ntmpsOf Try.prog (ann.fid 52)) (ann.sin 52).blks.length b
theorem t_expr_Simplify_1 (C : CallF) : TS_expr_Simplify C (.loop (codeAt [1, 1, 1, 0, 1, 0, 0] B_expr_Simplify)) :=
  tl3 S52_81 [false, false, true, false, false, false, false, false, true, false] [[1, 2, 0, 0, 4, 5, 6, 7, 8, 0, 10]] (@s_expr_Simplify_1 C) (by kernel_rfl) (ltok_of (bs := []) (by kernel_rfl) tells_nil) (fun ds => by kernel_rfl) (fun i x => by kernel_rfl) (fun i x β k => by kernel_rfl) (fun β ds k => by kernel_rfl)
noncomputable def f_expr_Simplify (C : CallF) (e_0 e_1 : Int) (e_2 : List V) : Option (List V) :=
  bif ((e_2.length : Int) : Int) == 0 then
   some [.int .i64 e_0, .int .i64 e_1, .list T_api_Expr ([] : List V)]
  else
   bif (decide (0 ≤ (e_2.length : Int))) && ((decide ((e_2.length : Int) ≤ (e_2.length : Int))) && (Nat.ble ((((e_2.length : Int) : Int).toNat) * 40) maxBytes)) then
    (Loop (s_expr_Simplify_1L C e_2 (e_2.length : Int) e_0 e_1 e_2 0 0 ([] : List V)) (0, List.replicate (((e_2.length : Int) : Int).toNat) (V.agg [.int .i64 0, .int .i64 0, .list T_api_Expr ([] : List V)]))).bind (un fun (t_4 : Int) => un fun (t_5 : Bool) (kidss_6 : List V) =>
      (C F_expr_Join [.int .i64 e_0, .list T_api_Expr kidss_6]).bind fun r7 =>
      some [.int .i64 ((V.nth r7 0).toInt), .int .i64 ((V.nth (r7.drop 1) 0).toInt), .list T_api_Expr ((V.nth ((r7.drop 1).drop 1) 0).toList)])
   else none
theorem f_expr_Simplify_of {e_0 e_1 : Int} {e_2 : List V} {r : Option (List V)} (h : f_expr_Simplify CC e_0 e_1 e_2 = r) : CC F_expr_Simplify [.int .i64 e_0, .int .i64 e_1, .list T_api_Expr e_2] = r :=
  func_of (key := 52) (L := LT_expr_Simplify CC) (bs := [.loop (codeAt [1, 1, 1, 0, 1, 0, 0] B_expr_Simplify)]) (by kernel_rfl) (tells_cons (t_expr_Simplify_1 CC) tells_nil) (Eq.trans (by kernel_rfl) h)
end Go.AM
set_option maxRecDepth 100000
namespace Go.AM
open Go.Proofs
noncomputable def f_expr_Normal (C : CallF) (e_0 e_1 : Int) (e_2 : List V) : Option (List V) :=
  (C F_expr_valid [.int .i64 e_0, .int .i64 e_1, .list T_api_Expr e_2]).bind fun r1 =>
  bif !((V.nth r1 0).toBool) then
   some [.int .i64 0, .int .i64 0, .list T_api_Expr ([] : List V)]
  else
   (C F_expr_Simplify [.int .i64 e_0, .int .i64 e_1, .list T_api_Expr e_2]).bind fun r2 =>
   some [.int .i64 ((V.nth r2 0).toInt), .int .i64 ((V.nth (r2.drop 1) 0).toInt), .list T_api_Expr ((V.nth ((r2.drop 1).drop 1) 0).toList)]
theorem f_expr_Normal_of {e_0 e_1 : Int} {e_2 : List V} {r : Option (List V)} (h : f_expr_Normal CC e_0 e_1 e_2 = r) : CC F_expr_Normal [.int .i64 e_0, .int .i64 e_1, .list T_api_Expr e_2] = r :=
  func_of (key := 31) (L := LT0) (bs := []) (by kernel_rfl) tells_nil (Eq.trans (by kernel_rfl) h)
end Go.AM
set_option maxRecDepth 100000
set_option linter.unusedSimpArgs false
namespace Go.AM
open Go.Proofs Ex
theorem emptyX_spec : CC F_expr_empty [] = some (exR emptyX) := f_expr_empty_of rfl
theorem unitX_spec : CC F_expr_unit [] = some (exR unitX) := f_expr_unit_of rfl
theorem univX_spec : CC F_expr_universal [] = some (exR univX) := by
  refine f_expr_universal_of ?_
  unfold f_expr_universal
  refine bs emptyX_spec ?_
  simp [exR, emptyX, univX, Ex.op, Ex.letter, Ex.kids, enc_eq]
theorem filter_ne (o : Int) (l : List Ex) : (l.filter fun k => !(decide (k.op = o))) = l.filter fun k => decide (k.op ≠ o) := by
  congr 1; funext k; simp
theorem contains_emp' {ks : List Ex} (hlen : ks.length ≤ 1000000) : CC F_slices_ContainsFunc___api_Expr_api_Expr_ [.list T_api_Expr (ks.map enc)] = some [.bool (ks.any fun k => decide (k.op = 1))] := contains_emp hlen
theorem delete_emp' {ks : List Ex} (hn : ks.length ≤ 1000000) : ∃ b, CC K_slices_DeleteFunc___api_Expr_api_Expr__k137 [.list T_api_Expr (ks.map enc)] = some [.bool b, .list T_api_Expr ((ks.filter (fun k => decide (k.op ≠ 1))).map enc)] := by
  rw [← filter_ne]; exact delete_emp hn
theorem delete_unt' {ks : List Ex} (hn : ks.length ≤ 1000000) : ∃ b, CC K_slices_DeleteFunc___api_Expr_api_Expr__k135 [.list T_api_Expr (ks.map enc)] = some [.bool b, .list T_api_Expr ((ks.filter (fun k => decide (k.op ≠ 2))).map enc)] := by
  rw [← filter_ne]; exact delete_unt hn
theorem flat_ok {o : Int} {ks : List Ex} (h : ∀ k ∈ ks, k.Ok) : ∀ k ∈ flatX o ks, k.Ok := fun x hx => by
  obtain ⟨k, h1, h2 | h2⟩ := flat_mem.1 hx
  · have := h k h1
    obtain ⟨o2, l2, ks2⟩ := k
    exact this.kid x h2.2
  · rw [h2.2]; exact h k h1
theorem joinConcat_spec {n : Int} {ks : List Ex} (hk : ∀ k ∈ ks, Gd n k) (hs : sizes ks ≤ 1000000) : CC F_expr_joinConcat [.list T_api_Expr (ks.map enc)] = some (exR (joinR 5 0 ks)) := by
  have hl := sizes_len ks
  have a1 := sizes_flat 5 ks
  have a2 := sizes_len (flatX 5 ks)
  refine f_expr_joinConcat_of ?_
  unfold f_expr_joinConcat
  rw [joinR_5, any5 hk]
  refine bs (contains_emp' (by omega)) ?_
  cases hu : ks.any fun k => decide (k.op = 1) with
  | true =>
    refine bT rfl ?_
    refine bs emptyX_spec ?_
    rfl
  | false =>
    refine bF rfl ?_
    refine bs (flatten_spec (by omega) (by omega)) ?_
    obtain ⟨b, e⟩ := delete_unt' (ks := flatX 5 ks) (by omega)
    refine bs e ?_
    cases b
    · exact bF rfl (bs unitX_spec (bs (collect_spec (z := unitX)) rfl))
    · exact bT rfl (bs unitX_spec (bs (collect_spec (z := unitX)) rfl))
section
variable {n : Int} {ks : List Ex} (hk : ∀ k ∈ ks, Gd n k) (hok : ∀ k ∈ ks, k.Ok) (hs : sizes ks ≤ 1000000)
include hk hok hs
theorem joinUnion_spec : CC F_expr_joinUnion [.list T_api_Expr (ks.map enc)] = some (exR (joinR 4 0 ks)) := by
  have hl := sizes_len ks
  have a1 := sizes_flat 4 ks
  have a2 := sizes_len (flatX 4 ks)
  refine f_expr_joinUnion_of ?_
  unfold f_expr_joinUnion
  rw [joinR_4, any4 hk]
  refine bs (contains_unv (by omega)) ?_
  cases hu : ks.any univ with
  | true =>
    refine bT rfl ?_
    refine bs univX_spec ?_
    rfl
  | false =>
    refine bF rfl ?_
    refine bs (flatten_spec (by omega) (by omega)) ?_
    obtain ⟨b, e⟩ := delete_emp' (ks := flatX 4 ks) (by omega)
    refine bs e ?_
    obtain ⟨b2, e2⟩ := ordered_spec (l := (flatX 4 ks).filter fun k => decide (k.op ≠ 1)) (by have := List.length_filter_le (fun k : Ex => decide (k.op ≠ 1)) (flatX 4 ks); omega) fun k h => flat_ok hok k (List.mem_filter.1 h).1
    cases b
    · refine bF rfl ?_
      refine bs e2 ?_
      cases b2
      · exact bF rfl (bs emptyX_spec (bs (collect_spec (z := emptyX)) rfl))
      · exact bT rfl (bs emptyX_spec (bs (collect_spec (z := emptyX)) rfl))
    · refine bT rfl ?_
      refine bs e2 ?_
      cases b2
      · exact bF rfl (bs emptyX_spec (bs (collect_spec (z := emptyX)) rfl))
      · exact bT rfl (bs emptyX_spec (bs (collect_spec (z := emptyX)) rfl))
theorem joinAnd_spec : CC F_expr_joinAnd [.list T_api_Expr (ks.map enc)] = some (exR (joinR 6 0 ks)) := by
  have hl := sizes_len ks
  have a1 := sizes_flat 6 ks
  have a2 := sizes_len (flatX 6 ks)
  refine f_expr_joinAnd_of ?_
  unfold f_expr_joinAnd
  rw [joinR_6, any6 hk]
  refine bs (contains_emp' (by omega)) ?_
  cases hu : ks.any fun k => decide (k.op = 1) with
  | true =>
    refine bT rfl ?_
    refine bs emptyX_spec ?_
    rfl
  | false =>
    refine bF rfl ?_
    refine bs (flatten_spec (by omega) (by omega)) ?_
    obtain ⟨b, e⟩ := delete_unv (ks := flatX 6 ks) (by omega)
    refine bs e ?_
    obtain ⟨b2, e2⟩ := ordered_spec (l := (flatX 6 ks).filter fun k => !(univ k)) (by have := List.length_filter_le (fun k : Ex => !(univ k)) (flatX 6 ks); omega) fun k h => flat_ok hok k (List.mem_filter.1 h).1
    cases b
    · refine bF rfl ?_
      refine bs e2 ?_
      cases b2
      · exact bF rfl (bs univX_spec (bs (collect_spec (z := univX)) rfl))
      · exact bT rfl (bs univX_spec (bs (collect_spec (z := univX)) rfl))
    · refine bT rfl ?_
      refine bs e2 ?_
      cases b2
      · exact bF rfl (bs univX_spec (bs (collect_spec (z := univX)) rfl))
      · exact bT rfl (bs univX_spec (bs (collect_spec (z := univX)) rfl))
theorem Join_spec {o : Int} (ho : o = 4 ∨ o = 5 ∨ o = 6) : CC F_expr_Join [.int .i64 o, .list T_api_Expr (ks.map enc)] = some (exR (joinR o 0 ks)) := by
  refine f_expr_Join_of ?_
  unfold f_expr_Join
  rcases ho with rfl | rfl | rfl
  · exact bT rfl (bs (joinUnion_spec hk hok hs) rfl)
  · exact bF rfl (bT rfl (bs (joinConcat_spec hk hs) rfl))
  · exact bF rfl (bF rfl (bT rfl (bs (joinAnd_spec hk hok hs) rfl)))
end
theorem encs1 (k : Ex) : [V.agg [.int .i64 k.op, .int .i64 k.letter, .list T_api_Expr (k.kids.map enc)]] = [k].map enc := by rw [← enc_eq]; rfl
theorem Join1_spec {n o : Int} {k : Ex} (hk : Gd n k) (ho : o = 7 ∨ o = 8) : CC F_expr_Join [.int .i64 o, .list T_api_Expr ([k].map enc)] = some (exR (joinR o 0 [k])) := by
  refine f_expr_Join_of ?_
  unfold f_expr_Join
  rcases ho with rfl | rfl
  · refine bF rfl (bF rfl (bF rfl (bF rfl (bs (a := k.enc) rfl (bF rfl (bT rfl ?_))))))
    rw [joinR_7, enc_0, enc_1, enc_2, bif_beq, bif_beq, bif_beq]
    by_cases h1 : k.op = 1
    · rw [if_pos h1, if_pos (.inl h1)]; exact bs unitX_spec rfl
    · rw [if_neg h1]
      by_cases h2 : k.op = 2
      · rw [if_pos h2, if_pos (.inr h2)]; exact bs unitX_spec rfl
      · rw [if_neg h2, if_neg (show ¬ (k.op = 1 ∨ k.op = 2) by omega)]
        by_cases h7 : k.op = 7
        · rw [if_pos h7, if_pos (.inl h7)]; rfl
        · rw [if_neg h7]
          refine bs (isUniv_spec k) ?_
          cases hu : univ k with
          | true => rw [if_pos (.inr rfl)]; exact bT rfl rfl
          | false =>
            rw [if_neg (by rintro (h | h); exact h7 h; cases h)]
            refine bF rfl ?_
            rw [encs1]; rfl
  · refine bF rfl (bF rfl (bF rfl (bF rfl (bs (a := k.enc) rfl (bT rfl ?_)))))
    rw [joinR_8, enc_0, enc_1, enc_2, bif_beq]
    by_cases h8 : k.op = 8
    · rw [if_pos h8, if_pos h8]
      have hs := shape_cases hk.shape
      obtain ⟨o2, l2, ks2⟩ := k
      simp only [Ex.op, Ex.kids, Ex.letter] at *
      match ks2, (show (ks2.length : Int) = 1 by omega) with
      | [x], _ =>
        refine bT (by simp) (bs (a := x.enc) rfl ?_)
        rw [enc_0, enc_1, enc_2]; rfl
    · rw [if_neg h8, if_neg h8, encs1]; rfl
theorem set_mid {α : Type} (a : List α) (x y : α) (b : List α) {i : Nat} (h : i = a.length) : (a ++ x :: b).set i y = (a ++ [y]) ++ b := by
  subst h; simp [List.set_append_right]
theorem simp_loop {ks : List Ex} {a b c d : Int} {l1 l2 : List V} (hn : ks.length ≤ 1000000) (ih : ∀ k ∈ ks, CC F_expr_Simplify (exA k []) = some (exR (nrm k))) :
    ∀ (suf pre : List Ex), ks = pre ++ suf → ∃ t, Loop (s_expr_Simplify_1L CC (ks.map enc) ((ks.map enc).length : Int) a b l1 c d l2) (((pre.length : Nat) : Int), (pre.map nrm).map enc ++ List.replicate suf.length (V.agg [.int .i64 0, .int .i64 0, .list T_api_Expr ([] : List V)])) = some (((ks.map enc).length : Int), t, (ks.map nrm).map enc) := by
  intro suf
  induction suf with
  | nil =>
    intro pre e
    rw [List.append_nil] at e
    subst e
    refine ⟨false, Loop_end ?_⟩
    simp only [s_expr_Simplify_1L, s_expr_Simplify_1, un, List.length_map]
    rw [bif_decide, if_neg (by omega), decide_eq_false (by omega)]
    simp
  | cons k suf ihs =>
    intro pre e
    have hpl : pre.length < ks.length := by rw [e]; simp
    have hix : idx (ks.map enc) (pre.length : Int) = some k.enc := by rw [e]; exact idx_kid _ _ _
    obtain ⟨t, ht⟩ := ihs (pre ++ [k]) (by simp [e])
    refine ⟨t, (Loop_norm ?_).trans ht⟩
    simp only [s_expr_Simplify_1L, s_expr_Simplify_1, un, List.length_map]
    rw [bif_decide, if_pos (by omega), hix]
    simp only [Option.bind_some, enc_0, enc_1, enc_2]
    refine bs (ih k (by rw [e]; simp)) ?_
    refine bT (by simp only [Bool.and_eq_true, decide_eq_true_eq, List.length_append, List.length_map, List.length_replicate, List.length_cons]; omega) ?_
    refine bs (a := V.agg [.int .i64 0, .int .i64 0, .list T_api_Expr ([] : List V)]) ?_ ?_
    · rw [Int.toNat_natCast, List.getElem?_append_right (by simp)]
      simp
    · rw [wrap64 (by omega) (by omega), Int.toNat_natCast, List.length_cons, List.replicate_succ, set_mid _ _ _ _ (by simp)]
      show some (Sum.inl _) = some (Sum.inl _)
      refine congrArg (fun x => some (Sum.inl x)) (Prod.ext ?_ ?_)
      · simp
      · simp only [List.map_append, List.map_cons, List.map_nil]
        rw [enc_eq (nrm k)]; rfl
theorem Simplify_spec {n : Int} (hn : n ≤ 6) : ∀ e : Ex, e.wf n = true → e.size ≤ 1000000 → CC F_expr_Simplify (exA e []) = some (exR (nrm e)) :=
  ind fun o l ks ih hw hs => by
    obtain ⟨h1, h2⟩ := wf_node hw
    have hl := sizes_len ks
    simp only [size] at hs
    have h3 := shape_cases h1
    refine f_expr_Simplify_of ?_
    unfold f_expr_Simplify
    simp only [Ex.op, Ex.kids, Ex.letter, List.length_map, bif_beq]
    rw [nrm_node]
    by_cases h0 : ks = []
    · subst h0
      rw [if_pos (by simp), joinR_0 (by simp only [List.length_nil] at h3; omega)]
      rfl
    · have hp : 0 < ks.length := List.length_pos_iff.2 h0
      rw [if_neg (by omega)]
      refine bT (by simp only [Bool.and_eq_true, decide_eq_true_eq, Nat.ble_eq, maxB, Int.toNat_natCast]; omega) ?_
      obtain ⟨t, ht⟩ := simp_loop (a := o) (b := l) (c := 0) (d := 0) (l1 := ks.map enc) (l2 := []) (ks := ks) (by omega) (fun k hk => ih k hk (h2 k hk) (by have := kid_size hk; omega)) ks [] rfl
      rw [List.length_map] at ht
      refine bs ht ?_
      have hg : ∀ k ∈ ks.map nrm, Gd n k := fun x hx => by
        obtain ⟨k, hk, rfl⟩ := List.mem_map.1 hx
        exact nrm_gd k (h2 k hk)
      have hz : sizes (ks.map nrm) ≤ sizes ks := by
        clear ht h3 h1 hw ih hp h0 hl hs hg
        induction ks with
        | nil => simp [sizes]
        | cons k ks ih => have a := nrm_size k (h2 k (by simp)); have b := ih fun k hk => h2 k (by simp [hk]); simp only [List.map_cons, sizes]; omega
      have hok : ∀ k ∈ ks.map nrm, k.Ok := fun k hk => wf_ok hn k (hg k hk).2 (by have := kid_size hk; omega)
      rcases (show (o = 4 ∨ o = 5 ∨ o = 6) ∨ (o = 7 ∨ o = 8) by omega) with ho | ho
      · obtain rfl : l = 0 := by omega
        exact bs (Join_spec hg hok (by omega) ho) rfl
      · obtain rfl : l = 0 := by omega
        have h5 : ks.length = 1 := by omega
        match ks, h5 with
        | [k], _ => exact bs (Join1_spec (hg (nrm k) (by simp)) ho) rfl
theorem ex0_ok : ex0.Ok := .node (by omega) (by omega) (by simp) (by simp)
theorem Normal_spec (e : Ex) (h : e.Ok) : CC F_expr_Normal (exA e []) = some (exR (if e.val 6 = 0 then nrm e else ex0)) := by
  refine f_expr_Normal_of ?_
  unfold f_expr_Normal
  refine bs (exValid_spec e h) ?_
  by_cases hv : e.val 6 = 0
  · have := val0 hv
    rw [if_pos hv]
    refine bF (by simp [hv]) ?_
    exact bs (Simplify_spec (by omega) e this.2.2 (by omega)) rfl
  · rw [if_neg hv]
    refine bT (by simp [hv]) ?_
    rfl
theorem ref_loop {ks : List Ex} {a b c d : Int} {l1 l2 : List V} (hn : ks.length ≤ 1000000) (ih : ∀ k ∈ ks, CC F_semigroupref04_Normal (exA k []) = some (exR (nrm k))) :
    ∀ (suf pre : List Ex), ks = pre ++ suf → ∃ t, Loop (s_semigroupref04_Normal_1L CC (ks.map enc) ((ks.map enc).length : Int) a b l1 c d l2) (((pre.length : Nat) : Int), (pre.map nrm).map enc) = some (((ks.map enc).length : Int), t, (ks.map nrm).map enc) := by
  intro suf
  induction suf with
  | nil =>
    intro pre e
    rw [List.append_nil] at e
    subst e
    refine ⟨false, Loop_end ?_⟩
    simp only [s_semigroupref04_Normal_1L, s_semigroupref04_Normal_1, un, List.length_map]
    rw [bif_decide, if_neg (by omega), decide_eq_false (by omega)]
  | cons k suf ihs =>
    intro pre e
    have hpl : pre.length < ks.length := by rw [e]; simp
    have hix : idx (ks.map enc) (pre.length : Int) = some k.enc := by rw [e]; exact idx_kid _ _ _
    obtain ⟨t, ht⟩ := ihs (pre ++ [k]) (by simp [e])
    refine ⟨t, (Loop_norm ?_).trans ht⟩
    simp only [s_semigroupref04_Normal_1L, s_semigroupref04_Normal_1, un, List.length_map]
    rw [bif_decide, if_pos (by omega), hix]
    simp only [Option.bind_some, enc_0, enc_1, enc_2]
    refine bs (ih k (by rw [e]; simp)) ?_
    refine bT (by simp only [Nat.ble_eq, maxB, List.length_map, List.length_singleton]; omega) ?_
    rw [wrap64 (by omega) (by omega)]
    show some (Sum.inl _) = some (Sum.inl _)
    refine congrArg (fun x => some (Sum.inl x)) (Prod.ext ?_ ?_)
    · simp
    · simp only [List.map_append, List.map_cons, List.map_nil]
      rw [enc_eq (nrm k)]; rfl
theorem coll_leaves {op z : Int} {r : List Ex} {lz : List V} {e : Ex} (he : exR e = [.int .i64 z, .int .i64 0, .list T_api_Expr lz]) :
    (bif (((r.map enc).length : Int) : Int) == 0 then some [V.int .i64 z, V.int .i64 0, V.list T_api_Expr lz] else bif (((r.map enc).length : Int) : Int) == 1 then ((r.map enc)[0]?).bind fun x => some [V.int .i64 ((x.cell 0).toInt), V.int .i64 ((x.cell 1).toInt), V.list T_api_Expr ((x.cell 2).toList)] else some [V.int .i64 op, V.int .i64 0, V.list T_api_Expr (r.map enc)]) = some (exR (collX op r e)) := by
  simp only [bif_beq, List.length_map]
  match r with
  | [] => rw [if_pos (by simp), ← he]; rfl
  | [k] => rw [if_neg (by simp), if_pos (by simp)]; simp [collX, exR, enc_0, enc_1, enc_2]
  | k :: k2 :: r =>
    rw [if_neg (by simp only [List.length_cons]; omega), if_neg (by simp only [List.length_cons]; omega)]
    rfl
theorem refNormal_spec {n : Int} (hn : n ≤ 6) : ∀ e : Ex, e.wf n = true → e.size ≤ 1000000 → CC F_semigroupref04_Normal (exA e []) = some (exR (nrm e)) :=
  ind fun o l ks ih hw hs => by
    obtain ⟨h1, h2⟩ := wf_node hw
    have hl := sizes_len ks
    simp only [size] at hs
    have h3 := shape_cases h1
    refine f_semigroupref04_Normal_of ?_
    unfold f_semigroupref04_Normal
    obtain ⟨t, ht⟩ := ref_loop (a := o) (b := l) (c := 0) (d := 0) (l1 := ks.map enc) (l2 := []) (ks := ks) (by omega) (fun k hk => ih k hk (h2 k hk) (by have := kid_size hk; omega)) ks [] rfl
    refine bs ht ?_
    have hg : ∀ k ∈ ks.map nrm, Gd n k := fun x hx => by
      obtain ⟨k, hk, rfl⟩ := List.mem_map.1 hx
      exact nrm_gd k (h2 k hk)
    have hz : sizes (ks.map nrm) ≤ sizes ks := by
      clear ht h3 h1 hw ih hl hs hg
      induction ks with
      | nil => simp [sizes]
      | cons k ks ih => have a := nrm_size k (h2 k (by simp)); have b := ih fun k hk => h2 k (by simp [hk]); simp only [List.map_cons, sizes]; omega
    have hok : ∀ k ∈ ks.map nrm, k.Ok := fun k hk => wf_ok hn k (hg k hk).2 (by have := kid_size hk; omega)
    have hlen : (ks.map nrm).length = ks.length := by simp
    rw [nrm_node]
    simp only [un, Ex.op, Ex.letter, Ex.kids]
    generalize ks.map nrm = ns at *
    have hl2 := sizes_len ns
    rcases h3 with ⟨rfl, h4, _⟩ | ⟨rfl, ⟨rfl, h4⟩ | ⟨rfl, h4⟩ | ⟨rfl, h4⟩ | ⟨rfl, h4⟩ | ⟨rfl, h4⟩ | ⟨rfl, h4⟩ | ⟨rfl, h4⟩⟩
    · obtain rfl : ns = [] := List.length_eq_zero_iff.1 (by omega)
      rw [joinR_0 (by omega)]
      exact bF rfl (bF rfl (bF rfl (bF rfl (bF rfl rfl))))
    · obtain rfl : ns = [] := List.length_eq_zero_iff.1 (by omega)
      rw [joinR_0 (by omega)]
      exact bF rfl (bF rfl (bF rfl (bF rfl (bF rfl rfl))))
    · obtain rfl : ns = [] := List.length_eq_zero_iff.1 (by omega)
      rw [joinR_0 (by omega)]
      exact bF rfl (bF rfl (bF rfl (bF rfl (bF rfl rfl))))
    · refine bF rfl (bF rfl (bF rfl (bT rfl ?_)))
      have a1 := sizes_flat 4 ns
      have a2 := sizes_len (flatX 4 ns)
      refine bs (flat_spec (by omega) (by omega)) ?_
      refine bs (n3_loop (by omega) (flat_ok hok) (flatX 4 ns) [] [] rfl (Nat.le_refl _) (by simp)) ?_
      rw [joinR_4]
      cases (flatX 4 ns).any univ with
      | true => simp only [if_true]; rfl
      | false =>
        simp only [Bool.false_eq_true, if_false]
        exact coll_leaves rfl
    · refine bF rfl (bF rfl (bT rfl ?_))
      have a1 := sizes_flat 5 ns
      have a2 := sizes_len (flatX 5 ns)
      refine bs (flat_spec (by omega) (by omega)) ?_
      refine bs (n2_loop (by omega) (flatX 5 ns) [] [] rfl (Nat.le_refl _)) ?_
      rw [joinR_5]
      cases (flatX 5 ns).any (fun k => decide (k.op = 1)) with
      | true => simp only [if_true]; rfl
      | false =>
        simp only [Bool.false_eq_true, if_false, List.nil_append]
        exact coll_leaves rfl
    · refine bF rfl (bF rfl (bF rfl (bF rfl (bT rfl ?_))))
      have a1 := sizes_flat 6 ns
      have a2 := sizes_len (flatX 6 ns)
      refine bs (flat_spec (by omega) (by omega)) ?_
      refine bs (n4_loop (by omega) (flat_ok hok) (flatX 6 ns) [] [] rfl (Nat.le_refl _) (by simp)) ?_
      rw [joinR_6]
      cases (flatX 6 ns).any (fun k => decide (k.op = 1)) with
      | true => simp only [if_true]; rfl
      | false =>
        simp only [Bool.false_eq_true, if_false]
        refine coll_leaves ?_
        simp [exR, univX, emptyX, Ex.op, Ex.letter, Ex.kids, enc_eq]
    · match ns, (show ns.length = 1 by omega) with
      | [k], _ =>
        refine bF rfl (bT rfl (bT rfl (bs (a := k.enc) rfl ?_)))
        rw [joinR_7, enc_0, enc_1, enc_2, bif_beq, bif_beq, bif_beq]
        by_cases h1 : k.op = 1
        · rw [if_pos h1, if_pos (.inl h1)]; rfl
        · rw [if_neg h1]
          by_cases h2 : k.op = 2
          · rw [if_pos h2, if_pos (.inr h2)]; rfl
          · rw [if_neg h2, if_neg (show ¬ (k.op = 1 ∨ k.op = 2) by omega)]
            by_cases h7 : k.op = 7
            · rw [if_pos h7, if_pos (.inl h7)]; rfl
            · rw [if_neg h7]
              refine bs (Universal_spec k) ?_
              cases hu : univ k with
              | true => rw [if_pos (.inr rfl)]; exact bT rfl rfl
              | false =>
                rw [if_neg (by rintro (h | h); exact h7 h; cases h)]
                exact bF rfl rfl
    · match ns, (show ns.length = 1 by omega) with
      | [k], _ =>
        refine bT rfl (bT rfl (bs (a := k.enc) rfl ?_))
        rw [joinR_8, enc_0, bif_beq]
        by_cases h8 : k.op = 8
        · rw [if_pos h8, if_pos h8]
          have hs := shape_cases (hg k (by simp)).shape
          obtain ⟨o2, l2, ks2⟩ := k
          simp only [Ex.op, Ex.kids, Ex.letter] at *
          match ks2, (show (ks2.length : Int) = 1 by omega) with
          | [x], _ =>
            refine bT (by simp) (bs (a := _) rfl (bs (a := x.enc) (by rw [enc_2]; rfl) ?_))
            rw [enc_0, enc_1, enc_2]; rfl
        · rw [if_neg h8, if_neg h8]; rfl
instance : DecidableEq Ex := fun _ _ => decidable_of_iff _ same_iff
theorem exR_same {a b : Ex} (ha : a.Ok) (hb : b.Ok) : CC F_semigrouplaw04_same (exA a (exA b [])) = some [.bool (decide (a = b))] := by
  rw [same_spec a ha b hb]
  refine congrArg (fun x => some [V.bool x]) ?_
  rw [decide_eq_decide]; exact same_iff
theorem nrm_ok {e : Ex} (hv : e.val 6 = 0) : (nrm e).Ok := by
  have := val0 hv
  have h2 := nrm_size e this.2.2
  exact wf_ok (n := 6) (by omega) _ (nrm_gd e this.2.2).2 (by omega)
end Go.AM
set_option maxRecDepth 100000
namespace Go.AM
open Go.Proofs
theorem awake : CC F_semigrouplaw04_awake [] = some [.bool true] := Call_of_run (N := 40) (n := 40) (by kernel_rfl)
end Go.AM
set_option maxRecDepth 100000
namespace Go.AM
open Go.Proofs
noncomputable def f_semigrouplaw04_ExprNormalizes (C : CallF) (e_0 e_1 : Int) (e_2 : List V) : Option (List V) :=
  (C F_expr_Normal [.int .i64 e_0, .int .i64 e_1, .list T_api_Expr e_2]).bind fun r1 =>
  (C F_semigroupref04_Valid [.int .i64 e_0, .int .i64 e_1, .list T_api_Expr e_2]).bind fun r2 =>
  bif !((V.nth r2 0).toBool) then
   (C F_semigrouplaw04_same [.int .i64 ((V.nth r1 0).toInt), .int .i64 ((V.nth (r1.drop 1) 0).toInt), .list T_api_Expr ((V.nth ((r1.drop 1).drop 1) 0).toList), .int .i64 0, .int .i64 0, .list T_api_Expr ([] : List V)]).bind fun r3 =>
   bif (V.nth r3 0).toBool then
    (C F_semigrouplaw04_awake []).bind fun r4 =>
    some [.bool ((V.nth r4 0).toBool)]
   else
    some [.bool false]
  else
   (C F_semigroupref04_Normal [.int .i64 e_0, .int .i64 e_1, .list T_api_Expr e_2]).bind fun r5 =>
   (C F_semigrouplaw04_same [.int .i64 ((V.nth r1 0).toInt), .int .i64 ((V.nth (r1.drop 1) 0).toInt), .list T_api_Expr ((V.nth ((r1.drop 1).drop 1) 0).toList), .int .i64 ((V.nth r5 0).toInt), .int .i64 ((V.nth (r5.drop 1) 0).toInt), .list T_api_Expr ((V.nth ((r5.drop 1).drop 1) 0).toList)]).bind fun r6 =>
   bif (V.nth r6 0).toBool then
    (C F_semigrouplaw04_awake []).bind fun r7 =>
    some [.bool ((V.nth r7 0).toBool)]
   else
    some [.bool false]
theorem f_semigrouplaw04_ExprNormalizes_of {e_0 e_1 : Int} {e_2 : List V} {r : Option (List V)} (h : f_semigrouplaw04_ExprNormalizes CC e_0 e_1 e_2 = r) : CC F_semigrouplaw04_ExprNormalizes [.int .i64 e_0, .int .i64 e_1, .list T_api_Expr e_2] = r :=
  func_of (key := 8) (L := LT0) (bs := []) (by kernel_rfl) tells_nil (Eq.trans (by kernel_rfl) h)
end Go.AM
set_option maxRecDepth 100000
namespace Go.AM
open Go.Proofs Ex
theorem exprNormalizes (e : Ex) (h : e.Ok) : CC F_semigrouplaw04_ExprNormalizes (exA e []) = some [.bool true] := by
  refine f_semigrouplaw04_ExprNormalizes_of ?_
  unfold f_semigrouplaw04_ExprNormalizes
  refine bs (Normal_spec e h) ?_
  refine bs (exRefValid_spec e h) ?_
  by_cases hv : e.val 6 = 0
  · have h0 := val0 hv
    refine bF (by simp [hv]) ?_
    refine bs (refNormal_spec (n := 6) (by omega) e h0.2.2 (by omega)) ?_
    rw [if_pos hv]
    refine bs (exR_same (nrm_ok hv) (nrm_ok hv)) ?_
    refine bT (by simp) ?_
    exact bs awake rfl
  · refine bT (by simp [hv]) ?_
    rw [if_neg hv]
    refine bs (exR_same ex0_ok ex0_ok) ?_
    refine bT (by simp) ?_
    exact bs awake rfl
end Go.AM
