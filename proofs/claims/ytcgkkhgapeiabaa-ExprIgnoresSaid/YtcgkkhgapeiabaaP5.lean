/-
  Functions of the program, lifted to plain data.
-/
import Derived.Sort.AssemblyPlain
import Derived.Test.YtcgkkhgapeiabaaP4
set_option linter.unusedVariables false
set_option linter.unusedSimpArgs false
set_option maxRecDepth 100000
set_option linter.unusedSimpArgs false
namespace Go.AM
open Go.Proofs Ex
def isE (k : Ex) : Bool := decide (k.op = 1)
def isU (k : Ex) : Bool := decide (k.op = 2)
theorem isEmpty_spec (k : Ex) : CC F_expr_isEmpty (exA k []) = some [.bool (isE k)] := by
  refine f_expr_isEmpty_of ?_
  unfold f_expr_isEmpty isE
  rw [beqd]
theorem isUnit_spec (k : Ex) : CC F_expr_isUnit (exA k []) = some [.bool (isU k)] := by
  refine f_expr_isUnit_of ?_
  unfold f_expr_isUnit isU
  rw [beqd]
theorem isUniv_spec (k : Ex) : CC F_expr_isUniversal (exA k []) = some [.bool (univ k)] := by
  obtain ⟨o, l, ks⟩ := k
  refine f_expr_isUniversal_of ?_
  unfold f_expr_isUniversal univ
  simp only [Ex.op, Ex.kids, bif_beq, List.length_map]
  by_cases h1 : o = 8
  · rw [if_pos h1]
    match ks with
    | [] => simp
    | [k] =>
      rw [if_pos (by simp)]
      simp only [List.map_cons, List.map_nil, List.getElem?_cons_zero, Option.bind_some, enc_0, enc_1, enc_2]
      refine (congrArg (fun o => Option.bind o _) (isEmpty_spec k)).trans ?_
      simp only [h1, isE]
      simp
      rfl
    | k :: k2 :: ks =>
      rw [if_neg (by simp <;> omega)]
      simp
  · rw [if_neg h1]; simp [h1]
theorem take_snoc {l : List Ex} {j : Nat} (h : j < l.length) : l.take (j + 1) = l.take j ++ [l.getD j ex0] := by
  rw [List.take_succ_eq_append_getElem h]; simp [h]
theorem drop_get {l ss : List Ex} {j : Nat} (hl : ss.length = l.length) (h : ss.drop j = l.drop j) (hj : j < l.length) : ss.getD j ex0 = l.getD j ex0 := by
  have h1 := congrArg (fun x : List Ex => x.getD 0 ex0) h
  simpa [hj, hl] using h1
theorem get_enc {l : List Ex} {i : Nat} (h : i < l.length) : (l.map enc)[i]? = some (l.getD i ex0).enc := by simp [h]
theorem cut_take (ss : List Ex) (m : Nat) (z : V) (hm : m ≤ ss.length) : ((((ss.map enc).take m ++ (List.replicate ((ss.map enc).length - m) z ++ (ss.map enc).drop (m + ((ss.map enc).length - m)))).take m) = (ss.take m).map enc) := by
  rw [List.take_append_of_le_length (by simp; omega), List.take_of_length_le (by simp; omega), List.map_take]
theorem index_emp {ks : List Ex} (hlen : ks.length ≤ 1000000) : ∀ (suf pre : List Ex), ks = pre ++ suf → (∀ k ∈ pre, isE k = false) →
    (ks.any isE = false ∧ ∃ t, Loop (s_slices_IndexFunc___api_Expr_api_Expr__1L CC (ks.map enc) ((ks.map enc).length : Int)) ((pre.length : Nat) : Int) = some (.inr t)) ∨
    (∃ i : Nat, i < ks.length ∧ isE (ks.getD i ex0) = true ∧ (∀ k ∈ ks.take i, isE k = false) ∧ Loop (s_slices_IndexFunc___api_Expr_api_Expr__1L CC (ks.map enc) ((ks.map enc).length : Int)) ((pre.length : Nat) : Int) = some (.inl (i : Int))) := by
  intro suf
  induction suf with
  | nil =>
    intro pre hks hp
    rw [List.append_nil] at hks
    subst hks
    refine .inl ⟨any_of_false hp, ⟨(((ks.length : Nat) : Int), false), Loop_end ?_⟩⟩
    · simp only [s_slices_IndexFunc___api_Expr_api_Expr__1L, s_slices_IndexFunc___api_Expr_api_Expr__1, List.length_map, bif_decide]
      rw [if_neg (by omega), decide_eq_false (by omega)]
  | cons k suf ih =>
    intro pre hks hp
    have hpl : pre.length < ks.length := by rw [hks]; simp
    have hix : idx (ks.map enc) (pre.length : Int) = some k.enc := by rw [hks]; exact idx_kid _ _ _
    cases hk : isE k with
    | true =>
      refine .inr ⟨pre.length, hpl, by rw [hks]; simpa using hk, by rw [hks]; simpa using hp, Loop_end ?_⟩
      simp only [s_slices_IndexFunc___api_Expr_api_Expr__1L, s_slices_IndexFunc___api_Expr_api_Expr__1, List.length_map, bif_decide]
      rw [if_pos (by omega), hix]
      simp only [Option.bind_some, enc_0, enc_1, enc_2]
      refine (congrArg (fun o => Option.bind o _) (isEmpty_spec k)).trans ?_
      simp only [Option.bind_some, V.nth_zero, V.toBool_bool]
      rw [hk, cond_true]
    | false =>
      have hst : s_slices_IndexFunc___api_Expr_api_Expr__1L CC (ks.map enc) ((ks.map enc).length : Int) ((pre.length : Nat) : Int) = some (.inl (((pre ++ [k]).length : Nat) : Int)) := by
        simp only [s_slices_IndexFunc___api_Expr_api_Expr__1L, s_slices_IndexFunc___api_Expr_api_Expr__1, List.length_map, bif_decide]
        rw [if_pos (by omega), hix]
        simp only [Option.bind_some, enc_0, enc_1, enc_2]
        refine (congrArg (fun o => Option.bind o _) (isEmpty_spec k)).trans ?_
        simp only [Option.bind_some, V.nth_zero, V.toBool_bool]
        rw [hk, cond_false, wrap64 (by omega) (by omega)]
        simp
      rw [Loop_norm hst]
      refine ih (pre ++ [k]) (by rw [hks]; simp) fun x hx => ?_
      rcases List.mem_append.1 hx with hx | hx
      · exact hp x hx
      · rw [List.mem_singleton.1 hx]; exact hk
theorem indexF_emp {ks : List Ex} (hlen : ks.length ≤ 1000000) :
    (ks.any isE = false ∧ CC F_slices_IndexFunc___api_Expr_api_Expr_ [.list T_api_Expr (ks.map enc)] = some [.int .i64 (-1)]) ∨
    (∃ i : Nat, i < ks.length ∧ isE (ks.getD i ex0) = true ∧ (∀ k ∈ ks.take i, isE k = false) ∧ CC F_slices_IndexFunc___api_Expr_api_Expr_ [.list T_api_Expr (ks.map enc)] = some [.int .i64 (i : Int)]) := by
  rcases index_emp hlen ks [] rfl (by simp) with ⟨h1, t, h2⟩ | ⟨i, h1, h2, h3, h4⟩
  · refine .inl ⟨h1, f_slices_IndexFunc___api_Expr_api_Expr__of ?_⟩
    unfold f_slices_IndexFunc___api_Expr_api_Expr_
    refine (congrArg (fun o => Option.bind o _) h2).trans ?_
    rfl
  · refine .inr ⟨i, h1, h2, h3, f_slices_IndexFunc___api_Expr_api_Expr__of ?_⟩
    unfold f_slices_IndexFunc___api_Expr_api_Expr_
    refine (congrArg (fun o => Option.bind o _) h4).trans ?_
    rfl
theorem contains_emp {ks : List Ex} (hlen : ks.length ≤ 1000000) : CC F_slices_ContainsFunc___api_Expr_api_Expr_ [.list T_api_Expr (ks.map enc)] = some [.bool (ks.any isE)] := by
  refine f_slices_ContainsFunc___api_Expr_api_Expr__of ?_
  unfold f_slices_ContainsFunc___api_Expr_api_Expr_
  rcases indexF_emp hlen with ⟨h1, h2⟩ | ⟨i, h1, h2, h3, h4⟩
  · refine (congrArg (fun o => Option.bind o _) h2).trans ?_
    rw [h1]; rfl
  · refine (congrArg (fun o => Option.bind o _) h4).trans ?_
    rw [List.any_eq_true.2 ⟨_, by rw [show ks.getD i ex0 = ks[i] by simp [h1]]; exact List.getElem_mem h1, h2⟩]
    simp
theorem delete_loop_emp {ks : List Ex} (hn : ks.length ≤ 1000000) : ∀ (d j i : Nat) (ss : List Ex), j + d = ks.length → i ≤ j → ss.length = ks.length → ss.take i = (ks.take j).filter (fun k => !(isE k)) → ss.drop j = ks.drop j →
    ∃ t ss', Loop (s_slices_DeleteFunc___api_Expr_api_Expr__k137_1L CC) ((i : Int), (j : Int), ss.map enc) = some (((ks.filter (fun k => !(isE k))).length : Int), (ks.length : Int), t, List.map enc ss') ∧ ss'.take (ks.filter (fun k => !(isE k))).length = ks.filter (fun k => !(isE k)) ∧ ss'.length = ks.length := by
  intro d
  induction d with
  | zero =>
    intro j i ss hj hi hl ht hd
    obtain rfl : j = ks.length := by omega
    rw [List.take_length] at ht
    have hi2 : i = (ks.filter (fun k => !(isE k))).length := by rw [← ht, List.length_take]; omega
    refine ⟨false, ss, Loop_end ?_, by rw [← hi2]; exact ht, hl⟩
    simp only [s_slices_DeleteFunc___api_Expr_api_Expr__k137_1L, s_slices_DeleteFunc___api_Expr_api_Expr__k137_1, un, List.length_map, bif_decide]
    rw [if_neg (by omega), decide_eq_false (by omega), hi2]
  | succ d ih =>
    intro j i ss hj hi hl ht hd
    have hjl : j < ks.length := by omega
    have hg := drop_get hl hd hjl
    have hd2 : ss.drop (j + 1) = ks.drop (j + 1) := by rw [← List.drop_drop, ← List.drop_drop, hd]
    have hx : (ss.map enc)[j]? = some (ks.getD j ex0).enc := by rw [get_enc (by omega), hg]
    have t1 : ((j : Nat) : Int) < (ss.length : Int) := by omega
    have t2 : (0 : Int) ≤ ((j : Nat) : Int) := by omega
    have t3 : ((i : Nat) : Int) < (ss.length : Int) := by omega
    have t4 : (0 : Int) ≤ ((i : Nat) : Int) := by omega
    have hix : ∃ y, (ss.map enc)[i]? = some y := ⟨_, get_enc (by omega)⟩
    obtain ⟨y, hy⟩ := hix
    cases hk : isE (ks.getD j ex0) with
    | true =>
      have hst : s_slices_DeleteFunc___api_Expr_api_Expr__k137_1L CC ((i : Int), (j : Int), ss.map enc) = some (.inl ((i : Int), ((j + 1 : Nat) : Int), ss.map enc)) := by
        simp only [s_slices_DeleteFunc___api_Expr_api_Expr__k137_1L, s_slices_DeleteFunc___api_Expr_api_Expr__k137_1, un, List.length_map, bif_decide, bif_and, t1, t2, if_true, Int.toNat_natCast, hx, Option.bind_some, enc_0, enc_1, enc_2]
        refine (congrArg (fun o => Option.bind o _) (isEmpty_spec (ks.getD j ex0))).trans ?_
        simp only [Option.bind_some, V.nth_zero, V.toBool_bool]
        rw [hk, Bool.not_true, cond_false, wrap64 (by omega) (by omega)]
        rfl
      rw [Loop_norm hst]
      refine ih (j + 1) i ss (by omega) (by omega) hl ?_ hd2
      rw [take_snoc hjl, List.filter_append, ht, List.filter_cons, hk]
      simp
    | false =>
      have hst : s_slices_DeleteFunc___api_Expr_api_Expr__k137_1L CC ((i : Int), (j : Int), ss.map enc) = some (.inl (((i + 1 : Nat) : Int), ((j + 1 : Nat) : Int), (ss.set i (ks.getD j ex0)).map enc)) := by
        simp only [s_slices_DeleteFunc___api_Expr_api_Expr__k137_1L, s_slices_DeleteFunc___api_Expr_api_Expr__k137_1, un, List.length_map, bif_decide, bif_and, t1, t2, t3, t4, if_true, Int.toNat_natCast, hx, hy, Option.bind_some, enc_0, enc_1, enc_2]
        refine (congrArg (fun o => Option.bind o _) (isEmpty_spec (ks.getD j ex0))).trans ?_
        simp only [Option.bind_some, V.nth_zero, V.toBool_bool]
        rw [hk, Bool.not_false, cond_true, wrap64 (by omega) (by omega), wrap64 (by omega) (by omega), ← enc_eq, List.map_set]
        rfl
      rw [Loop_norm hst]
      refine ih (j + 1) (i + 1) (ss.set i (ks.getD j ex0)) (by omega) (by omega) (by simpa using hl) ?_ ?_
      · rw [take_snoc (by rw [List.length_set]; omega), List.take_set_of_le (Nat.le_refl i), ht, take_snoc hjl, List.filter_append, List.filter_cons, hk]
        simp [show i < ss.length by omega]
      · rw [List.drop_set_of_lt (by omega), hd2]
theorem delete_emp {ks : List Ex} (hn : ks.length ≤ 1000000) : ∃ b, CC K_slices_DeleteFunc___api_Expr_api_Expr__k137 [.list T_api_Expr (ks.map enc)] = some [.bool b, .list T_api_Expr ((ks.filter (fun k => !(isE k))).map enc)] := by
  rcases indexF_emp hn with ⟨h1, h2⟩ | ⟨i, h1, h2, h3, h4⟩
  · refine ⟨true, f_slices_DeleteFunc___api_Expr_api_Expr__k137_of ?_⟩
    unfold f_slices_DeleteFunc___api_Expr_api_Expr__k137
    refine (congrArg (fun o => Option.bind o _) h2).trans ?_
    rw [List.filter_eq_self.2 fun k hk => show (!(isE k)) = true by rw [any_false (p := isE) (by rw [h1]; simp) k hk]; rfl]
    rfl
  · have hf : (ks.take (i + 1)).filter (fun k => !(isE k)) = ks.take i := by
      rw [take_snoc h1, List.filter_append, List.filter_cons, h2, List.filter_eq_self.2 fun k hk => show (!(isE k)) = true by rw [h3 k hk]; rfl]
      simp
    obtain ⟨t, ss', e1, e2, e3⟩ := delete_loop_emp hn (ks.length - (i + 1)) (i + 1) i ks (by omega) (by omega) rfl hf.symm rfl
    refine ⟨false, f_slices_DeleteFunc___api_Expr_api_Expr__k137_of ?_⟩
    unfold f_slices_DeleteFunc___api_Expr_api_Expr__k137
    refine (congrArg (fun o => Option.bind o _) h4).trans ?_
    simp only [Option.bind_some, V.nth_zero, V.toInt_int, bif_beq]
    rw [if_neg (by omega), wrap64 (by omega) (by omega)]
    refine (congrArg (fun o => Option.bind o _) e1).trans ?_
    have hm : (ks.filter (fun k => !(isE k))).length ≤ ss'.length := by rw [e3]; exact List.length_filter_le _ _
    have t1 : ((((ks.filter (fun k => !(isE k))).length : Nat) : Int) ≤ ((ss'.map enc).length : Int)) := by rw [List.length_map]; omega
    simp only [Option.bind_some, un, bif_and, bif_decide, Int.toNat_natCast]
    rw [if_pos (by omega), if_pos t1, if_pos (by omega), if_pos (by simp only [List.length_append, List.length_take, List.length_replicate, List.length_drop]; omega), cut_take _ _ _ hm, e2]
theorem index_unt {ks : List Ex} (hlen : ks.length ≤ 1000000) : ∀ (suf pre : List Ex), ks = pre ++ suf → (∀ k ∈ pre, isU k = false) →
    (ks.any isU = false ∧ ∃ t, Loop (s_slices_IndexFunc___api_Expr_api_Expr__k136_1L CC (ks.map enc) ((ks.map enc).length : Int)) ((pre.length : Nat) : Int) = some (.inr t)) ∨
    (∃ i : Nat, i < ks.length ∧ isU (ks.getD i ex0) = true ∧ (∀ k ∈ ks.take i, isU k = false) ∧ Loop (s_slices_IndexFunc___api_Expr_api_Expr__k136_1L CC (ks.map enc) ((ks.map enc).length : Int)) ((pre.length : Nat) : Int) = some (.inl (i : Int))) := by
  intro suf
  induction suf with
  | nil =>
    intro pre hks hp
    rw [List.append_nil] at hks
    subst hks
    refine .inl ⟨any_of_false hp, ⟨(((ks.length : Nat) : Int), false), Loop_end ?_⟩⟩
    · simp only [s_slices_IndexFunc___api_Expr_api_Expr__k136_1L, s_slices_IndexFunc___api_Expr_api_Expr__k136_1, List.length_map, bif_decide]
      rw [if_neg (by omega), decide_eq_false (by omega)]
  | cons k suf ih =>
    intro pre hks hp
    have hpl : pre.length < ks.length := by rw [hks]; simp
    have hix : idx (ks.map enc) (pre.length : Int) = some k.enc := by rw [hks]; exact idx_kid _ _ _
    cases hk : isU k with
    | true =>
      refine .inr ⟨pre.length, hpl, by rw [hks]; simpa using hk, by rw [hks]; simpa using hp, Loop_end ?_⟩
      simp only [s_slices_IndexFunc___api_Expr_api_Expr__k136_1L, s_slices_IndexFunc___api_Expr_api_Expr__k136_1, List.length_map, bif_decide]
      rw [if_pos (by omega), hix]
      simp only [Option.bind_some, enc_0, enc_1, enc_2]
      refine (congrArg (fun o => Option.bind o _) (isUnit_spec k)).trans ?_
      simp only [Option.bind_some, V.nth_zero, V.toBool_bool]
      rw [hk, cond_true]
    | false =>
      have hst : s_slices_IndexFunc___api_Expr_api_Expr__k136_1L CC (ks.map enc) ((ks.map enc).length : Int) ((pre.length : Nat) : Int) = some (.inl (((pre ++ [k]).length : Nat) : Int)) := by
        simp only [s_slices_IndexFunc___api_Expr_api_Expr__k136_1L, s_slices_IndexFunc___api_Expr_api_Expr__k136_1, List.length_map, bif_decide]
        rw [if_pos (by omega), hix]
        simp only [Option.bind_some, enc_0, enc_1, enc_2]
        refine (congrArg (fun o => Option.bind o _) (isUnit_spec k)).trans ?_
        simp only [Option.bind_some, V.nth_zero, V.toBool_bool]
        rw [hk, cond_false, wrap64 (by omega) (by omega)]
        simp
      rw [Loop_norm hst]
      refine ih (pre ++ [k]) (by rw [hks]; simp) fun x hx => ?_
      rcases List.mem_append.1 hx with hx | hx
      · exact hp x hx
      · rw [List.mem_singleton.1 hx]; exact hk
theorem indexF_unt {ks : List Ex} (hlen : ks.length ≤ 1000000) :
    (ks.any isU = false ∧ CC K_slices_IndexFunc___api_Expr_api_Expr__k136 [.list T_api_Expr (ks.map enc)] = some [.int .i64 (-1)]) ∨
    (∃ i : Nat, i < ks.length ∧ isU (ks.getD i ex0) = true ∧ (∀ k ∈ ks.take i, isU k = false) ∧ CC K_slices_IndexFunc___api_Expr_api_Expr__k136 [.list T_api_Expr (ks.map enc)] = some [.int .i64 (i : Int)]) := by
  rcases index_unt hlen ks [] rfl (by simp) with ⟨h1, t, h2⟩ | ⟨i, h1, h2, h3, h4⟩
  · refine .inl ⟨h1, f_slices_IndexFunc___api_Expr_api_Expr__k136_of ?_⟩
    unfold f_slices_IndexFunc___api_Expr_api_Expr__k136
    refine (congrArg (fun o => Option.bind o _) h2).trans ?_
    rfl
  · refine .inr ⟨i, h1, h2, h3, f_slices_IndexFunc___api_Expr_api_Expr__k136_of ?_⟩
    unfold f_slices_IndexFunc___api_Expr_api_Expr__k136
    refine (congrArg (fun o => Option.bind o _) h4).trans ?_
    rfl
theorem delete_loop_unt {ks : List Ex} (hn : ks.length ≤ 1000000) : ∀ (d j i : Nat) (ss : List Ex), j + d = ks.length → i ≤ j → ss.length = ks.length → ss.take i = (ks.take j).filter (fun k => !(isU k)) → ss.drop j = ks.drop j →
    ∃ t ss', Loop (s_slices_DeleteFunc___api_Expr_api_Expr__k135_1L CC) ((i : Int), (j : Int), ss.map enc) = some (((ks.filter (fun k => !(isU k))).length : Int), (ks.length : Int), t, List.map enc ss') ∧ ss'.take (ks.filter (fun k => !(isU k))).length = ks.filter (fun k => !(isU k)) ∧ ss'.length = ks.length := by
  intro d
  induction d with
  | zero =>
    intro j i ss hj hi hl ht hd
    obtain rfl : j = ks.length := by omega
    rw [List.take_length] at ht
    have hi2 : i = (ks.filter (fun k => !(isU k))).length := by rw [← ht, List.length_take]; omega
    refine ⟨false, ss, Loop_end ?_, by rw [← hi2]; exact ht, hl⟩
    simp only [s_slices_DeleteFunc___api_Expr_api_Expr__k135_1L, s_slices_DeleteFunc___api_Expr_api_Expr__k135_1, un, List.length_map, bif_decide]
    rw [if_neg (by omega), decide_eq_false (by omega), hi2]
  | succ d ih =>
    intro j i ss hj hi hl ht hd
    have hjl : j < ks.length := by omega
    have hg := drop_get hl hd hjl
    have hd2 : ss.drop (j + 1) = ks.drop (j + 1) := by rw [← List.drop_drop, ← List.drop_drop, hd]
    have hx : (ss.map enc)[j]? = some (ks.getD j ex0).enc := by rw [get_enc (by omega), hg]
    have t1 : ((j : Nat) : Int) < (ss.length : Int) := by omega
    have t2 : (0 : Int) ≤ ((j : Nat) : Int) := by omega
    have t3 : ((i : Nat) : Int) < (ss.length : Int) := by omega
    have t4 : (0 : Int) ≤ ((i : Nat) : Int) := by omega
    have hix : ∃ y, (ss.map enc)[i]? = some y := ⟨_, get_enc (by omega)⟩
    obtain ⟨y, hy⟩ := hix
    cases hk : isU (ks.getD j ex0) with
    | true =>
      have hst : s_slices_DeleteFunc___api_Expr_api_Expr__k135_1L CC ((i : Int), (j : Int), ss.map enc) = some (.inl ((i : Int), ((j + 1 : Nat) : Int), ss.map enc)) := by
        simp only [s_slices_DeleteFunc___api_Expr_api_Expr__k135_1L, s_slices_DeleteFunc___api_Expr_api_Expr__k135_1, un, List.length_map, bif_decide, bif_and, t1, t2, if_true, Int.toNat_natCast, hx, Option.bind_some, enc_0, enc_1, enc_2]
        refine (congrArg (fun o => Option.bind o _) (isUnit_spec (ks.getD j ex0))).trans ?_
        simp only [Option.bind_some, V.nth_zero, V.toBool_bool]
        rw [hk, Bool.not_true, cond_false, wrap64 (by omega) (by omega)]
        rfl
      rw [Loop_norm hst]
      refine ih (j + 1) i ss (by omega) (by omega) hl ?_ hd2
      rw [take_snoc hjl, List.filter_append, ht, List.filter_cons, hk]
      simp
    | false =>
      have hst : s_slices_DeleteFunc___api_Expr_api_Expr__k135_1L CC ((i : Int), (j : Int), ss.map enc) = some (.inl (((i + 1 : Nat) : Int), ((j + 1 : Nat) : Int), (ss.set i (ks.getD j ex0)).map enc)) := by
        simp only [s_slices_DeleteFunc___api_Expr_api_Expr__k135_1L, s_slices_DeleteFunc___api_Expr_api_Expr__k135_1, un, List.length_map, bif_decide, bif_and, t1, t2, t3, t4, if_true, Int.toNat_natCast, hx, hy, Option.bind_some, enc_0, enc_1, enc_2]
        refine (congrArg (fun o => Option.bind o _) (isUnit_spec (ks.getD j ex0))).trans ?_
        simp only [Option.bind_some, V.nth_zero, V.toBool_bool]
        rw [hk, Bool.not_false, cond_true, wrap64 (by omega) (by omega), wrap64 (by omega) (by omega), ← enc_eq, List.map_set]
        rfl
      rw [Loop_norm hst]
      refine ih (j + 1) (i + 1) (ss.set i (ks.getD j ex0)) (by omega) (by omega) (by simpa using hl) ?_ ?_
      · rw [take_snoc (by rw [List.length_set]; omega), List.take_set_of_le (Nat.le_refl i), ht, take_snoc hjl, List.filter_append, List.filter_cons, hk]
        simp [show i < ss.length by omega]
      · rw [List.drop_set_of_lt (by omega), hd2]
theorem delete_unt {ks : List Ex} (hn : ks.length ≤ 1000000) : ∃ b, CC K_slices_DeleteFunc___api_Expr_api_Expr__k135 [.list T_api_Expr (ks.map enc)] = some [.bool b, .list T_api_Expr ((ks.filter (fun k => !(isU k))).map enc)] := by
  rcases indexF_unt hn with ⟨h1, h2⟩ | ⟨i, h1, h2, h3, h4⟩
  · refine ⟨true, f_slices_DeleteFunc___api_Expr_api_Expr__k135_of ?_⟩
    unfold f_slices_DeleteFunc___api_Expr_api_Expr__k135
    refine (congrArg (fun o => Option.bind o _) h2).trans ?_
    rw [List.filter_eq_self.2 fun k hk => show (!(isU k)) = true by rw [any_false (p := isU) (by rw [h1]; simp) k hk]; rfl]
    rfl
  · have hf : (ks.take (i + 1)).filter (fun k => !(isU k)) = ks.take i := by
      rw [take_snoc h1, List.filter_append, List.filter_cons, h2, List.filter_eq_self.2 fun k hk => show (!(isU k)) = true by rw [h3 k hk]; rfl]
      simp
    obtain ⟨t, ss', e1, e2, e3⟩ := delete_loop_unt hn (ks.length - (i + 1)) (i + 1) i ks (by omega) (by omega) rfl hf.symm rfl
    refine ⟨false, f_slices_DeleteFunc___api_Expr_api_Expr__k135_of ?_⟩
    unfold f_slices_DeleteFunc___api_Expr_api_Expr__k135
    refine (congrArg (fun o => Option.bind o _) h4).trans ?_
    simp only [Option.bind_some, V.nth_zero, V.toInt_int, bif_beq]
    rw [if_neg (by omega), wrap64 (by omega) (by omega)]
    refine (congrArg (fun o => Option.bind o _) e1).trans ?_
    have hm : (ks.filter (fun k => !(isU k))).length ≤ ss'.length := by rw [e3]; exact List.length_filter_le _ _
    have t1 : ((((ks.filter (fun k => !(isU k))).length : Nat) : Int) ≤ ((ss'.map enc).length : Int)) := by rw [List.length_map]; omega
    simp only [Option.bind_some, un, bif_and, bif_decide, Int.toNat_natCast]
    rw [if_pos (by omega), if_pos t1, if_pos (by omega), if_pos (by simp only [List.length_append, List.length_take, List.length_replicate, List.length_drop]; omega), cut_take _ _ _ hm, e2]
theorem index_unv {ks : List Ex} (hlen : ks.length ≤ 1000000) : ∀ (suf pre : List Ex), ks = pre ++ suf → (∀ k ∈ pre, univ k = false) →
    (ks.any univ = false ∧ ∃ t, Loop (s_slices_IndexFunc___api_Expr_api_Expr__k134_1L CC (ks.map enc) ((ks.map enc).length : Int)) ((pre.length : Nat) : Int) = some (.inr t)) ∨
    (∃ i : Nat, i < ks.length ∧ univ (ks.getD i ex0) = true ∧ (∀ k ∈ ks.take i, univ k = false) ∧ Loop (s_slices_IndexFunc___api_Expr_api_Expr__k134_1L CC (ks.map enc) ((ks.map enc).length : Int)) ((pre.length : Nat) : Int) = some (.inl (i : Int))) := by
  intro suf
  induction suf with
  | nil =>
    intro pre hks hp
    rw [List.append_nil] at hks
    subst hks
    refine .inl ⟨any_of_false hp, ⟨(((ks.length : Nat) : Int), false), Loop_end ?_⟩⟩
    · simp only [s_slices_IndexFunc___api_Expr_api_Expr__k134_1L, s_slices_IndexFunc___api_Expr_api_Expr__k134_1, List.length_map, bif_decide]
      rw [if_neg (by omega), decide_eq_false (by omega)]
  | cons k suf ih =>
    intro pre hks hp
    have hpl : pre.length < ks.length := by rw [hks]; simp
    have hix : idx (ks.map enc) (pre.length : Int) = some k.enc := by rw [hks]; exact idx_kid _ _ _
    cases hk : univ k with
    | true =>
      refine .inr ⟨pre.length, hpl, by rw [hks]; simpa using hk, by rw [hks]; simpa using hp, Loop_end ?_⟩
      simp only [s_slices_IndexFunc___api_Expr_api_Expr__k134_1L, s_slices_IndexFunc___api_Expr_api_Expr__k134_1, List.length_map, bif_decide]
      rw [if_pos (by omega), hix]
      simp only [Option.bind_some, enc_0, enc_1, enc_2]
      refine (congrArg (fun o => Option.bind o _) (isUniv_spec k)).trans ?_
      simp only [Option.bind_some, V.nth_zero, V.toBool_bool]
      rw [hk, cond_true]
    | false =>
      have hst : s_slices_IndexFunc___api_Expr_api_Expr__k134_1L CC (ks.map enc) ((ks.map enc).length : Int) ((pre.length : Nat) : Int) = some (.inl (((pre ++ [k]).length : Nat) : Int)) := by
        simp only [s_slices_IndexFunc___api_Expr_api_Expr__k134_1L, s_slices_IndexFunc___api_Expr_api_Expr__k134_1, List.length_map, bif_decide]
        rw [if_pos (by omega), hix]
        simp only [Option.bind_some, enc_0, enc_1, enc_2]
        refine (congrArg (fun o => Option.bind o _) (isUniv_spec k)).trans ?_
        simp only [Option.bind_some, V.nth_zero, V.toBool_bool]
        rw [hk, cond_false, wrap64 (by omega) (by omega)]
        simp
      rw [Loop_norm hst]
      refine ih (pre ++ [k]) (by rw [hks]; simp) fun x hx => ?_
      rcases List.mem_append.1 hx with hx | hx
      · exact hp x hx
      · rw [List.mem_singleton.1 hx]; exact hk
theorem indexF_unv {ks : List Ex} (hlen : ks.length ≤ 1000000) :
    (ks.any univ = false ∧ CC K_slices_IndexFunc___api_Expr_api_Expr__k134 [.list T_api_Expr (ks.map enc)] = some [.int .i64 (-1)]) ∨
    (∃ i : Nat, i < ks.length ∧ univ (ks.getD i ex0) = true ∧ (∀ k ∈ ks.take i, univ k = false) ∧ CC K_slices_IndexFunc___api_Expr_api_Expr__k134 [.list T_api_Expr (ks.map enc)] = some [.int .i64 (i : Int)]) := by
  rcases index_unv hlen ks [] rfl (by simp) with ⟨h1, t, h2⟩ | ⟨i, h1, h2, h3, h4⟩
  · refine .inl ⟨h1, f_slices_IndexFunc___api_Expr_api_Expr__k134_of ?_⟩
    unfold f_slices_IndexFunc___api_Expr_api_Expr__k134
    refine (congrArg (fun o => Option.bind o _) h2).trans ?_
    rfl
  · refine .inr ⟨i, h1, h2, h3, f_slices_IndexFunc___api_Expr_api_Expr__k134_of ?_⟩
    unfold f_slices_IndexFunc___api_Expr_api_Expr__k134
    refine (congrArg (fun o => Option.bind o _) h4).trans ?_
    rfl
theorem contains_unv {ks : List Ex} (hlen : ks.length ≤ 1000000) : CC K_slices_ContainsFunc___api_Expr_api_Expr__k133 [.list T_api_Expr (ks.map enc)] = some [.bool (ks.any univ)] := by
  refine f_slices_ContainsFunc___api_Expr_api_Expr__k133_of ?_
  unfold f_slices_ContainsFunc___api_Expr_api_Expr__k133
  rcases indexF_unv hlen with ⟨h1, h2⟩ | ⟨i, h1, h2, h3, h4⟩
  · refine (congrArg (fun o => Option.bind o _) h2).trans ?_
    rw [h1]; rfl
  · refine (congrArg (fun o => Option.bind o _) h4).trans ?_
    rw [List.any_eq_true.2 ⟨_, by rw [show ks.getD i ex0 = ks[i] by simp [h1]]; exact List.getElem_mem h1, h2⟩]
    simp
theorem delete_loop_unv {ks : List Ex} (hn : ks.length ≤ 1000000) : ∀ (d j i : Nat) (ss : List Ex), j + d = ks.length → i ≤ j → ss.length = ks.length → ss.take i = (ks.take j).filter (fun k => !(univ k)) → ss.drop j = ks.drop j →
    ∃ t ss', Loop (s_slices_DeleteFunc___api_Expr_api_Expr__1L CC) ((i : Int), (j : Int), ss.map enc) = some (((ks.filter (fun k => !(univ k))).length : Int), (ks.length : Int), t, List.map enc ss') ∧ ss'.take (ks.filter (fun k => !(univ k))).length = ks.filter (fun k => !(univ k)) ∧ ss'.length = ks.length := by
  intro d
  induction d with
  | zero =>
    intro j i ss hj hi hl ht hd
    obtain rfl : j = ks.length := by omega
    rw [List.take_length] at ht
    have hi2 : i = (ks.filter (fun k => !(univ k))).length := by rw [← ht, List.length_take]; omega
    refine ⟨false, ss, Loop_end ?_, by rw [← hi2]; exact ht, hl⟩
    simp only [s_slices_DeleteFunc___api_Expr_api_Expr__1L, s_slices_DeleteFunc___api_Expr_api_Expr__1, un, List.length_map, bif_decide]
    rw [if_neg (by omega), decide_eq_false (by omega), hi2]
  | succ d ih =>
    intro j i ss hj hi hl ht hd
    have hjl : j < ks.length := by omega
    have hg := drop_get hl hd hjl
    have hd2 : ss.drop (j + 1) = ks.drop (j + 1) := by rw [← List.drop_drop, ← List.drop_drop, hd]
    have hx : (ss.map enc)[j]? = some (ks.getD j ex0).enc := by rw [get_enc (by omega), hg]
    have t1 : ((j : Nat) : Int) < (ss.length : Int) := by omega
    have t2 : (0 : Int) ≤ ((j : Nat) : Int) := by omega
    have t3 : ((i : Nat) : Int) < (ss.length : Int) := by omega
    have t4 : (0 : Int) ≤ ((i : Nat) : Int) := by omega
    have hix : ∃ y, (ss.map enc)[i]? = some y := ⟨_, get_enc (by omega)⟩
    obtain ⟨y, hy⟩ := hix
    cases hk : univ (ks.getD j ex0) with
    | true =>
      have hst : s_slices_DeleteFunc___api_Expr_api_Expr__1L CC ((i : Int), (j : Int), ss.map enc) = some (.inl ((i : Int), ((j + 1 : Nat) : Int), ss.map enc)) := by
        simp only [s_slices_DeleteFunc___api_Expr_api_Expr__1L, s_slices_DeleteFunc___api_Expr_api_Expr__1, un, List.length_map, bif_decide, bif_and, t1, t2, if_true, Int.toNat_natCast, hx, Option.bind_some, enc_0, enc_1, enc_2]
        refine (congrArg (fun o => Option.bind o _) (isUniv_spec (ks.getD j ex0))).trans ?_
        simp only [Option.bind_some, V.nth_zero, V.toBool_bool]
        rw [hk, Bool.not_true, cond_false, wrap64 (by omega) (by omega)]
        rfl
      rw [Loop_norm hst]
      refine ih (j + 1) i ss (by omega) (by omega) hl ?_ hd2
      rw [take_snoc hjl, List.filter_append, ht, List.filter_cons, hk]
      simp
    | false =>
      have hst : s_slices_DeleteFunc___api_Expr_api_Expr__1L CC ((i : Int), (j : Int), ss.map enc) = some (.inl (((i + 1 : Nat) : Int), ((j + 1 : Nat) : Int), (ss.set i (ks.getD j ex0)).map enc)) := by
        simp only [s_slices_DeleteFunc___api_Expr_api_Expr__1L, s_slices_DeleteFunc___api_Expr_api_Expr__1, un, List.length_map, bif_decide, bif_and, t1, t2, t3, t4, if_true, Int.toNat_natCast, hx, hy, Option.bind_some, enc_0, enc_1, enc_2]
        refine (congrArg (fun o => Option.bind o _) (isUniv_spec (ks.getD j ex0))).trans ?_
        simp only [Option.bind_some, V.nth_zero, V.toBool_bool]
        rw [hk, Bool.not_false, cond_true, wrap64 (by omega) (by omega), wrap64 (by omega) (by omega), ← enc_eq, List.map_set]
        rfl
      rw [Loop_norm hst]
      refine ih (j + 1) (i + 1) (ss.set i (ks.getD j ex0)) (by omega) (by omega) (by simpa using hl) ?_ ?_
      · rw [take_snoc (by rw [List.length_set]; omega), List.take_set_of_le (Nat.le_refl i), ht, take_snoc hjl, List.filter_append, List.filter_cons, hk]
        simp [show i < ss.length by omega]
      · rw [List.drop_set_of_lt (by omega), hd2]
theorem delete_unv {ks : List Ex} (hn : ks.length ≤ 1000000) : ∃ b, CC F_slices_DeleteFunc___api_Expr_api_Expr_ [.list T_api_Expr (ks.map enc)] = some [.bool b, .list T_api_Expr ((ks.filter (fun k => !(univ k))).map enc)] := by
  rcases indexF_unv hn with ⟨h1, h2⟩ | ⟨i, h1, h2, h3, h4⟩
  · refine ⟨true, f_slices_DeleteFunc___api_Expr_api_Expr__of ?_⟩
    unfold f_slices_DeleteFunc___api_Expr_api_Expr_
    refine (congrArg (fun o => Option.bind o _) h2).trans ?_
    rw [List.filter_eq_self.2 fun k hk => show (!(univ k)) = true by rw [any_false (p := univ) (by rw [h1]; simp) k hk]; rfl]
    rfl
  · have hf : (ks.take (i + 1)).filter (fun k => !(univ k)) = ks.take i := by
      rw [take_snoc h1, List.filter_append, List.filter_cons, h2, List.filter_eq_self.2 fun k hk => show (!(univ k)) = true by rw [h3 k hk]; rfl]
      simp
    obtain ⟨t, ss', e1, e2, e3⟩ := delete_loop_unv hn (ks.length - (i + 1)) (i + 1) i ks (by omega) (by omega) rfl hf.symm rfl
    refine ⟨false, f_slices_DeleteFunc___api_Expr_api_Expr__of ?_⟩
    unfold f_slices_DeleteFunc___api_Expr_api_Expr_
    refine (congrArg (fun o => Option.bind o _) h4).trans ?_
    simp only [Option.bind_some, V.nth_zero, V.toInt_int, bif_beq]
    rw [if_neg (by omega), wrap64 (by omega) (by omega)]
    refine (congrArg (fun o => Option.bind o _) e1).trans ?_
    have hm : (ks.filter (fun k => !(univ k))).length ≤ ss'.length := by rw [e3]; exact List.length_filter_le _ _
    have t1 : ((((ks.filter (fun k => !(univ k))).length : Nat) : Int) ≤ ((ss'.map enc).length : Int)) := by rw [List.length_map]; omega
    simp only [Option.bind_some, un, bif_and, bif_decide, Int.toNat_natCast]
    rw [if_pos (by omega), if_pos t1, if_pos (by omega), if_pos (by simp only [List.length_append, List.length_take, List.length_replicate, List.length_drop]; omega), cut_take _ _ _ hm, e2]
end Go.AM
set_option maxRecDepth 100000
set_option linter.unusedSimpArgs false
namespace Go.AM
open Go.Proofs Go.Sort
section
variable {α : Type} {enc : α → V}
def encA (enc : α → V) (d : Array α) : List V := d.toList.map enc
theorem encA_length (d : Array α) : (encA enc d).length = d.size := by simp [encA]
theorem encA_set (d : Array α) (i : Nat) (x : α) : (encA enc d).set i (enc x) = encA enc (d.setIfInBounds i x) := by
  unfold encA; rw [Array.toList_setIfInBounds, List.map_set]
variable [Inhabited α]
theorem encA_get {d : Array α} {i : Nat} (h : i < d.size) : (encA enc d)[i]? = some (enc d[i]!) := by
  unfold encA; rw [List.getElem?_map, Array.getElem?_toList, Array.getElem?_eq_getElem h, getElem!_pos d i h]; rfl
theorem encA_get2 {d : Array α} {i j : Nat} {x : α} (h : i < d.size) : (encA enc (d.setIfInBounds j x))[i]? = some (enc (d.setIfInBounds j x)[i]!) := encA_get (by rw [Array.size_setIfInBounds]; exact h)
theorem addC (a b : Nat) : (a : Int) + (b : Int) = ((a + b : Nat) : Int) := (Int.natCast_add a b).symm
theorem succC (a : Nat) : (a : Int) + 1 = ((a + 1 : Nat) : Int) := rfl
theorem predC (a : Nat) : ((a + 1 : Nat) : Int) - 1 = (a : Int) := by omega
theorem mul2C (a : Nat) : (a : Int) * 2 = ((a * 2 : Nat) : Int) := by omega
theorem subC {a b : Nat} (h : b ≤ a) : (a : Int) - (b : Int) = ((a - b : Nat) : Int) := by omega
theorem sub1C {a : Nat} (h : 1 ≤ a) : (a : Int) - 1 = ((a - 1 : Nat) : Int) := by omega
theorem divC (a b : Nat) : Int.tdiv (a : Int) (b : Int) = ((a / b : Nat) : Int) := by rw [Int.tdiv_eq_ediv_of_nonneg (by omega)]; rfl
theorem dec_true {p : Prop} [Decidable p] (h : p) : decide p = true := decide_eq_true h
theorem dec_false {p : Prop} [Decidable p] (h : ¬ p) : decide p = false := decide_eq_false h
variable {lt : α → α → Bool}
theorem insInner_succ (a j : Nat) (d : Array α) : insInner lt a (j + 1) d = if j + 1 > a && lt d[j + 1]! d[j]! then insInner lt a j (swp d (j + 1) j) else d := rfl
theorem insInner_size {a : Nat} : ∀ (j : Nat) (d : Array α), (insInner lt a j d).size = d.size
  | 0, d => rfl
  | j + 1, d => by
    rw [insInner_succ]
    split
    · rw [insInner_size j, size_swp]
    · rfl
theorem siftDown_size (hi first : Nat) : ∀ (n root : Nat) (d : Array α), hi - root ≤ n → (siftDown lt hi first root d).size = d.size := by
  intro n
  induction n with
  | zero => intro root d h; rw [siftDown, dif_pos (by omega)]
  | succ n ih =>
    intro root d h
    rw [siftDown]
    split
    · rfl
    · split
      · split
        · rfl
        · split
          · rw [ih _ _ (by omega), size_swp]
          · rfl
      · split
        · rfl
        · rw [ih _ _ (by omega), size_swp]
theorem heapBuild_size (hi first : Nat) : ∀ (k : Nat) (d : Array α), (heapBuild lt hi first k d).size = d.size
  | 0, d => rfl
  | k + 1, d => by rw [heapBuild, heapBuild_size, siftDown_size _ _ _ _ _ (Nat.le_refl _)]
end
end Go.AM
set_option maxRecDepth 100000
set_option linter.unusedSimpArgs false
namespace Go.AM.SX
open Go.Proofs Ex
structure XE where
  e : Ex
  ok : e.Ok
instance : Inhabited XE := ⟨⟨.node 0 0 [], .node (by omega) (by omega) (by simp) (by simp)⟩⟩
namespace XE
def enc (x : XE) : V := x.e.enc
theorem enc_0 (x : XE) : (x.enc.cell 0).toInt = x.e.op := Go.AM.enc_0 x.e
theorem enc_1 (x : XE) : (x.enc.cell 1).toInt = x.e.letter := Go.AM.enc_1 x.e
theorem enc_2 (x : XE) : (x.enc.cell 2).toList = x.e.kids.map Ex.enc := Go.AM.enc_2 x.e
theorem re (x : XE) : V.agg [.int .i64 x.e.op, .int .i64 x.e.letter, .list T_api_Expr (x.e.kids.map Ex.enc)] = x.enc := (Ex.enc_eq x.e).symm
end XE
def cmpX (a b : XE) : Int := cmp a.e b.e
theorem compareX_spec (a b : XE) : CC F_expr_Compare [.int .i64 a.e.op, .int .i64 a.e.letter, .list T_api_Expr (a.e.kids.map Ex.enc), .int .i64 b.e.op, .int .i64 b.e.letter, .list T_api_Expr (b.e.kids.map Ex.enc)] = some [.int .i64 (cmpX a b)] :=
  Compare_spec a.e a.ok b.e b.ok
def XE.lt (a b : XE) : Prop := cmpX a b < 0
theorem XE.lt_irrefl (a : XE) : ¬ a.lt a := by unfold XE.lt cmpX; rw [cmp_self]; omega
theorem cmp_lt_trans {a b c : Ex} (h1 : cmp a b < 0) (h2 : cmp b c < 0) : cmp a c < 0 := by
  have h3 := cmp_trans a b c (by omega) (by omega)
  refine Decidable.byContradiction fun h => ?_
  have h0 : cmp a c = 0 := by omega
  have := cmp_eq a c h0
  subst this
  have := cmp_anti a b
  omega
theorem XE.lt_trans {a b c : XE} (h1 : a.lt b) (h2 : b.lt c) : a.lt c := cmp_lt_trans h1 h2
theorem XE.lt_ntrans {a b c : XE} (h1 : ¬ a.lt b) (h2 : ¬ b.lt c) : ¬ a.lt c := by
  unfold XE.lt cmpX at *
  have a1 := cmp_anti a.e b.e
  have a2 := cmp_anti b.e c.e
  have a3 := cmp_anti a.e c.e
  have := cmp_trans c.e b.e a.e (by omega) (by omega)
  omega
end Go.AM.SX
set_option maxRecDepth 100000
namespace Go.AM
open Go.Proofs
noncomputable abbrev B_slices_insertionSortCmpFunc_api_Expr_ : Code := bodyOf Try.prog (ann.fid 99)
noncomputable def s_slices_insertionSortCmpFunc_api_Expr__1 (C : CallF) (a b' i j : Int) (datas : List V) {β : Type} (kn : (Int × (List V)) → Option β) (kr : (Int × Bool × (List V)) → Option β) : Option β :=
  bif decide ((j : Int) > a) then
   bif (decide (0 ≤ j)) && (decide (j < (datas.length : Int))) then
    (datas[(j : Int).toNat]?).bind fun x1 =>
    bif (decide (0 ≤ (IntKind.wrap .i64 (j - 1)))) && (decide ((IntKind.wrap .i64 (j - 1)) < (datas.length : Int))) then
     (datas[(IntKind.wrap .i64 (j - 1) : Int).toNat]?).bind fun x2 =>
     (C F_expr_Compare [.int .i64 ((x1.cell 0).toInt), .int .i64 ((x1.cell 1).toInt), .list T_api_Expr ((x1.cell 2).toList), .int .i64 ((x2.cell 0).toInt), .int .i64 ((x2.cell 1).toInt), .list T_api_Expr ((x2.cell 2).toList)]).bind fun r3 =>
     bif decide ((((V.nth r3 0).toInt) : Int) < 0) then
      bif (decide (0 ≤ (IntKind.wrap .i64 (j - 1)))) && (decide ((IntKind.wrap .i64 (j - 1)) < (datas.length : Int))) then
       (datas[(IntKind.wrap .i64 (j - 1) : Int).toNat]?).bind fun x4 =>
       bif (decide (0 ≤ j)) && (decide (j < (datas.length : Int))) then
        (datas[(j : Int).toNat]?).bind fun x5 =>
        bif (decide (0 ≤ j)) && (decide (j < (datas.length : Int))) then
         (datas[(j : Int).toNat]?).bind fun x6 =>
         bif (decide (0 ≤ (IntKind.wrap .i64 (j - 1)))) && (decide ((IntKind.wrap .i64 (j - 1)) < ((datas.set ((j : Int).toNat) (.agg [.int .i64 ((x4.cell 0).toInt), .int .i64 ((x4.cell 1).toInt), .list T_api_Expr ((x4.cell 2).toList)])).length : Int))) then
          ((datas.set ((j : Int).toNat) (.agg [.int .i64 ((x4.cell 0).toInt), .int .i64 ((x4.cell 1).toInt), .list T_api_Expr ((x4.cell 2).toList)]))[(IntKind.wrap .i64 (j - 1) : Int).toNat]?).bind fun x7 =>
          kn (IntKind.wrap .i64 (j - 1), (datas.set ((j : Int).toNat) (.agg [.int .i64 ((x4.cell 0).toInt), .int .i64 ((x4.cell 1).toInt), .list T_api_Expr ((x4.cell 2).toList)])).set ((IntKind.wrap .i64 (j - 1) : Int).toNat) (.agg [.int .i64 ((x5.cell 0).toInt), .int .i64 ((x5.cell 1).toInt), .list T_api_Expr ((x5.cell 2).toList)]))
         else none
        else none
       else none
      else none
     else
      kr (j, decide ((((V.nth r3 0).toInt) : Int) < 0), datas)
    else none
   else none
  else
   kr (j, false, datas)
noncomputable def s_slices_insertionSortCmpFunc_api_Expr__1L (C : CallF) (a b' i : Int) : (Int × (List V)) → Option ((Int × (List V)) ⊕ (Int × Bool × (List V))) := un fun j datas => s_slices_insertionSortCmpFunc_api_Expr__1 C a b' i j datas (fun y => some (.inl y)) (fun r => some (.inr r))
noncomputable def s_slices_insertionSortCmpFunc_api_Expr__2 (C : CallF) (a b' i : Int) (datas : List V) {β : Type} (kn : (Int × (List V)) → Option β) (kr : (Int × Bool × (List V)) → Option β) : Option β :=
  bif decide ((i : Int) < b') then
   (Loop (s_slices_insertionSortCmpFunc_api_Expr__1L C a b' i) (i, datas)).bind (un fun (j_8 : Int) => un fun (t_9 : Bool) (datas_10 : List V) =>
     kn (IntKind.wrap .i64 (i + 1), datas_10))
  else
   kr (i, decide ((i : Int) < b'), datas)
noncomputable def s_slices_insertionSortCmpFunc_api_Expr__2L (C : CallF) (a b' : Int) : (Int × (List V)) → Option ((Int × (List V)) ⊕ (Int × Bool × (List V))) := un fun i datas => s_slices_insertionSortCmpFunc_api_Expr__2 C a b' i datas (fun y => some (.inl y)) (fun r => some (.inr r))
noncomputable def LT_slices_insertionSortCmpFunc_api_Expr_ (C : CallF) : LTab := fun β n ds k =>
  bif Nat.beq n 65 then loopS S99_65 [false, false, false, true, true] [[1, 2, 3, 0, 0, 0]] (@s_slices_insertionSortCmpFunc_api_Expr__1 C) ds k else
  bif Nat.beq n 17 then loopS S99_17 [false, false, true, true] [[1, 2, 0, 0, 0]] (@s_slices_insertionSortCmpFunc_api_Expr__2 C) ds k else
  none
abbrev TS_slices_insertionSortCmpFunc_api_Expr_ (C : CallF) (b : Bar) : Prop := Tells Try.prog ann C (LT_slices_insertionSortCmpFunc_api_Expr_ C) 99 (ntmpsOf Try.prog (ann.fid 99)) (ann.sin 99).blks.length b
theorem t_slices_insertionSortCmpFunc_api_Expr__1 (C : CallF) : TS_slices_insertionSortCmpFunc_api_Expr_ C (.loop (codeAt [1, 0, 0, 1, 0, 0, 1, 0, 0] B_slices_insertionSortCmpFunc_api_Expr_)) :=
  tl3 S99_65 [false, false, false, true, true] [[1, 2, 3, 0, 0, 0]] (@s_slices_insertionSortCmpFunc_api_Expr__1 C) (by kernel_rfl) (ltok_of (bs := []) (by kernel_rfl) tells_nil) (fun ds => by kernel_rfl) (fun i x => by kernel_rfl) (fun i x β k => by kernel_rfl) (fun β ds k => by kernel_rfl)
theorem t_slices_insertionSortCmpFunc_api_Expr__2 (C : CallF) : TS_slices_insertionSortCmpFunc_api_Expr_ C (.loop (codeAt [1, 0, 0] B_slices_insertionSortCmpFunc_api_Expr_)) :=
  tl3 S99_17 [false, false, true, true] [[1, 2, 0, 0, 0]] (@s_slices_insertionSortCmpFunc_api_Expr__2 C) (by kernel_rfl) (ltok_of (bs := [.loop (codeAt [1, 0, 0, 1, 0, 0, 1, 0, 0] B_slices_insertionSortCmpFunc_api_Expr_)]) (by kernel_rfl) (tells_cons (t_slices_insertionSortCmpFunc_api_Expr__1 C) tells_nil)) (fun ds => by kernel_rfl) (fun i x => by kernel_rfl) (fun i x β k => by kernel_rfl) (fun β ds k => by kernel_rfl)
noncomputable def f_slices_insertionSortCmpFunc_api_Expr_ (C : CallF) (a b' : Int) (datas : List V) : Option (List V) :=
  (Loop (s_slices_insertionSortCmpFunc_api_Expr__2L C a b') (IntKind.wrap .i64 (a + 1), datas)).bind (un fun (i_11 : Int) => un fun (t_12 : Bool) (datas_13 : List V) =>
    some [.list T_api_Expr datas_13])
theorem f_slices_insertionSortCmpFunc_api_Expr__of {a b' : Int} {datas : List V} {r : Option (List V)} (h : f_slices_insertionSortCmpFunc_api_Expr_ CC a b' datas = r) : CC F_slices_insertionSortCmpFunc_api_Expr_ [.int .i64 a, .int .i64 b', .list T_api_Expr datas] = r :=
  func_of (key := 99) (L := LT_slices_insertionSortCmpFunc_api_Expr_ CC) (bs := [.loop (codeAt [1, 0, 0] B_slices_insertionSortCmpFunc_api_Expr_)]) (by kernel_rfl) (tells_cons (t_slices_insertionSortCmpFunc_api_Expr__2 CC) tells_nil) (Eq.trans (by kernel_rfl) h)
end Go.AM
set_option maxRecDepth 100000
namespace Go.AM
open Go.Proofs
noncomputable abbrev B_slices_siftDownCmpFunc_api_Expr_ : Code := bodyOf Try.prog (ann.fid 109)
noncomputable def s_slices_siftDownCmpFunc_api_Expr__1 (C : CallF) (hi first root child : Int) (t40 : Bool) (datas : List V) {β : Type} (kr : (Int) → Option β) : Option β :=
  bif t40 then
   kr (IntKind.wrap .i64 (child + 1))
  else
   kr child
noncomputable def s_slices_siftDownCmpFunc_api_Expr__2 (C : CallF) (hi first root : Int) (datas : List V) {β : Type} (kn : (Int × (List V)) → Option β) (kr : ((Int × Int × Bool × (List V)) ⊕ (Int × Int × Bool × (List V))) → Option β) : Option β :=
  bif decide (((IntKind.wrap .i64 ((IntKind.wrap .i64 (root * 2)) + 1)) : Int) ≥ hi) then
   kr (.inl (root, IntKind.wrap .i64 ((IntKind.wrap .i64 (root * 2)) + 1), decide (((IntKind.wrap .i64 ((IntKind.wrap .i64 (root * 2)) + 1)) : Int) ≥ hi), datas))
  else
   bif decide (((IntKind.wrap .i64 ((IntKind.wrap .i64 ((IntKind.wrap .i64 (root * 2)) + 1)) + 1)) : Int) < hi) then
    bif (decide (0 ≤ (IntKind.wrap .i64 (first + (IntKind.wrap .i64 ((IntKind.wrap .i64 (root * 2)) + 1)))))) && (decide ((IntKind.wrap .i64 (first + (IntKind.wrap .i64 ((IntKind.wrap .i64 (root * 2)) + 1)))) < (datas.length : Int))) then
     (datas[(IntKind.wrap .i64 (first + (IntKind.wrap .i64 ((IntKind.wrap .i64 (root * 2)) + 1))) : Int).toNat]?).bind fun x1 =>
     bif (decide (0 ≤ (IntKind.wrap .i64 ((IntKind.wrap .i64 (first + (IntKind.wrap .i64 ((IntKind.wrap .i64 (root * 2)) + 1)))) + 1)))) && (decide ((IntKind.wrap .i64 ((IntKind.wrap .i64 (first + (IntKind.wrap .i64 ((IntKind.wrap .i64 (root * 2)) + 1)))) + 1)) < (datas.length : Int))) then
      (datas[(IntKind.wrap .i64 ((IntKind.wrap .i64 (first + (IntKind.wrap .i64 ((IntKind.wrap .i64 (root * 2)) + 1)))) + 1) : Int).toNat]?).bind fun x2 =>
      (C F_expr_Compare [.int .i64 ((x1.cell 0).toInt), .int .i64 ((x1.cell 1).toInt), .list T_api_Expr ((x1.cell 2).toList), .int .i64 ((x2.cell 0).toInt), .int .i64 ((x2.cell 1).toInt), .list T_api_Expr ((x2.cell 2).toList)]).bind fun r3 =>
      s_slices_siftDownCmpFunc_api_Expr__1 C hi first root (IntKind.wrap .i64 ((IntKind.wrap .i64 (root * 2)) + 1)) (decide ((((V.nth r3 0).toInt) : Int) < 0)) datas (fun (child_4 : Int) =>
        bif (decide (0 ≤ (IntKind.wrap .i64 (first + root)))) && (decide ((IntKind.wrap .i64 (first + root)) < (datas.length : Int))) then
         (datas[(IntKind.wrap .i64 (first + root) : Int).toNat]?).bind fun x5 =>
         bif (decide (0 ≤ (IntKind.wrap .i64 (first + child_4)))) && (decide ((IntKind.wrap .i64 (first + child_4)) < (datas.length : Int))) then
          (datas[(IntKind.wrap .i64 (first + child_4) : Int).toNat]?).bind fun x6 =>
          (C F_expr_Compare [.int .i64 ((x5.cell 0).toInt), .int .i64 ((x5.cell 1).toInt), .list T_api_Expr ((x5.cell 2).toList), .int .i64 ((x6.cell 0).toInt), .int .i64 ((x6.cell 1).toInt), .list T_api_Expr ((x6.cell 2).toList)]).bind fun r7 =>
          bif !(decide ((((V.nth r7 0).toInt) : Int) < 0)) then
           kr (.inr (root, child_4, !(decide ((((V.nth r7 0).toInt) : Int) < 0)), datas))
          else
           bif (decide (0 ≤ (IntKind.wrap .i64 (first + child_4)))) && (decide ((IntKind.wrap .i64 (first + child_4)) < (datas.length : Int))) then
            (datas[(IntKind.wrap .i64 (first + child_4) : Int).toNat]?).bind fun x8 =>
            bif (decide (0 ≤ (IntKind.wrap .i64 (first + root)))) && (decide ((IntKind.wrap .i64 (first + root)) < (datas.length : Int))) then
             (datas[(IntKind.wrap .i64 (first + root) : Int).toNat]?).bind fun x9 =>
             bif (decide (0 ≤ (IntKind.wrap .i64 (first + root)))) && (decide ((IntKind.wrap .i64 (first + root)) < (datas.length : Int))) then
              (datas[(IntKind.wrap .i64 (first + root) : Int).toNat]?).bind fun x10 =>
              bif (decide (0 ≤ (IntKind.wrap .i64 (first + child_4)))) && (decide ((IntKind.wrap .i64 (first + child_4)) < ((datas.set ((IntKind.wrap .i64 (first + root) : Int).toNat) (.agg [.int .i64 ((x8.cell 0).toInt), .int .i64 ((x8.cell 1).toInt), .list T_api_Expr ((x8.cell 2).toList)])).length : Int))) then
               ((datas.set ((IntKind.wrap .i64 (first + root) : Int).toNat) (.agg [.int .i64 ((x8.cell 0).toInt), .int .i64 ((x8.cell 1).toInt), .list T_api_Expr ((x8.cell 2).toList)]))[(IntKind.wrap .i64 (first + child_4) : Int).toNat]?).bind fun x11 =>
               kn (child_4, (datas.set ((IntKind.wrap .i64 (first + root) : Int).toNat) (.agg [.int .i64 ((x8.cell 0).toInt), .int .i64 ((x8.cell 1).toInt), .list T_api_Expr ((x8.cell 2).toList)])).set ((IntKind.wrap .i64 (first + child_4) : Int).toNat) (.agg [.int .i64 ((x9.cell 0).toInt), .int .i64 ((x9.cell 1).toInt), .list T_api_Expr ((x9.cell 2).toList)]))
              else none
             else none
            else none
           else none
         else none
        else none)
     else none
    else none
   else
    s_slices_siftDownCmpFunc_api_Expr__1 C hi first root (IntKind.wrap .i64 ((IntKind.wrap .i64 (root * 2)) + 1)) false datas (fun (child_12 : Int) =>
      bif (decide (0 ≤ (IntKind.wrap .i64 (first + root)))) && (decide ((IntKind.wrap .i64 (first + root)) < (datas.length : Int))) then
       (datas[(IntKind.wrap .i64 (first + root) : Int).toNat]?).bind fun x13 =>
       bif (decide (0 ≤ (IntKind.wrap .i64 (first + child_12)))) && (decide ((IntKind.wrap .i64 (first + child_12)) < (datas.length : Int))) then
        (datas[(IntKind.wrap .i64 (first + child_12) : Int).toNat]?).bind fun x14 =>
        (C F_expr_Compare [.int .i64 ((x13.cell 0).toInt), .int .i64 ((x13.cell 1).toInt), .list T_api_Expr ((x13.cell 2).toList), .int .i64 ((x14.cell 0).toInt), .int .i64 ((x14.cell 1).toInt), .list T_api_Expr ((x14.cell 2).toList)]).bind fun r15 =>
        bif !(decide ((((V.nth r15 0).toInt) : Int) < 0)) then
         kr (.inr (root, child_12, !(decide ((((V.nth r15 0).toInt) : Int) < 0)), datas))
        else
         bif (decide (0 ≤ (IntKind.wrap .i64 (first + child_12)))) && (decide ((IntKind.wrap .i64 (first + child_12)) < (datas.length : Int))) then
          (datas[(IntKind.wrap .i64 (first + child_12) : Int).toNat]?).bind fun x16 =>
          bif (decide (0 ≤ (IntKind.wrap .i64 (first + root)))) && (decide ((IntKind.wrap .i64 (first + root)) < (datas.length : Int))) then
           (datas[(IntKind.wrap .i64 (first + root) : Int).toNat]?).bind fun x17 =>
           bif (decide (0 ≤ (IntKind.wrap .i64 (first + root)))) && (decide ((IntKind.wrap .i64 (first + root)) < (datas.length : Int))) then
            (datas[(IntKind.wrap .i64 (first + root) : Int).toNat]?).bind fun x18 =>
            bif (decide (0 ≤ (IntKind.wrap .i64 (first + child_12)))) && (decide ((IntKind.wrap .i64 (first + child_12)) < ((datas.set ((IntKind.wrap .i64 (first + root) : Int).toNat) (.agg [.int .i64 ((x16.cell 0).toInt), .int .i64 ((x16.cell 1).toInt), .list T_api_Expr ((x16.cell 2).toList)])).length : Int))) then
             ((datas.set ((IntKind.wrap .i64 (first + root) : Int).toNat) (.agg [.int .i64 ((x16.cell 0).toInt), .int .i64 ((x16.cell 1).toInt), .list T_api_Expr ((x16.cell 2).toList)]))[(IntKind.wrap .i64 (first + child_12) : Int).toNat]?).bind fun x19 =>
             kn (child_12, (datas.set ((IntKind.wrap .i64 (first + root) : Int).toNat) (.agg [.int .i64 ((x16.cell 0).toInt), .int .i64 ((x16.cell 1).toInt), .list T_api_Expr ((x16.cell 2).toList)])).set ((IntKind.wrap .i64 (first + child_12) : Int).toNat) (.agg [.int .i64 ((x17.cell 0).toInt), .int .i64 ((x17.cell 1).toInt), .list T_api_Expr ((x17.cell 2).toList)]))
            else none
           else none
          else none
         else none
       else none
      else none)
noncomputable def s_slices_siftDownCmpFunc_api_Expr__2L (C : CallF) (hi first : Int) : (Int × (List V)) → Option ((Int × (List V)) ⊕ ((Int × Int × Bool × (List V)) ⊕ (Int × Int × Bool × (List V)))) := un fun root datas => s_slices_siftDownCmpFunc_api_Expr__2 C hi first root datas (fun y => some (.inl y)) (fun r => some (.inr r))
noncomputable def LT_slices_siftDownCmpFunc_api_Expr_ (C : CallF) : LTab := fun β n ds k =>
  bif Nat.beq n 655 then condS S109_655 [[1, 2, 3, 0, 6]] (@s_slices_siftDownCmpFunc_api_Expr__1 C) ds k else
  bif Nat.beq n 17 then loopS S109_17 [false, false, true, true] [[1, 2, 0, 0, 0, 0], [1, 2, 0, 0, 0, 0]] (@s_slices_siftDownCmpFunc_api_Expr__2 C) ds k else
  none
abbrev TS_slices_siftDownCmpFunc_api_Expr_ (C : CallF) (b : Bar) : Prop := Tells Try.prog ann C (LT_slices_siftDownCmpFunc_api_Expr_ C) 109 (ntmpsOf Try.prog (ann.fid 109)) (ann.sin 109).blks.length b
theorem t_slices_siftDownCmpFunc_api_Expr__1 (C : CallF) : TS_slices_siftDownCmpFunc_api_Expr_ C (.cond 40 (codeAt [1, 0, 0, 0, 1, 1, 0, 1, 0] B_slices_siftDownCmpFunc_api_Expr_) (codeAt [1, 0, 0, 0, 1, 1, 0, 1, 1] B_slices_siftDownCmpFunc_api_Expr_)) :=
  tc3 S109_655 [[1, 2, 3, 0, 6]] (@s_slices_siftDownCmpFunc_api_Expr__1 C) (by kernel_rfl) (ltok_of (bs := []) (by kernel_rfl) tells_nil) (ltok_of (bs := []) (by kernel_rfl) tells_nil) (fun ds => by kernel_rfl) (fun i β k => by kernel_rfl) (fun β ds k => by kernel_rfl)
theorem t_slices_siftDownCmpFunc_api_Expr__2 (C : CallF) : TS_slices_siftDownCmpFunc_api_Expr_ C (.loop (codeAt [1, 0, 0] B_slices_siftDownCmpFunc_api_Expr_)) :=
  tl3 S109_17 [false, false, true, true] [[1, 2, 0, 0, 0, 0], [1, 2, 0, 0, 0, 0]] (@s_slices_siftDownCmpFunc_api_Expr__2 C) (by kernel_rfl) (ltok_of (bs := [.cond 40 (codeAt [1, 0, 0, 0, 1, 1, 0, 1, 0] B_slices_siftDownCmpFunc_api_Expr_) (codeAt [1, 0, 0, 0, 1, 1, 0, 1, 1] B_slices_siftDownCmpFunc_api_Expr_)]) (by kernel_rfl) (tells_cons (t_slices_siftDownCmpFunc_api_Expr__1 C) tells_nil)) (fun ds => by kernel_rfl) (fun i x => by kernel_rfl) (fun i x β k => by kernel_rfl) (fun β ds k => by kernel_rfl)
noncomputable def f_slices_siftDownCmpFunc_api_Expr_ (C : CallF) (lo hi first : Int) (datas : List V) : Option (List V) :=
  (Loop (s_slices_siftDownCmpFunc_api_Expr__2L C hi first) (lo, datas)).bind (way2 (un fun (root_20 : Int) => un fun (child_21 : Int) => un fun (t_22 : Bool) (datas_23 : List V) =>
    some [.list T_api_Expr datas_23]) (un fun (root_24 : Int) => un fun (child_25 : Int) => un fun (t_26 : Bool) (datas_27 : List V) =>
    some [.list T_api_Expr datas_27]))
theorem f_slices_siftDownCmpFunc_api_Expr__of {lo hi first : Int} {datas : List V} {r : Option (List V)} (h : f_slices_siftDownCmpFunc_api_Expr_ CC lo hi first datas = r) : CC F_slices_siftDownCmpFunc_api_Expr_ [.int .i64 lo, .int .i64 hi, .int .i64 first, .list T_api_Expr datas] = r :=
  func_of (key := 109) (L := LT_slices_siftDownCmpFunc_api_Expr_ CC) (bs := [.loop (codeAt [1, 0, 0] B_slices_siftDownCmpFunc_api_Expr_)]) (by kernel_rfl) (tells_cons (t_slices_siftDownCmpFunc_api_Expr__2 CC) tells_nil) (Eq.trans (by kernel_rfl) h)
end Go.AM
set_option maxRecDepth 100000
namespace Go.AM
open Go.Proofs
noncomputable abbrev B_slices_heapSortCmpFunc_api_Expr_ : Code := bodyOf Try.prog (ann.fid 100)
noncomputable def s_slices_heapSortCmpFunc_api_Expr__1 (C : CallF) (first lo hi i : Int) (datas : List V) {β : Type} (kn : (Int × (List V)) → Option β) (kr : (Int × Bool × (List V)) → Option β) : Option β :=
  bif decide ((i : Int) ≥ 0) then
   (C F_slices_siftDownCmpFunc_api_Expr_ [.int .i64 i, .int .i64 hi, .int .i64 first, .list T_api_Expr datas]).bind fun r1 =>
   kn (IntKind.wrap .i64 (i - 1), (V.nth r1 0).toList)
  else
   kr (i, decide ((i : Int) ≥ 0), datas)
noncomputable def s_slices_heapSortCmpFunc_api_Expr__1L (C : CallF) (first lo hi : Int) : (Int × (List V)) → Option ((Int × (List V)) ⊕ (Int × Bool × (List V))) := un fun i datas => s_slices_heapSortCmpFunc_api_Expr__1 C first lo hi i datas (fun y => some (.inl y)) (fun r => some (.inr r))
noncomputable def s_slices_heapSortCmpFunc_api_Expr__2 (C : CallF) (first lo i : Int) (datas : List V) {β : Type} (kn : (Int × (List V)) → Option β) (kr : (Int × Bool × (List V)) → Option β) : Option β :=
  bif decide ((i : Int) ≥ 0) then
   bif (decide (0 ≤ (IntKind.wrap .i64 (first + i)))) && (decide ((IntKind.wrap .i64 (first + i)) < (datas.length : Int))) then
    (datas[(IntKind.wrap .i64 (first + i) : Int).toNat]?).bind fun x5 =>
    bif (decide (0 ≤ first)) && (decide (first < (datas.length : Int))) then
     (datas[(first : Int).toNat]?).bind fun x6 =>
     bif (decide (0 ≤ first)) && (decide (first < (datas.length : Int))) then
      (datas[(first : Int).toNat]?).bind fun x7 =>
      bif (decide (0 ≤ (IntKind.wrap .i64 (first + i)))) && (decide ((IntKind.wrap .i64 (first + i)) < ((datas.set ((first : Int).toNat) (.agg [.int .i64 ((x5.cell 0).toInt), .int .i64 ((x5.cell 1).toInt), .list T_api_Expr ((x5.cell 2).toList)])).length : Int))) then
       ((datas.set ((first : Int).toNat) (.agg [.int .i64 ((x5.cell 0).toInt), .int .i64 ((x5.cell 1).toInt), .list T_api_Expr ((x5.cell 2).toList)]))[(IntKind.wrap .i64 (first + i) : Int).toNat]?).bind fun x8 =>
       (C F_slices_siftDownCmpFunc_api_Expr_ [.int .i64 lo, .int .i64 i, .int .i64 first, .list T_api_Expr ((datas.set ((first : Int).toNat) (.agg [.int .i64 ((x5.cell 0).toInt), .int .i64 ((x5.cell 1).toInt), .list T_api_Expr ((x5.cell 2).toList)])).set ((IntKind.wrap .i64 (first + i) : Int).toNat) (.agg [.int .i64 ((x6.cell 0).toInt), .int .i64 ((x6.cell 1).toInt), .list T_api_Expr ((x6.cell 2).toList)]))]).bind fun r9 =>
       kn (IntKind.wrap .i64 (i - 1), (V.nth r9 0).toList)
      else none
     else none
    else none
   else none
  else
   kr (i, decide ((i : Int) ≥ 0), datas)
noncomputable def s_slices_heapSortCmpFunc_api_Expr__2L (C : CallF) (first lo : Int) : (Int × (List V)) → Option ((Int × (List V)) ⊕ (Int × Bool × (List V))) := un fun i datas => s_slices_heapSortCmpFunc_api_Expr__2 C first lo i datas (fun y => some (.inl y)) (fun r => some (.inr r))
noncomputable def LT_slices_heapSortCmpFunc_api_Expr_ (C : CallF) : LTab := fun β n ds k =>
  bif Nat.beq n 65 then loopS S100_65 [false, false, false, true, true] [[1, 2, 3, 0, 0, 0]] (@s_slices_heapSortCmpFunc_api_Expr__1 C) ds k else
  bif Nat.beq n 129 then loopS S100_129 [false, false, true, true] [[1, 2, 0, 0, 0]] (@s_slices_heapSortCmpFunc_api_Expr__2 C) ds k else
  none
abbrev TS_slices_heapSortCmpFunc_api_Expr_ (C : CallF) (b : Bar) : Prop := Tells Try.prog ann C (LT_slices_heapSortCmpFunc_api_Expr_ C) 100 (ntmpsOf Try.prog (ann.fid 100)) (ann.sin 100).blks.length b
theorem t_slices_heapSortCmpFunc_api_Expr__1 (C : CallF) : TS_slices_heapSortCmpFunc_api_Expr_ C (.loop (codeAt [1, 1, 1, 0, 1, 0, 0] B_slices_heapSortCmpFunc_api_Expr_)) :=
  tl3 S100_65 [false, false, false, true, true] [[1, 2, 3, 0, 0, 0]] (@s_slices_heapSortCmpFunc_api_Expr__1 C) (by kernel_rfl) (ltok_of (bs := []) (by kernel_rfl) tells_nil) (fun ds => by kernel_rfl) (fun i x => by kernel_rfl) (fun i x β k => by kernel_rfl) (fun β ds k => by kernel_rfl)
theorem t_slices_heapSortCmpFunc_api_Expr__2 (C : CallF) : TS_slices_heapSortCmpFunc_api_Expr_ C (.loop (codeAt [1, 1, 1, 1, 1, 0, 0] B_slices_heapSortCmpFunc_api_Expr_)) :=
  tl3 S100_129 [false, false, true, true] [[1, 2, 0, 0, 0]] (@s_slices_heapSortCmpFunc_api_Expr__2 C) (by kernel_rfl) (ltok_of (bs := []) (by kernel_rfl) tells_nil) (fun ds => by kernel_rfl) (fun i x => by kernel_rfl) (fun i x β k => by kernel_rfl) (fun β ds k => by kernel_rfl)
noncomputable def f_slices_heapSortCmpFunc_api_Expr_ (C : CallF) (a b' : Int) (datas : List V) : Option (List V) :=
  (Loop (s_slices_heapSortCmpFunc_api_Expr__1L C a 0 (IntKind.wrap .i64 (b' - a))) (IntKind.wrap .i64 (Int.tdiv (IntKind.wrap .i64 ((IntKind.wrap .i64 (b' - a)) - 1)) 2), datas)).bind (un fun (i_2 : Int) => un fun (t_3 : Bool) (datas_4 : List V) =>
    (Loop (s_slices_heapSortCmpFunc_api_Expr__2L C a 0) (IntKind.wrap .i64 ((IntKind.wrap .i64 (b' - a)) - 1), datas_4)).bind (un fun (i_10 : Int) => un fun (t_11 : Bool) (datas_12 : List V) =>
      some [.list T_api_Expr datas_12]))
theorem f_slices_heapSortCmpFunc_api_Expr__of {a b' : Int} {datas : List V} {r : Option (List V)} (h : f_slices_heapSortCmpFunc_api_Expr_ CC a b' datas = r) : CC F_slices_heapSortCmpFunc_api_Expr_ [.int .i64 a, .int .i64 b', .list T_api_Expr datas] = r :=
  func_of (key := 100) (L := LT_slices_heapSortCmpFunc_api_Expr_ CC) (bs := [.loop (codeAt [1, 1, 1, 0, 1, 0, 0] B_slices_heapSortCmpFunc_api_Expr_), .loop (codeAt [1, 1, 1, 1, 1, 0, 0] B_slices_heapSortCmpFunc_api_Expr_)]) (by kernel_rfl) (tells_cons (t_slices_heapSortCmpFunc_api_Expr__1 CC) (tells_cons (t_slices_heapSortCmpFunc_api_Expr__2 CC) tells_nil)) (Eq.trans (by kernel_rfl) h)
end Go.AM
set_option maxRecDepth 100000
namespace Go.AM
open Go.Proofs
noncomputable abbrev B_slices_reverseRangeCmpFunc_api_Expr_ : Code := bodyOf Try.prog (ann.fid 103)
noncomputable def s_slices_reverseRangeCmpFunc_api_Expr__1 (C : CallF) (i j : Int) (datas : List V) {β : Type} (kn : (Int × Int × (List V)) → Option β) (kr : (Int × Int × Bool × (List V)) → Option β) : Option β :=
  bif decide ((i : Int) < j) then
   bif (decide (0 ≤ j)) && (decide (j < (datas.length : Int))) then
    (datas[(j : Int).toNat]?).bind fun x1 =>
    bif (decide (0 ≤ i)) && (decide (i < (datas.length : Int))) then
     (datas[(i : Int).toNat]?).bind fun x2 =>
     bif (decide (0 ≤ i)) && (decide (i < (datas.length : Int))) then
      (datas[(i : Int).toNat]?).bind fun x3 =>
      bif (decide (0 ≤ j)) && (decide (j < ((datas.set ((i : Int).toNat) (.agg [.int .i64 ((x1.cell 0).toInt), .int .i64 ((x1.cell 1).toInt), .list T_api_Expr ((x1.cell 2).toList)])).length : Int))) then
       ((datas.set ((i : Int).toNat) (.agg [.int .i64 ((x1.cell 0).toInt), .int .i64 ((x1.cell 1).toInt), .list T_api_Expr ((x1.cell 2).toList)]))[(j : Int).toNat]?).bind fun x4 =>
       kn (IntKind.wrap .i64 (i + 1), IntKind.wrap .i64 (j - 1), (datas.set ((i : Int).toNat) (.agg [.int .i64 ((x1.cell 0).toInt), .int .i64 ((x1.cell 1).toInt), .list T_api_Expr ((x1.cell 2).toList)])).set ((j : Int).toNat) (.agg [.int .i64 ((x2.cell 0).toInt), .int .i64 ((x2.cell 1).toInt), .list T_api_Expr ((x2.cell 2).toList)]))
      else none
     else none
    else none
   else none
  else
   kr (i, j, decide ((i : Int) < j), datas)
noncomputable def s_slices_reverseRangeCmpFunc_api_Expr__1L (C : CallF) : (Int × Int × (List V)) → Option ((Int × Int × (List V)) ⊕ (Int × Int × Bool × (List V))) := un fun i => un fun j datas => s_slices_reverseRangeCmpFunc_api_Expr__1 C i j datas (fun y => some (.inl y)) (fun r => some (.inr r))
noncomputable def LT_slices_reverseRangeCmpFunc_api_Expr_ (C : CallF) : LTab := fun β n ds k =>
  bif Nat.beq n 33 then loopS S103_33 [true, true, true] [[0, 0, 0, 0]] (@s_slices_reverseRangeCmpFunc_api_Expr__1 C) ds k else
  none
abbrev TS_slices_reverseRangeCmpFunc_api_Expr_ (C : CallF) (b : Bar) : Prop := Tells Try.prog ann C (LT_slices_reverseRangeCmpFunc_api_Expr_ C) 103 (ntmpsOf Try.prog (ann.fid 103)) (ann.sin 103).blks.length b
theorem t_slices_reverseRangeCmpFunc_api_Expr__1 (C : CallF) : TS_slices_reverseRangeCmpFunc_api_Expr_ C (.loop (codeAt [1, 1, 0, 0] B_slices_reverseRangeCmpFunc_api_Expr_)) :=
  tl3 S103_33 [true, true, true] [[0, 0, 0, 0]] (@s_slices_reverseRangeCmpFunc_api_Expr__1 C) (by kernel_rfl) (ltok_of (bs := []) (by kernel_rfl) tells_nil) (fun ds => by kernel_rfl) (fun i x => by kernel_rfl) (fun i x β k => by kernel_rfl) (fun β ds k => by kernel_rfl)
noncomputable def f_slices_reverseRangeCmpFunc_api_Expr_ (C : CallF) (a b' : Int) (datas : List V) : Option (List V) :=
  (Loop (s_slices_reverseRangeCmpFunc_api_Expr__1L C) (a, IntKind.wrap .i64 (b' - 1), datas)).bind (un fun (i_5 : Int) => un fun (j_6 : Int) => un fun (t_7 : Bool) (datas_8 : List V) =>
    some [.list T_api_Expr datas_8])
theorem f_slices_reverseRangeCmpFunc_api_Expr__of {a b' : Int} {datas : List V} {r : Option (List V)} (h : f_slices_reverseRangeCmpFunc_api_Expr_ CC a b' datas = r) : CC F_slices_reverseRangeCmpFunc_api_Expr_ [.int .i64 a, .int .i64 b', .list T_api_Expr datas] = r :=
  func_of (key := 103) (L := LT_slices_reverseRangeCmpFunc_api_Expr_ CC) (bs := [.loop (codeAt [1, 1, 0, 0] B_slices_reverseRangeCmpFunc_api_Expr_)]) (by kernel_rfl) (tells_cons (t_slices_reverseRangeCmpFunc_api_Expr__1 CC) tells_nil) (Eq.trans (by kernel_rfl) h)
end Go.AM
set_option maxRecDepth 100000
set_option linter.unusedSimpArgs false
set_option maxHeartbeats 4000000
namespace Go.AM.SX
open Go.Proofs Go.Sort
def ltE (a b : XE) : Bool := decide (cmpX a b < 0)
theorem ltE_i (a b : XE) : (ltE a b = true) = (cmpX a b < 0) := by unfold ltE; rw [decide_eq_true_eq]
theorem ltE_n (a b : XE) : ((!ltE a b) = true) = ¬ (cmpX a b < 0) := by unfold ltE; simp
abbrev eA (d : Array XE) : List V := encA XE.enc d
theorem insInner_succ' (a j : Nat) (d : Array XE) : insInner ltE a (j + 1) d = if j + 1 > a then (if cmpX d[j + 1]! d[j]! < 0 then insInner ltE a j (swp d (j + 1) j) else d) else d := by
  rw [insInner_succ]
  by_cases h1 : j + 1 > a
  · rw [if_pos h1]; simp only [h1, decide_true, Bool.true_and, ltE_i]
  · rw [if_neg h1, if_neg (by simp [h1])]
theorem siftDown_eq' (hi first root : Nat) (d : Array XE) : siftDown ltE hi first root d =
    if 2 * root + 1 ≥ hi then d else
      if 2 * root + 2 < hi then
        (if cmpX d[first + (2 * root + 1)]! d[first + (2 * root + 2)]! < 0 then
          (if cmpX d[first + root]! d[first + (2 * root + 2)]! < 0 then siftDown ltE hi first (2 * root + 2) (swp d (first + root) (first + (2 * root + 2))) else d)
        else (if cmpX d[first + root]! d[first + (2 * root + 1)]! < 0 then siftDown ltE hi first (2 * root + 1) (swp d (first + root) (first + (2 * root + 1))) else d))
      else (if cmpX d[first + root]! d[first + (2 * root + 1)]! < 0 then siftDown ltE hi first (2 * root + 1) (swp d (first + root) (first + (2 * root + 1))) else d) := by
  rw [siftDown]
  by_cases h1 : 2 * root + 1 ≥ hi
  · rw [dif_pos h1, if_pos h1]
  rw [dif_neg h1, if_neg h1]
  by_cases h2 : 2 * root + 2 < hi
  · rw [if_pos h2]
    by_cases h3 : cmpX d[first + (2 * root + 1)]! d[first + (2 * root + 2)]! < 0
    · rw [if_pos h3, if_pos (by simp only [Bool.and_eq_true, decide_eq_true_eq, ltE_i]; exact ⟨h2, h3⟩)]
      simp only [ltE_n]
      by_cases h4 : cmpX d[first + root]! d[first + (2 * root + 2)]! < 0
      · rw [if_neg (not_not_intro h4), dif_pos h2, if_pos h4]
      · rw [if_pos h4, if_neg h4]
    · rw [if_neg h3, if_neg (by simp only [Bool.and_eq_true, decide_eq_true_eq, ltE_i]; exact fun h => h3 h.2)]
      simp only [ltE_n]
      by_cases h4 : cmpX d[first + root]! d[first + (2 * root + 1)]! < 0
      · rw [if_neg (not_not_intro h4), if_pos h4]
      · rw [if_pos h4, if_neg h4]
  · rw [if_neg h2, if_neg (by simp only [Bool.and_eq_true, decide_eq_true_eq, ltE_i]; exact fun h => h2 h.1)]
    simp only [ltE_n]
    by_cases h4 : cmpX d[first + root]! d[first + (2 * root + 1)]! < 0
    · rw [if_neg (not_not_intro h4), if_pos h4]
    · rw [if_pos h4, if_neg h4]
theorem ins_inner {a b i : Nat} : ∀ (j : Nat) (d : Array XE), j < d.size → d.size < 1152921504606846976 →
    ∃ j' t, Loop (s_slices_insertionSortCmpFunc_api_Expr__1L CC a b i) ((j : Int), eA d) = some (j', t, eA (insInner ltE a j d))
  | 0, d, hj, hs => ⟨(0 : Nat), false, Loop_end (by
      simp (disch := omega) only [s_slices_insertionSortCmpFunc_api_Expr__1L, s_slices_insertionSortCmpFunc_api_Expr__1, un, bif_decide, if_neg]
      rfl)⟩
  | j + 1, d, hj, hs => by
    obtain ⟨j', t, ih⟩ := ins_inner (a := a) (b := b) (i := i) j (swp d (j + 1) j) (by rw [size_swp]; omega) (by rw [size_swp]; omega)
    rw [insInner_succ']
    by_cases h1 : j + 1 > a
    · rw [if_pos h1]
      have e : s_slices_insertionSortCmpFunc_api_Expr__1L CC a b i (((j + 1 : Nat) : Int), eA d) = if cmpX d[j + 1]! d[j]! < 0 then some (.inl ((j : Int), eA (swp d (j + 1) j))) else some (.inr (((j + 1 : Nat) : Int), decide (cmpX d[j + 1]! d[j]! < 0), eA d)) := by
        simp (disch := omega) only [s_slices_insertionSortCmpFunc_api_Expr__1L, s_slices_insertionSortCmpFunc_api_Expr__1, un, bif_decide, bif_and, bif_not, if_pos, if_neg, wrap64, succC, addC, Int.toNat_natCast, Option.bind_some, encA_length, encA_get, XE.enc_0, XE.enc_1, XE.enc_2, XE.re, encA_set, encA_get2, Array.size_setIfInBounds, compareX_spec, V.nth_zero, V.toInt_int, cond_true, cond_false, predC]
        rfl
      by_cases h2 : cmpX d[j + 1]! d[j]! < 0
      · rw [if_pos h2] at e ⊢
        exact ⟨j', t, (Loop_norm e).trans ih⟩
      · rw [if_neg h2] at e ⊢
        exact ⟨_, _, Loop_end e⟩
    · rw [if_neg h1]
      exact ⟨((j + 1 : Nat) : Int), false, Loop_end (by
        simp (disch := omega) only [s_slices_insertionSortCmpFunc_api_Expr__1L, s_slices_insertionSortCmpFunc_api_Expr__1, un, bif_decide, if_neg])⟩
theorem ins_outer {a b : Nat} : ∀ (n i : Nat) (d : Array XE), b - i = n → b ≤ d.size → d.size < 1152921504606846976 →
    ∃ j' t, Loop (s_slices_insertionSortCmpFunc_api_Expr__2L CC a b) ((i : Int), eA d) = some (j', t, eA (insOuter ltE a b i d)) := by
  intro n
  induction n with
  | zero =>
    intro i d hn hb hs
    rw [insOuter, if_neg (by omega)]
    exact ⟨(i : Int), false, Loop_end (by
      simp (disch := omega) only [s_slices_insertionSortCmpFunc_api_Expr__2L, s_slices_insertionSortCmpFunc_api_Expr__2, un, dec_false, cond_false])⟩
  | succ n ih =>
    intro i d hn hb hs
    obtain ⟨j1, t1, h1⟩ := ins_inner (a := a) (b := b) (i := i) i d (by omega) hs
    obtain ⟨j', t, h2⟩ := ih (i + 1) (insInner ltE a i d) (by omega) (by rw [insInner_size]; omega) (by rw [insInner_size]; omega)
    rw [insOuter, if_pos (by omega)]
    refine ⟨j', t, (Loop_norm ?_).trans h2⟩
    simp (disch := omega) only [s_slices_insertionSortCmpFunc_api_Expr__2L, s_slices_insertionSortCmpFunc_api_Expr__2, un, bif_decide, if_pos, h1, Option.bind_some, succC, wrap64]
theorem ins_spec {a b : Nat} {d : Array XE} (hb : b ≤ d.size) (hs : d.size < 1152921504606846976) (ha : a < 1152921504606846976) :
    CC F_slices_insertionSortCmpFunc_api_Expr_ [.int .i64 (a : Int), .int .i64 (b : Int), .list T_api_Expr (eA d)] = some [.list T_api_Expr (eA (insertionSort ltE d a b))] := by
  refine f_slices_insertionSortCmpFunc_api_Expr__of ?_
  unfold f_slices_insertionSortCmpFunc_api_Expr_
  obtain ⟨j', t, h⟩ := ins_outer (a := a) (b := b) _ (a + 1) d rfl hb hs
  simp (disch := omega) only [succC, wrap64]
  rw [h]
  rfl
theorem sift_loop (hi first : Nat) : ∀ (n root : Nat) (d : Array XE), hi - root ≤ n → root < 1152921504606846976 → first + hi ≤ d.size → d.size < 1152921504606846976 →
    (∃ x y z, Loop (s_slices_siftDownCmpFunc_api_Expr__2L CC hi first) ((root : Int), eA d) = some (.inl (x, y, z, eA (siftDown ltE hi first root d)))) ∨
    (∃ x y z, Loop (s_slices_siftDownCmpFunc_api_Expr__2L CC hi first) ((root : Int), eA d) = some (.inr (x, y, z, eA (siftDown ltE hi first root d)))) := by
  intro n
  induction n with
  | zero =>
    intro root d hn hr hb hs
    rw [siftDown_eq', if_pos (by omega)]
    exact .inl ⟨(root : Int), ((root * 2 + 1 : Nat) : Int), true, Loop_end (by
      simp (disch := omega) only [s_slices_siftDownCmpFunc_api_Expr__2L, s_slices_siftDownCmpFunc_api_Expr__2, un, mul2C, succC, wrap64]; rw [dec_true (by omega)]; rfl)⟩
  | succ n ih =>
    intro root d hn hr hb hs
    by_cases h1 : 2 * root + 1 ≥ hi
    · rw [siftDown_eq', if_pos h1]
      exact .inl ⟨(root : Int), ((root * 2 + 1 : Nat) : Int), true, Loop_end (by
        simp (disch := omega) only [s_slices_siftDownCmpFunc_api_Expr__2L, s_slices_siftDownCmpFunc_api_Expr__2, un, mul2C, succC, wrap64]; rw [dec_true (by omega)]; rfl)⟩
    · have go : ∀ c : Nat, c < hi → root < c → (s_slices_siftDownCmpFunc_api_Expr__2L CC hi first ((root : Int), eA d) =
            if cmpX d[first + root]! d[first + c]! < 0 then some (.inl ((c : Int), eA (swp d (first + root) (first + c)))) else some (.inr (.inr ((root : Int), (c : Int), true, eA d)))) →
          siftDown ltE hi first root d = (if cmpX d[first + root]! d[first + c]! < 0 then siftDown ltE hi first c (swp d (first + root) (first + c)) else d) →
          ((∃ x y z, Loop (s_slices_siftDownCmpFunc_api_Expr__2L CC hi first) ((root : Int), eA d) = some (.inl (x, y, z, eA (siftDown ltE hi first root d)))) ∨
          (∃ x y z, Loop (s_slices_siftDownCmpFunc_api_Expr__2L CC hi first) ((root : Int), eA d) = some (.inr (x, y, z, eA (siftDown ltE hi first root d))))) := by
        intro c hc hrc e1 e2
        rw [e2]
        by_cases h3 : cmpX d[first + root]! d[first + c]! < 0
        · rw [if_pos h3] at e1
          rw [if_pos h3, Loop_norm e1]
          exact ih c _ (by omega) (by omega) (by rw [size_swp]; omega) (by rw [size_swp]; omega)
        · rw [if_neg h3] at e1
          rw [if_neg h3, Loop_end e1]
          exact .inr ⟨_, _, _, rfl⟩
      have e0 := siftDown_eq' hi first root d
      rw [if_neg h1] at e0
      by_cases h2 : 2 * root + 2 < hi
      · rw [if_pos h2] at e0
        by_cases h3 : cmpX d[first + (2 * root + 1)]! d[first + (2 * root + 2)]! < 0
        · rw [if_pos h3] at e0
          refine go (2 * root + 2) (by omega) (by omega) ?_ e0
          rw [Nat.mul_comm 2 root] at h3
          simp (disch := omega) only [s_slices_siftDownCmpFunc_api_Expr__2L, s_slices_siftDownCmpFunc_api_Expr__2, un, mul2C, succC, addC, wrap64]
          rw [bif_decide, if_neg (by omega), bif_decide, if_pos (by omega)]
          simp (disch := omega) only [s_slices_siftDownCmpFunc_api_Expr__1, bif_decide, bif_and, bif_not, if_pos, if_neg, wrap64, succC, addC, Int.toNat_natCast, Option.bind_some, encA_length, encA_get, XE.enc_0, XE.enc_1, XE.enc_2, XE.re, encA_set, encA_get2, Array.size_setIfInBounds, compareX_spec, V.nth_zero, V.toInt_int, cond_true, cond_false, Nat.mul_comm 2 root, dec_true]
          by_cases h4 : cmpX d[first + root]! d[first + (root * 2 + 2)]! < 0
          · simp only [h4, if_true]; rfl
          · simp only [h4, if_false]; rfl
        · rw [if_neg h3] at e0
          refine go (2 * root + 1) (by omega) (by omega) ?_ e0
          rw [Nat.mul_comm 2 root] at h3
          simp (disch := omega) only [s_slices_siftDownCmpFunc_api_Expr__2L, s_slices_siftDownCmpFunc_api_Expr__2, un, mul2C, succC, addC, wrap64]
          rw [bif_decide, if_neg (by omega), bif_decide, if_pos (by omega)]
          simp (disch := omega) only [s_slices_siftDownCmpFunc_api_Expr__1, bif_decide, bif_and, bif_not, if_pos, if_neg, wrap64, succC, addC, Int.toNat_natCast, Option.bind_some, encA_length, encA_get, XE.enc_0, XE.enc_1, XE.enc_2, XE.re, encA_set, encA_get2, Array.size_setIfInBounds, compareX_spec, V.nth_zero, V.toInt_int, cond_true, cond_false, Nat.mul_comm 2 root, dec_false]
          by_cases h4 : cmpX d[first + root]! d[first + (root * 2 + 1)]! < 0
          · simp only [h4, if_true]; rfl
          · simp only [h4, if_false]; rfl
      · rw [if_neg h2] at e0
        refine go (2 * root + 1) (by omega) (by omega) ?_ e0
        simp (disch := omega) only [s_slices_siftDownCmpFunc_api_Expr__2L, s_slices_siftDownCmpFunc_api_Expr__2, un, mul2C, succC, addC, wrap64]
        rw [bif_decide, if_neg (by omega), bif_decide, if_neg (by omega)]
        simp (disch := omega) only [s_slices_siftDownCmpFunc_api_Expr__1, bif_decide, bif_and, bif_not, if_pos, if_neg, wrap64, succC, addC, Int.toNat_natCast, Option.bind_some, encA_length, encA_get, XE.enc_0, XE.enc_1, XE.enc_2, XE.re, encA_set, encA_get2, Array.size_setIfInBounds, compareX_spec, V.nth_zero, V.toInt_int, cond_true, cond_false, Nat.mul_comm 2 root]
        by_cases h4 : cmpX d[first + root]! d[first + (root * 2 + 1)]! < 0
        · simp only [h4, if_true]; rfl
        · simp only [h4, if_false]; rfl
theorem sift_spec {lo hi first : Nat} {d : Array XE} (hl : lo < 1152921504606846976) (hb : first + hi ≤ d.size) (hs : d.size < 1152921504606846976) :
    CC F_slices_siftDownCmpFunc_api_Expr_ [.int .i64 (lo : Int), .int .i64 (hi : Int), .int .i64 (first : Int), .list T_api_Expr (eA d)] = some [.list T_api_Expr (eA (siftDown ltE hi first lo d))] := by
  refine f_slices_siftDownCmpFunc_api_Expr__of ?_
  unfold f_slices_siftDownCmpFunc_api_Expr_
  rcases sift_loop hi first _ lo d (Nat.le_refl _) hl hb hs with ⟨x, y, z, h⟩ | ⟨x, y, z, h⟩
  · rw [h]; rfl
  · rw [h]; rfl
theorem heap_1 {hi first : Nat} : ∀ (k : Nat) (d : Array XE), k < 1152921504606846976 → first + hi ≤ d.size → d.size < 1152921504606846976 →
    ∃ x y, Loop (s_slices_heapSortCmpFunc_api_Expr__1L CC first 0 hi) ((k : Int) - 1, eA d) = some (x, y, eA (heapBuild ltE hi first k d))
  | 0, d, hk, hb, hs => ⟨-1, false, Loop_end (by
      simp (disch := omega) only [s_slices_heapSortCmpFunc_api_Expr__1L, s_slices_heapSortCmpFunc_api_Expr__1, un, bif_decide, if_neg]
      rfl)⟩
  | k + 1, d, hk, hb, hs => by
    obtain ⟨x, y, ih⟩ := heap_1 (hi := hi) (first := first) k (siftDown ltE hi first k d) (by omega) (by rw [siftDown_size _ _ _ _ _ (Nat.le_refl _)]; omega) (by rw [siftDown_size _ _ _ _ _ (Nat.le_refl _)]; omega)
    refine ⟨x, y, (Loop_norm ?_).trans ih⟩
    simp (disch := omega) only [s_slices_heapSortCmpFunc_api_Expr__1L, s_slices_heapSortCmpFunc_api_Expr__1, un, bif_decide, if_pos, predC, sift_spec, Option.bind_some, V.nth_zero, V.toList_list, wrap64]
theorem heap_2 {first : Nat} : ∀ (k : Nat) (d : Array XE), k < 1152921504606846976 → first + k ≤ d.size → d.size < 1152921504606846976 →
    ∃ x y, Loop (s_slices_heapSortCmpFunc_api_Expr__2L CC first 0) ((k : Int) - 1, eA d) = some (x, y, eA (heapPop ltE first k d))
  | 0, d, hk, hb, hs => ⟨-1, false, Loop_end (by
      simp (disch := omega) only [s_slices_heapSortCmpFunc_api_Expr__2L, s_slices_heapSortCmpFunc_api_Expr__2, un, bif_decide, if_neg]
      rfl)⟩
  | k + 1, d, hk, hb, hs => by
    obtain ⟨x, y, ih⟩ := heap_2 (first := first) k (siftDown ltE k first 0 (swp d first (first + k))) (by omega) (by rw [siftDown_size _ _ _ _ _ (Nat.le_refl _), size_swp]; omega) (by rw [siftDown_size _ _ _ _ _ (Nat.le_refl _), size_swp]; omega)
    refine ⟨x, y, (Loop_norm ?_).trans ih⟩
    have hsp := sift_spec (lo := 0) (hi := k) (first := first) (d := swp d first (first + k)) (by omega) (by rw [size_swp]; omega) (by rw [size_swp]; omega)
    unfold swp at hsp ⊢
    rw [show ((0 : Nat) : Int) = 0 from rfl] at hsp
    simp (disch := omega) only [s_slices_heapSortCmpFunc_api_Expr__2L, s_slices_heapSortCmpFunc_api_Expr__2, un, predC, bif_decide, bif_and, bif_not, if_pos, if_neg, wrap64, succC, addC, Int.toNat_natCast, Option.bind_some, encA_length, encA_get, XE.enc_0, XE.enc_1, XE.enc_2, XE.re, encA_set, encA_get2, Array.size_setIfInBounds, compareX_spec, V.nth_zero, V.toInt_int, cond_true, cond_false]
    rw [hsp]
    simp (disch := omega) only [Option.bind_some, V.nth_zero, V.toList_list, wrap64]
theorem heap_spec {a b : Nat} {d : Array XE} (hab : a < b) (hb : b ≤ d.size) (hs : d.size < 1152921504606846976) :
    CC F_slices_heapSortCmpFunc_api_Expr_ [.int .i64 (a : Int), .int .i64 (b : Int), .list T_api_Expr (eA d)] = some [.list T_api_Expr (eA (heapSort ltE d a b))] := by
  refine f_slices_heapSortCmpFunc_api_Expr__of ?_
  unfold f_slices_heapSortCmpFunc_api_Expr_
  obtain ⟨x, y, h1⟩ := heap_1 (hi := b - a) (first := a) ((b - a - 1) / 2 + 1) d (by omega) (by omega) hs
  obtain ⟨x2, y2, h2⟩ := heap_2 (first := a) (b - a) (heapBuild ltE (b - a) a ((b - a - 1) / 2 + 1) d) (by omega) (by rw [heapBuild_size]; omega) (by rw [heapBuild_size]; omega)
  have e1 : ((((b - a - 1) / 2 + 1 : Nat) : Int) - 1) = Int.tdiv (((b - a : Nat) : Int) - 1) 2 := by
    rw [Int.tdiv_eq_ediv_of_nonneg (by omega)]
    omega
  rw [e1] at h1
  simp (disch := omega) only [subC, wrap64]
  rw [h1]
  simp only [Option.bind_some, un]
  rw [h2]
  rfl
theorem rev_loop : ∀ (n i j : Nat) (d : Array XE), j - i ≤ n → j < d.size → d.size < 1152921504606846976 →
    ∃ x y z, Loop (s_slices_reverseRangeCmpFunc_api_Expr__1L CC) ((i : Int), (j : Int), eA d) = some (x, y, z, eA (reverseLoop i j d)) := by
  intro n
  induction n with
  | zero =>
    intro i j d hn hj hs
    rw [reverseLoop, if_neg (by omega)]
    exact ⟨(i : Int), (j : Int), false, Loop_end (by
      simp (disch := omega) only [s_slices_reverseRangeCmpFunc_api_Expr__1L, s_slices_reverseRangeCmpFunc_api_Expr__1, un, dec_false, cond_false])⟩
  | succ n ih =>
    intro i j d hn hj hs
    rw [reverseLoop]
    by_cases h : i < j
    · rw [if_pos h]
      obtain ⟨x, y, z, h2⟩ := ih (i + 1) (j - 1) (swp d i j) (by omega) (by rw [size_swp]; omega) (by rw [size_swp]; omega)
      refine ⟨x, y, z, (Loop_norm ?_).trans h2⟩
      simp (disch := omega) only [s_slices_reverseRangeCmpFunc_api_Expr__1L, s_slices_reverseRangeCmpFunc_api_Expr__1, un, bif_decide, bif_and, bif_not, if_pos, if_neg, wrap64, succC, addC, Int.toNat_natCast, Option.bind_some, encA_length, encA_get, XE.enc_0, XE.enc_1, XE.enc_2, XE.re, encA_set, encA_get2, Array.size_setIfInBounds, compareX_spec, V.nth_zero, V.toInt_int, cond_true, cond_false, sub1C]
      rfl
    · rw [if_neg h]
      exact ⟨(i : Int), (j : Int), false, Loop_end (by
        simp (disch := omega) only [s_slices_reverseRangeCmpFunc_api_Expr__1L, s_slices_reverseRangeCmpFunc_api_Expr__1, un, dec_false, cond_false])⟩
theorem rev_spec {a b : Nat} {d : Array XE} (hab : a < b) (hb : b ≤ d.size) (hs : d.size < 1152921504606846976) :
    CC F_slices_reverseRangeCmpFunc_api_Expr_ [.int .i64 (a : Int), .int .i64 (b : Int), .list T_api_Expr (eA d)] = some [.list T_api_Expr (eA (reverseRange d a b))] := by
  refine f_slices_reverseRangeCmpFunc_api_Expr__of ?_
  unfold f_slices_reverseRangeCmpFunc_api_Expr_
  obtain ⟨x, y, z, h⟩ := rev_loop _ a (b - 1) d (Nat.le_refl _) (by omega) hs
  simp (disch := omega) only [sub1C, wrap64]
  rw [h]
  rfl
end Go.AM.SX
set_option maxRecDepth 100000
namespace Go.AM
open Go.Proofs
noncomputable abbrev B_slices_partitionCmpFunc_api_Expr_ : Code := bodyOf Try.prog (ann.fid 106)
noncomputable def s_slices_partitionCmpFunc_api_Expr__1 (C : CallF) (a j : Int) (datas : List V) (i : Int) {β : Type} (kn : Int → Option β) (kr : (Int × Bool) → Option β) : Option β :=
  bif decide ((i : Int) ≤ j) then
   bif (decide (0 ≤ i)) && (decide (i < (datas.length : Int))) then
    (datas[(i : Int).toNat]?).bind fun x5 =>
    bif (decide (0 ≤ a)) && (decide (a < (datas.length : Int))) then
     (datas[(a : Int).toNat]?).bind fun x6 =>
     (C F_expr_Compare [.int .i64 ((x5.cell 0).toInt), .int .i64 ((x5.cell 1).toInt), .list T_api_Expr ((x5.cell 2).toList), .int .i64 ((x6.cell 0).toInt), .int .i64 ((x6.cell 1).toInt), .list T_api_Expr ((x6.cell 2).toList)]).bind fun r7 =>
     bif decide ((((V.nth r7 0).toInt) : Int) < 0) then
      kn (IntKind.wrap .i64 (i + 1))
     else
      kr (i, decide ((((V.nth r7 0).toInt) : Int) < 0))
    else none
   else none
  else
   kr (i, false)
noncomputable def s_slices_partitionCmpFunc_api_Expr__1L (C : CallF) (a j : Int) (datas : List V) : (Int) → Option ((Int) ⊕ (Int × Bool)) := fun i => s_slices_partitionCmpFunc_api_Expr__1 C a j datas i (fun y => some (.inl y)) (fun r => some (.inr r))
noncomputable def s_slices_partitionCmpFunc_api_Expr__2 (C : CallF) (a i : Int) (datas : List V) (j : Int) {β : Type} (kn : Int → Option β) (kr : (Int × Bool) → Option β) : Option β :=
  bif decide ((i : Int) ≤ j) then
   bif (decide (0 ≤ j)) && (decide (j < (datas.length : Int))) then
    (datas[(j : Int).toNat]?).bind fun x10 =>
    bif (decide (0 ≤ a)) && (decide (a < (datas.length : Int))) then
     (datas[(a : Int).toNat]?).bind fun x11 =>
     (C F_expr_Compare [.int .i64 ((x10.cell 0).toInt), .int .i64 ((x10.cell 1).toInt), .list T_api_Expr ((x10.cell 2).toList), .int .i64 ((x11.cell 0).toInt), .int .i64 ((x11.cell 1).toInt), .list T_api_Expr ((x11.cell 2).toList)]).bind fun r12 =>
     bif !(decide ((((V.nth r12 0).toInt) : Int) < 0)) then
      kn (IntKind.wrap .i64 (j - 1))
     else
      kr (j, !(decide ((((V.nth r12 0).toInt) : Int) < 0)))
    else none
   else none
  else
   kr (j, false)
noncomputable def s_slices_partitionCmpFunc_api_Expr__2L (C : CallF) (a i : Int) (datas : List V) : (Int) → Option ((Int) ⊕ (Int × Bool)) := fun j => s_slices_partitionCmpFunc_api_Expr__2 C a i datas j (fun y => some (.inl y)) (fun r => some (.inr r))
noncomputable def s_slices_partitionCmpFunc_api_Expr__3 (C : CallF) (a j : Int) (datas : List V) (i : Int) {β : Type} (kn : Int → Option β) (kr : (Int × Bool) → Option β) : Option β :=
  bif decide ((i : Int) ≤ j) then
   bif (decide (0 ≤ i)) && (decide (i < (datas.length : Int))) then
    (datas[(i : Int).toNat]?).bind fun x23 =>
    bif (decide (0 ≤ a)) && (decide (a < (datas.length : Int))) then
     (datas[(a : Int).toNat]?).bind fun x24 =>
     (C F_expr_Compare [.int .i64 ((x23.cell 0).toInt), .int .i64 ((x23.cell 1).toInt), .list T_api_Expr ((x23.cell 2).toList), .int .i64 ((x24.cell 0).toInt), .int .i64 ((x24.cell 1).toInt), .list T_api_Expr ((x24.cell 2).toList)]).bind fun r25 =>
     bif decide ((((V.nth r25 0).toInt) : Int) < 0) then
      kn (IntKind.wrap .i64 (i + 1))
     else
      kr (i, decide ((((V.nth r25 0).toInt) : Int) < 0))
    else none
   else none
  else
   kr (i, false)
noncomputable def s_slices_partitionCmpFunc_api_Expr__3L (C : CallF) (a j : Int) (datas : List V) : (Int) → Option ((Int) ⊕ (Int × Bool)) := fun i => s_slices_partitionCmpFunc_api_Expr__3 C a j datas i (fun y => some (.inl y)) (fun r => some (.inr r))
noncomputable def s_slices_partitionCmpFunc_api_Expr__4 (C : CallF) (a i : Int) (datas : List V) (j : Int) {β : Type} (kn : Int → Option β) (kr : (Int × Bool) → Option β) : Option β :=
  bif decide ((i : Int) ≤ j) then
   bif (decide (0 ≤ j)) && (decide (j < (datas.length : Int))) then
    (datas[(j : Int).toNat]?).bind fun x28 =>
    bif (decide (0 ≤ a)) && (decide (a < (datas.length : Int))) then
     (datas[(a : Int).toNat]?).bind fun x29 =>
     (C F_expr_Compare [.int .i64 ((x28.cell 0).toInt), .int .i64 ((x28.cell 1).toInt), .list T_api_Expr ((x28.cell 2).toList), .int .i64 ((x29.cell 0).toInt), .int .i64 ((x29.cell 1).toInt), .list T_api_Expr ((x29.cell 2).toList)]).bind fun r30 =>
     bif !(decide ((((V.nth r30 0).toInt) : Int) < 0)) then
      kn (IntKind.wrap .i64 (j - 1))
     else
      kr (j, !(decide ((((V.nth r30 0).toInt) : Int) < 0)))
    else none
   else none
  else
   kr (j, false)
noncomputable def s_slices_partitionCmpFunc_api_Expr__4L (C : CallF) (a i : Int) (datas : List V) : (Int) → Option ((Int) ⊕ (Int × Bool)) := fun j => s_slices_partitionCmpFunc_api_Expr__4 C a i datas j (fun y => some (.inl y)) (fun r => some (.inr r))
noncomputable def s_slices_partitionCmpFunc_api_Expr__5 (C : CallF) (a i j : Int) (datas : List V) {β : Type} (kn : (Int × Int × (List V)) → Option β) (kr : (Int × Int × Bool × (List V)) → Option β) : Option β :=
  (Loop (s_slices_partitionCmpFunc_api_Expr__3L C a j datas) i).bind (un fun (i_26 : Int) (t_27 : Bool) =>
    (Loop (s_slices_partitionCmpFunc_api_Expr__4L C a i_26 datas) j).bind (un fun (j_31 : Int) (t_32 : Bool) =>
      bif decide ((i_26 : Int) > j_31) then
       kr (i_26, j_31, decide ((i_26 : Int) > j_31), datas)
      else
       bif (decide (0 ≤ j_31)) && (decide (j_31 < (datas.length : Int))) then
        (datas[(j_31 : Int).toNat]?).bind fun x33 =>
        bif (decide (0 ≤ i_26)) && (decide (i_26 < (datas.length : Int))) then
         (datas[(i_26 : Int).toNat]?).bind fun x34 =>
         bif (decide (0 ≤ i_26)) && (decide (i_26 < (datas.length : Int))) then
          (datas[(i_26 : Int).toNat]?).bind fun x35 =>
          bif (decide (0 ≤ j_31)) && (decide (j_31 < ((datas.set ((i_26 : Int).toNat) (.agg [.int .i64 ((x33.cell 0).toInt), .int .i64 ((x33.cell 1).toInt), .list T_api_Expr ((x33.cell 2).toList)])).length : Int))) then
           ((datas.set ((i_26 : Int).toNat) (.agg [.int .i64 ((x33.cell 0).toInt), .int .i64 ((x33.cell 1).toInt), .list T_api_Expr ((x33.cell 2).toList)]))[(j_31 : Int).toNat]?).bind fun x36 =>
           kn (IntKind.wrap .i64 (i_26 + 1), IntKind.wrap .i64 (j_31 - 1), (datas.set ((i_26 : Int).toNat) (.agg [.int .i64 ((x33.cell 0).toInt), .int .i64 ((x33.cell 1).toInt), .list T_api_Expr ((x33.cell 2).toList)])).set ((j_31 : Int).toNat) (.agg [.int .i64 ((x34.cell 0).toInt), .int .i64 ((x34.cell 1).toInt), .list T_api_Expr ((x34.cell 2).toList)]))
          else none
         else none
        else none
       else none))
noncomputable def s_slices_partitionCmpFunc_api_Expr__5L (C : CallF) (a : Int) : (Int × Int × (List V)) → Option ((Int × Int × (List V)) ⊕ (Int × Int × Bool × (List V))) := un fun i => un fun j datas => s_slices_partitionCmpFunc_api_Expr__5 C a i j datas (fun y => some (.inl y)) (fun r => some (.inr r))
noncomputable def LT_slices_partitionCmpFunc_api_Expr_ (C : CallF) : LTab := fun β n ds k =>
  bif Nat.beq n 49 then loopS S106_49 [false, true, false, false] [[1, 0, 3, 0, 4]] (@s_slices_partitionCmpFunc_api_Expr__1 C) ds k else
  bif Nat.beq n 81 then loopS S106_81 [false, false, true, false] [[1, 2, 0, 0, 4]] (@s_slices_partitionCmpFunc_api_Expr__2 C) ds k else
  bif Nat.beq n 209 then loopS S106_209 [false, true, false, false] [[1, 0, 3, 0, 4]] (@s_slices_partitionCmpFunc_api_Expr__3 C) ds k else
  bif Nat.beq n 241 then loopS S106_241 [false, false, true, false] [[1, 2, 0, 0, 4]] (@s_slices_partitionCmpFunc_api_Expr__4 C) ds k else
  bif Nat.beq n 210 then loopS S106_210 [false, true, true, true] [[1, 0, 0, 0, 0]] (@s_slices_partitionCmpFunc_api_Expr__5 C) ds k else
  none
abbrev TS_slices_partitionCmpFunc_api_Expr_ (C : CallF) (b : Bar) : Prop := Tells Try.prog ann C (LT_slices_partitionCmpFunc_api_Expr_ C) 106 (ntmpsOf Try.prog (ann.fid 106)) (ann.sin 106).blks.length b
theorem t_slices_partitionCmpFunc_api_Expr__1 (C : CallF) : TS_slices_partitionCmpFunc_api_Expr_ C (.loop (codeAt [1, 1, 1, 0, 0, 0] B_slices_partitionCmpFunc_api_Expr_)) :=
  tl3 S106_49 [false, true, false, false] [[1, 0, 3, 0, 4]] (@s_slices_partitionCmpFunc_api_Expr__1 C) (by kernel_rfl) (ltok_of (bs := []) (by kernel_rfl) tells_nil) (fun ds => by kernel_rfl) (fun i x => by kernel_rfl) (fun i x β k => by kernel_rfl) (fun β ds k => by kernel_rfl)
theorem t_slices_partitionCmpFunc_api_Expr__2 (C : CallF) : TS_slices_partitionCmpFunc_api_Expr_ C (.loop (codeAt [1, 1, 1, 1, 0, 0, 0] B_slices_partitionCmpFunc_api_Expr_)) :=
  tl3 S106_81 [false, false, true, false] [[1, 2, 0, 0, 4]] (@s_slices_partitionCmpFunc_api_Expr__2 C) (by kernel_rfl) (ltok_of (bs := []) (by kernel_rfl) tells_nil) (fun ds => by kernel_rfl) (fun i x => by kernel_rfl) (fun i x β k => by kernel_rfl) (fun β ds k => by kernel_rfl)
theorem t_slices_partitionCmpFunc_api_Expr__3 (C : CallF) : TS_slices_partitionCmpFunc_api_Expr_ C (.loop (codeAt [1, 1, 1, 1, 1, 1, 1, 1, 1, 0, 0, 0, 0, 0, 0, 0] B_slices_partitionCmpFunc_api_Expr_)) :=
  tl3 S106_209 [false, true, false, false] [[1, 0, 3, 0, 4]] (@s_slices_partitionCmpFunc_api_Expr__3 C) (by kernel_rfl) (ltok_of (bs := []) (by kernel_rfl) tells_nil) (fun ds => by kernel_rfl) (fun i x => by kernel_rfl) (fun i x β k => by kernel_rfl) (fun β ds k => by kernel_rfl)
theorem t_slices_partitionCmpFunc_api_Expr__4 (C : CallF) : TS_slices_partitionCmpFunc_api_Expr_ C (.loop (codeAt [1, 1, 1, 1, 1, 1, 1, 1, 1, 0, 0, 0, 0, 1, 0, 0, 0] B_slices_partitionCmpFunc_api_Expr_)) :=
  tl3 S106_241 [false, false, true, false] [[1, 2, 0, 0, 4]] (@s_slices_partitionCmpFunc_api_Expr__4 C) (by kernel_rfl) (ltok_of (bs := []) (by kernel_rfl) tells_nil) (fun ds => by kernel_rfl) (fun i x => by kernel_rfl) (fun i x β k => by kernel_rfl) (fun β ds k => by kernel_rfl)
theorem t_slices_partitionCmpFunc_api_Expr__5 (C : CallF) : TS_slices_partitionCmpFunc_api_Expr_ C (.loop (codeAt [1, 1, 1, 1, 1, 1, 1, 1, 1, 0, 0, 0] B_slices_partitionCmpFunc_api_Expr_)) :=
  tl3 S106_210 [false, true, true, true] [[1, 0, 0, 0, 0]] (@s_slices_partitionCmpFunc_api_Expr__5 C) (by kernel_rfl) (ltok_of (bs := [.loop (codeAt [1, 1, 1, 1, 1, 1, 1, 1, 1, 0, 0, 0, 0, 0, 0, 0] B_slices_partitionCmpFunc_api_Expr_), .loop (codeAt [1, 1, 1, 1, 1, 1, 1, 1, 1, 0, 0, 0, 0, 1, 0, 0, 0] B_slices_partitionCmpFunc_api_Expr_)]) (by kernel_rfl) (tells_cons (t_slices_partitionCmpFunc_api_Expr__3 C) (tells_cons (t_slices_partitionCmpFunc_api_Expr__4 C) tells_nil))) (fun ds => by kernel_rfl) (fun i x => by kernel_rfl) (fun i x β k => by kernel_rfl) (fun β ds k => by kernel_rfl)
noncomputable def f_slices_partitionCmpFunc_api_Expr_ (C : CallF) (a b' pivot : Int) (datas : List V) : Option (List V) :=
  bif (decide (0 ≤ pivot)) && (decide (pivot < (datas.length : Int))) then
   (datas[(pivot : Int).toNat]?).bind fun x1 =>
   bif (decide (0 ≤ a)) && (decide (a < (datas.length : Int))) then
    (datas[(a : Int).toNat]?).bind fun x2 =>
    bif (decide (0 ≤ a)) && (decide (a < (datas.length : Int))) then
     (datas[(a : Int).toNat]?).bind fun x3 =>
     bif (decide (0 ≤ pivot)) && (decide (pivot < ((datas.set ((a : Int).toNat) (.agg [.int .i64 ((x1.cell 0).toInt), .int .i64 ((x1.cell 1).toInt), .list T_api_Expr ((x1.cell 2).toList)])).length : Int))) then
      ((datas.set ((a : Int).toNat) (.agg [.int .i64 ((x1.cell 0).toInt), .int .i64 ((x1.cell 1).toInt), .list T_api_Expr ((x1.cell 2).toList)]))[(pivot : Int).toNat]?).bind fun x4 =>
      (Loop (s_slices_partitionCmpFunc_api_Expr__1L C a (IntKind.wrap .i64 (b' - 1)) ((datas.set ((a : Int).toNat) (.agg [.int .i64 ((x1.cell 0).toInt), .int .i64 ((x1.cell 1).toInt), .list T_api_Expr ((x1.cell 2).toList)])).set ((pivot : Int).toNat) (.agg [.int .i64 ((x2.cell 0).toInt), .int .i64 ((x2.cell 1).toInt), .list T_api_Expr ((x2.cell 2).toList)]))) (IntKind.wrap .i64 (a + 1))).bind (un fun (i_8 : Int) (t_9 : Bool) =>
        (Loop (s_slices_partitionCmpFunc_api_Expr__2L C a i_8 ((datas.set ((a : Int).toNat) (.agg [.int .i64 ((x1.cell 0).toInt), .int .i64 ((x1.cell 1).toInt), .list T_api_Expr ((x1.cell 2).toList)])).set ((pivot : Int).toNat) (.agg [.int .i64 ((x2.cell 0).toInt), .int .i64 ((x2.cell 1).toInt), .list T_api_Expr ((x2.cell 2).toList)]))) (IntKind.wrap .i64 (b' - 1))).bind (un fun (j_13 : Int) (t_14 : Bool) =>
          bif decide ((i_8 : Int) > j_13) then
           bif (decide (0 ≤ a)) && (decide (a < (((datas.set ((a : Int).toNat) (.agg [.int .i64 ((x1.cell 0).toInt), .int .i64 ((x1.cell 1).toInt), .list T_api_Expr ((x1.cell 2).toList)])).set ((pivot : Int).toNat) (.agg [.int .i64 ((x2.cell 0).toInt), .int .i64 ((x2.cell 1).toInt), .list T_api_Expr ((x2.cell 2).toList)])).length : Int))) then
            (((datas.set ((a : Int).toNat) (.agg [.int .i64 ((x1.cell 0).toInt), .int .i64 ((x1.cell 1).toInt), .list T_api_Expr ((x1.cell 2).toList)])).set ((pivot : Int).toNat) (.agg [.int .i64 ((x2.cell 0).toInt), .int .i64 ((x2.cell 1).toInt), .list T_api_Expr ((x2.cell 2).toList)]))[(a : Int).toNat]?).bind fun x15 =>
            bif (decide (0 ≤ j_13)) && (decide (j_13 < (((datas.set ((a : Int).toNat) (.agg [.int .i64 ((x1.cell 0).toInt), .int .i64 ((x1.cell 1).toInt), .list T_api_Expr ((x1.cell 2).toList)])).set ((pivot : Int).toNat) (.agg [.int .i64 ((x2.cell 0).toInt), .int .i64 ((x2.cell 1).toInt), .list T_api_Expr ((x2.cell 2).toList)])).length : Int))) then
             (((datas.set ((a : Int).toNat) (.agg [.int .i64 ((x1.cell 0).toInt), .int .i64 ((x1.cell 1).toInt), .list T_api_Expr ((x1.cell 2).toList)])).set ((pivot : Int).toNat) (.agg [.int .i64 ((x2.cell 0).toInt), .int .i64 ((x2.cell 1).toInt), .list T_api_Expr ((x2.cell 2).toList)]))[(j_13 : Int).toNat]?).bind fun x16 =>
             bif (decide (0 ≤ j_13)) && (decide (j_13 < (((datas.set ((a : Int).toNat) (.agg [.int .i64 ((x1.cell 0).toInt), .int .i64 ((x1.cell 1).toInt), .list T_api_Expr ((x1.cell 2).toList)])).set ((pivot : Int).toNat) (.agg [.int .i64 ((x2.cell 0).toInt), .int .i64 ((x2.cell 1).toInt), .list T_api_Expr ((x2.cell 2).toList)])).length : Int))) then
              (((datas.set ((a : Int).toNat) (.agg [.int .i64 ((x1.cell 0).toInt), .int .i64 ((x1.cell 1).toInt), .list T_api_Expr ((x1.cell 2).toList)])).set ((pivot : Int).toNat) (.agg [.int .i64 ((x2.cell 0).toInt), .int .i64 ((x2.cell 1).toInt), .list T_api_Expr ((x2.cell 2).toList)]))[(j_13 : Int).toNat]?).bind fun x17 =>
              bif (decide (0 ≤ a)) && (decide (a < ((((datas.set ((a : Int).toNat) (.agg [.int .i64 ((x1.cell 0).toInt), .int .i64 ((x1.cell 1).toInt), .list T_api_Expr ((x1.cell 2).toList)])).set ((pivot : Int).toNat) (.agg [.int .i64 ((x2.cell 0).toInt), .int .i64 ((x2.cell 1).toInt), .list T_api_Expr ((x2.cell 2).toList)])).set ((j_13 : Int).toNat) (.agg [.int .i64 ((x15.cell 0).toInt), .int .i64 ((x15.cell 1).toInt), .list T_api_Expr ((x15.cell 2).toList)])).length : Int))) then
               ((((datas.set ((a : Int).toNat) (.agg [.int .i64 ((x1.cell 0).toInt), .int .i64 ((x1.cell 1).toInt), .list T_api_Expr ((x1.cell 2).toList)])).set ((pivot : Int).toNat) (.agg [.int .i64 ((x2.cell 0).toInt), .int .i64 ((x2.cell 1).toInt), .list T_api_Expr ((x2.cell 2).toList)])).set ((j_13 : Int).toNat) (.agg [.int .i64 ((x15.cell 0).toInt), .int .i64 ((x15.cell 1).toInt), .list T_api_Expr ((x15.cell 2).toList)]))[(a : Int).toNat]?).bind fun x18 =>
               some [.int .i64 j_13, .bool true, .list T_api_Expr ((((datas.set ((a : Int).toNat) (.agg [.int .i64 ((x1.cell 0).toInt), .int .i64 ((x1.cell 1).toInt), .list T_api_Expr ((x1.cell 2).toList)])).set ((pivot : Int).toNat) (.agg [.int .i64 ((x2.cell 0).toInt), .int .i64 ((x2.cell 1).toInt), .list T_api_Expr ((x2.cell 2).toList)])).set ((j_13 : Int).toNat) (.agg [.int .i64 ((x15.cell 0).toInt), .int .i64 ((x15.cell 1).toInt), .list T_api_Expr ((x15.cell 2).toList)])).set ((a : Int).toNat) (.agg [.int .i64 ((x16.cell 0).toInt), .int .i64 ((x16.cell 1).toInt), .list T_api_Expr ((x16.cell 2).toList)]))]
              else none
             else none
            else none
           else none
          else
           bif (decide (0 ≤ j_13)) && (decide (j_13 < (((datas.set ((a : Int).toNat) (.agg [.int .i64 ((x1.cell 0).toInt), .int .i64 ((x1.cell 1).toInt), .list T_api_Expr ((x1.cell 2).toList)])).set ((pivot : Int).toNat) (.agg [.int .i64 ((x2.cell 0).toInt), .int .i64 ((x2.cell 1).toInt), .list T_api_Expr ((x2.cell 2).toList)])).length : Int))) then
            (((datas.set ((a : Int).toNat) (.agg [.int .i64 ((x1.cell 0).toInt), .int .i64 ((x1.cell 1).toInt), .list T_api_Expr ((x1.cell 2).toList)])).set ((pivot : Int).toNat) (.agg [.int .i64 ((x2.cell 0).toInt), .int .i64 ((x2.cell 1).toInt), .list T_api_Expr ((x2.cell 2).toList)]))[(j_13 : Int).toNat]?).bind fun x19 =>
            bif (decide (0 ≤ i_8)) && (decide (i_8 < (((datas.set ((a : Int).toNat) (.agg [.int .i64 ((x1.cell 0).toInt), .int .i64 ((x1.cell 1).toInt), .list T_api_Expr ((x1.cell 2).toList)])).set ((pivot : Int).toNat) (.agg [.int .i64 ((x2.cell 0).toInt), .int .i64 ((x2.cell 1).toInt), .list T_api_Expr ((x2.cell 2).toList)])).length : Int))) then
             (((datas.set ((a : Int).toNat) (.agg [.int .i64 ((x1.cell 0).toInt), .int .i64 ((x1.cell 1).toInt), .list T_api_Expr ((x1.cell 2).toList)])).set ((pivot : Int).toNat) (.agg [.int .i64 ((x2.cell 0).toInt), .int .i64 ((x2.cell 1).toInt), .list T_api_Expr ((x2.cell 2).toList)]))[(i_8 : Int).toNat]?).bind fun x20 =>
             bif (decide (0 ≤ i_8)) && (decide (i_8 < (((datas.set ((a : Int).toNat) (.agg [.int .i64 ((x1.cell 0).toInt), .int .i64 ((x1.cell 1).toInt), .list T_api_Expr ((x1.cell 2).toList)])).set ((pivot : Int).toNat) (.agg [.int .i64 ((x2.cell 0).toInt), .int .i64 ((x2.cell 1).toInt), .list T_api_Expr ((x2.cell 2).toList)])).length : Int))) then
              (((datas.set ((a : Int).toNat) (.agg [.int .i64 ((x1.cell 0).toInt), .int .i64 ((x1.cell 1).toInt), .list T_api_Expr ((x1.cell 2).toList)])).set ((pivot : Int).toNat) (.agg [.int .i64 ((x2.cell 0).toInt), .int .i64 ((x2.cell 1).toInt), .list T_api_Expr ((x2.cell 2).toList)]))[(i_8 : Int).toNat]?).bind fun x21 =>
              bif (decide (0 ≤ j_13)) && (decide (j_13 < ((((datas.set ((a : Int).toNat) (.agg [.int .i64 ((x1.cell 0).toInt), .int .i64 ((x1.cell 1).toInt), .list T_api_Expr ((x1.cell 2).toList)])).set ((pivot : Int).toNat) (.agg [.int .i64 ((x2.cell 0).toInt), .int .i64 ((x2.cell 1).toInt), .list T_api_Expr ((x2.cell 2).toList)])).set ((i_8 : Int).toNat) (.agg [.int .i64 ((x19.cell 0).toInt), .int .i64 ((x19.cell 1).toInt), .list T_api_Expr ((x19.cell 2).toList)])).length : Int))) then
               ((((datas.set ((a : Int).toNat) (.agg [.int .i64 ((x1.cell 0).toInt), .int .i64 ((x1.cell 1).toInt), .list T_api_Expr ((x1.cell 2).toList)])).set ((pivot : Int).toNat) (.agg [.int .i64 ((x2.cell 0).toInt), .int .i64 ((x2.cell 1).toInt), .list T_api_Expr ((x2.cell 2).toList)])).set ((i_8 : Int).toNat) (.agg [.int .i64 ((x19.cell 0).toInt), .int .i64 ((x19.cell 1).toInt), .list T_api_Expr ((x19.cell 2).toList)]))[(j_13 : Int).toNat]?).bind fun x22 =>
               (Loop (s_slices_partitionCmpFunc_api_Expr__5L C a) (IntKind.wrap .i64 (i_8 + 1), IntKind.wrap .i64 (j_13 - 1), (((datas.set ((a : Int).toNat) (.agg [.int .i64 ((x1.cell 0).toInt), .int .i64 ((x1.cell 1).toInt), .list T_api_Expr ((x1.cell 2).toList)])).set ((pivot : Int).toNat) (.agg [.int .i64 ((x2.cell 0).toInt), .int .i64 ((x2.cell 1).toInt), .list T_api_Expr ((x2.cell 2).toList)])).set ((i_8 : Int).toNat) (.agg [.int .i64 ((x19.cell 0).toInt), .int .i64 ((x19.cell 1).toInt), .list T_api_Expr ((x19.cell 2).toList)])).set ((j_13 : Int).toNat) (.agg [.int .i64 ((x20.cell 0).toInt), .int .i64 ((x20.cell 1).toInt), .list T_api_Expr ((x20.cell 2).toList)]))).bind (un fun (i_37 : Int) => un fun (j_38 : Int) => un fun (t_39 : Bool) (datas_40 : List V) =>
                 bif (decide (0 ≤ a)) && (decide (a < (datas_40.length : Int))) then
                  (datas_40[(a : Int).toNat]?).bind fun x41 =>
                  bif (decide (0 ≤ j_38)) && (decide (j_38 < (datas_40.length : Int))) then
                   (datas_40[(j_38 : Int).toNat]?).bind fun x42 =>
                   bif (decide (0 ≤ j_38)) && (decide (j_38 < (datas_40.length : Int))) then
                    (datas_40[(j_38 : Int).toNat]?).bind fun x43 =>
                    bif (decide (0 ≤ a)) && (decide (a < ((datas_40.set ((j_38 : Int).toNat) (.agg [.int .i64 ((x41.cell 0).toInt), .int .i64 ((x41.cell 1).toInt), .list T_api_Expr ((x41.cell 2).toList)])).length : Int))) then
                     ((datas_40.set ((j_38 : Int).toNat) (.agg [.int .i64 ((x41.cell 0).toInt), .int .i64 ((x41.cell 1).toInt), .list T_api_Expr ((x41.cell 2).toList)]))[(a : Int).toNat]?).bind fun x44 =>
                     some [.int .i64 j_38, .bool false, .list T_api_Expr ((datas_40.set ((j_38 : Int).toNat) (.agg [.int .i64 ((x41.cell 0).toInt), .int .i64 ((x41.cell 1).toInt), .list T_api_Expr ((x41.cell 2).toList)])).set ((a : Int).toNat) (.agg [.int .i64 ((x42.cell 0).toInt), .int .i64 ((x42.cell 1).toInt), .list T_api_Expr ((x42.cell 2).toList)]))]
                    else none
                   else none
                  else none
                 else none)
              else none
             else none
            else none
           else none))
     else none
    else none
   else none
  else none
theorem f_slices_partitionCmpFunc_api_Expr__of {a b' pivot : Int} {datas : List V} {r : Option (List V)} (h : f_slices_partitionCmpFunc_api_Expr_ CC a b' pivot datas = r) : CC F_slices_partitionCmpFunc_api_Expr_ [.int .i64 a, .int .i64 b', .int .i64 pivot, .list T_api_Expr datas] = r :=
  func_of (key := 106) (L := LT_slices_partitionCmpFunc_api_Expr_ CC) (bs := [.loop (codeAt [1, 1, 1, 0, 0, 0] B_slices_partitionCmpFunc_api_Expr_), .loop (codeAt [1, 1, 1, 1, 0, 0, 0] B_slices_partitionCmpFunc_api_Expr_), .loop (codeAt [1, 1, 1, 1, 1, 1, 1, 1, 1, 0, 0, 0] B_slices_partitionCmpFunc_api_Expr_)]) (by kernel_rfl) (tells_cons (t_slices_partitionCmpFunc_api_Expr__1 CC) (tells_cons (t_slices_partitionCmpFunc_api_Expr__2 CC) (tells_cons (t_slices_partitionCmpFunc_api_Expr__5 CC) tells_nil))) (Eq.trans (by kernel_rfl) h)
end Go.AM
set_option maxRecDepth 100000
namespace Go.AM
open Go.Proofs
noncomputable abbrev B_slices_partitionEqualCmpFunc_api_Expr_ : Code := bodyOf Try.prog (ann.fid 105)
noncomputable def s_slices_partitionEqualCmpFunc_api_Expr__1 (C : CallF) (a j : Int) (datas : List V) (i : Int) {β : Type} (kn : Int → Option β) (kr : (Int × Bool) → Option β) : Option β :=
  bif decide ((i : Int) ≤ j) then
   bif (decide (0 ≤ a)) && (decide (a < (datas.length : Int))) then
    (datas[(a : Int).toNat]?).bind fun x5 =>
    bif (decide (0 ≤ i)) && (decide (i < (datas.length : Int))) then
     (datas[(i : Int).toNat]?).bind fun x6 =>
     (C F_expr_Compare [.int .i64 ((x5.cell 0).toInt), .int .i64 ((x5.cell 1).toInt), .list T_api_Expr ((x5.cell 2).toList), .int .i64 ((x6.cell 0).toInt), .int .i64 ((x6.cell 1).toInt), .list T_api_Expr ((x6.cell 2).toList)]).bind fun r7 =>
     bif !(decide ((((V.nth r7 0).toInt) : Int) < 0)) then
      kn (IntKind.wrap .i64 (i + 1))
     else
      kr (i, !(decide ((((V.nth r7 0).toInt) : Int) < 0)))
    else none
   else none
  else
   kr (i, false)
noncomputable def s_slices_partitionEqualCmpFunc_api_Expr__1L (C : CallF) (a j : Int) (datas : List V) : (Int) → Option ((Int) ⊕ (Int × Bool)) := fun i => s_slices_partitionEqualCmpFunc_api_Expr__1 C a j datas i (fun y => some (.inl y)) (fun r => some (.inr r))
noncomputable def s_slices_partitionEqualCmpFunc_api_Expr__2 (C : CallF) (a i : Int) (datas : List V) (j : Int) {β : Type} (kn : Int → Option β) (kr : (Int × Bool) → Option β) : Option β :=
  bif decide ((i : Int) ≤ j) then
   bif (decide (0 ≤ a)) && (decide (a < (datas.length : Int))) then
    (datas[(a : Int).toNat]?).bind fun x10 =>
    bif (decide (0 ≤ j)) && (decide (j < (datas.length : Int))) then
     (datas[(j : Int).toNat]?).bind fun x11 =>
     (C F_expr_Compare [.int .i64 ((x10.cell 0).toInt), .int .i64 ((x10.cell 1).toInt), .list T_api_Expr ((x10.cell 2).toList), .int .i64 ((x11.cell 0).toInt), .int .i64 ((x11.cell 1).toInt), .list T_api_Expr ((x11.cell 2).toList)]).bind fun r12 =>
     bif decide ((((V.nth r12 0).toInt) : Int) < 0) then
      kn (IntKind.wrap .i64 (j - 1))
     else
      kr (j, decide ((((V.nth r12 0).toInt) : Int) < 0))
    else none
   else none
  else
   kr (j, false)
noncomputable def s_slices_partitionEqualCmpFunc_api_Expr__2L (C : CallF) (a i : Int) (datas : List V) : (Int) → Option ((Int) ⊕ (Int × Bool)) := fun j => s_slices_partitionEqualCmpFunc_api_Expr__2 C a i datas j (fun y => some (.inl y)) (fun r => some (.inr r))
noncomputable def s_slices_partitionEqualCmpFunc_api_Expr__3 (C : CallF) (a i j : Int) (datas : List V) {β : Type} (kn : (Int × Int × (List V)) → Option β) (kr : (Int × Int × Bool × (List V)) → Option β) : Option β :=
  (Loop (s_slices_partitionEqualCmpFunc_api_Expr__1L C a j datas) i).bind (un fun (i_8 : Int) (t_9 : Bool) =>
    (Loop (s_slices_partitionEqualCmpFunc_api_Expr__2L C a i_8 datas) j).bind (un fun (j_13 : Int) (t_14 : Bool) =>
      bif decide ((i_8 : Int) > j_13) then
       kr (i_8, j_13, decide ((i_8 : Int) > j_13), datas)
      else
       bif (decide (0 ≤ j_13)) && (decide (j_13 < (datas.length : Int))) then
        (datas[(j_13 : Int).toNat]?).bind fun x15 =>
        bif (decide (0 ≤ i_8)) && (decide (i_8 < (datas.length : Int))) then
         (datas[(i_8 : Int).toNat]?).bind fun x16 =>
         bif (decide (0 ≤ i_8)) && (decide (i_8 < (datas.length : Int))) then
          (datas[(i_8 : Int).toNat]?).bind fun x17 =>
          bif (decide (0 ≤ j_13)) && (decide (j_13 < ((datas.set ((i_8 : Int).toNat) (.agg [.int .i64 ((x15.cell 0).toInt), .int .i64 ((x15.cell 1).toInt), .list T_api_Expr ((x15.cell 2).toList)])).length : Int))) then
           ((datas.set ((i_8 : Int).toNat) (.agg [.int .i64 ((x15.cell 0).toInt), .int .i64 ((x15.cell 1).toInt), .list T_api_Expr ((x15.cell 2).toList)]))[(j_13 : Int).toNat]?).bind fun x18 =>
           kn (IntKind.wrap .i64 (i_8 + 1), IntKind.wrap .i64 (j_13 - 1), (datas.set ((i_8 : Int).toNat) (.agg [.int .i64 ((x15.cell 0).toInt), .int .i64 ((x15.cell 1).toInt), .list T_api_Expr ((x15.cell 2).toList)])).set ((j_13 : Int).toNat) (.agg [.int .i64 ((x16.cell 0).toInt), .int .i64 ((x16.cell 1).toInt), .list T_api_Expr ((x16.cell 2).toList)]))
          else none
         else none
        else none
       else none))
noncomputable def s_slices_partitionEqualCmpFunc_api_Expr__3L (C : CallF) (a : Int) : (Int × Int × (List V)) → Option ((Int × Int × (List V)) ⊕ (Int × Int × Bool × (List V))) := un fun i => un fun j datas => s_slices_partitionEqualCmpFunc_api_Expr__3 C a i j datas (fun y => some (.inl y)) (fun r => some (.inr r))
noncomputable def LT_slices_partitionEqualCmpFunc_api_Expr_ (C : CallF) : LTab := fun β n ds k =>
  bif Nat.beq n 49 then loopS S105_49 [false, true, false, false] [[1, 0, 3, 0, 4]] (@s_slices_partitionEqualCmpFunc_api_Expr__1 C) ds k else
  bif Nat.beq n 81 then loopS S105_81 [false, false, true, false] [[1, 2, 0, 0, 4]] (@s_slices_partitionEqualCmpFunc_api_Expr__2 C) ds k else
  bif Nat.beq n 50 then loopS S105_50 [false, true, true, true] [[1, 0, 0, 0, 0]] (@s_slices_partitionEqualCmpFunc_api_Expr__3 C) ds k else
  none
abbrev TS_slices_partitionEqualCmpFunc_api_Expr_ (C : CallF) (b : Bar) : Prop := Tells Try.prog ann C (LT_slices_partitionEqualCmpFunc_api_Expr_ C) 105 (ntmpsOf Try.prog (ann.fid 105)) (ann.sin 105).blks.length b
theorem t_slices_partitionEqualCmpFunc_api_Expr__1 (C : CallF) : TS_slices_partitionEqualCmpFunc_api_Expr_ C (.loop (codeAt [1, 1, 1, 0, 0, 0, 0, 0, 0, 0] B_slices_partitionEqualCmpFunc_api_Expr_)) :=
  tl3 S105_49 [false, true, false, false] [[1, 0, 3, 0, 4]] (@s_slices_partitionEqualCmpFunc_api_Expr__1 C) (by kernel_rfl) (ltok_of (bs := []) (by kernel_rfl) tells_nil) (fun ds => by kernel_rfl) (fun i x => by kernel_rfl) (fun i x β k => by kernel_rfl) (fun β ds k => by kernel_rfl)
theorem t_slices_partitionEqualCmpFunc_api_Expr__2 (C : CallF) : TS_slices_partitionEqualCmpFunc_api_Expr_ C (.loop (codeAt [1, 1, 1, 0, 0, 0, 0, 1, 0, 0, 0] B_slices_partitionEqualCmpFunc_api_Expr_)) :=
  tl3 S105_81 [false, false, true, false] [[1, 2, 0, 0, 4]] (@s_slices_partitionEqualCmpFunc_api_Expr__2 C) (by kernel_rfl) (ltok_of (bs := []) (by kernel_rfl) tells_nil) (fun ds => by kernel_rfl) (fun i x => by kernel_rfl) (fun i x β k => by kernel_rfl) (fun β ds k => by kernel_rfl)
theorem t_slices_partitionEqualCmpFunc_api_Expr__3 (C : CallF) : TS_slices_partitionEqualCmpFunc_api_Expr_ C (.loop (codeAt [1, 1, 1, 0, 0, 0] B_slices_partitionEqualCmpFunc_api_Expr_)) :=
  tl3 S105_50 [false, true, true, true] [[1, 0, 0, 0, 0]] (@s_slices_partitionEqualCmpFunc_api_Expr__3 C) (by kernel_rfl) (ltok_of (bs := [.loop (codeAt [1, 1, 1, 0, 0, 0, 0, 0, 0, 0] B_slices_partitionEqualCmpFunc_api_Expr_), .loop (codeAt [1, 1, 1, 0, 0, 0, 0, 1, 0, 0, 0] B_slices_partitionEqualCmpFunc_api_Expr_)]) (by kernel_rfl) (tells_cons (t_slices_partitionEqualCmpFunc_api_Expr__1 C) (tells_cons (t_slices_partitionEqualCmpFunc_api_Expr__2 C) tells_nil))) (fun ds => by kernel_rfl) (fun i x => by kernel_rfl) (fun i x β k => by kernel_rfl) (fun β ds k => by kernel_rfl)
noncomputable def f_slices_partitionEqualCmpFunc_api_Expr_ (C : CallF) (a b' pivot : Int) (datas : List V) : Option (List V) :=
  bif (decide (0 ≤ pivot)) && (decide (pivot < (datas.length : Int))) then
   (datas[(pivot : Int).toNat]?).bind fun x1 =>
   bif (decide (0 ≤ a)) && (decide (a < (datas.length : Int))) then
    (datas[(a : Int).toNat]?).bind fun x2 =>
    bif (decide (0 ≤ a)) && (decide (a < (datas.length : Int))) then
     (datas[(a : Int).toNat]?).bind fun x3 =>
     bif (decide (0 ≤ pivot)) && (decide (pivot < ((datas.set ((a : Int).toNat) (.agg [.int .i64 ((x1.cell 0).toInt), .int .i64 ((x1.cell 1).toInt), .list T_api_Expr ((x1.cell 2).toList)])).length : Int))) then
      ((datas.set ((a : Int).toNat) (.agg [.int .i64 ((x1.cell 0).toInt), .int .i64 ((x1.cell 1).toInt), .list T_api_Expr ((x1.cell 2).toList)]))[(pivot : Int).toNat]?).bind fun x4 =>
      (Loop (s_slices_partitionEqualCmpFunc_api_Expr__3L C a) (IntKind.wrap .i64 (a + 1), IntKind.wrap .i64 (b' - 1), (datas.set ((a : Int).toNat) (.agg [.int .i64 ((x1.cell 0).toInt), .int .i64 ((x1.cell 1).toInt), .list T_api_Expr ((x1.cell 2).toList)])).set ((pivot : Int).toNat) (.agg [.int .i64 ((x2.cell 0).toInt), .int .i64 ((x2.cell 1).toInt), .list T_api_Expr ((x2.cell 2).toList)]))).bind (un fun (i_19 : Int) => un fun (j_20 : Int) => un fun (t_21 : Bool) (datas_22 : List V) =>
        some [.int .i64 i_19, .list T_api_Expr datas_22])
     else none
    else none
   else none
  else none
theorem f_slices_partitionEqualCmpFunc_api_Expr__of {a b' pivot : Int} {datas : List V} {r : Option (List V)} (h : f_slices_partitionEqualCmpFunc_api_Expr_ CC a b' pivot datas = r) : CC F_slices_partitionEqualCmpFunc_api_Expr_ [.int .i64 a, .int .i64 b', .int .i64 pivot, .list T_api_Expr datas] = r :=
  func_of (key := 105) (L := LT_slices_partitionEqualCmpFunc_api_Expr_ CC) (bs := [.loop (codeAt [1, 1, 1, 0, 0, 0] B_slices_partitionEqualCmpFunc_api_Expr_)]) (by kernel_rfl) (tells_cons (t_slices_partitionEqualCmpFunc_api_Expr__3 CC) tells_nil) (Eq.trans (by kernel_rfl) h)
end Go.AM
set_option maxRecDepth 100000
namespace Go.AM
open Go.Proofs
noncomputable abbrev B_slices_partialInsertionSortCmpFunc_api_Expr_ : Code := bodyOf Try.prog (ann.fid 104)
noncomputable def s_slices_partialInsertionSortCmpFunc_api_Expr__1 (C : CallF) (a b' j : Int) (datas : List V) (i : Int) {β : Type} (kn : Int → Option β) (kr : (Int × Bool) → Option β) : Option β :=
  bif decide ((i : Int) < b') then
   bif (decide (0 ≤ i)) && (decide (i < (datas.length : Int))) then
    (datas[(i : Int).toNat]?).bind fun x1 =>
    bif (decide (0 ≤ (IntKind.wrap .i64 (i - 1)))) && (decide ((IntKind.wrap .i64 (i - 1)) < (datas.length : Int))) then
     (datas[(IntKind.wrap .i64 (i - 1) : Int).toNat]?).bind fun x2 =>
     (C F_expr_Compare [.int .i64 ((x1.cell 0).toInt), .int .i64 ((x1.cell 1).toInt), .list T_api_Expr ((x1.cell 2).toList), .int .i64 ((x2.cell 0).toInt), .int .i64 ((x2.cell 1).toInt), .list T_api_Expr ((x2.cell 2).toList)]).bind fun r3 =>
     bif !(decide ((((V.nth r3 0).toInt) : Int) < 0)) then
      kn (IntKind.wrap .i64 (i + 1))
     else
      kr (i, !(decide ((((V.nth r3 0).toInt) : Int) < 0)))
    else none
   else none
  else
   kr (i, false)
noncomputable def s_slices_partialInsertionSortCmpFunc_api_Expr__1L (C : CallF) (a b' j : Int) (datas : List V) : (Int) → Option ((Int) ⊕ (Int × Bool)) := fun i => s_slices_partialInsertionSortCmpFunc_api_Expr__1 C a b' j datas i (fun y => some (.inl y)) (fun r => some (.inr r))
noncomputable def s_slices_partialInsertionSortCmpFunc_api_Expr__2 (C : CallF) (a b' i j j' : Int) (datas : List V) {β : Type} (kn : (Int × (List V)) → Option β) (kr : (Int × (List V)) → Option β) : Option β :=
  bif decide ((j' : Int) ≥ 1) then
   bif (decide (0 ≤ j')) && (decide (j' < (datas.length : Int))) then
    (datas[(j' : Int).toNat]?).bind fun x10 =>
    bif (decide (0 ≤ (IntKind.wrap .i64 (j' - 1)))) && (decide ((IntKind.wrap .i64 (j' - 1)) < (datas.length : Int))) then
     (datas[(IntKind.wrap .i64 (j' - 1) : Int).toNat]?).bind fun x11 =>
     (C F_expr_Compare [.int .i64 ((x10.cell 0).toInt), .int .i64 ((x10.cell 1).toInt), .list T_api_Expr ((x10.cell 2).toList), .int .i64 ((x11.cell 0).toInt), .int .i64 ((x11.cell 1).toInt), .list T_api_Expr ((x11.cell 2).toList)]).bind fun r12 =>
     bif !(decide ((((V.nth r12 0).toInt) : Int) < 0)) then
      kr (j', datas)
     else
      bif (decide (0 ≤ (IntKind.wrap .i64 (j' - 1)))) && (decide ((IntKind.wrap .i64 (j' - 1)) < (datas.length : Int))) then
       (datas[(IntKind.wrap .i64 (j' - 1) : Int).toNat]?).bind fun x13 =>
       bif (decide (0 ≤ j')) && (decide (j' < (datas.length : Int))) then
        (datas[(j' : Int).toNat]?).bind fun x14 =>
        bif (decide (0 ≤ j')) && (decide (j' < (datas.length : Int))) then
         (datas[(j' : Int).toNat]?).bind fun x15 =>
         bif (decide (0 ≤ (IntKind.wrap .i64 (j' - 1)))) && (decide ((IntKind.wrap .i64 (j' - 1)) < ((datas.set ((j' : Int).toNat) (.agg [.int .i64 ((x13.cell 0).toInt), .int .i64 ((x13.cell 1).toInt), .list T_api_Expr ((x13.cell 2).toList)])).length : Int))) then
          ((datas.set ((j' : Int).toNat) (.agg [.int .i64 ((x13.cell 0).toInt), .int .i64 ((x13.cell 1).toInt), .list T_api_Expr ((x13.cell 2).toList)]))[(IntKind.wrap .i64 (j' - 1) : Int).toNat]?).bind fun x16 =>
          kn (IntKind.wrap .i64 (j' - 1), (datas.set ((j' : Int).toNat) (.agg [.int .i64 ((x13.cell 0).toInt), .int .i64 ((x13.cell 1).toInt), .list T_api_Expr ((x13.cell 2).toList)])).set ((IntKind.wrap .i64 (j' - 1) : Int).toNat) (.agg [.int .i64 ((x14.cell 0).toInt), .int .i64 ((x14.cell 1).toInt), .list T_api_Expr ((x14.cell 2).toList)]))
         else none
        else none
       else none
      else none
    else none
   else none
  else
   kr (j', datas)
noncomputable def s_slices_partialInsertionSortCmpFunc_api_Expr__2L (C : CallF) (a b' i j : Int) : (Int × (List V)) → Option ((Int × (List V)) ⊕ (Int × (List V))) := un fun j' datas => s_slices_partialInsertionSortCmpFunc_api_Expr__2 C a b' i j j' datas (fun y => some (.inl y)) (fun r => some (.inr r))
noncomputable def s_slices_partialInsertionSortCmpFunc_api_Expr__3 (C : CallF) (a b' i j : Int) (t65 : Bool) (datas : List V) {β : Type} (kr : (List V) → Option β) : Option β :=
  bif t65 then
   (Loop (s_slices_partialInsertionSortCmpFunc_api_Expr__2L C a b' i j) (IntKind.wrap .i64 (i - 1), datas)).bind (un fun (j_17 : Int) (datas_18 : List V) =>
     kr datas_18)
  else
   kr datas
noncomputable def s_slices_partialInsertionSortCmpFunc_api_Expr__4 (C : CallF) (a b' i j j' : Int) (datas : List V) {β : Type} (kn : (Int × (List V)) → Option β) (kr : (Int × (List V)) → Option β) : Option β :=
  bif decide ((j' : Int) < b') then
   bif (decide (0 ≤ j')) && (decide (j' < (datas.length : Int))) then
    (datas[(j' : Int).toNat]?).bind fun x20 =>
    bif (decide (0 ≤ (IntKind.wrap .i64 (j' - 1)))) && (decide ((IntKind.wrap .i64 (j' - 1)) < (datas.length : Int))) then
     (datas[(IntKind.wrap .i64 (j' - 1) : Int).toNat]?).bind fun x21 =>
     (C F_expr_Compare [.int .i64 ((x20.cell 0).toInt), .int .i64 ((x20.cell 1).toInt), .list T_api_Expr ((x20.cell 2).toList), .int .i64 ((x21.cell 0).toInt), .int .i64 ((x21.cell 1).toInt), .list T_api_Expr ((x21.cell 2).toList)]).bind fun r22 =>
     bif !(decide ((((V.nth r22 0).toInt) : Int) < 0)) then
      kr (j', datas)
     else
      bif (decide (0 ≤ (IntKind.wrap .i64 (j' - 1)))) && (decide ((IntKind.wrap .i64 (j' - 1)) < (datas.length : Int))) then
       (datas[(IntKind.wrap .i64 (j' - 1) : Int).toNat]?).bind fun x23 =>
       bif (decide (0 ≤ j')) && (decide (j' < (datas.length : Int))) then
        (datas[(j' : Int).toNat]?).bind fun x24 =>
        bif (decide (0 ≤ j')) && (decide (j' < (datas.length : Int))) then
         (datas[(j' : Int).toNat]?).bind fun x25 =>
         bif (decide (0 ≤ (IntKind.wrap .i64 (j' - 1)))) && (decide ((IntKind.wrap .i64 (j' - 1)) < ((datas.set ((j' : Int).toNat) (.agg [.int .i64 ((x23.cell 0).toInt), .int .i64 ((x23.cell 1).toInt), .list T_api_Expr ((x23.cell 2).toList)])).length : Int))) then
          ((datas.set ((j' : Int).toNat) (.agg [.int .i64 ((x23.cell 0).toInt), .int .i64 ((x23.cell 1).toInt), .list T_api_Expr ((x23.cell 2).toList)]))[(IntKind.wrap .i64 (j' - 1) : Int).toNat]?).bind fun x26 =>
          kn (IntKind.wrap .i64 (j' + 1), (datas.set ((j' : Int).toNat) (.agg [.int .i64 ((x23.cell 0).toInt), .int .i64 ((x23.cell 1).toInt), .list T_api_Expr ((x23.cell 2).toList)])).set ((IntKind.wrap .i64 (j' - 1) : Int).toNat) (.agg [.int .i64 ((x24.cell 0).toInt), .int .i64 ((x24.cell 1).toInt), .list T_api_Expr ((x24.cell 2).toList)]))
         else none
        else none
       else none
      else none
    else none
   else none
  else
   kr (j', datas)
noncomputable def s_slices_partialInsertionSortCmpFunc_api_Expr__4L (C : CallF) (a b' i j : Int) : (Int × (List V)) → Option ((Int × (List V)) ⊕ (Int × (List V))) := un fun j' datas => s_slices_partialInsertionSortCmpFunc_api_Expr__4 C a b' i j j' datas (fun y => some (.inl y)) (fun r => some (.inr r))
noncomputable def s_slices_partialInsertionSortCmpFunc_api_Expr__5 (C : CallF) (a b' i j : Int) (datas : List V) {β : Type} (kn : (Int × Int × (List V)) → Option β) (kr : ((Bool × (List V)) ⊕ (Int × Int × Bool × (List V))) → Option β) : Option β :=
  bif decide ((j : Int) < 5) then
   (Loop (s_slices_partialInsertionSortCmpFunc_api_Expr__1L C a b' j datas) i).bind (un fun (i_4 : Int) (t_5 : Bool) =>
     bif (i_4 : Int) == b' then
      kr (.inl (true, datas))
     else
      bif decide (((IntKind.wrap .i64 (b' - a)) : Int) < 50) then
       kr (.inl (false, datas))
      else
       bif (decide (0 ≤ (IntKind.wrap .i64 (i_4 - 1)))) && (decide ((IntKind.wrap .i64 (i_4 - 1)) < (datas.length : Int))) then
        (datas[(IntKind.wrap .i64 (i_4 - 1) : Int).toNat]?).bind fun x6 =>
        bif (decide (0 ≤ i_4)) && (decide (i_4 < (datas.length : Int))) then
         (datas[(i_4 : Int).toNat]?).bind fun x7 =>
         bif (decide (0 ≤ i_4)) && (decide (i_4 < (datas.length : Int))) then
          (datas[(i_4 : Int).toNat]?).bind fun x8 =>
          bif (decide (0 ≤ (IntKind.wrap .i64 (i_4 - 1)))) && (decide ((IntKind.wrap .i64 (i_4 - 1)) < ((datas.set ((i_4 : Int).toNat) (.agg [.int .i64 ((x6.cell 0).toInt), .int .i64 ((x6.cell 1).toInt), .list T_api_Expr ((x6.cell 2).toList)])).length : Int))) then
           ((datas.set ((i_4 : Int).toNat) (.agg [.int .i64 ((x6.cell 0).toInt), .int .i64 ((x6.cell 1).toInt), .list T_api_Expr ((x6.cell 2).toList)]))[(IntKind.wrap .i64 (i_4 - 1) : Int).toNat]?).bind fun x9 =>
           s_slices_partialInsertionSortCmpFunc_api_Expr__3 C a b' i_4 j (decide (((IntKind.wrap .i64 (i_4 - a)) : Int) ≥ 2)) ((datas.set ((i_4 : Int).toNat) (.agg [.int .i64 ((x6.cell 0).toInt), .int .i64 ((x6.cell 1).toInt), .list T_api_Expr ((x6.cell 2).toList)])).set ((IntKind.wrap .i64 (i_4 - 1) : Int).toNat) (.agg [.int .i64 ((x7.cell 0).toInt), .int .i64 ((x7.cell 1).toInt), .list T_api_Expr ((x7.cell 2).toList)])) (fun (datas_19 : List V) =>
             bif decide (((IntKind.wrap .i64 (b' - i_4)) : Int) ≥ 2) then
              (Loop (s_slices_partialInsertionSortCmpFunc_api_Expr__4L C a b' i_4 j) (IntKind.wrap .i64 (i_4 + 1), datas_19)).bind (un fun (j_27 : Int) (datas_28 : List V) =>
                kn (i_4, IntKind.wrap .i64 (j + 1), datas_28))
             else
              kn (i_4, IntKind.wrap .i64 (j + 1), datas_19))
          else none
         else none
        else none
       else none)
  else
   kr (.inr (i, j, decide ((j : Int) < 5), datas))
noncomputable def s_slices_partialInsertionSortCmpFunc_api_Expr__5L (C : CallF) (a b' : Int) : (Int × Int × (List V)) → Option ((Int × Int × (List V)) ⊕ ((Bool × (List V)) ⊕ (Int × Int × Bool × (List V)))) := un fun i => un fun j datas => s_slices_partialInsertionSortCmpFunc_api_Expr__5 C a b' i j datas (fun y => some (.inl y)) (fun r => some (.inr r))
noncomputable def LT_slices_partialInsertionSortCmpFunc_api_Expr_ (C : CallF) : LTab := fun β n ds k =>
  bif Nat.beq n 81 then loopS S104_81 [false, false, true, false, false] [[1, 2, 0, 4, 0, 5]] (@s_slices_partialInsertionSortCmpFunc_api_Expr__1 C) ds k else
  bif Nat.beq n 225 then loopS S104_225 [false, false, false, false, true, true] [[1, 2, 3, 4, 0, 0]] (@s_slices_partialInsertionSortCmpFunc_api_Expr__2 C) ds k else
  bif Nat.beq n 1055 then condS S104_1055 [[1, 2, 3, 4, 0]] (@s_slices_partialInsertionSortCmpFunc_api_Expr__3 C) ds k else
  bif Nat.beq n 321 then loopS S104_321 [false, false, false, false, true, true] [[1, 2, 3, 4, 0, 0]] (@s_slices_partialInsertionSortCmpFunc_api_Expr__4 C) ds k else
  bif Nat.beq n 49 then loopS S104_49 [false, false, true, true, true] [[0, 0], [1, 2, 0, 0, 0, 0]] (@s_slices_partialInsertionSortCmpFunc_api_Expr__5 C) ds k else
  none
abbrev TS_slices_partialInsertionSortCmpFunc_api_Expr_ (C : CallF) (b : Bar) : Prop := Tells Try.prog ann C (LT_slices_partialInsertionSortCmpFunc_api_Expr_ C) 104 (ntmpsOf Try.prog (ann.fid 104)) (ann.sin 104).blks.length b
theorem t_slices_partialInsertionSortCmpFunc_api_Expr__1 (C : CallF) : TS_slices_partialInsertionSortCmpFunc_api_Expr_ C (.loop (codeAt [1, 1, 0, 1, 0, 0, 1, 0, 0, 0, 0, 0] B_slices_partialInsertionSortCmpFunc_api_Expr_)) :=
  tl3 S104_81 [false, false, true, false, false] [[1, 2, 0, 4, 0, 5]] (@s_slices_partialInsertionSortCmpFunc_api_Expr__1 C) (by kernel_rfl) (ltok_of (bs := []) (by kernel_rfl) tells_nil) (fun ds => by kernel_rfl) (fun i x => by kernel_rfl) (fun i x β k => by kernel_rfl) (fun β ds k => by kernel_rfl)
theorem t_slices_partialInsertionSortCmpFunc_api_Expr__2 (C : CallF) : TS_slices_partialInsertionSortCmpFunc_api_Expr_ C (.loop (codeAt [1, 1, 0, 1, 0, 0, 1, 0, 0, 1, 1, 1, 1, 0, 1, 0, 1, 0, 0] B_slices_partialInsertionSortCmpFunc_api_Expr_)) :=
  tl3 S104_225 [false, false, false, false, true, true] [[1, 2, 3, 4, 0, 0]] (@s_slices_partialInsertionSortCmpFunc_api_Expr__2 C) (by kernel_rfl) (ltok_of (bs := []) (by kernel_rfl) tells_nil) (fun ds => by kernel_rfl) (fun i x => by kernel_rfl) (fun i x β k => by kernel_rfl) (fun β ds k => by kernel_rfl)
theorem t_slices_partialInsertionSortCmpFunc_api_Expr__3 (C : CallF) : TS_slices_partialInsertionSortCmpFunc_api_Expr_ C (.cond 65 (codeAt [1, 1, 0, 1, 0, 0, 1, 0, 0, 1, 1, 1, 1, 0, 1, 0] B_slices_partialInsertionSortCmpFunc_api_Expr_) (codeAt [1, 1, 0, 1, 0, 0, 1, 0, 0, 1, 1, 1, 1, 0, 1, 1] B_slices_partialInsertionSortCmpFunc_api_Expr_)) :=
  tc3 S104_1055 [[1, 2, 3, 4, 0]] (@s_slices_partialInsertionSortCmpFunc_api_Expr__3 C) (by kernel_rfl) (ltok_of (bs := [.loop (codeAt [1, 1, 0, 1, 0, 0, 1, 0, 0, 1, 1, 1, 1, 0, 1, 0, 1, 0, 0] B_slices_partialInsertionSortCmpFunc_api_Expr_)]) (by kernel_rfl) (tells_cons (t_slices_partialInsertionSortCmpFunc_api_Expr__2 C) tells_nil)) (ltok_of (bs := []) (by kernel_rfl) tells_nil) (fun ds => by kernel_rfl) (fun i β k => by kernel_rfl) (fun β ds k => by kernel_rfl)
theorem t_slices_partialInsertionSortCmpFunc_api_Expr__4 (C : CallF) : TS_slices_partialInsertionSortCmpFunc_api_Expr_ C (.loop (codeAt [1, 1, 0, 1, 0, 0, 1, 0, 0, 1, 1, 1, 1, 1, 1, 0, 1, 0, 0] B_slices_partialInsertionSortCmpFunc_api_Expr_)) :=
  tl3 S104_321 [false, false, false, false, true, true] [[1, 2, 3, 4, 0, 0]] (@s_slices_partialInsertionSortCmpFunc_api_Expr__4 C) (by kernel_rfl) (ltok_of (bs := []) (by kernel_rfl) tells_nil) (fun ds => by kernel_rfl) (fun i x => by kernel_rfl) (fun i x β k => by kernel_rfl) (fun β ds k => by kernel_rfl)
theorem t_slices_partialInsertionSortCmpFunc_api_Expr__5 (C : CallF) : TS_slices_partialInsertionSortCmpFunc_api_Expr_ C (.loop (codeAt [1, 1, 0, 1, 0, 0] B_slices_partialInsertionSortCmpFunc_api_Expr_)) :=
  tl3 S104_49 [false, false, true, true, true] [[0, 0], [1, 2, 0, 0, 0, 0]] (@s_slices_partialInsertionSortCmpFunc_api_Expr__5 C) (by kernel_rfl) (ltok_of (bs := [.loop (codeAt [1, 1, 0, 1, 0, 0, 1, 0, 0, 0, 0, 0] B_slices_partialInsertionSortCmpFunc_api_Expr_), .cond 65 (codeAt [1, 1, 0, 1, 0, 0, 1, 0, 0, 1, 1, 1, 1, 0, 1, 0] B_slices_partialInsertionSortCmpFunc_api_Expr_) (codeAt [1, 1, 0, 1, 0, 0, 1, 0, 0, 1, 1, 1, 1, 0, 1, 1] B_slices_partialInsertionSortCmpFunc_api_Expr_), .loop (codeAt [1, 1, 0, 1, 0, 0, 1, 0, 0, 1, 1, 1, 1, 1, 1, 0, 1, 0, 0] B_slices_partialInsertionSortCmpFunc_api_Expr_)]) (by kernel_rfl) (tells_cons (t_slices_partialInsertionSortCmpFunc_api_Expr__1 C) (tells_cons (t_slices_partialInsertionSortCmpFunc_api_Expr__3 C) (tells_cons (t_slices_partialInsertionSortCmpFunc_api_Expr__4 C) tells_nil)))) (fun ds => by kernel_rfl) (fun i x => by kernel_rfl) (fun i x β k => by kernel_rfl) (fun β ds k => by kernel_rfl)
noncomputable def f_slices_partialInsertionSortCmpFunc_api_Expr_ (C : CallF) (a b' : Int) (datas : List V) : Option (List V) :=
  (Loop (s_slices_partialInsertionSortCmpFunc_api_Expr__5L C a b') (IntKind.wrap .i64 (a + 1), 0, datas)).bind (way2 (un fun (t_29 : Bool) (b_30 : List V) =>
    some [.bool t_29, .list T_api_Expr b_30]) (un fun (i_31 : Int) => un fun (j_32 : Int) => un fun (t_33 : Bool) (datas_34 : List V) =>
    some [.bool false, .list T_api_Expr datas_34]))
theorem f_slices_partialInsertionSortCmpFunc_api_Expr__of {a b' : Int} {datas : List V} {r : Option (List V)} (h : f_slices_partialInsertionSortCmpFunc_api_Expr_ CC a b' datas = r) : CC F_slices_partialInsertionSortCmpFunc_api_Expr_ [.int .i64 a, .int .i64 b', .list T_api_Expr datas] = r :=
  func_of (key := 104) (L := LT_slices_partialInsertionSortCmpFunc_api_Expr_ CC) (bs := [.loop (codeAt [1, 1, 0, 1, 0, 0] B_slices_partialInsertionSortCmpFunc_api_Expr_)]) (by kernel_rfl) (tells_cons (t_slices_partialInsertionSortCmpFunc_api_Expr__5 CC) tells_nil) (Eq.trans (by kernel_rfl) h)
end Go.AM
set_option maxRecDepth 100000
set_option linter.unusedSimpArgs false
set_option maxHeartbeats 4000000
namespace Go.AM.SX
open Go.Proofs Go.Sort
theorem scanUp_eq (p : XE → Bool) (d : Array XE) (j i : Nat) : scanUp p d j i = if i ≤ j then (if p d[i]! = true then scanUp p d j (i + 1) else i) else i := by
  conv => lhs; rw [scanUp]
  by_cases h : i ≤ j
  · rw [if_pos h]; simp only [h, decide_true, Bool.true_and]
  · rw [if_neg h, if_neg (by simp [h])]
theorem scanDown_eq (p : XE → Bool) (d : Array XE) (i j : Nat) : scanDown p d i (j + 1) = if i ≤ j + 1 then (if p d[j + 1]! = true then scanDown p d i j else j + 1) else j + 1 := by
  conv => lhs; rw [scanDown]
  by_cases h : i ≤ j + 1
  · rw [if_pos h]; simp only [h, decide_true, Bool.true_and]
  · rw [if_neg h, if_neg (by simp [h])]
theorem scanSorted_eq (d : Array XE) (b i : Nat) : scanSorted ltE d b i = if i < b then (if cmpX d[i]! d[i - 1]! < 0 then i else scanSorted ltE d b (i + 1)) else i := by
  conv => lhs; rw [scanSorted]
  by_cases h : i < b
  · rw [if_pos h]; simp only [h, decide_true, Bool.true_and, ltE_n]
    by_cases h2 : cmpX d[i]! d[i - 1]! < 0
    · rw [if_neg (not_not_intro h2), if_pos h2]
    · rw [if_pos h2, if_neg h2]
  · rw [if_neg h, if_neg (by simp [h])]
theorem shiftDown_eq' (j : Nat) (d : Array XE) : shiftDown ltE (j + 1) d = if cmpX d[j + 1]! d[j]! < 0 then shiftDown ltE j (swp d (j + 1) j) else d := by
  conv => lhs; rw [shiftDown]
  simp only [ltE_n]
  by_cases h2 : cmpX d[j + 1]! d[j]! < 0
  · rw [if_neg (not_not_intro h2), if_pos h2]
  · rw [if_pos h2, if_neg h2]
theorem shiftUp_eq' (b j : Nat) (d : Array XE) : shiftUp ltE b j d = if j < b then (if cmpX d[j]! d[j - 1]! < 0 then shiftUp ltE b (j + 1) (swp d j (j - 1)) else d) else d := by
  conv => lhs; rw [shiftUp]
  simp only [ltE_n]
  by_cases h : j < b
  · rw [if_pos h, if_pos h]
    by_cases h2 : cmpX d[j]! d[j - 1]! < 0
    · rw [if_neg (not_not_intro h2), if_pos h2]
    · rw [if_pos h2, if_neg h2]
  · rw [if_neg h, if_neg h]
theorem part_size {a : Nat} : ∀ (n i j : Nat) (d : Array XE), j + 1 - i ≤ n → (partLoop ltE a i j d).2.size = d.size ∧ (partLoop ltE a i j d).1 ≤ j := by
  intro n
  induction n with
  | zero =>
    intro i j d hn
    have h1 := scanUp_ge (fun x => ltE x d[a]!) d j i
    have h2 := scanDown_le (fun x => !ltE x d[a]!) d (scanUp (fun x => ltE x d[a]!) d j i) j
    rw [partLoop_eq, if_pos (by omega)]
    exact ⟨rfl, h2⟩
  | succ n ih =>
    intro i j d hn
    rw [partLoop_eq]
    have h1 := scanUp_ge (fun x => ltE x d[a]!) d j i
    have h2 := scanDown_le (fun x => !ltE x d[a]!) d (scanUp (fun x => ltE x d[a]!) d j i) j
    split
    · exact ⟨rfl, h2⟩
    · obtain ⟨h3, h4⟩ := ih (scanUp (fun x => ltE x d[a]!) d j i + 1) (scanDown (fun x => !ltE x d[a]!) d (scanUp (fun x => ltE x d[a]!) d j i) j - 1) (swp d (scanUp (fun x => ltE x d[a]!) d j i) (scanDown (fun x => !ltE x d[a]!) d (scanUp (fun x => ltE x d[a]!) d j i) j)) (by omega)
      exact ⟨by rw [h3, size_swp], by omega⟩
theorem chk_eA {β : Type} {d : Array XE} {i : Nat} {x y : Option β} (h : i < d.size) : (bif (decide (0 ≤ (i : Int))) && (decide ((i : Int) < ((eA d).length : Int))) then x else y) = x := by
  rw [encA_length, bif_and, bif_decide, if_pos (by omega), bif_decide, if_pos (by omega)]
theorem chk_set {β : Type} {d : Array XE} {i k : Nat} {v : V} {x y : Option β} (h : i < d.size) : (bif (decide (0 ≤ (i : Int))) && (decide ((i : Int) < (((eA d).set k v).length : Int))) then x else y) = x := by
  rw [List.length_set, encA_length, bif_and, bif_decide, if_pos (by omega), bif_decide, if_pos (by omega)]
theorem getB {β : Type} {d : Array XE} {i : Nat} {f : V → Option β} (h : i < d.size) : ((eA d)[(i : Int).toNat]?).bind f = f (d[i]!).enc := by
  rw [Int.toNat_natCast, encA_get h]; rfl
theorem setB {β : Type} {d : Array XE} {i k : Nat} {v : V} {x : Option β} (h : i < d.size) : (((eA d).set k v)[(i : Int).toNat]?).bind (fun _ => x) = x := by
  rw [Int.toNat_natCast, List.getElem?_eq_getElem (by rw [List.length_set, encA_length]; exact h)]; rfl
theorem getB' {β : Type} {d : Array XE} {i : Nat} {f : V → Option β} (h : i < d.size) : ((eA d)[i]?).bind f = f (d[i]!).enc := by
  rw [encA_get h]; rfl
theorem setB' {β : Type} {d : Array XE} {i k : Nat} {v : V} {x : Option β} (h : i < d.size) : (((eA d).set k v)[i]?).bind (fun _ => x) = x := by
  rw [List.getElem?_eq_getElem (by rw [List.length_set, encA_length]; exact h)]; rfl
theorem part_1 {a j : Nat} {d : Array XE} (ha : a < d.size) (hj : j < d.size) (hs : d.size < 1152921504606846976) : ∀ (n i : Nat), j + 1 - i = n → i ≤ d.size →
    ∃ t, Loop (s_slices_partitionCmpFunc_api_Expr__1L CC a j (eA d)) (i : Int) = some (((scanUp (fun x => ltE x d[a]!) d j i : Nat) : Int), t) := by
  intro n
  induction n with
  | zero =>
    intro i hn hi
    rw [scanUp_eq, if_neg (by omega)]
    exact ⟨false, Loop_end (by simp (disch := omega) only [s_slices_partitionCmpFunc_api_Expr__1L, s_slices_partitionCmpFunc_api_Expr__1, bif_decide, if_neg])⟩
  | succ n ih =>
    intro i hn hi
    obtain ⟨t, h⟩ := ih (i + 1) (by omega) (by omega)
    rw [scanUp_eq, if_pos (by omega)]
    have e : s_slices_partitionCmpFunc_api_Expr__1L CC a j (eA d) (i : Int) = if cmpX d[i]! d[a]! < 0 then some (.inl ((i + 1 : Nat) : Int)) else some (.inr ((i : Int), decide (cmpX d[i]! d[a]! < 0))) := by
      simp (disch := omega) only [s_slices_partitionCmpFunc_api_Expr__1L, s_slices_partitionCmpFunc_api_Expr__1, bif_decide, bif_and, bif_not, if_pos, if_neg, wrap64, succC, addC, Int.toNat_natCast, Option.bind_some, encA_length, encA_get, XE.enc_0, XE.enc_1, XE.enc_2, XE.re, encA_set, encA_get2, Array.size_setIfInBounds, compareX_spec, V.nth_zero, V.toInt_int, cond_true, cond_false]
    simp only [ltE_i]
    by_cases h2 : cmpX d[i]! d[a]! < 0
    · rw [if_pos h2] at e
      rw [if_pos h2]
      exact ⟨t, (Loop_norm e).trans h⟩
    · rw [if_neg h2] at e
      rw [if_neg h2]
      exact ⟨_, Loop_end e⟩
theorem part_3 {a j : Nat} {d : Array XE} (ha : a < d.size) (hj : j < d.size) (hs : d.size < 1152921504606846976) : ∀ (n i : Nat), j + 1 - i = n → i ≤ d.size →
    ∃ t, Loop (s_slices_partitionCmpFunc_api_Expr__3L CC a j (eA d)) (i : Int) = some (((scanUp (fun x => ltE x d[a]!) d j i : Nat) : Int), t) := by
  intro n
  induction n with
  | zero =>
    intro i hn hi
    rw [scanUp_eq, if_neg (by omega)]
    exact ⟨false, Loop_end (by simp (disch := omega) only [s_slices_partitionCmpFunc_api_Expr__3L, s_slices_partitionCmpFunc_api_Expr__3, bif_decide, if_neg])⟩
  | succ n ih =>
    intro i hn hi
    obtain ⟨t, h⟩ := ih (i + 1) (by omega) (by omega)
    rw [scanUp_eq, if_pos (by omega)]
    have e : s_slices_partitionCmpFunc_api_Expr__3L CC a j (eA d) (i : Int) = if cmpX d[i]! d[a]! < 0 then some (.inl ((i + 1 : Nat) : Int)) else some (.inr ((i : Int), decide (cmpX d[i]! d[a]! < 0))) := by
      simp (disch := omega) only [s_slices_partitionCmpFunc_api_Expr__3L, s_slices_partitionCmpFunc_api_Expr__3, bif_decide, bif_and, bif_not, if_pos, if_neg, wrap64, succC, addC, Int.toNat_natCast, Option.bind_some, encA_length, encA_get, XE.enc_0, XE.enc_1, XE.enc_2, XE.re, encA_set, encA_get2, Array.size_setIfInBounds, compareX_spec, V.nth_zero, V.toInt_int, cond_true, cond_false]
    simp only [ltE_i]
    by_cases h2 : cmpX d[i]! d[a]! < 0
    · rw [if_pos h2] at e
      rw [if_pos h2]
      exact ⟨t, (Loop_norm e).trans h⟩
    · rw [if_neg h2] at e
      rw [if_neg h2]
      exact ⟨_, Loop_end e⟩
theorem part_2 {a i : Nat} {d : Array XE} (ha : a < d.size) (hi : 1 ≤ i) (hs : d.size < 1152921504606846976) : ∀ (j : Nat), j < d.size →
    ∃ t, Loop (s_slices_partitionCmpFunc_api_Expr__2L CC a i (eA d)) (j : Int) = some (((scanDown (fun x => !ltE x d[a]!) d i j : Nat) : Int), t)
  | 0, hj => ⟨false, Loop_end (by simp (disch := omega) only [s_slices_partitionCmpFunc_api_Expr__2L, s_slices_partitionCmpFunc_api_Expr__2, bif_decide, if_neg]; rfl)⟩
  | j + 1, hj => by
    obtain ⟨t, h⟩ := part_2 ha hi hs j (by omega)
    rw [scanDown_eq]
    by_cases h1 : i ≤ j + 1
    · rw [if_pos h1]
      have e : s_slices_partitionCmpFunc_api_Expr__2L CC a i (eA d) ((j + 1 : Nat) : Int) = if cmpX d[j + 1]! d[a]! < 0 then some (.inr (((j + 1 : Nat) : Int), !decide (cmpX d[j + 1]! d[a]! < 0))) else some (.inl (j : Int)) := by
        simp (disch := omega) only [s_slices_partitionCmpFunc_api_Expr__2L, s_slices_partitionCmpFunc_api_Expr__2, bif_decide, bif_and, bif_not, if_pos, if_neg, wrap64, succC, addC, Int.toNat_natCast, Option.bind_some, encA_length, encA_get, XE.enc_0, XE.enc_1, XE.enc_2, XE.re, encA_set, encA_get2, Array.size_setIfInBounds, compareX_spec, V.nth_zero, V.toInt_int, cond_true, cond_false, predC]
      simp only [ltE_n]
      by_cases h2 : cmpX d[j + 1]! d[a]! < 0
      · rw [if_pos h2] at e
        rw [if_neg (not_not_intro h2)]
        exact ⟨_, Loop_end e⟩
      · rw [if_neg h2] at e
        rw [if_pos h2]
        exact ⟨t, (Loop_norm e).trans h⟩
    · rw [if_neg h1]
      exact ⟨false, Loop_end (by simp (disch := omega) only [s_slices_partitionCmpFunc_api_Expr__2L, s_slices_partitionCmpFunc_api_Expr__2, bif_decide, if_neg])⟩
theorem part_4 {a i : Nat} {d : Array XE} (ha : a < d.size) (hi : 1 ≤ i) (hs : d.size < 1152921504606846976) : ∀ (j : Nat), j < d.size →
    ∃ t, Loop (s_slices_partitionCmpFunc_api_Expr__4L CC a i (eA d)) (j : Int) = some (((scanDown (fun x => !ltE x d[a]!) d i j : Nat) : Int), t)
  | 0, hj => ⟨false, Loop_end (by simp (disch := omega) only [s_slices_partitionCmpFunc_api_Expr__4L, s_slices_partitionCmpFunc_api_Expr__4, bif_decide, if_neg]; rfl)⟩
  | j + 1, hj => by
    obtain ⟨t, h⟩ := part_4 ha hi hs j (by omega)
    rw [scanDown_eq]
    by_cases h1 : i ≤ j + 1
    · rw [if_pos h1]
      have e : s_slices_partitionCmpFunc_api_Expr__4L CC a i (eA d) ((j + 1 : Nat) : Int) = if cmpX d[j + 1]! d[a]! < 0 then some (.inr (((j + 1 : Nat) : Int), !decide (cmpX d[j + 1]! d[a]! < 0))) else some (.inl (j : Int)) := by
        simp (disch := omega) only [s_slices_partitionCmpFunc_api_Expr__4L, s_slices_partitionCmpFunc_api_Expr__4, bif_decide, bif_and, bif_not, if_pos, if_neg, wrap64, succC, addC, Int.toNat_natCast, Option.bind_some, encA_length, encA_get, XE.enc_0, XE.enc_1, XE.enc_2, XE.re, encA_set, encA_get2, Array.size_setIfInBounds, compareX_spec, V.nth_zero, V.toInt_int, cond_true, cond_false, predC]
      simp only [ltE_n]
      by_cases h2 : cmpX d[j + 1]! d[a]! < 0
      · rw [if_pos h2] at e
        rw [if_neg (not_not_intro h2)]
        exact ⟨_, Loop_end e⟩
      · rw [if_neg h2] at e
        rw [if_pos h2]
        exact ⟨t, (Loop_norm e).trans h⟩
    · rw [if_neg h1]
      exact ⟨false, Loop_end (by simp (disch := omega) only [s_slices_partitionCmpFunc_api_Expr__4L, s_slices_partitionCmpFunc_api_Expr__4, bif_decide, if_neg])⟩
theorem pequ_1 {a j : Nat} {d : Array XE} (ha : a < d.size) (hj : j < d.size) (hs : d.size < 1152921504606846976) : ∀ (n i : Nat), j + 1 - i = n → i ≤ d.size →
    ∃ t, Loop (s_slices_partitionEqualCmpFunc_api_Expr__1L CC a j (eA d)) (i : Int) = some (((scanUp (fun x => !ltE d[a]! x) d j i : Nat) : Int), t) := by
  intro n
  induction n with
  | zero =>
    intro i hn hi
    rw [scanUp_eq, if_neg (by omega)]
    exact ⟨false, Loop_end (by simp (disch := omega) only [s_slices_partitionEqualCmpFunc_api_Expr__1L, s_slices_partitionEqualCmpFunc_api_Expr__1, bif_decide, if_neg])⟩
  | succ n ih =>
    intro i hn hi
    obtain ⟨t, h⟩ := ih (i + 1) (by omega) (by omega)
    rw [scanUp_eq, if_pos (by omega)]
    have e : s_slices_partitionEqualCmpFunc_api_Expr__1L CC a j (eA d) (i : Int) = if cmpX d[a]! d[i]! < 0 then some (.inr ((i : Int), !decide (cmpX d[a]! d[i]! < 0))) else some (.inl ((i + 1 : Nat) : Int)) := by
      simp (disch := omega) only [s_slices_partitionEqualCmpFunc_api_Expr__1L, s_slices_partitionEqualCmpFunc_api_Expr__1, bif_decide, bif_and, bif_not, if_pos, if_neg, wrap64, succC, addC, Int.toNat_natCast, Option.bind_some, encA_length, encA_get, XE.enc_0, XE.enc_1, XE.enc_2, XE.re, encA_set, encA_get2, Array.size_setIfInBounds, compareX_spec, V.nth_zero, V.toInt_int, cond_true, cond_false]
    simp only [ltE_n]
    by_cases h2 : cmpX d[a]! d[i]! < 0
    · rw [if_pos h2] at e
      rw [if_neg (not_not_intro h2)]
      exact ⟨_, Loop_end e⟩
    · rw [if_neg h2] at e
      rw [if_pos h2]
      exact ⟨t, (Loop_norm e).trans h⟩
theorem pequ_2 {a i : Nat} {d : Array XE} (ha : a < d.size) (hi : 1 ≤ i) (hs : d.size < 1152921504606846976) : ∀ (j : Nat), j < d.size →
    ∃ t, Loop (s_slices_partitionEqualCmpFunc_api_Expr__2L CC a i (eA d)) (j : Int) = some (((scanDown (fun x => ltE d[a]! x) d i j : Nat) : Int), t)
  | 0, hj => ⟨false, Loop_end (by simp (disch := omega) only [s_slices_partitionEqualCmpFunc_api_Expr__2L, s_slices_partitionEqualCmpFunc_api_Expr__2, bif_decide, if_neg]; rfl)⟩
  | j + 1, hj => by
    obtain ⟨t, h⟩ := pequ_2 ha hi hs j (by omega)
    rw [scanDown_eq]
    by_cases h1 : i ≤ j + 1
    · rw [if_pos h1]
      have e : s_slices_partitionEqualCmpFunc_api_Expr__2L CC a i (eA d) ((j + 1 : Nat) : Int) = if cmpX d[a]! d[j + 1]! < 0 then some (.inl (j : Int)) else some (.inr (((j + 1 : Nat) : Int), decide (cmpX d[a]! d[j + 1]! < 0))) := by
        simp (disch := omega) only [s_slices_partitionEqualCmpFunc_api_Expr__2L, s_slices_partitionEqualCmpFunc_api_Expr__2, bif_decide, bif_and, bif_not, if_pos, if_neg, wrap64, succC, addC, Int.toNat_natCast, Option.bind_some, encA_length, encA_get, XE.enc_0, XE.enc_1, XE.enc_2, XE.re, encA_set, encA_get2, Array.size_setIfInBounds, compareX_spec, V.nth_zero, V.toInt_int, cond_true, cond_false, predC]
      simp only [ltE_i]
      by_cases h2 : cmpX d[a]! d[j + 1]! < 0
      · rw [if_pos h2] at e
        rw [if_pos h2]
        exact ⟨t, (Loop_norm e).trans h⟩
      · rw [if_neg h2] at e
        rw [if_neg h2]
        exact ⟨_, Loop_end e⟩
    · rw [if_neg h1]
      exact ⟨false, Loop_end (by simp (disch := omega) only [s_slices_partitionEqualCmpFunc_api_Expr__2L, s_slices_partitionEqualCmpFunc_api_Expr__2, bif_decide, if_neg])⟩
theorem part_5 {a : Nat} : ∀ (n i j : Nat) (d : Array XE), j + 1 - i ≤ n → 1 ≤ i → i ≤ d.size → a < d.size → j < d.size → d.size < 1152921504606846976 →
    ∃ x z, Loop (s_slices_partitionCmpFunc_api_Expr__5L CC a) ((i : Int), (j : Int), eA d) = some (x, (((partLoop ltE a i j d).1 : Nat) : Int), z, eA (partLoop ltE a i j d).2) := by
  intro n
  induction n with
  | zero =>
    intro i j d hn h1 h2 ha hj hs
    obtain ⟨t3, e3⟩ := part_3 (a := a) ha hj hs _ i rfl h2
    have g1 := scanUp_ge (fun x => ltE x d[a]!) d j i
    have g2 := scanDown_le (fun x => !ltE x d[a]!) d (scanUp (fun x => ltE x d[a]!) d j i) j
    obtain ⟨t4, e4⟩ := part_4 (a := a) (i := scanUp (fun x => ltE x d[a]!) d j i) ha (by omega) hs j hj
    rw [partLoop_eq, if_pos (by omega)]
    refine ⟨((scanUp (fun x => ltE x d[a]!) d j i : Nat) : Int), true, Loop_end ?_⟩
    simp only [s_slices_partitionCmpFunc_api_Expr__5L, s_slices_partitionCmpFunc_api_Expr__5, un]
    rw [e3]
    simp only [Option.bind_some, un]
    rw [e4]
    simp (disch := omega) only [Option.bind_some, un, dec_true, cond_true]
  | succ n ih =>
    intro i j d hn h1 h2 ha hj hs
    obtain ⟨t3, e3⟩ := part_3 (a := a) ha hj hs _ i rfl h2
    have g1 := scanUp_ge (fun x => ltE x d[a]!) d j i
    have g2 := scanDown_le (fun x => !ltE x d[a]!) d (scanUp (fun x => ltE x d[a]!) d j i) j
    obtain ⟨t4, e4⟩ := part_4 (a := a) (i := scanUp (fun x => ltE x d[a]!) d j i) ha (by omega) hs j hj
    rw [partLoop_eq]
    have f : s_slices_partitionCmpFunc_api_Expr__5L CC a ((i : Int), (j : Int), eA d) = s_slices_partitionCmpFunc_api_Expr__5L CC a ((i : Int), (j : Int), eA d) := rfl
    conv at f => rhs; simp only [s_slices_partitionCmpFunc_api_Expr__5L, s_slices_partitionCmpFunc_api_Expr__5, un]; rw [e3]; simp only [Option.bind_some, un]; rw [e4]; simp only [Option.bind_some, un]
    generalize hi2 : scanUp (fun x => ltE x d[a]!) d j i = i2 at *
    generalize hj2 : scanDown (fun x => !ltE x d[a]!) d i2 j = j2 at *
    by_cases h : i2 > j2
    · rw [if_pos h]
      refine ⟨(i2 : Int), true, Loop_end (f.trans ?_)⟩
      simp (disch := omega) only [Option.bind_some, dec_true, cond_true]
    · rw [if_neg h]
      obtain ⟨x, z, e⟩ := ih (i2 + 1) (j2 - 1) (swp d i2 j2) (by omega) (by omega) (by rw [size_swp]; omega) (by rw [size_swp]; omega) (by rw [size_swp]; omega) (by rw [size_swp]; omega)
      refine ⟨x, z, (Loop_norm (f.trans ?_)).trans e⟩
      simp (disch := omega) only [bif_decide, bif_and, bif_not, if_pos, if_neg, wrap64, succC, addC, Int.toNat_natCast, Option.bind_some, encA_length, encA_get, XE.enc_0, XE.enc_1, XE.enc_2, XE.re, encA_set, encA_get2, Array.size_setIfInBounds, compareX_spec, V.nth_zero, V.toInt_int, cond_true, cond_false, sub1C]
      rfl
theorem part_eq' (d : Array XE) (a b pivot : Nat) : partition ltE d a b pivot =
    if scanUp (fun x => ltE x (swp d a pivot)[a]!) (swp d a pivot) (b - 1) (a + 1) > scanDown (fun x => !ltE x (swp d a pivot)[a]!) (swp d a pivot) (scanUp (fun x => ltE x (swp d a pivot)[a]!) (swp d a pivot) (b - 1) (a + 1)) (b - 1) then
      (scanDown (fun x => !ltE x (swp d a pivot)[a]!) (swp d a pivot) (scanUp (fun x => ltE x (swp d a pivot)[a]!) (swp d a pivot) (b - 1) (a + 1)) (b - 1), true, swp (swp d a pivot) (scanDown (fun x => !ltE x (swp d a pivot)[a]!) (swp d a pivot) (scanUp (fun x => ltE x (swp d a pivot)[a]!) (swp d a pivot) (b - 1) (a + 1)) (b - 1)) a)
    else
      ((partLoop ltE a (scanUp (fun x => ltE x (swp d a pivot)[a]!) (swp d a pivot) (b - 1) (a + 1) + 1) (scanDown (fun x => !ltE x (swp d a pivot)[a]!) (swp d a pivot) (scanUp (fun x => ltE x (swp d a pivot)[a]!) (swp d a pivot) (b - 1) (a + 1)) (b - 1) - 1) (swp (swp d a pivot) (scanUp (fun x => ltE x (swp d a pivot)[a]!) (swp d a pivot) (b - 1) (a + 1)) (scanDown (fun x => !ltE x (swp d a pivot)[a]!) (swp d a pivot) (scanUp (fun x => ltE x (swp d a pivot)[a]!) (swp d a pivot) (b - 1) (a + 1)) (b - 1)))).1, false,
       swp (partLoop ltE a (scanUp (fun x => ltE x (swp d a pivot)[a]!) (swp d a pivot) (b - 1) (a + 1) + 1) (scanDown (fun x => !ltE x (swp d a pivot)[a]!) (swp d a pivot) (scanUp (fun x => ltE x (swp d a pivot)[a]!) (swp d a pivot) (b - 1) (a + 1)) (b - 1) - 1) (swp (swp d a pivot) (scanUp (fun x => ltE x (swp d a pivot)[a]!) (swp d a pivot) (b - 1) (a + 1)) (scanDown (fun x => !ltE x (swp d a pivot)[a]!) (swp d a pivot) (scanUp (fun x => ltE x (swp d a pivot)[a]!) (swp d a pivot) (b - 1) (a + 1)) (b - 1)))).2
        (partLoop ltE a (scanUp (fun x => ltE x (swp d a pivot)[a]!) (swp d a pivot) (b - 1) (a + 1) + 1) (scanDown (fun x => !ltE x (swp d a pivot)[a]!) (swp d a pivot) (scanUp (fun x => ltE x (swp d a pivot)[a]!) (swp d a pivot) (b - 1) (a + 1)) (b - 1) - 1) (swp (swp d a pivot) (scanUp (fun x => ltE x (swp d a pivot)[a]!) (swp d a pivot) (b - 1) (a + 1)) (scanDown (fun x => !ltE x (swp d a pivot)[a]!) (swp d a pivot) (scanUp (fun x => ltE x (swp d a pivot)[a]!) (swp d a pivot) (b - 1) (a + 1)) (b - 1)))).1 a) := rfl
theorem swp_eA (d : Array XE) (i j : Nat) : eA ((d.setIfInBounds i d[j]!).setIfInBounds j d[i]!) = eA (swp d i j) := rfl
theorem part_spec {a b pivot : Nat} {d : Array XE} (hp : pivot < b) (hab : a < b) (hb : b ≤ d.size) (hs : d.size < 1152921504606846976) :
    CC F_slices_partitionCmpFunc_api_Expr_ [.int .i64 (a : Int), .int .i64 (b : Int), .int .i64 (pivot : Int), .list T_api_Expr (eA d)] =
      some [.int .i64 ((partition ltE d a b pivot).1 : Int), .bool (partition ltE d a b pivot).2.1, .list T_api_Expr (eA (partition ltE d a b pivot).2.2)] := by
  refine f_slices_partitionCmpFunc_api_Expr__of ?_
  unfold f_slices_partitionCmpFunc_api_Expr_
  have z1 : (swp d a pivot).size = d.size := size_swp ..
  obtain ⟨t1, e1⟩ := part_1 (a := a) (j := b - 1) (d := swp d a pivot) (by omega) (by omega) (by omega) _ (a + 1) rfl (by omega)
  have g1 := scanUp_ge (fun x => ltE x (swp d a pivot)[a]!) (swp d a pivot) (b - 1) (a + 1)
  have g2 := scanDown_le (fun x => !ltE x (swp d a pivot)[a]!) (swp d a pivot) (scanUp (fun x => ltE x (swp d a pivot)[a]!) (swp d a pivot) (b - 1) (a + 1)) (b - 1)
  obtain ⟨t2, e2⟩ := part_2 (a := a) (i := scanUp (fun x => ltE x (swp d a pivot)[a]!) (swp d a pivot) (b - 1) (a + 1)) (d := swp d a pivot) (by omega) (by omega) (by omega) (b - 1) (by omega)
  have e0 := part_eq' d a b pivot
  rw [chk_eA (i := pivot) (by omega), getB (by omega), chk_eA (i := a) (by omega), getB (by omega), chk_eA (i := a) (by omega), getB (by omega), chk_set (i := pivot) (by omega), setB (by omega)]
  simp only [XE.enc_0, XE.enc_1, XE.enc_2, XE.re, Int.toNat_natCast, encA_set, swp_eA]
  simp (disch := omega) only [sub1C, succC, wrap64]
  rw [e1]
  simp only [Option.bind_some, un]
  rw [e2]
  simp only [Option.bind_some, un]
  generalize hi2 : scanUp (fun x => ltE x (swp d a pivot)[a]!) (swp d a pivot) (b - 1) (a + 1) = i2 at *
  generalize hj2 : scanDown (fun x => !ltE x (swp d a pivot)[a]!) (swp d a pivot) i2 (b - 1) = j2 at *
  generalize swp d a pivot = d1 at *
  by_cases h : i2 > j2
  · rw [if_pos h] at e0
    rw [e0, bif_decide, if_pos (by omega)]
    rw [chk_eA (i := a) (by omega)]; (first | rw [getB (by omega)] | rw [getB' (by omega)]); rw [chk_eA (i := j2) (by omega)]; (first | rw [getB (by omega)] | rw [getB' (by omega)]); rw [chk_eA (i := j2) (by omega)]; (first | rw [getB (by omega)] | rw [getB' (by omega)]); rw [chk_set (i := a) (by omega)]; (first | rw [setB (by omega)] | rw [setB' (by omega)])
    simp only [XE.enc_0, XE.enc_1, XE.enc_2, XE.re, Int.toNat_natCast, encA_set, swp_eA]
  · rw [if_neg h] at e0
    rw [e0, bif_decide, if_neg (by omega)]
    have z2 : (swp d1 i2 j2).size = d1.size := size_swp ..
    obtain ⟨x, z, e5⟩ := part_5 (a := a) _ (i2 + 1) (j2 - 1) (swp d1 i2 j2) (Nat.le_refl _) (by omega) (by omega) (by omega) (by omega) (by omega)
    obtain ⟨q1, q2⟩ := part_size (a := a) _ (i2 + 1) (j2 - 1) (swp d1 i2 j2) (Nat.le_refl _)
    rw [chk_eA (i := j2) (by omega)]; (first | rw [getB (by omega)] | rw [getB' (by omega)]); rw [chk_eA (i := i2) (by omega)]; (first | rw [getB (by omega)] | rw [getB' (by omega)]); rw [chk_eA (i := i2) (by omega)]; (first | rw [getB (by omega)] | rw [getB' (by omega)]); rw [chk_set (i := j2) (by omega)]; (first | rw [setB (by omega)] | rw [setB' (by omega)])
    simp only [XE.enc_0, XE.enc_1, XE.enc_2, XE.re, Int.toNat_natCast, encA_set, swp_eA]
    simp (disch := omega) only [sub1C, succC, wrap64]
    rw [e5]
    generalize partLoop ltE a (i2 + 1) (j2 - 1) (swp d1 i2 j2) = r at *
    simp only [Option.bind_some, un]
    rw [chk_eA (i := a) (by omega)]; (first | rw [getB (by omega)] | rw [getB' (by omega)]); rw [chk_eA (i := r.1) (by omega)]; (first | rw [getB (by omega)] | rw [getB' (by omega)]); rw [chk_eA (i := r.1) (by omega)]; (first | rw [getB (by omega)] | rw [getB' (by omega)]); rw [chk_set (i := a) (by omega)]; (first | rw [setB (by omega)] | rw [setB' (by omega)])
    simp only [XE.enc_0, XE.enc_1, XE.enc_2, XE.re, Int.toNat_natCast, encA_set, swp_eA]
theorem pequ_3 {a : Nat} : ∀ (n i j : Nat) (d : Array XE), j + 1 - i ≤ n → 1 ≤ i → i ≤ d.size → a < d.size → j < d.size → d.size < 1152921504606846976 →
    ∃ x z, Loop (s_slices_partitionEqualCmpFunc_api_Expr__3L CC a) ((i : Int), (j : Int), eA d) = some ((((partEqLoop ltE a i j d).1 : Nat) : Int), x, z, eA (partEqLoop ltE a i j d).2) := by
  intro n
  induction n with
  | zero =>
    intro i j d hn h1 h2 ha hj hs
    obtain ⟨t3, e3⟩ := pequ_1 (a := a) ha hj hs _ i rfl h2
    have g1 := scanUp_ge (fun x => !ltE d[a]! x) d j i
    have g2 := scanDown_le (fun x => ltE d[a]! x) d (scanUp (fun x => !ltE d[a]! x) d j i) j
    obtain ⟨t4, e4⟩ := pequ_2 (a := a) (i := scanUp (fun x => !ltE d[a]! x) d j i) ha (by omega) hs j hj
    rw [partEqLoop_eq, if_pos (by omega)]
    refine ⟨((scanDown (fun x => ltE d[a]! x) d (scanUp (fun x => !ltE d[a]! x) d j i) j : Nat) : Int), true, Loop_end ?_⟩
    simp only [s_slices_partitionEqualCmpFunc_api_Expr__3L, s_slices_partitionEqualCmpFunc_api_Expr__3, un]
    rw [e3]
    simp only [Option.bind_some, un]
    rw [e4]
    simp (disch := omega) only [Option.bind_some, un, dec_true, cond_true]
  | succ n ih =>
    intro i j d hn h1 h2 ha hj hs
    obtain ⟨t3, e3⟩ := pequ_1 (a := a) ha hj hs _ i rfl h2
    have g1 := scanUp_ge (fun x => !ltE d[a]! x) d j i
    have g2 := scanDown_le (fun x => ltE d[a]! x) d (scanUp (fun x => !ltE d[a]! x) d j i) j
    obtain ⟨t4, e4⟩ := pequ_2 (a := a) (i := scanUp (fun x => !ltE d[a]! x) d j i) ha (by omega) hs j hj
    rw [partEqLoop_eq]
    have f : s_slices_partitionEqualCmpFunc_api_Expr__3L CC a ((i : Int), (j : Int), eA d) = s_slices_partitionEqualCmpFunc_api_Expr__3L CC a ((i : Int), (j : Int), eA d) := rfl
    conv at f => rhs; simp only [s_slices_partitionEqualCmpFunc_api_Expr__3L, s_slices_partitionEqualCmpFunc_api_Expr__3, un]; rw [e3]; simp only [Option.bind_some, un]; rw [e4]; simp only [Option.bind_some, un]
    generalize hi2 : scanUp (fun x => !ltE d[a]! x) d j i = i2 at *
    generalize hj2 : scanDown (fun x => ltE d[a]! x) d i2 j = j2 at *
    by_cases h : i2 > j2
    · rw [if_pos h]
      refine ⟨(j2 : Int), true, Loop_end (f.trans ?_)⟩
      simp (disch := omega) only [Option.bind_some, dec_true, cond_true]
    · rw [if_neg h]
      obtain ⟨x, z, e⟩ := ih (i2 + 1) (j2 - 1) (swp d i2 j2) (by omega) (by omega) (by rw [size_swp]; omega) (by rw [size_swp]; omega) (by rw [size_swp]; omega) (by rw [size_swp]; omega)
      refine ⟨x, z, (Loop_norm (f.trans ?_)).trans e⟩
      simp (disch := omega) only [bif_decide, bif_and, bif_not, if_pos, if_neg, wrap64, succC, addC, Int.toNat_natCast, Option.bind_some, encA_length, encA_get, XE.enc_0, XE.enc_1, XE.enc_2, XE.re, encA_set, encA_get2, Array.size_setIfInBounds, compareX_spec, V.nth_zero, V.toInt_int, cond_true, cond_false, sub1C]
      rfl
theorem pequ_spec {a b pivot : Nat} {d : Array XE} (hp : pivot < b) (hab : a < b) (hb : b ≤ d.size) (hs : d.size < 1152921504606846976) :
    CC F_slices_partitionEqualCmpFunc_api_Expr_ [.int .i64 (a : Int), .int .i64 (b : Int), .int .i64 (pivot : Int), .list T_api_Expr (eA d)] =
      some [.int .i64 ((partitionEqual ltE d a b pivot).1 : Int), .list T_api_Expr (eA (partitionEqual ltE d a b pivot).2)] := by
  refine f_slices_partitionEqualCmpFunc_api_Expr__of ?_
  unfold f_slices_partitionEqualCmpFunc_api_Expr_
  have z1 : (swp d a pivot).size = d.size := size_swp ..
  obtain ⟨x, z, e⟩ := pequ_3 (a := a) _ (a + 1) (b - 1) (swp d a pivot) (Nat.le_refl _) (by omega) (by omega) (by omega) (by omega) (by omega)
  simp (disch := omega) only [bif_decide, bif_and, if_pos, encA_length, encA_get, Int.toNat_natCast, Option.bind_some, XE.enc_0, XE.enc_1, XE.enc_2, XE.re, encA_set, encA_get2, Array.size_setIfInBounds, sub1C, succC, wrap64, swp_eA]
  rw [e]
  rfl
theorem pins_1 {a b j : Nat} {d : Array XE} (hb : b ≤ d.size) (hs : d.size < 1152921504606846976) : ∀ (n i : Nat), b - i = n → 1 ≤ i → i ≤ b →
    ∃ t, Loop (s_slices_partialInsertionSortCmpFunc_api_Expr__1L CC a b j (eA d)) (i : Int) = some (((scanSorted ltE d b i : Nat) : Int), t) := by
  intro n
  induction n with
  | zero =>
    intro i hn h1 hi
    rw [scanSorted_eq, if_neg (by omega)]
    exact ⟨false, Loop_end (by simp (disch := omega) only [s_slices_partialInsertionSortCmpFunc_api_Expr__1L, s_slices_partialInsertionSortCmpFunc_api_Expr__1, bif_decide, if_neg])⟩
  | succ n ih =>
    intro i hn h1 hi
    obtain ⟨t, h⟩ := ih (i + 1) (by omega) (by omega) (by omega)
    rw [scanSorted_eq, if_pos (by omega)]
    have e : s_slices_partialInsertionSortCmpFunc_api_Expr__1L CC a b j (eA d) (i : Int) = if cmpX d[i]! d[i - 1]! < 0 then some (.inr ((i : Int), !decide (cmpX d[i]! d[i - 1]! < 0))) else some (.inl ((i + 1 : Nat) : Int)) := by
      simp (disch := omega) only [s_slices_partialInsertionSortCmpFunc_api_Expr__1L, s_slices_partialInsertionSortCmpFunc_api_Expr__1, sub1C, bif_decide, bif_and, bif_not, if_pos, if_neg, wrap64, succC, addC, Int.toNat_natCast, Option.bind_some, encA_length, encA_get, XE.enc_0, XE.enc_1, XE.enc_2, XE.re, encA_set, encA_get2, Array.size_setIfInBounds, compareX_spec, V.nth_zero, V.toInt_int, cond_true, cond_false]
    by_cases h2 : cmpX d[i]! d[i - 1]! < 0
    · rw [if_pos h2] at e ⊢
      exact ⟨_, Loop_end e⟩
    · rw [if_neg h2] at e ⊢
      exact ⟨t, (Loop_norm e).trans h⟩
theorem shiftDown_size : ∀ (j : Nat) (d : Array XE), (shiftDown ltE j d).size = d.size
  | 0, _ => rfl
  | j + 1, d => by
    rw [shiftDown_eq']
    split
    · rw [shiftDown_size j, size_swp]
    · rfl
theorem shiftUp_size {b : Nat} : ∀ (n j : Nat) (d : Array XE), b - j = n → (shiftUp ltE b j d).size = d.size := by
  intro n
  induction n with
  | zero => intro j d h; rw [shiftUp_eq', if_neg (by omega)]
  | succ n ih =>
    intro j d h
    rw [shiftUp_eq', if_pos (by omega)]
    split
    · rw [ih _ _ (by omega), size_swp]
    · rfl
theorem pins_2 {a b i k : Nat} : ∀ (j : Nat) (d : Array XE), j < d.size → d.size < 1152921504606846976 →
    ∃ t, Loop (s_slices_partialInsertionSortCmpFunc_api_Expr__2L CC a b i k) ((j : Int), eA d) = some (t, eA (shiftDown ltE j d))
  | 0, d, hj, hs => ⟨(0 : Nat), Loop_end (by
      simp (disch := omega) only [s_slices_partialInsertionSortCmpFunc_api_Expr__2L, s_slices_partialInsertionSortCmpFunc_api_Expr__2, un, bif_decide, if_neg]
      rfl)⟩
  | j + 1, d, hj, hs => by
    obtain ⟨t, ih⟩ := pins_2 (a := a) (b := b) (i := i) (k := k) j (swp d (j + 1) j) (by rw [size_swp]; omega) (by rw [size_swp]; omega)
    rw [shiftDown_eq']
    have e : s_slices_partialInsertionSortCmpFunc_api_Expr__2L CC a b i k (((j + 1 : Nat) : Int), eA d) = if cmpX d[j + 1]! d[j]! < 0 then some (.inl ((j : Int), eA (swp d (j + 1) j))) else some (.inr (((j + 1 : Nat) : Int), eA d)) := by
      simp (disch := omega) only [s_slices_partialInsertionSortCmpFunc_api_Expr__2L, s_slices_partialInsertionSortCmpFunc_api_Expr__2, un, bif_decide, bif_and, bif_not, if_pos, if_neg, wrap64, succC, addC, Int.toNat_natCast, Option.bind_some, encA_length, encA_get, XE.enc_0, XE.enc_1, XE.enc_2, XE.re, encA_set, encA_get2, Array.size_setIfInBounds, compareX_spec, V.nth_zero, V.toInt_int, cond_true, cond_false, predC]
      rfl
    by_cases h2 : cmpX d[j + 1]! d[j]! < 0
    · rw [if_pos h2] at e ⊢
      exact ⟨t, (Loop_norm e).trans ih⟩
    · rw [if_neg h2] at e ⊢
      exact ⟨_, Loop_end e⟩
theorem pins_4 {a b i k : Nat} : ∀ (n j : Nat) (d : Array XE), b - j = n → 1 ≤ j → j ≤ b → b ≤ d.size → d.size < 1152921504606846976 →
    ∃ t, Loop (s_slices_partialInsertionSortCmpFunc_api_Expr__4L CC a b i k) ((j : Int), eA d) = some (t, eA (shiftUp ltE b j d)) := by
  intro n
  induction n with
  | zero =>
    intro j d hn h1 hj hb hs
    rw [shiftUp_eq', if_neg (by omega)]
    exact ⟨(j : Int), Loop_end (by
      simp (disch := omega) only [s_slices_partialInsertionSortCmpFunc_api_Expr__4L, s_slices_partialInsertionSortCmpFunc_api_Expr__4, un, bif_decide, if_neg])⟩
  | succ n ih =>
    intro j d hn h1 hj hb hs
    obtain ⟨t, h⟩ := ih (j + 1) (swp d j (j - 1)) (by omega) (by omega) (by omega) (by rw [size_swp]; omega) (by rw [size_swp]; omega)
    rw [shiftUp_eq', if_pos (by omega)]
    have e : s_slices_partialInsertionSortCmpFunc_api_Expr__4L CC a b i k ((j : Int), eA d) = if cmpX d[j]! d[j - 1]! < 0 then some (.inl (((j + 1 : Nat) : Int), eA (swp d j (j - 1)))) else some (.inr ((j : Int), eA d)) := by
      simp (disch := omega) only [s_slices_partialInsertionSortCmpFunc_api_Expr__4L, s_slices_partialInsertionSortCmpFunc_api_Expr__4, un, sub1C, bif_decide, bif_and, bif_not, if_pos, if_neg, wrap64, succC, addC, Int.toNat_natCast, Option.bind_some, encA_length, encA_get, XE.enc_0, XE.enc_1, XE.enc_2, XE.re, encA_set, encA_get2, Array.size_setIfInBounds, compareX_spec, V.nth_zero, V.toInt_int, cond_true, cond_false]
      rfl
    by_cases h2 : cmpX d[j]! d[j - 1]! < 0
    · rw [if_pos h2] at e ⊢
      exact ⟨t, (Loop_norm e).trans h⟩
    · rw [if_neg h2] at e ⊢
      exact ⟨_, Loop_end e⟩
theorem scanSorted_le {d : Array XE} {b : Nat} : ∀ (n i : Nat), b - i = n → i ≤ b → i ≤ scanSorted ltE d b i ∧ scanSorted ltE d b i ≤ b := by
  intro n
  induction n with
  | zero => intro i hn hi; rw [scanSorted_eq, if_neg (by omega)]; omega
  | succ n ih =>
    intro i hn hi
    rw [scanSorted_eq, if_pos (by omega)]
    obtain ⟨h1, h2⟩ := ih (i + 1) (by omega) (by omega)
    split <;> omega
theorem pins_loop {a b : Nat} : ∀ (s i : Nat) (d : Array XE), s ≤ 5 → a < i → i ≤ b → b ≤ d.size → d.size < 1152921504606846976 →
    (Loop (s_slices_partialInsertionSortCmpFunc_api_Expr__5L CC a b) ((i : Int), ((5 - s : Nat) : Int), eA d) = some (.inl ((partialIns ltE a b s i d).2, eA (partialIns ltE a b s i d).1))) ∨
    (∃ x y z, (partialIns ltE a b s i d).2 = false ∧ Loop (s_slices_partialInsertionSortCmpFunc_api_Expr__5L CC a b) ((i : Int), ((5 - s : Nat) : Int), eA d) = some (.inr (x, y, z, eA (partialIns ltE a b s i d).1))) := by
  intro s
  induction s with
  | zero =>
    intro i d hs5 hi hib hb hs
    refine .inr ⟨(i : Int), ((5 : Nat) : Int), false, rfl, Loop_end ?_⟩
    simp (disch := omega) only [s_slices_partialInsertionSortCmpFunc_api_Expr__5L, s_slices_partialInsertionSortCmpFunc_api_Expr__5, un, dec_false, cond_false]
    rfl
  | succ s ih =>
    intro i d hs5 hi hib hb hs
    obtain ⟨t1, e1⟩ := pins_1 (a := a) (j := 5 - (s + 1)) hb hs _ i rfl (by omega) hib
    obtain ⟨q1, q2⟩ := scanSorted_le (d := d) _ i rfl hib
    rw [partialIns_succ]
    have f : s_slices_partialInsertionSortCmpFunc_api_Expr__5L CC a b ((i : Int), ((5 - (s + 1) : Nat) : Int), eA d) = s_slices_partialInsertionSortCmpFunc_api_Expr__5L CC a b ((i : Int), ((5 - (s + 1) : Nat) : Int), eA d) := rfl
    conv at f => rhs; simp only [s_slices_partialInsertionSortCmpFunc_api_Expr__5L, s_slices_partialInsertionSortCmpFunc_api_Expr__5, un]; rw [bif_decide, if_pos (by omega), e1]; simp only [Option.bind_some, un]
    generalize scanSorted ltE d b i = k at *
    by_cases h1 : k = b
    · rw [if_pos h1]
      left
      refine Loop_end (f.trans ?_)
      rw [bif_beq, if_pos (by omega)]
    · rw [if_neg h1]
      by_cases h2 : b - a < 50
      · rw [if_pos h2]
        left
        refine Loop_end (f.trans ?_)
        rw [bif_beq, if_neg (by omega), wrap64 (by omega) (by omega), bif_decide, if_pos (by omega)]
      · rw [if_neg h2]
        have z1 : (swp d k (k - 1)).size = d.size := size_swp ..
        have z2 : (fixDown ltE a k (swp d k (k - 1))).size = d.size := by
          unfold fixDown
          split
          · rw [shiftDown_size, z1]
          · exact z1
        have z3 : (fixUp ltE b k (fixDown ltE a k (swp d k (k - 1)))).size = d.size := by
          unfold fixUp
          split
          · rw [shiftUp_size _ _ _ rfl, z2]
          · exact z2
        obtain ⟨t2, e2⟩ := pins_2 (a := a) (b := b) (i := k) (k := 5 - (s + 1)) (k - 1) (swp d k (k - 1)) (by omega) (by omega)
        obtain ⟨t4, e4⟩ := pins_4 (a := a) (b := b) (i := k) (k := 5 - (s + 1)) _ (k + 1) (fixDown ltE a k (swp d k (k - 1))) rfl (by omega) (by omega) (by omega) (by omega)
        have e5 : s_slices_partialInsertionSortCmpFunc_api_Expr__5L CC a b ((i : Int), ((5 - (s + 1) : Nat) : Int), eA d) = some (.inl ((k : Int), ((5 - s : Nat) : Int), eA (fixUp ltE b k (fixDown ltE a k (swp d k (k - 1)))))) := by
          refine f.trans ?_
          rw [bif_beq, if_neg (by omega), wrap64 (by omega) (by omega), bif_decide, if_neg (by omega)]
          simp (disch := omega) only [bif_decide, bif_and, if_pos, encA_length, encA_get, Int.toNat_natCast, Option.bind_some, XE.enc_0, XE.enc_1, XE.enc_2, XE.re, encA_set, encA_get2, Array.size_setIfInBounds, sub1C, succC, subC, wrap64, swp_eA, s_slices_partialInsertionSortCmpFunc_api_Expr__3]
          rw [show 5 - (s + 1) + 1 = 5 - s by omega]
          unfold fixDown at e4 ⊢
          unfold fixUp
          have c1 : (((k - a : Nat) : Int) ≥ 2) = (k - a ≥ 2) := propext (by omega)
          have c2 : (((b - k : Nat) : Int) ≥ 2) = (b - k ≥ 2) := propext (by omega)
          simp only [c1, c2]
          by_cases g1 : k - a ≥ 2
          · by_cases g2 : b - k ≥ 2
            · simp only [g1, g2, if_true, e2, Option.bind_some, un] at e4 ⊢
              rw [e4]
              rfl
            · simp only [g1, g2, if_true, if_false, e2, Option.bind_some, un]
          · by_cases g2 : b - k ≥ 2
            · simp only [g1, g2, if_true, if_false] at e4 ⊢
              rw [e4]
              rfl
            · exact absurd (show b - k ≥ 2 by omega) g2
        rw [Loop_norm e5]
        exact ih k _ (by omega) (by omega) (by omega) (by omega) (by omega)
theorem pins_spec {a b : Nat} {d : Array XE} (hab : a < b) (hb : b ≤ d.size) (hs : d.size < 1152921504606846976) :
    CC F_slices_partialInsertionSortCmpFunc_api_Expr_ [.int .i64 (a : Int), .int .i64 (b : Int), .list T_api_Expr (eA d)] =
      some [.bool (partialInsertionSort ltE d a b).2, .list T_api_Expr (eA (partialInsertionSort ltE d a b).1)] := by
  refine f_slices_partialInsertionSortCmpFunc_api_Expr__of ?_
  unfold f_slices_partialInsertionSortCmpFunc_api_Expr_
  simp (disch := omega) only [succC, wrap64]
  rcases pins_loop (a := a) (b := b) 5 (a + 1) d (Nat.le_refl _) (by omega) (by omega) hb hs with h | ⟨x, y, z, h0, h⟩
  · rw [show ((5 - 5 : Nat) : Int) = 0 from rfl] at h
    rw [h]
    rfl
  · rw [show ((5 - 5 : Nat) : Int) = 0 from rfl] at h
    rw [h]
    unfold partialInsertionSort
    rw [h0]
    rfl
end Go.AM.SX
set_option maxRecDepth 100000
namespace Go.AM
open Go.Proofs
noncomputable abbrev B_slices_choosePivotCmpFunc_api_Expr_ : Code := bodyOf Try.prog (ann.fid 102)
noncomputable def s_slices_choosePivotCmpFunc_api_Expr__1 (C : CallF) (data : List V) (i j k' : Int) (t36 : Bool) (swapss : Int) {β : Type} (kr : (Int × Int × Int × Int) → Option β) : Option β :=
  bif t36 then
   (C F_slices_medianAdjacentCmpFunc_api_Expr_ [.list T_api_Expr data, .int .i64 i, .int .i64 swapss]).bind fun r1 =>
   (C F_slices_medianAdjacentCmpFunc_api_Expr_ [.list T_api_Expr data, .int .i64 j, .int .i64 ((V.nth (r1.drop 1) 0).toInt)]).bind fun r2 =>
   (C F_slices_medianAdjacentCmpFunc_api_Expr_ [.list T_api_Expr data, .int .i64 k', .int .i64 ((V.nth (r2.drop 1) 0).toInt)]).bind fun r3 =>
   kr ((V.nth r1 0).toInt, (V.nth r2 0).toInt, (V.nth r3 0).toInt, (V.nth (r3.drop 1) 0).toInt)
  else
   kr (i, j, k', swapss)
noncomputable def s_slices_choosePivotCmpFunc_api_Expr__2 (C : CallF) (data : List V) (l i j k' : Int) (t34 : Bool) (swapss : Int) {β : Type} (kr : (Int × Int) → Option β) : Option β :=
  bif t34 then
   s_slices_choosePivotCmpFunc_api_Expr__1 C data i j k' (decide ((l : Int) ≥ 50)) swapss (un fun (i_4 : Int) => un fun (j_5 : Int) => un fun (k_6 : Int) (swapss_7 : Int) =>
     (C F_slices_medianCmpFunc_api_Expr_ [.list T_api_Expr data, .int .i64 i_4, .int .i64 j_5, .int .i64 k_6, .int .i64 swapss_7]).bind fun r8 =>
     kr ((V.nth r8 0).toInt, (V.nth (r8.drop 1) 0).toInt))
  else
   kr (j, swapss)
noncomputable def LT_slices_choosePivotCmpFunc_api_Expr_ (C : CallF) : LTab := fun β n ds k =>
  bif Nat.beq n 591 then condS S102_591 [[1, 0, 0, 0, 0]] (@s_slices_choosePivotCmpFunc_api_Expr__1 C) ds k else
  bif Nat.beq n 559 then condS S102_559 [[0, 0]] (@s_slices_choosePivotCmpFunc_api_Expr__2 C) ds k else
  none
abbrev TS_slices_choosePivotCmpFunc_api_Expr_ (C : CallF) (b : Bar) : Prop := Tells Try.prog ann C (LT_slices_choosePivotCmpFunc_api_Expr_ C) 102 (ntmpsOf Try.prog (ann.fid 102)) (ann.sin 102).blks.length b
theorem t_slices_choosePivotCmpFunc_api_Expr__1 (C : CallF) : TS_slices_choosePivotCmpFunc_api_Expr_ C (.cond 36 (codeAt [1, 1, 1, 1, 1, 1, 0, 1, 0, 0, 1, 0] B_slices_choosePivotCmpFunc_api_Expr_) (codeAt [1, 1, 1, 1, 1, 1, 0, 1, 0, 0, 1, 1] B_slices_choosePivotCmpFunc_api_Expr_)) :=
  tc3 S102_591 [[1, 0, 0, 0, 0]] (@s_slices_choosePivotCmpFunc_api_Expr__1 C) (by kernel_rfl) (ltok_of (bs := []) (by kernel_rfl) tells_nil) (ltok_of (bs := []) (by kernel_rfl) tells_nil) (fun ds => by kernel_rfl) (fun i β k => by kernel_rfl) (fun β ds k => by kernel_rfl)
theorem t_slices_choosePivotCmpFunc_api_Expr__2 (C : CallF) : TS_slices_choosePivotCmpFunc_api_Expr_ C (.cond 34 (codeAt [1, 1, 1, 1, 1, 1, 0, 1, 0] B_slices_choosePivotCmpFunc_api_Expr_) (codeAt [1, 1, 1, 1, 1, 1, 0, 1, 1] B_slices_choosePivotCmpFunc_api_Expr_)) :=
  tc3 S102_559 [[0, 0]] (@s_slices_choosePivotCmpFunc_api_Expr__2 C) (by kernel_rfl) (ltok_of (bs := [.cond 36 (codeAt [1, 1, 1, 1, 1, 1, 0, 1, 0, 0, 1, 0] B_slices_choosePivotCmpFunc_api_Expr_) (codeAt [1, 1, 1, 1, 1, 1, 0, 1, 0, 0, 1, 1] B_slices_choosePivotCmpFunc_api_Expr_)]) (by kernel_rfl) (tells_cons (t_slices_choosePivotCmpFunc_api_Expr__1 C) tells_nil)) (ltok_of (bs := []) (by kernel_rfl) tells_nil) (fun ds => by kernel_rfl) (fun i β k => by kernel_rfl) (fun β ds k => by kernel_rfl)
noncomputable def f_slices_choosePivotCmpFunc_api_Expr_ (C : CallF) (data : List V) (a b' : Int) : Option (List V) :=
  s_slices_choosePivotCmpFunc_api_Expr__2 C data (IntKind.wrap .i64 (b' - a)) (IntKind.wrap .i64 (a + (IntKind.wrap .i64 (1 * (IntKind.wrap .i64 (Int.tdiv (IntKind.wrap .i64 (b' - a)) 4)))))) (IntKind.wrap .i64 (a + (IntKind.wrap .i64 (2 * (IntKind.wrap .i64 (Int.tdiv (IntKind.wrap .i64 (b' - a)) 4)))))) (IntKind.wrap .i64 (a + (IntKind.wrap .i64 (3 * (IntKind.wrap .i64 (Int.tdiv (IntKind.wrap .i64 (b' - a)) 4)))))) (decide (((IntKind.wrap .i64 (b' - a)) : Int) ≥ 8)) 0 (un fun (j_9 : Int) (swapss_10 : Int) =>
    bif (swapss_10 : Int) == 0 then
     some [.int .i64 j_9, .int .i64 1]
    else
     bif (swapss_10 : Int) == 12 then
      some [.int .i64 j_9, .int .i64 2]
     else
      some [.int .i64 j_9, .int .i64 0])
theorem f_slices_choosePivotCmpFunc_api_Expr__of {data : List V} {a b' : Int} {r : Option (List V)} (h : f_slices_choosePivotCmpFunc_api_Expr_ CC data a b' = r) : CC F_slices_choosePivotCmpFunc_api_Expr_ [.list T_api_Expr data, .int .i64 a, .int .i64 b'] = r :=
  func_of (key := 102) (L := LT_slices_choosePivotCmpFunc_api_Expr_ CC) (bs := [.cond 34 (codeAt [1, 1, 1, 1, 1, 1, 0, 1, 0] B_slices_choosePivotCmpFunc_api_Expr_) (codeAt [1, 1, 1, 1, 1, 1, 0, 1, 1] B_slices_choosePivotCmpFunc_api_Expr_)]) (by kernel_rfl) (tells_cons (t_slices_choosePivotCmpFunc_api_Expr__2 CC) tells_nil) (Eq.trans (by kernel_rfl) h)
end Go.AM
set_option maxRecDepth 100000
namespace Go.AM
open Go.Proofs
noncomputable def f_slices_medianCmpFunc_api_Expr_ (C : CallF) (data : List V) (a b' c swapss : Int) : Option (List V) :=
  (C F_slices_order2CmpFunc_api_Expr_ [.list T_api_Expr data, .int .i64 a, .int .i64 b', .int .i64 swapss]).bind fun r1 =>
  (C F_slices_order2CmpFunc_api_Expr_ [.list T_api_Expr data, .int .i64 ((V.nth (r1.drop 1) 0).toInt), .int .i64 c, .int .i64 ((V.nth (r1.drop 2) 0).toInt)]).bind fun r2 =>
  (C F_slices_order2CmpFunc_api_Expr_ [.list T_api_Expr data, .int .i64 ((V.nth r1 0).toInt), .int .i64 ((V.nth r2 0).toInt), .int .i64 ((V.nth (r2.drop 2) 0).toInt)]).bind fun r3 =>
  some [.int .i64 ((V.nth (r3.drop 1) 0).toInt), .int .i64 ((V.nth (r3.drop 2) 0).toInt)]
theorem f_slices_medianCmpFunc_api_Expr__of {data : List V} {a b' c swapss : Int} {r : Option (List V)} (h : f_slices_medianCmpFunc_api_Expr_ CC data a b' c swapss = r) : CC F_slices_medianCmpFunc_api_Expr_ [.list T_api_Expr data, .int .i64 a, .int .i64 b', .int .i64 c, .int .i64 swapss] = r :=
  func_of (key := 113) (L := LT0) (bs := []) (by kernel_rfl) tells_nil (Eq.trans (by kernel_rfl) h)
end Go.AM
set_option maxRecDepth 100000
namespace Go.AM
open Go.Proofs
noncomputable def f_slices_order2CmpFunc_api_Expr_ (C : CallF) (data : List V) (a b' swapss : Int) : Option (List V) :=
  (idx data b').bind fun x1 =>
  (idx data a).bind fun x2 =>
  (C F_expr_Compare [.int .i64 ((x1.cell 0).toInt), .int .i64 ((x1.cell 1).toInt), .list T_api_Expr ((x1.cell 2).toList), .int .i64 ((x2.cell 0).toInt), .int .i64 ((x2.cell 1).toInt), .list T_api_Expr ((x2.cell 2).toList)]).bind fun r3 =>
  bif decide ((((V.nth r3 0).toInt) : Int) < 0) then
   some [.int .i64 b', .int .i64 a, .int .i64 (IntKind.wrap .i64 (swapss + 1))]
  else
   some [.int .i64 a, .int .i64 b', .int .i64 swapss]
theorem f_slices_order2CmpFunc_api_Expr__of {data : List V} {a b' swapss : Int} {r : Option (List V)} (h : f_slices_order2CmpFunc_api_Expr_ CC data a b' swapss = r) : CC F_slices_order2CmpFunc_api_Expr_ [.list T_api_Expr data, .int .i64 a, .int .i64 b', .int .i64 swapss] = r :=
  func_of (key := 114) (L := LT0) (bs := []) (by kernel_rfl) tells_nil (Eq.trans (by kernel_rfl) h)
end Go.AM
set_option maxRecDepth 100000
namespace Go.AM
open Go.Proofs
noncomputable def f_slices_medianAdjacentCmpFunc_api_Expr_ (C : CallF) (data : List V) (a swapss : Int) : Option (List V) :=
  (C F_slices_medianCmpFunc_api_Expr_ [.list T_api_Expr data, .int .i64 (IntKind.wrap .i64 (a - 1)), .int .i64 a, .int .i64 (IntKind.wrap .i64 (a + 1)), .int .i64 swapss]).bind fun r1 =>
  some [.int .i64 ((V.nth r1 0).toInt), .int .i64 ((V.nth (r1.drop 1) 0).toInt)]
theorem f_slices_medianAdjacentCmpFunc_api_Expr__of {data : List V} {a swapss : Int} {r : Option (List V)} (h : f_slices_medianAdjacentCmpFunc_api_Expr_ CC data a swapss = r) : CC F_slices_medianAdjacentCmpFunc_api_Expr_ [.list T_api_Expr data, .int .i64 a, .int .i64 swapss] = r :=
  func_of (key := 112) (L := LT0) (bs := []) (by kernel_rfl) tells_nil (Eq.trans (by kernel_rfl) h)
end Go.AM
set_option maxRecDepth 100000
namespace Go.AM
open Go.Proofs
noncomputable abbrev B_slices_breakPatternsCmpFunc_api_Expr_ : Code := bodyOf Try.prog (ann.fid 101)
noncomputable def s_slices_breakPatternsCmpFunc_api_Expr__1 (C : CallF) (a length modulus idx' other : Int) (t45 : Bool) (datas : List V) (randoms : Int) {β : Type} (kr : (Int) → Option β) : Option β :=
  bif t45 then
   kr (IntKind.wrap .i64 (other - length))
  else
   kr other
noncomputable def s_slices_breakPatternsCmpFunc_api_Expr__2 (C : CallF) (a length modulus idx' : Int) (datas : List V) (randoms : Int) {β : Type} (kn : (Int × (List V) × Int) → Option β) (kr : (Int × Bool × (List V) × Int) → Option β) : Option β :=
  bif decide ((idx' : Int) ≤ (IntKind.wrap .i64 ((IntKind.wrap .i64 (a + (IntKind.wrap .i64 (2 * (IntKind.wrap .i64 (Int.tdiv length 4)))))) + 1))) then
   (C F_slices_xorshift_Next [.int .u64 randoms]).bind fun r2 =>
   s_slices_breakPatternsCmpFunc_api_Expr__1 C a length modulus idx' (IntKind.wrap .i64 (IntKind.wrap .u64 ((BitVec.ofInt (IntKind.bits .u64) ((V.nth r2 0).toInt) &&& BitVec.ofInt (IntKind.bits .u64) (IntKind.wrap .u64 (modulus - 1))).toNat))) (decide (((IntKind.wrap .i64 (IntKind.wrap .u64 ((BitVec.ofInt (IntKind.bits .u64) ((V.nth r2 0).toInt) &&& BitVec.ofInt (IntKind.bits .u64) (IntKind.wrap .u64 (modulus - 1))).toNat))) : Int) ≥ length)) datas ((V.nth (r2.drop 1) 0).toInt) (fun (other_3 : Int) =>
     bif (decide (0 ≤ (IntKind.wrap .i64 (a + other_3)))) && (decide ((IntKind.wrap .i64 (a + other_3)) < (datas.length : Int))) then
      (datas[(IntKind.wrap .i64 (a + other_3) : Int).toNat]?).bind fun x4 =>
      bif (decide (0 ≤ idx')) && (decide (idx' < (datas.length : Int))) then
       (datas[(idx' : Int).toNat]?).bind fun x5 =>
       bif (decide (0 ≤ idx')) && (decide (idx' < (datas.length : Int))) then
        (datas[(idx' : Int).toNat]?).bind fun x6 =>
        bif (decide (0 ≤ (IntKind.wrap .i64 (a + other_3)))) && (decide ((IntKind.wrap .i64 (a + other_3)) < ((datas.set ((idx' : Int).toNat) (.agg [.int .i64 ((x4.cell 0).toInt), .int .i64 ((x4.cell 1).toInt), .list T_api_Expr ((x4.cell 2).toList)])).length : Int))) then
         ((datas.set ((idx' : Int).toNat) (.agg [.int .i64 ((x4.cell 0).toInt), .int .i64 ((x4.cell 1).toInt), .list T_api_Expr ((x4.cell 2).toList)]))[(IntKind.wrap .i64 (a + other_3) : Int).toNat]?).bind fun x7 =>
         kn (IntKind.wrap .i64 (idx' + 1), (datas.set ((idx' : Int).toNat) (.agg [.int .i64 ((x4.cell 0).toInt), .int .i64 ((x4.cell 1).toInt), .list T_api_Expr ((x4.cell 2).toList)])).set ((IntKind.wrap .i64 (a + other_3) : Int).toNat) (.agg [.int .i64 ((x5.cell 0).toInt), .int .i64 ((x5.cell 1).toInt), .list T_api_Expr ((x5.cell 2).toList)]), (V.nth (r2.drop 1) 0).toInt)
        else none
       else none
      else none
     else none)
  else
   kr (idx', decide ((idx' : Int) ≤ (IntKind.wrap .i64 ((IntKind.wrap .i64 (a + (IntKind.wrap .i64 (2 * (IntKind.wrap .i64 (Int.tdiv length 4)))))) + 1))), datas, randoms)
noncomputable def s_slices_breakPatternsCmpFunc_api_Expr__2L (C : CallF) (a length modulus : Int) : (Int × (List V) × Int) → Option ((Int × (List V) × Int) ⊕ (Int × Bool × (List V) × Int)) := un fun idx' => un fun datas randoms => s_slices_breakPatternsCmpFunc_api_Expr__2 C a length modulus idx' datas randoms (fun y => some (.inl y)) (fun r => some (.inr r))
noncomputable def LT_slices_breakPatternsCmpFunc_api_Expr_ (C : CallF) : LTab := fun β n ds k =>
  bif Nat.beq n 735 then condS S101_735 [[1, 2, 3, 4, 0, 7, 8]] (@s_slices_breakPatternsCmpFunc_api_Expr__1 C) ds k else
  bif Nat.beq n 81 then loopS S101_81 [false, false, false, true, true, true] [[1, 2, 3, 0, 0, 0, 0]] (@s_slices_breakPatternsCmpFunc_api_Expr__2 C) ds k else
  none
abbrev TS_slices_breakPatternsCmpFunc_api_Expr_ (C : CallF) (b : Bar) : Prop := Tells Try.prog ann C (LT_slices_breakPatternsCmpFunc_api_Expr_ C) 101 (ntmpsOf Try.prog (ann.fid 101)) (ann.sin 101).blks.length b
theorem t_slices_breakPatternsCmpFunc_api_Expr__1 (C : CallF) : TS_slices_breakPatternsCmpFunc_api_Expr_ C (.cond 45 (codeAt [1, 1, 0, 1, 1, 1, 0, 0, 1, 0, 0, 1, 0, 1, 0] B_slices_breakPatternsCmpFunc_api_Expr_) (codeAt [1, 1, 0, 1, 1, 1, 0, 0, 1, 0, 0, 1, 0, 1, 1] B_slices_breakPatternsCmpFunc_api_Expr_)) :=
  tc3 S101_735 [[1, 2, 3, 4, 0, 7, 8]] (@s_slices_breakPatternsCmpFunc_api_Expr__1 C) (by kernel_rfl) (ltok_of (bs := []) (by kernel_rfl) tells_nil) (ltok_of (bs := []) (by kernel_rfl) tells_nil) (fun ds => by kernel_rfl) (fun i β k => by kernel_rfl) (fun β ds k => by kernel_rfl)
theorem t_slices_breakPatternsCmpFunc_api_Expr__2 (C : CallF) : TS_slices_breakPatternsCmpFunc_api_Expr_ C (.loop (codeAt [1, 1, 0, 1, 1, 1, 0, 0] B_slices_breakPatternsCmpFunc_api_Expr_)) :=
  tl3 S101_81 [false, false, false, true, true, true] [[1, 2, 3, 0, 0, 0, 0]] (@s_slices_breakPatternsCmpFunc_api_Expr__2 C) (by kernel_rfl) (ltok_of (bs := [.cond 45 (codeAt [1, 1, 0, 1, 1, 1, 0, 0, 1, 0, 0, 1, 0, 1, 0] B_slices_breakPatternsCmpFunc_api_Expr_) (codeAt [1, 1, 0, 1, 1, 1, 0, 0, 1, 0, 0, 1, 0, 1, 1] B_slices_breakPatternsCmpFunc_api_Expr_)]) (by kernel_rfl) (tells_cons (t_slices_breakPatternsCmpFunc_api_Expr__1 C) tells_nil)) (fun ds => by kernel_rfl) (fun i x => by kernel_rfl) (fun i x β k => by kernel_rfl) (fun β ds k => by kernel_rfl)
noncomputable def f_slices_breakPatternsCmpFunc_api_Expr_ (C : CallF) (a b' : Int) (datas : List V) : Option (List V) :=
  bif decide (((IntKind.wrap .i64 (b' - a)) : Int) ≥ 8) then
   (C F_slices_nextPowerOfTwo [.int .i64 (IntKind.wrap .i64 (b' - a))]).bind fun r1 =>
   (Loop (s_slices_breakPatternsCmpFunc_api_Expr__2L C a (IntKind.wrap .i64 (b' - a)) ((V.nth r1 0).toInt)) (IntKind.wrap .i64 ((IntKind.wrap .i64 (a + (IntKind.wrap .i64 (2 * (IntKind.wrap .i64 (Int.tdiv (IntKind.wrap .i64 (b' - a)) 4)))))) - 1), datas, IntKind.wrap .u64 (IntKind.wrap .i64 (b' - a)))).bind (un fun (idx_8 : Int) => un fun (t_9 : Bool) => un fun (datas_10 : List V) (randoms_11 : Int) =>
     some [.list T_api_Expr datas_10])
  else
   some [.list T_api_Expr datas]
theorem f_slices_breakPatternsCmpFunc_api_Expr__of {a b' : Int} {datas : List V} {r : Option (List V)} (h : f_slices_breakPatternsCmpFunc_api_Expr_ CC a b' datas = r) : CC F_slices_breakPatternsCmpFunc_api_Expr_ [.int .i64 a, .int .i64 b', .list T_api_Expr datas] = r :=
  func_of (key := 101) (L := LT_slices_breakPatternsCmpFunc_api_Expr_ CC) (bs := [.loop (codeAt [1, 1, 0, 1, 1, 1, 0, 0] B_slices_breakPatternsCmpFunc_api_Expr_)]) (by kernel_rfl) (tells_cons (t_slices_breakPatternsCmpFunc_api_Expr__2 CC) tells_nil) (Eq.trans (by kernel_rfl) h)
end Go.AM
set_option maxRecDepth 100000
namespace Go.AM
open Go.Proofs
noncomputable def f_slices_xorshift_Next (C : CallF) (r's : Int) : Option (List V) :=
  some [.int .u64 (IntKind.wrap .u64 ((BitVec.ofInt (IntKind.bits .u64) (IntKind.wrap .u64 ((BitVec.ofInt (IntKind.bits .u64) (IntKind.wrap .u64 ((BitVec.ofInt (IntKind.bits .u64) r's ^^^ BitVec.ofInt (IntKind.bits .u64) (IntKind.wrap .u64 (r's * 2 ^ (min (13 : Int).toNat (IntKind.bits .u64))))).toNat)) ^^^ BitVec.ofInt (IntKind.bits .u64) (Int.fdiv (IntKind.wrap .u64 ((BitVec.ofInt (IntKind.bits .u64) r's ^^^ BitVec.ofInt (IntKind.bits .u64) (IntKind.wrap .u64 (r's * 2 ^ (min (13 : Int).toNat (IntKind.bits .u64))))).toNat)) (2 ^ (min (7 : Int).toNat (IntKind.bits .u64))))).toNat)) ^^^ BitVec.ofInt (IntKind.bits .u64) (IntKind.wrap .u64 ((IntKind.wrap .u64 ((BitVec.ofInt (IntKind.bits .u64) (IntKind.wrap .u64 ((BitVec.ofInt (IntKind.bits .u64) r's ^^^ BitVec.ofInt (IntKind.bits .u64) (IntKind.wrap .u64 (r's * 2 ^ (min (13 : Int).toNat (IntKind.bits .u64))))).toNat)) ^^^ BitVec.ofInt (IntKind.bits .u64) (Int.fdiv (IntKind.wrap .u64 ((BitVec.ofInt (IntKind.bits .u64) r's ^^^ BitVec.ofInt (IntKind.bits .u64) (IntKind.wrap .u64 (r's * 2 ^ (min (13 : Int).toNat (IntKind.bits .u64))))).toNat)) (2 ^ (min (7 : Int).toNat (IntKind.bits .u64))))).toNat)) * 2 ^ (min (17 : Int).toNat (IntKind.bits .u64))))).toNat)), .int .u64 (IntKind.wrap .u64 ((BitVec.ofInt (IntKind.bits .u64) (IntKind.wrap .u64 ((BitVec.ofInt (IntKind.bits .u64) (IntKind.wrap .u64 ((BitVec.ofInt (IntKind.bits .u64) r's ^^^ BitVec.ofInt (IntKind.bits .u64) (IntKind.wrap .u64 (r's * 2 ^ (min (13 : Int).toNat (IntKind.bits .u64))))).toNat)) ^^^ BitVec.ofInt (IntKind.bits .u64) (Int.fdiv (IntKind.wrap .u64 ((BitVec.ofInt (IntKind.bits .u64) r's ^^^ BitVec.ofInt (IntKind.bits .u64) (IntKind.wrap .u64 (r's * 2 ^ (min (13 : Int).toNat (IntKind.bits .u64))))).toNat)) (2 ^ (min (7 : Int).toNat (IntKind.bits .u64))))).toNat)) ^^^ BitVec.ofInt (IntKind.bits .u64) (IntKind.wrap .u64 ((IntKind.wrap .u64 ((BitVec.ofInt (IntKind.bits .u64) (IntKind.wrap .u64 ((BitVec.ofInt (IntKind.bits .u64) r's ^^^ BitVec.ofInt (IntKind.bits .u64) (IntKind.wrap .u64 (r's * 2 ^ (min (13 : Int).toNat (IntKind.bits .u64))))).toNat)) ^^^ BitVec.ofInt (IntKind.bits .u64) (Int.fdiv (IntKind.wrap .u64 ((BitVec.ofInt (IntKind.bits .u64) r's ^^^ BitVec.ofInt (IntKind.bits .u64) (IntKind.wrap .u64 (r's * 2 ^ (min (13 : Int).toNat (IntKind.bits .u64))))).toNat)) (2 ^ (min (7 : Int).toNat (IntKind.bits .u64))))).toNat)) * 2 ^ (min (17 : Int).toNat (IntKind.bits .u64))))).toNat))]
theorem f_slices_xorshift_Next_of {r's : Int} {r : Option (List V)} (h : f_slices_xorshift_Next CC r's = r) : CC F_slices_xorshift_Next [.int .u64 r's] = r :=
  func_of (key := 111) (L := LT0) (bs := []) (by kernel_rfl) tells_nil (Eq.trans (by kernel_rfl) h)
end Go.AM
set_option maxRecDepth 100000
namespace Go.AM
open Go.Proofs
noncomputable def f_slices_nextPowerOfTwo (C : CallF) (length : Int) : Option (List V) :=
  (C F_bits_Len [.int .u64 (IntKind.wrap .u64 length)]).bind fun r1 =>
  bif decide (0 ≤ ((V.nth r1 0).toInt)) then
   some [.int .u64 (IntKind.wrap .u64 (1 * 2 ^ (min ((V.nth r1 0).toInt).toNat (IntKind.bits .u64))))]
  else none
theorem f_slices_nextPowerOfTwo_of {length : Int} {r : Option (List V)} (h : f_slices_nextPowerOfTwo CC length = r) : CC F_slices_nextPowerOfTwo [.int .i64 length] = r :=
  func_of (key := 110) (L := LT0) (bs := []) (by kernel_rfl) tells_nil (Eq.trans (by kernel_rfl) h)
end Go.AM
set_option maxRecDepth 100000
namespace Go.AM
open Go.Proofs
noncomputable def f_bits_Len (C : CallF) (x : Int) : Option (List V) :=
  (C F_bits_Len64 [.int .u64 x]).bind fun r1 =>
  some [.int .i64 ((V.nth r1 0).toInt)]
theorem f_bits_Len_of {x : Int} {r : Option (List V)} (h : f_bits_Len CC x = r) : CC F_bits_Len [.int .u64 x] = r :=
  func_of (key := 97) (L := LT0) (bs := []) (by kernel_rfl) tells_nil (Eq.trans (by kernel_rfl) h)
end Go.AM
set_option maxRecDepth 100000
namespace Go.AM
open Go.Proofs
noncomputable abbrev B_bits_Len64 : Code := bodyOf Try.prog (ann.fid 108)
noncomputable def s_bits_Len64_1 (C : CallF) (x n : Int) (t4 : Bool) {β : Type} (kr : (Int × Int) → Option β) : Option β :=
  bif t4 then
   kr (Int.fdiv x (2 ^ (min (32 : Int).toNat (IntKind.bits .u64))), 32)
  else
   kr (x, n)
noncomputable def s_bits_Len64_2 (C : CallF) (x n : Int) (t8 : Bool) {β : Type} (kr : (Int × Int) → Option β) : Option β :=
  bif t8 then
   kr (Int.fdiv x (2 ^ (min (16 : Int).toNat (IntKind.bits .u64))), IntKind.wrap .i64 (n + 16))
  else
   kr (x, n)
noncomputable def LT_bits_Len64 (C : CallF) : LTab := fun β n ds k =>
  bif Nat.beq n 79 then condS S108_79 [[0, 0]] (@s_bits_Len64_1 C) ds k else
  bif Nat.beq n 143 then condS S108_143 [[0, 0]] (@s_bits_Len64_2 C) ds k else
  none
abbrev TS_bits_Len64 (C : CallF) (b : Bar) : Prop := Tells Try.prog ann C (LT_bits_Len64 C) 108 (ntmpsOf Try.prog (ann.fid 108)) (ann.sin 108).blks.length b
theorem t_bits_Len64_1 (C : CallF) : TS_bits_Len64 C (.cond 4 (codeAt [1, 0, 1, 0] B_bits_Len64) (codeAt [1, 0, 1, 1] B_bits_Len64)) :=
  tc3 S108_79 [[0, 0]] (@s_bits_Len64_1 C) (by kernel_rfl) (ltok_of (bs := []) (by kernel_rfl) tells_nil) (ltok_of (bs := []) (by kernel_rfl) tells_nil) (fun ds => by kernel_rfl) (fun i β k => by kernel_rfl) (fun β ds k => by kernel_rfl)
theorem t_bits_Len64_2 (C : CallF) : TS_bits_Len64 C (.cond 8 (codeAt [1, 1, 0, 1, 0] B_bits_Len64) (codeAt [1, 1, 0, 1, 1] B_bits_Len64)) :=
  tc3 S108_143 [[0, 0]] (@s_bits_Len64_2 C) (by kernel_rfl) (ltok_of (bs := []) (by kernel_rfl) tells_nil) (ltok_of (bs := []) (by kernel_rfl) tells_nil) (fun ds => by kernel_rfl) (fun i β k => by kernel_rfl) (fun β ds k => by kernel_rfl)
noncomputable def f_bits_Len64 (C : CallF) (x : Int) : Option (List V) :=
  s_bits_Len64_1 C x 0 (decide ((x : Int) ≥ 4294967296)) (un fun (x_1 : Int) (n_2 : Int) =>
    s_bits_Len64_2 C x_1 n_2 (decide ((x_1 : Int) ≥ 65536)) (un fun (x_3 : Int) (n_4 : Int) =>
      bif decide ((x_3 : Int) ≥ 256) then
       (bif decide (0 ≤ (IntKind.wrap .u8 (Int.fdiv x_3 (2 ^ (min (8 : Int).toNat (IntKind.bits .u64)))))) then (([0, 1, 2, 2, 3, 3, 3, 3, 4, 4, 4, 4, 4, 4, 4, 4, 5, 5, 5, 5, 5, 5, 5, 5, 5, 5, 5, 5, 5, 5, 5, 5, 6, 6, 6, 6, 6, 6, 6, 6, 6, 6, 6, 6, 6, 6, 6, 6, 6, 6, 6, 6, 6, 6, 6, 6, 6, 6, 6, 6, 6, 6, 6, 6, 7, 7, 7, 7, 7, 7, 7, 7, 7, 7, 7, 7, 7, 7, 7, 7, 7, 7, 7, 7, 7, 7, 7, 7, 7, 7, 7, 7, 7, 7, 7, 7, 7, 7, 7, 7, 7, 7, 7, 7, 7, 7, 7, 7, 7, 7, 7, 7, 7, 7, 7, 7, 7, 7, 7, 7, 7, 7, 7, 7, 7, 7, 7, 7, 8, 8, 8, 8, 8, 8, 8, 8, 8, 8, 8, 8, 8, 8, 8, 8, 8, 8, 8, 8, 8, 8, 8, 8, 8, 8, 8, 8, 8, 8, 8, 8, 8, 8, 8, 8, 8, 8, 8, 8, 8, 8, 8, 8, 8, 8, 8, 8, 8, 8, 8, 8, 8, 8, 8, 8, 8, 8, 8, 8, 8, 8, 8, 8, 8, 8, 8, 8, 8, 8, 8, 8, 8, 8, 8, 8, 8, 8, 8, 8, 8, 8, 8, 8, 8, 8, 8, 8, 8, 8, 8, 8, 8, 8, 8, 8, 8, 8, 8, 8, 8, 8, 8, 8, 8, 8, 8, 8, 8, 8, 8, 8, 8, 8, 8, 8, 8, 8, 8, 8, 8, 8, 8, 8, 8, 8, 8, 8] : List UInt8)[(IntKind.wrap .u8 (Int.fdiv x_3 (2 ^ (min (8 : Int).toNat (IntKind.bits .u64)))) : Int).toNat]?).map fun b => V.int .u8 b.toNat else none).bind fun x5 =>
       some [.int .i64 (IntKind.wrap .i64 ((IntKind.wrap .i64 (n_4 + 8)) + (IntKind.wrap .i64 x5.toInt)))]
      else
       (bif decide (0 ≤ (IntKind.wrap .u8 x_3)) then (([0, 1, 2, 2, 3, 3, 3, 3, 4, 4, 4, 4, 4, 4, 4, 4, 5, 5, 5, 5, 5, 5, 5, 5, 5, 5, 5, 5, 5, 5, 5, 5, 6, 6, 6, 6, 6, 6, 6, 6, 6, 6, 6, 6, 6, 6, 6, 6, 6, 6, 6, 6, 6, 6, 6, 6, 6, 6, 6, 6, 6, 6, 6, 6, 7, 7, 7, 7, 7, 7, 7, 7, 7, 7, 7, 7, 7, 7, 7, 7, 7, 7, 7, 7, 7, 7, 7, 7, 7, 7, 7, 7, 7, 7, 7, 7, 7, 7, 7, 7, 7, 7, 7, 7, 7, 7, 7, 7, 7, 7, 7, 7, 7, 7, 7, 7, 7, 7, 7, 7, 7, 7, 7, 7, 7, 7, 7, 7, 8, 8, 8, 8, 8, 8, 8, 8, 8, 8, 8, 8, 8, 8, 8, 8, 8, 8, 8, 8, 8, 8, 8, 8, 8, 8, 8, 8, 8, 8, 8, 8, 8, 8, 8, 8, 8, 8, 8, 8, 8, 8, 8, 8, 8, 8, 8, 8, 8, 8, 8, 8, 8, 8, 8, 8, 8, 8, 8, 8, 8, 8, 8, 8, 8, 8, 8, 8, 8, 8, 8, 8, 8, 8, 8, 8, 8, 8, 8, 8, 8, 8, 8, 8, 8, 8, 8, 8, 8, 8, 8, 8, 8, 8, 8, 8, 8, 8, 8, 8, 8, 8, 8, 8, 8, 8, 8, 8, 8, 8, 8, 8, 8, 8, 8, 8, 8, 8, 8, 8, 8, 8, 8, 8, 8, 8, 8, 8] : List UInt8)[(IntKind.wrap .u8 x_3 : Int).toNat]?).map fun b => V.int .u8 b.toNat else none).bind fun x6 =>
       some [.int .i64 (IntKind.wrap .i64 (n_4 + (IntKind.wrap .i64 x6.toInt)))]))
theorem f_bits_Len64_of {x : Int} {r : Option (List V)} (h : f_bits_Len64 CC x = r) : CC F_bits_Len64 [.int .u64 x] = r :=
  func_of (key := 108) (L := LT_bits_Len64 CC) (bs := [.cond 4 (codeAt [1, 0, 1, 0] B_bits_Len64) (codeAt [1, 0, 1, 1] B_bits_Len64), .cond 8 (codeAt [1, 1, 0, 1, 0] B_bits_Len64) (codeAt [1, 1, 0, 1, 1] B_bits_Len64)]) (by kernel_rfl) (tells_cons (t_bits_Len64_1 CC) (tells_cons (t_bits_Len64_2 CC) tells_nil)) (Eq.trans (by kernel_rfl) h)
end Go.AM
set_option maxRecDepth 100000
namespace Go.AM
open Go.Proofs
noncomputable abbrev B_slices_pdqsortCmpFunc_api_Expr_ : Code := bodyOf Try.prog (ann.fid 96)
noncomputable def s_slices_pdqsortCmpFunc_api_Expr__1 (C : CallF) (a b' limit : Int) (wasBalanced wasPartitioned : Bool) (length : Int) (t39 : Bool) (datas : List V) {β : Type} (kr : (Int × (List V)) → Option β) : Option β :=
  bif t39 then
   (C F_slices_breakPatternsCmpFunc_api_Expr_ [.int .i64 a, .int .i64 b', .list T_api_Expr datas]).bind fun r3 =>
   kr (IntKind.wrap .i64 (limit - 1), (V.nth r3 0).toList)
  else
   kr (limit, datas)
noncomputable def s_slices_pdqsortCmpFunc_api_Expr__2 (C : CallF) (a b' limit : Int) (wasBalanced wasPartitioned : Bool) (length pivot hint : Int) (t56 : Bool) (datas : List V) {β : Type} (kr : (Int × Int × (List V)) → Option β) : Option β :=
  bif t56 then
   (C F_slices_reverseRangeCmpFunc_api_Expr_ [.int .i64 a, .int .i64 b', .list T_api_Expr datas]).bind fun r7 =>
   kr (IntKind.wrap .i64 ((IntKind.wrap .i64 (b' - 1)) - (IntKind.wrap .i64 (pivot - a))), 1, (V.nth r7 0).toList)
  else
   kr (pivot, hint, datas)
noncomputable def s_slices_pdqsortCmpFunc_api_Expr__3 (C : CallF) (a b' limit : Int) (wasBalanced wasPartitioned : Bool) (length pivot : Int) (t75 : Bool) (datas : List V) {β : Type} (kr : ((Bool × (List V)) ⊕ (List V)) → Option β) : Option β :=
  bif t75 then
   (C F_slices_partialInsertionSortCmpFunc_api_Expr_ [.int .i64 a, .int .i64 b', .list T_api_Expr datas]).bind fun r11 =>
   bif (V.nth r11 0).toBool then
    kr (.inl ((V.nth r11 0).toBool, (V.nth (r11.drop 1) 0).toList))
   else
    kr (.inr ((V.nth (r11.drop 1) 0).toList))
  else
   kr (.inr datas)
noncomputable def s_slices_pdqsortCmpFunc_api_Expr__4 (C : CallF) (a b' limit : Int) (wasBalanced wasPartitioned : Bool) (datas : List V) {β : Type} (kn : (Int × Int × Int × Bool × Bool × (List V)) → Option β) (kr : (List V) → Option β) : Option β :=
  bif decide (((IntKind.wrap .i64 (b' - a)) : Int) ≤ 12) then
   (C F_slices_insertionSortCmpFunc_api_Expr_ [.int .i64 a, .int .i64 b', .list T_api_Expr datas]).bind fun r1 =>
   kr ((V.nth r1 0).toList)
  else
   bif (limit : Int) == 0 then
    (C F_slices_heapSortCmpFunc_api_Expr_ [.int .i64 a, .int .i64 b', .list T_api_Expr datas]).bind fun r2 =>
    kr ((V.nth r2 0).toList)
   else
    s_slices_pdqsortCmpFunc_api_Expr__1 C a b' limit wasBalanced wasPartitioned (IntKind.wrap .i64 (b' - a)) (!wasBalanced) datas (un fun (limit_4 : Int) (datas_5 : List V) =>
      (C F_slices_choosePivotCmpFunc_api_Expr_ [.list T_api_Expr datas_5, .int .i64 a, .int .i64 b']).bind fun r6 =>
      s_slices_pdqsortCmpFunc_api_Expr__2 C a b' limit_4 wasBalanced wasPartitioned (IntKind.wrap .i64 (b' - a)) ((V.nth r6 0).toInt) ((V.nth (r6.drop 1) 0).toInt) ((((V.nth (r6.drop 1) 0).toInt) : Int) == 2) datas_5 (un fun (pivot_8 : Int) => un fun (hint_9 : Int) (datas_10 : List V) =>
        bif wasBalanced then
         bif wasPartitioned then
          s_slices_pdqsortCmpFunc_api_Expr__3 C a b' limit_4 wasBalanced wasPartitioned (IntKind.wrap .i64 (b' - a)) pivot_8 ((hint_9 : Int) == 1) datas_10 (way2 (un fun (t_12 : Bool) (datas_13 : List V) =>
            kr datas_13) (fun (datas_14 : List V) =>
            bif decide ((a : Int) > 0) then
             bif (decide (0 ≤ (IntKind.wrap .i64 (a - 1)))) && (decide ((IntKind.wrap .i64 (a - 1)) < (datas_14.length : Int))) then
              (datas_14[(IntKind.wrap .i64 (a - 1) : Int).toNat]?).bind fun x15 =>
              bif (decide (0 ≤ pivot_8)) && (decide (pivot_8 < (datas_14.length : Int))) then
               (datas_14[(pivot_8 : Int).toNat]?).bind fun x16 =>
               (C F_expr_Compare [.int .i64 ((x15.cell 0).toInt), .int .i64 ((x15.cell 1).toInt), .list T_api_Expr ((x15.cell 2).toList), .int .i64 ((x16.cell 0).toInt), .int .i64 ((x16.cell 1).toInt), .list T_api_Expr ((x16.cell 2).toList)]).bind fun r17 =>
               bif !(decide ((((V.nth r17 0).toInt) : Int) < 0)) then
                (C F_slices_partitionEqualCmpFunc_api_Expr_ [.int .i64 a, .int .i64 b', .int .i64 pivot_8, .list T_api_Expr datas_14]).bind fun r18 =>
                kn ((V.nth r18 0).toInt, b', limit_4, wasBalanced, wasPartitioned, (V.nth (r18.drop 1) 0).toList)
               else
                (C F_slices_partitionCmpFunc_api_Expr_ [.int .i64 a, .int .i64 b', .int .i64 pivot_8, .list T_api_Expr datas_14]).bind fun r19 =>
                bif decide (((IntKind.wrap .i64 (((V.nth r19 0).toInt) - a)) : Int) < (IntKind.wrap .i64 (b' - ((V.nth r19 0).toInt)))) then
                 (C F_slices_pdqsortCmpFunc_api_Expr_ [.int .i64 a, .int .i64 ((V.nth r19 0).toInt), .int .i64 limit_4, .list T_api_Expr ((V.nth (r19.drop 2) 0).toList)]).bind fun r20 =>
                 kn (IntKind.wrap .i64 (((V.nth r19 0).toInt) + 1), b', limit_4, decide (((IntKind.wrap .i64 (((V.nth r19 0).toInt) - a)) : Int) ≥ (IntKind.wrap .i64 (Int.tdiv (IntKind.wrap .i64 (b' - a)) 8))), (V.nth (r19.drop 1) 0).toBool, (V.nth r20 0).toList)
                else
                 (C F_slices_pdqsortCmpFunc_api_Expr_ [.int .i64 (IntKind.wrap .i64 (((V.nth r19 0).toInt) + 1)), .int .i64 b', .int .i64 limit_4, .list T_api_Expr ((V.nth (r19.drop 2) 0).toList)]).bind fun r21 =>
                 kn (a, (V.nth r19 0).toInt, limit_4, decide (((IntKind.wrap .i64 (b' - ((V.nth r19 0).toInt))) : Int) ≥ (IntKind.wrap .i64 (Int.tdiv (IntKind.wrap .i64 (b' - a)) 8))), (V.nth (r19.drop 1) 0).toBool, (V.nth r21 0).toList)
              else none
             else none
            else
             (C F_slices_partitionCmpFunc_api_Expr_ [.int .i64 a, .int .i64 b', .int .i64 pivot_8, .list T_api_Expr datas_14]).bind fun r22 =>
             bif decide (((IntKind.wrap .i64 (((V.nth r22 0).toInt) - a)) : Int) < (IntKind.wrap .i64 (b' - ((V.nth r22 0).toInt)))) then
              (C F_slices_pdqsortCmpFunc_api_Expr_ [.int .i64 a, .int .i64 ((V.nth r22 0).toInt), .int .i64 limit_4, .list T_api_Expr ((V.nth (r22.drop 2) 0).toList)]).bind fun r23 =>
              kn (IntKind.wrap .i64 (((V.nth r22 0).toInt) + 1), b', limit_4, decide (((IntKind.wrap .i64 (((V.nth r22 0).toInt) - a)) : Int) ≥ (IntKind.wrap .i64 (Int.tdiv (IntKind.wrap .i64 (b' - a)) 8))), (V.nth (r22.drop 1) 0).toBool, (V.nth r23 0).toList)
             else
              (C F_slices_pdqsortCmpFunc_api_Expr_ [.int .i64 (IntKind.wrap .i64 (((V.nth r22 0).toInt) + 1)), .int .i64 b', .int .i64 limit_4, .list T_api_Expr ((V.nth (r22.drop 2) 0).toList)]).bind fun r24 =>
              kn (a, (V.nth r22 0).toInt, limit_4, decide (((IntKind.wrap .i64 (b' - ((V.nth r22 0).toInt))) : Int) ≥ (IntKind.wrap .i64 (Int.tdiv (IntKind.wrap .i64 (b' - a)) 8))), (V.nth (r22.drop 1) 0).toBool, (V.nth r24 0).toList)))
         else
          s_slices_pdqsortCmpFunc_api_Expr__3 C a b' limit_4 wasBalanced wasPartitioned (IntKind.wrap .i64 (b' - a)) pivot_8 false datas_10 (way2 (un fun (t_25 : Bool) (datas_26 : List V) =>
            kr datas_26) (fun (datas_27 : List V) =>
            bif decide ((a : Int) > 0) then
             bif (decide (0 ≤ (IntKind.wrap .i64 (a - 1)))) && (decide ((IntKind.wrap .i64 (a - 1)) < (datas_27.length : Int))) then
              (datas_27[(IntKind.wrap .i64 (a - 1) : Int).toNat]?).bind fun x28 =>
              bif (decide (0 ≤ pivot_8)) && (decide (pivot_8 < (datas_27.length : Int))) then
               (datas_27[(pivot_8 : Int).toNat]?).bind fun x29 =>
               (C F_expr_Compare [.int .i64 ((x28.cell 0).toInt), .int .i64 ((x28.cell 1).toInt), .list T_api_Expr ((x28.cell 2).toList), .int .i64 ((x29.cell 0).toInt), .int .i64 ((x29.cell 1).toInt), .list T_api_Expr ((x29.cell 2).toList)]).bind fun r30 =>
               bif !(decide ((((V.nth r30 0).toInt) : Int) < 0)) then
                (C F_slices_partitionEqualCmpFunc_api_Expr_ [.int .i64 a, .int .i64 b', .int .i64 pivot_8, .list T_api_Expr datas_27]).bind fun r31 =>
                kn ((V.nth r31 0).toInt, b', limit_4, wasBalanced, wasPartitioned, (V.nth (r31.drop 1) 0).toList)
               else
                (C F_slices_partitionCmpFunc_api_Expr_ [.int .i64 a, .int .i64 b', .int .i64 pivot_8, .list T_api_Expr datas_27]).bind fun r32 =>
                bif decide (((IntKind.wrap .i64 (((V.nth r32 0).toInt) - a)) : Int) < (IntKind.wrap .i64 (b' - ((V.nth r32 0).toInt)))) then
                 (C F_slices_pdqsortCmpFunc_api_Expr_ [.int .i64 a, .int .i64 ((V.nth r32 0).toInt), .int .i64 limit_4, .list T_api_Expr ((V.nth (r32.drop 2) 0).toList)]).bind fun r33 =>
                 kn (IntKind.wrap .i64 (((V.nth r32 0).toInt) + 1), b', limit_4, decide (((IntKind.wrap .i64 (((V.nth r32 0).toInt) - a)) : Int) ≥ (IntKind.wrap .i64 (Int.tdiv (IntKind.wrap .i64 (b' - a)) 8))), (V.nth (r32.drop 1) 0).toBool, (V.nth r33 0).toList)
                else
                 (C F_slices_pdqsortCmpFunc_api_Expr_ [.int .i64 (IntKind.wrap .i64 (((V.nth r32 0).toInt) + 1)), .int .i64 b', .int .i64 limit_4, .list T_api_Expr ((V.nth (r32.drop 2) 0).toList)]).bind fun r34 =>
                 kn (a, (V.nth r32 0).toInt, limit_4, decide (((IntKind.wrap .i64 (b' - ((V.nth r32 0).toInt))) : Int) ≥ (IntKind.wrap .i64 (Int.tdiv (IntKind.wrap .i64 (b' - a)) 8))), (V.nth (r32.drop 1) 0).toBool, (V.nth r34 0).toList)
              else none
             else none
            else
             (C F_slices_partitionCmpFunc_api_Expr_ [.int .i64 a, .int .i64 b', .int .i64 pivot_8, .list T_api_Expr datas_27]).bind fun r35 =>
             bif decide (((IntKind.wrap .i64 (((V.nth r35 0).toInt) - a)) : Int) < (IntKind.wrap .i64 (b' - ((V.nth r35 0).toInt)))) then
              (C F_slices_pdqsortCmpFunc_api_Expr_ [.int .i64 a, .int .i64 ((V.nth r35 0).toInt), .int .i64 limit_4, .list T_api_Expr ((V.nth (r35.drop 2) 0).toList)]).bind fun r36 =>
              kn (IntKind.wrap .i64 (((V.nth r35 0).toInt) + 1), b', limit_4, decide (((IntKind.wrap .i64 (((V.nth r35 0).toInt) - a)) : Int) ≥ (IntKind.wrap .i64 (Int.tdiv (IntKind.wrap .i64 (b' - a)) 8))), (V.nth (r35.drop 1) 0).toBool, (V.nth r36 0).toList)
             else
              (C F_slices_pdqsortCmpFunc_api_Expr_ [.int .i64 (IntKind.wrap .i64 (((V.nth r35 0).toInt) + 1)), .int .i64 b', .int .i64 limit_4, .list T_api_Expr ((V.nth (r35.drop 2) 0).toList)]).bind fun r37 =>
              kn (a, (V.nth r35 0).toInt, limit_4, decide (((IntKind.wrap .i64 (b' - ((V.nth r35 0).toInt))) : Int) ≥ (IntKind.wrap .i64 (Int.tdiv (IntKind.wrap .i64 (b' - a)) 8))), (V.nth (r35.drop 1) 0).toBool, (V.nth r37 0).toList)))
        else
         s_slices_pdqsortCmpFunc_api_Expr__3 C a b' limit_4 wasBalanced wasPartitioned (IntKind.wrap .i64 (b' - a)) pivot_8 false datas_10 (way2 (un fun (t_38 : Bool) (datas_39 : List V) =>
           kr datas_39) (fun (datas_40 : List V) =>
           bif decide ((a : Int) > 0) then
            bif (decide (0 ≤ (IntKind.wrap .i64 (a - 1)))) && (decide ((IntKind.wrap .i64 (a - 1)) < (datas_40.length : Int))) then
             (datas_40[(IntKind.wrap .i64 (a - 1) : Int).toNat]?).bind fun x41 =>
             bif (decide (0 ≤ pivot_8)) && (decide (pivot_8 < (datas_40.length : Int))) then
              (datas_40[(pivot_8 : Int).toNat]?).bind fun x42 =>
              (C F_expr_Compare [.int .i64 ((x41.cell 0).toInt), .int .i64 ((x41.cell 1).toInt), .list T_api_Expr ((x41.cell 2).toList), .int .i64 ((x42.cell 0).toInt), .int .i64 ((x42.cell 1).toInt), .list T_api_Expr ((x42.cell 2).toList)]).bind fun r43 =>
              bif !(decide ((((V.nth r43 0).toInt) : Int) < 0)) then
               (C F_slices_partitionEqualCmpFunc_api_Expr_ [.int .i64 a, .int .i64 b', .int .i64 pivot_8, .list T_api_Expr datas_40]).bind fun r44 =>
               kn ((V.nth r44 0).toInt, b', limit_4, wasBalanced, wasPartitioned, (V.nth (r44.drop 1) 0).toList)
              else
               (C F_slices_partitionCmpFunc_api_Expr_ [.int .i64 a, .int .i64 b', .int .i64 pivot_8, .list T_api_Expr datas_40]).bind fun r45 =>
               bif decide (((IntKind.wrap .i64 (((V.nth r45 0).toInt) - a)) : Int) < (IntKind.wrap .i64 (b' - ((V.nth r45 0).toInt)))) then
                (C F_slices_pdqsortCmpFunc_api_Expr_ [.int .i64 a, .int .i64 ((V.nth r45 0).toInt), .int .i64 limit_4, .list T_api_Expr ((V.nth (r45.drop 2) 0).toList)]).bind fun r46 =>
                kn (IntKind.wrap .i64 (((V.nth r45 0).toInt) + 1), b', limit_4, decide (((IntKind.wrap .i64 (((V.nth r45 0).toInt) - a)) : Int) ≥ (IntKind.wrap .i64 (Int.tdiv (IntKind.wrap .i64 (b' - a)) 8))), (V.nth (r45.drop 1) 0).toBool, (V.nth r46 0).toList)
               else
                (C F_slices_pdqsortCmpFunc_api_Expr_ [.int .i64 (IntKind.wrap .i64 (((V.nth r45 0).toInt) + 1)), .int .i64 b', .int .i64 limit_4, .list T_api_Expr ((V.nth (r45.drop 2) 0).toList)]).bind fun r47 =>
                kn (a, (V.nth r45 0).toInt, limit_4, decide (((IntKind.wrap .i64 (b' - ((V.nth r45 0).toInt))) : Int) ≥ (IntKind.wrap .i64 (Int.tdiv (IntKind.wrap .i64 (b' - a)) 8))), (V.nth (r45.drop 1) 0).toBool, (V.nth r47 0).toList)
             else none
            else none
           else
            (C F_slices_partitionCmpFunc_api_Expr_ [.int .i64 a, .int .i64 b', .int .i64 pivot_8, .list T_api_Expr datas_40]).bind fun r48 =>
            bif decide (((IntKind.wrap .i64 (((V.nth r48 0).toInt) - a)) : Int) < (IntKind.wrap .i64 (b' - ((V.nth r48 0).toInt)))) then
             (C F_slices_pdqsortCmpFunc_api_Expr_ [.int .i64 a, .int .i64 ((V.nth r48 0).toInt), .int .i64 limit_4, .list T_api_Expr ((V.nth (r48.drop 2) 0).toList)]).bind fun r49 =>
             kn (IntKind.wrap .i64 (((V.nth r48 0).toInt) + 1), b', limit_4, decide (((IntKind.wrap .i64 (((V.nth r48 0).toInt) - a)) : Int) ≥ (IntKind.wrap .i64 (Int.tdiv (IntKind.wrap .i64 (b' - a)) 8))), (V.nth (r48.drop 1) 0).toBool, (V.nth r49 0).toList)
            else
             (C F_slices_pdqsortCmpFunc_api_Expr_ [.int .i64 (IntKind.wrap .i64 (((V.nth r48 0).toInt) + 1)), .int .i64 b', .int .i64 limit_4, .list T_api_Expr ((V.nth (r48.drop 2) 0).toList)]).bind fun r50 =>
             kn (a, (V.nth r48 0).toInt, limit_4, decide (((IntKind.wrap .i64 (b' - ((V.nth r48 0).toInt))) : Int) ≥ (IntKind.wrap .i64 (Int.tdiv (IntKind.wrap .i64 (b' - a)) 8))), (V.nth (r48.drop 1) 0).toBool, (V.nth r50 0).toList)))))
noncomputable def s_slices_pdqsortCmpFunc_api_Expr__4L (C : CallF) : (Int × Int × Int × Bool × Bool × (List V)) → Option ((Int × Int × Int × Bool × Bool × (List V)) ⊕ (List V)) := un fun a => un fun b' => un fun limit => un fun wasBalanced => un fun wasPartitioned datas => s_slices_pdqsortCmpFunc_api_Expr__4 C a b' limit wasBalanced wasPartitioned datas (fun y => some (.inl y)) (fun r => some (.inr r))
noncomputable def LT_slices_pdqsortCmpFunc_api_Expr_ (C : CallF) : LTab := fun β n ds k =>
  bif Nat.beq n 639 then condS S96_639 [[1, 2, 0, 4, 5, 6, 0]] (@s_slices_pdqsortCmpFunc_api_Expr__1 C) ds k else
  bif Nat.beq n 911 then condS S96_911 [[1, 2, 3, 4, 5, 6, 0, 0, 0]] (@s_slices_pdqsortCmpFunc_api_Expr__2 C) ds k else
  bif Nat.beq n 1215 then condS S96_1215 [[1, 2, 3, 4, 5, 6, 7, 0, 0], [1, 2, 3, 4, 5, 6, 7, 0]] (@s_slices_pdqsortCmpFunc_api_Expr__3 C) ds k else
  bif Nat.beq n 33 then loopS S96_33 [true, true, true, true, true, true] [[0]] (@s_slices_pdqsortCmpFunc_api_Expr__4 C) ds k else
  none
abbrev TS_slices_pdqsortCmpFunc_api_Expr_ (C : CallF) (b : Bar) : Prop := Tells Try.prog ann C (LT_slices_pdqsortCmpFunc_api_Expr_ C) 96 (ntmpsOf Try.prog (ann.fid 96)) (ann.sin 96).blks.length b
theorem t_slices_pdqsortCmpFunc_api_Expr__1 (C : CallF) : TS_slices_pdqsortCmpFunc_api_Expr_ C (.cond 39 (codeAt [1, 1, 0, 0, 0, 1, 1, 1, 0, 1, 0] B_slices_pdqsortCmpFunc_api_Expr_) (codeAt [1, 1, 0, 0, 0, 1, 1, 1, 0, 1, 1] B_slices_pdqsortCmpFunc_api_Expr_)) :=
  tc3 S96_639 [[1, 2, 0, 4, 5, 6, 0]] (@s_slices_pdqsortCmpFunc_api_Expr__1 C) (by kernel_rfl) (ltok_of (bs := []) (by kernel_rfl) tells_nil) (ltok_of (bs := []) (by kernel_rfl) tells_nil) (fun ds => by kernel_rfl) (fun i β k => by kernel_rfl) (fun β ds k => by kernel_rfl)
theorem t_slices_pdqsortCmpFunc_api_Expr__2 (C : CallF) : TS_slices_pdqsortCmpFunc_api_Expr_ C (.cond 56 (codeAt [1, 1, 0, 0, 0, 1, 1, 1, 1, 1, 0, 1, 0] B_slices_pdqsortCmpFunc_api_Expr_) (codeAt [1, 1, 0, 0, 0, 1, 1, 1, 1, 1, 0, 1, 1] B_slices_pdqsortCmpFunc_api_Expr_)) :=
  tc3 S96_911 [[1, 2, 3, 4, 5, 6, 0, 0, 0]] (@s_slices_pdqsortCmpFunc_api_Expr__2 C) (by kernel_rfl) (ltok_of (bs := []) (by kernel_rfl) tells_nil) (ltok_of (bs := []) (by kernel_rfl) tells_nil) (fun ds => by kernel_rfl) (fun i β k => by kernel_rfl) (fun β ds k => by kernel_rfl)
theorem t_slices_pdqsortCmpFunc_api_Expr__3 (C : CallF) : TS_slices_pdqsortCmpFunc_api_Expr_ C (.cond 75 (codeAt [1, 1, 0, 0, 0, 1, 1, 1, 1, 1, 1, 0, 1, 0] B_slices_pdqsortCmpFunc_api_Expr_) (codeAt [1, 1, 0, 0, 0, 1, 1, 1, 1, 1, 1, 0, 1, 1] B_slices_pdqsortCmpFunc_api_Expr_)) :=
  tc3 S96_1215 [[1, 2, 3, 4, 5, 6, 7, 0, 0], [1, 2, 3, 4, 5, 6, 7, 0]] (@s_slices_pdqsortCmpFunc_api_Expr__3 C) (by kernel_rfl) (ltok_of (bs := []) (by kernel_rfl) tells_nil) (ltok_of (bs := []) (by kernel_rfl) tells_nil) (fun ds => by kernel_rfl) (fun i β k => by kernel_rfl) (fun β ds k => by kernel_rfl)
theorem t_slices_pdqsortCmpFunc_api_Expr__4 (C : CallF) : TS_slices_pdqsortCmpFunc_api_Expr_ C (.loop (codeAt [1, 1, 0, 0] B_slices_pdqsortCmpFunc_api_Expr_)) :=
  tl3 S96_33 [true, true, true, true, true, true] [[0]] (@s_slices_pdqsortCmpFunc_api_Expr__4 C) (by kernel_rfl) (ltok_of (bs := [.cond 39 (codeAt [1, 1, 0, 0, 0, 1, 1, 1, 0, 1, 0] B_slices_pdqsortCmpFunc_api_Expr_) (codeAt [1, 1, 0, 0, 0, 1, 1, 1, 0, 1, 1] B_slices_pdqsortCmpFunc_api_Expr_), .cond 56 (codeAt [1, 1, 0, 0, 0, 1, 1, 1, 1, 1, 0, 1, 0] B_slices_pdqsortCmpFunc_api_Expr_) (codeAt [1, 1, 0, 0, 0, 1, 1, 1, 1, 1, 0, 1, 1] B_slices_pdqsortCmpFunc_api_Expr_), .cond 75 (codeAt [1, 1, 0, 0, 0, 1, 1, 1, 1, 1, 1, 0, 1, 0] B_slices_pdqsortCmpFunc_api_Expr_) (codeAt [1, 1, 0, 0, 0, 1, 1, 1, 1, 1, 1, 0, 1, 1] B_slices_pdqsortCmpFunc_api_Expr_)]) (by kernel_rfl) (tells_cons (t_slices_pdqsortCmpFunc_api_Expr__1 C) (tells_cons (t_slices_pdqsortCmpFunc_api_Expr__2 C) (tells_cons (t_slices_pdqsortCmpFunc_api_Expr__3 C) tells_nil)))) (fun ds => by kernel_rfl) (fun i x => by kernel_rfl) (fun i x β k => by kernel_rfl) (fun β ds k => by kernel_rfl)
noncomputable def f_slices_pdqsortCmpFunc_api_Expr_ (C : CallF) (a b' limit : Int) (datas : List V) : Option (List V) :=
  (Loop (s_slices_pdqsortCmpFunc_api_Expr__4L C) (a, b', limit, true, true, datas)).bind (fun (b_51 : List V) =>
    some [.list T_api_Expr b_51])
theorem f_slices_pdqsortCmpFunc_api_Expr__of {a b' limit : Int} {datas : List V} {r : Option (List V)} (h : f_slices_pdqsortCmpFunc_api_Expr_ CC a b' limit datas = r) : CC F_slices_pdqsortCmpFunc_api_Expr_ [.int .i64 a, .int .i64 b', .int .i64 limit, .list T_api_Expr datas] = r :=
  func_of (key := 96) (L := LT_slices_pdqsortCmpFunc_api_Expr_ CC) (bs := [.loop (codeAt [1, 1, 0, 0] B_slices_pdqsortCmpFunc_api_Expr_)]) (by kernel_rfl) (tells_cons (t_slices_pdqsortCmpFunc_api_Expr__4 CC) tells_nil) (Eq.trans (by kernel_rfl) h)
end Go.AM
set_option maxRecDepth 100000
namespace Go.AM
open Go.Proofs
noncomputable def f_slices_SortFunc___api_Expr_api_Expr_ (C : CallF) (xs : List V) : Option (List V) :=
  (C F_bits_Len [.int .u64 (IntKind.wrap .u64 (xs.length : Int))]).bind fun r1 =>
  (C F_slices_pdqsortCmpFunc_api_Expr_ [.int .i64 0, .int .i64 (xs.length : Int), .int .i64 ((V.nth r1 0).toInt), .list T_api_Expr xs]).bind fun r2 =>
  some [.list T_api_Expr ((V.nth r2 0).toList)]
theorem f_slices_SortFunc___api_Expr_api_Expr__of {xs : List V} {r : Option (List V)} (h : f_slices_SortFunc___api_Expr_api_Expr_ CC xs = r) : CC F_slices_SortFunc___api_Expr_api_Expr_ [.list T_api_Expr xs] = r :=
  func_of (key := 91) (L := LT0) (bs := []) (by kernel_rfl) tells_nil (Eq.trans (by kernel_rfl) h)
end Go.AM
set_option maxRecDepth 100000
set_option linter.unusedSimpArgs false
set_option maxHeartbeats 4000000
namespace Go.AM.SX
open Go.Proofs Go.Sort
theorem cmpX_neg (a b : XE) : cmpX a b < 0 ↔ a.lt b := Iff.rfl
theorem ltE_eq (a b : XE) : (ltE a b = true) = (a.lt b) := by rw [ltE_i]; rfl
theorem ltE_eqf (a b : XE) : (ltE a b = false) = ¬ (a.lt b) := by rw [← ltE_eq]; simp
theorem swo_E : SWO ltE where
  irrefl x := by rw [ltE_eqf]; exact XE.lt_irrefl x
  trans x y z := by simp only [ltE_eq]; exact XE.lt_trans
  ntrans x y z := by simp only [ltE_eqf]; exact XE.lt_ntrans
def lenTab : List UInt8 := ([0, 1, 2, 2, 3, 3, 3, 3, 4, 4, 4, 4, 4, 4, 4, 4, 5, 5, 5, 5, 5, 5, 5, 5, 5, 5, 5, 5, 5, 5, 5, 5, 6, 6, 6, 6, 6, 6, 6, 6, 6, 6, 6, 6, 6, 6, 6, 6, 6, 6, 6, 6, 6, 6, 6, 6, 6, 6, 6, 6, 6, 6, 6, 6, 7, 7, 7, 7, 7, 7, 7, 7, 7, 7, 7, 7, 7, 7, 7, 7, 7, 7, 7, 7, 7, 7, 7, 7, 7, 7, 7, 7, 7, 7, 7, 7, 7, 7, 7, 7, 7, 7, 7, 7, 7, 7, 7, 7, 7, 7, 7, 7, 7, 7, 7, 7, 7, 7, 7, 7, 7, 7, 7, 7, 7, 7, 7, 7, 8, 8, 8, 8, 8, 8, 8, 8, 8, 8, 8, 8, 8, 8, 8, 8, 8, 8, 8, 8, 8, 8, 8, 8, 8, 8, 8, 8, 8, 8, 8, 8, 8, 8, 8, 8, 8, 8, 8, 8, 8, 8, 8, 8, 8, 8, 8, 8, 8, 8, 8, 8, 8, 8, 8, 8, 8, 8, 8, 8, 8, 8, 8, 8, 8, 8, 8, 8, 8, 8, 8, 8, 8, 8, 8, 8, 8, 8, 8, 8, 8, 8, 8, 8, 8, 8, 8, 8, 8, 8, 8, 8, 8, 8, 8, 8, 8, 8, 8, 8, 8, 8, 8, 8, 8, 8, 8, 8, 8, 8, 8, 8, 8, 8, 8, 8, 8, 8, 8, 8, 8, 8, 8, 8, 8, 8, 8, 8] : List UInt8)
theorem lenTab_ok : (List.range 256).all (fun y => match lenTab[y]? with | some b => decide (b.toNat ≤ 8) && (Nat.beq y 0 || (decide (1 ≤ b.toNat) && decide (2 ^ (b.toNat - 1) ≤ y))) | none => false) = true := by decide +kernel
theorem lenTab_get {y : Nat} (h : y < 256) : ∃ b, lenTab[y]? = some b ∧ b.toNat ≤ 8 ∧ (0 < y → 1 ≤ b.toNat ∧ 2 ^ (b.toNat - 1) ≤ y) := by
  have := List.all_eq_true.1 lenTab_ok y (List.mem_range.2 h)
  cases hb : lenTab[y]? with
  | none => rw [hb] at this; cases this
  | some b =>
    rw [hb] at this
    simp only [Bool.and_eq_true, Bool.or_eq_true, decide_eq_true_eq] at this
    refine ⟨b, rfl, this.1, fun hy => ?_⟩
    rcases this.2 with h2 | h2
    · have := Nat.eq_of_beq_eq_true h2; omega
    · exact h2
theorem pow_shift {y t k : Nat} (h : 2 ^ (t - 1) ≤ y / 2 ^ k) (ht : 1 ≤ t) : 2 ^ (t + k - 1) ≤ y := by
  have e : t + k - 1 = (t - 1) + k := by omega
  rw [e, Nat.pow_add]
  exact Nat.le_trans (Nat.mul_le_mul_right _ h) (Nat.div_mul_le_self _ _)
noncomputable def lenLast (y n : Int) : Option (List V) :=
(bif decide ((y : Int) ≥ 256) then
       (bif decide (0 ≤ (IntKind.wrap .u8 (Int.fdiv y (2 ^ (min (8 : Int).toNat (IntKind.bits .u64)))))) then (([0, 1, 2, 2, 3, 3, 3, 3, 4, 4, 4, 4, 4, 4, 4, 4, 5, 5, 5, 5, 5, 5, 5, 5, 5, 5, 5, 5, 5, 5, 5, 5, 6, 6, 6, 6, 6, 6, 6, 6, 6, 6, 6, 6, 6, 6, 6, 6, 6, 6, 6, 6, 6, 6, 6, 6, 6, 6, 6, 6, 6, 6, 6, 6, 7, 7, 7, 7, 7, 7, 7, 7, 7, 7, 7, 7, 7, 7, 7, 7, 7, 7, 7, 7, 7, 7, 7, 7, 7, 7, 7, 7, 7, 7, 7, 7, 7, 7, 7, 7, 7, 7, 7, 7, 7, 7, 7, 7, 7, 7, 7, 7, 7, 7, 7, 7, 7, 7, 7, 7, 7, 7, 7, 7, 7, 7, 7, 7, 8, 8, 8, 8, 8, 8, 8, 8, 8, 8, 8, 8, 8, 8, 8, 8, 8, 8, 8, 8, 8, 8, 8, 8, 8, 8, 8, 8, 8, 8, 8, 8, 8, 8, 8, 8, 8, 8, 8, 8, 8, 8, 8, 8, 8, 8, 8, 8, 8, 8, 8, 8, 8, 8, 8, 8, 8, 8, 8, 8, 8, 8, 8, 8, 8, 8, 8, 8, 8, 8, 8, 8, 8, 8, 8, 8, 8, 8, 8, 8, 8, 8, 8, 8, 8, 8, 8, 8, 8, 8, 8, 8, 8, 8, 8, 8, 8, 8, 8, 8, 8, 8, 8, 8, 8, 8, 8, 8, 8, 8, 8, 8, 8, 8, 8, 8, 8, 8, 8, 8, 8, 8, 8, 8, 8, 8, 8, 8] : List UInt8)[(IntKind.wrap .u8 (Int.fdiv y (2 ^ (min (8 : Int).toNat (IntKind.bits .u64)))) : Int).toNat]?).map fun b => V.int .u8 b.toNat else none).bind fun x5 =>
       some [V.int .i64 (IntKind.wrap .i64 ((IntKind.wrap .i64 (n + 8)) + (IntKind.wrap .i64 x5.toInt)))]
      else
       (bif decide (0 ≤ (IntKind.wrap .u8 y)) then (([0, 1, 2, 2, 3, 3, 3, 3, 4, 4, 4, 4, 4, 4, 4, 4, 5, 5, 5, 5, 5, 5, 5, 5, 5, 5, 5, 5, 5, 5, 5, 5, 6, 6, 6, 6, 6, 6, 6, 6, 6, 6, 6, 6, 6, 6, 6, 6, 6, 6, 6, 6, 6, 6, 6, 6, 6, 6, 6, 6, 6, 6, 6, 6, 7, 7, 7, 7, 7, 7, 7, 7, 7, 7, 7, 7, 7, 7, 7, 7, 7, 7, 7, 7, 7, 7, 7, 7, 7, 7, 7, 7, 7, 7, 7, 7, 7, 7, 7, 7, 7, 7, 7, 7, 7, 7, 7, 7, 7, 7, 7, 7, 7, 7, 7, 7, 7, 7, 7, 7, 7, 7, 7, 7, 7, 7, 7, 7, 8, 8, 8, 8, 8, 8, 8, 8, 8, 8, 8, 8, 8, 8, 8, 8, 8, 8, 8, 8, 8, 8, 8, 8, 8, 8, 8, 8, 8, 8, 8, 8, 8, 8, 8, 8, 8, 8, 8, 8, 8, 8, 8, 8, 8, 8, 8, 8, 8, 8, 8, 8, 8, 8, 8, 8, 8, 8, 8, 8, 8, 8, 8, 8, 8, 8, 8, 8, 8, 8, 8, 8, 8, 8, 8, 8, 8, 8, 8, 8, 8, 8, 8, 8, 8, 8, 8, 8, 8, 8, 8, 8, 8, 8, 8, 8, 8, 8, 8, 8, 8, 8, 8, 8, 8, 8, 8, 8, 8, 8, 8, 8, 8, 8, 8, 8, 8, 8, 8, 8, 8, 8, 8, 8, 8, 8, 8, 8] : List UInt8)[(IntKind.wrap .u8 y : Int).toNat]?).map fun b => V.int .u8 b.toNat else none).bind fun x6 =>
       some [V.int .i64 (IntKind.wrap .i64 (n + (IntKind.wrap .i64 x6.toInt)))])
theorem Len64_spec {x : Nat} (h : x < 2 ^ 64) : ∃ L : Nat, CC F_bits_Len64 [.int .u64 (x : Int)] = some [.int .i64 (L : Int)] ∧ L ≤ 64 ∧ (0 < x → 1 ≤ L ∧ 2 ^ (L - 1) ≤ x) := by
  have last : ∀ y n : Nat, y < 65536 → n ≤ 48 → ∃ t : Nat,
      lenLast (y : Int) (n : Int) = some [V.int .i64 ((n + t : Nat) : Int)] ∧ t ≤ 16 ∧ (0 < y → 1 ≤ t ∧ 2 ^ (t - 1) ≤ y) := by
    intro y n hy hn
    unfold lenLast
    rw [show ([0, 1, 2, 2, 3, 3, 3, 3, 4, 4, 4, 4, 4, 4, 4, 4, 5, 5, 5, 5, 5, 5, 5, 5, 5, 5, 5, 5, 5, 5, 5, 5, 6, 6, 6, 6, 6, 6, 6, 6, 6, 6, 6, 6, 6, 6, 6, 6, 6, 6, 6, 6, 6, 6, 6, 6, 6, 6, 6, 6, 6, 6, 6, 6, 7, 7, 7, 7, 7, 7, 7, 7, 7, 7, 7, 7, 7, 7, 7, 7, 7, 7, 7, 7, 7, 7, 7, 7, 7, 7, 7, 7, 7, 7, 7, 7, 7, 7, 7, 7, 7, 7, 7, 7, 7, 7, 7, 7, 7, 7, 7, 7, 7, 7, 7, 7, 7, 7, 7, 7, 7, 7, 7, 7, 7, 7, 7, 7, 8, 8, 8, 8, 8, 8, 8, 8, 8, 8, 8, 8, 8, 8, 8, 8, 8, 8, 8, 8, 8, 8, 8, 8, 8, 8, 8, 8, 8, 8, 8, 8, 8, 8, 8, 8, 8, 8, 8, 8, 8, 8, 8, 8, 8, 8, 8, 8, 8, 8, 8, 8, 8, 8, 8, 8, 8, 8, 8, 8, 8, 8, 8, 8, 8, 8, 8, 8, 8, 8, 8, 8, 8, 8, 8, 8, 8, 8, 8, 8, 8, 8, 8, 8, 8, 8, 8, 8, 8, 8, 8, 8, 8, 8, 8, 8, 8, 8, 8, 8, 8, 8, 8, 8, 8, 8, 8, 8, 8, 8, 8, 8, 8, 8, 8, 8, 8, 8, 8, 8, 8, 8, 8, 8, 8, 8, 8, 8] : List UInt8) = lenTab from rfl]
    by_cases h1 : y ≥ 256
    · have e : Int.fdiv (y : Int) (2 ^ (min (8 : Int).toNat (IntKind.bits .u64))) = ((y / 2 ^ 8 : Nat) : Int) := u64_shr (m := 8) (by omega)
      obtain ⟨b, hb, b1, b2⟩ := lenTab_get (y := y / 2 ^ 8) (by omega)
      refine ⟨b.toNat + 8, ?_, by omega, fun _ => ?_⟩
      · rw [e, bif_decide, if_pos (by omega), wrap8 (by omega) (by omega), bif_decide, if_pos (by omega), Int.toNat_natCast, hb]
        simp only [Option.map_some, Option.bind_some, V.toInt_int]
        simp (disch := omega) only [wrap64]
        congr 3
        omega
      · obtain ⟨b3, b4⟩ := b2 (by omega)
        exact ⟨by omega, pow_shift b4 b3⟩
    · obtain ⟨b, hb, b1, b2⟩ := lenTab_get (y := y) (by omega)
      refine ⟨b.toNat, ?_, by omega, b2⟩
      rw [bif_decide, if_neg (by omega), wrap8 (by omega) (by omega), bif_decide, if_pos (by omega), Int.toNat_natCast, hb]
      simp (disch := omega) only [Option.map_some, Option.bind_some, V.toInt_int, wrap64]
      congr 3
  have mid : ∀ y n : Nat, y < 4294967296 → n ≤ 32 → ∃ t : Nat, ∀ F : Int → Int → Option (List V),
      (∀ y n : Nat, y < 65536 → n ≤ 48 → ∃ t : Nat, F (y : Int) (n : Int) = some [V.int .i64 ((n + t : Nat) : Int)] ∧ t ≤ 16 ∧ (0 < y → 1 ≤ t ∧ 2 ^ (t - 1) ≤ y)) →
      ∃ t : Nat, s_bits_Len64_2 CC (y : Int) (n : Int) (decide (((y : Int) : Int) ≥ 65536)) (un F) = some [V.int .i64 ((n + t : Nat) : Int)] ∧ t ≤ 32 ∧ (0 < y → 1 ≤ t ∧ 2 ^ (t - 1) ≤ y) := by
    intro y n hy hn
    refine ⟨0, fun F hF => ?_⟩
    unfold s_bits_Len64_2
    by_cases h1 : y ≥ 65536
    · have e : Int.fdiv (y : Int) (2 ^ (min (16 : Int).toNat (IntKind.bits .u64))) = ((y / 2 ^ 16 : Nat) : Int) := u64_shr (m := 16) (by omega)
      rw [bif_decide, if_pos (by omega), e, wrap64 (by omega) (by omega)]
      obtain ⟨t, h2, h3, h4⟩ := hF (y / 2 ^ 16) (n + 16) (by omega) (by omega)
      refine ⟨t + 16, ?_, by omega, fun _ => ?_⟩
      · rw [show ((n : Int) + 16) = ((n + 16 : Nat) : Int) by omega]
        simp only [un]
        rw [h2]
        congr 3
        omega
      · obtain ⟨b3, b4⟩ := h4 (by omega)
        exact ⟨by omega, pow_shift b4 b3⟩
    · rw [bif_decide, if_neg (by omega)]
      obtain ⟨t, h2, h3, h4⟩ := hF y n (by omega) (by omega)
      exact ⟨t, h2, by omega, h4⟩
  by_cases h1 : x ≥ 4294967296
  · have e : Int.fdiv (x : Int) (2 ^ (min (32 : Int).toNat (IntKind.bits .u64))) = ((x / 2 ^ 32 : Nat) : Int) := u64_shr (m := 32) (by omega)
    obtain ⟨_, hm⟩ := mid (x / 2 ^ 32) 32 (by omega) (by omega)
    obtain ⟨t, h2, h3, h4⟩ := hm lenLast last
    refine ⟨32 + t, f_bits_Len64_of ?_, by omega, fun _ => ?_⟩
    · show s_bits_Len64_1 CC (x : Int) 0 (decide (((x : Int) : Int) ≥ 4294967296)) (un fun (x_1 : Int) (n_2 : Int) => s_bits_Len64_2 CC x_1 n_2 (decide ((x_1 : Int) ≥ 65536)) (un lenLast)) = _
      unfold s_bits_Len64_1
      rw [bif_decide, if_pos (by omega), e]
      exact h2
    · obtain ⟨b3, b4⟩ := h4 (by omega)
      rw [Nat.add_comm 32 t]
      exact ⟨by omega, pow_shift b4 b3⟩
  · obtain ⟨_, hm⟩ := mid x 0 (by omega) (by omega)
    obtain ⟨t, h2, h3, h4⟩ := hm lenLast last
    refine ⟨t, f_bits_Len64_of ?_, by omega, h4⟩
    show s_bits_Len64_1 CC (x : Int) 0 (decide (((x : Int) : Int) ≥ 4294967296)) (un fun (x_1 : Int) (n_2 : Int) => s_bits_Len64_2 CC x_1 n_2 (decide ((x_1 : Int) ≥ 65536)) (un lenLast)) = _
    unfold s_bits_Len64_1
    rw [bif_decide, if_neg (by omega)]
    rw [Nat.zero_add] at h2
    exact h2
theorem Len_spec {x : Nat} (h : x < 2 ^ 64) : ∃ L : Nat, CC F_bits_Len [.int .u64 (x : Int)] = some [.int .i64 (L : Int)] ∧ L ≤ 64 ∧ (0 < x → 1 ≤ L ∧ 2 ^ (L - 1) ≤ x) := by
  obtain ⟨L, h1, h2⟩ := Len64_spec h
  refine ⟨L, f_bits_Len_of ?_, h2⟩
  unfold f_bits_Len
  rw [h1]
  rfl
theorem nextPow_spec {x : Nat} (h0 : 0 < x) (h : x < 1152921504606846976) : ∃ M : Nat, CC F_slices_nextPowerOfTwo [.int .i64 (x : Int)] = some [.int .u64 (M : Int)] ∧ 1 ≤ M ∧ M ≤ 2 * x := by
  obtain ⟨L, h1, h2, h3⟩ := Len_spec (x := x) (by omega)
  obtain ⟨h4, h5⟩ := h3 h0
  have e : 2 ^ L = 2 * 2 ^ (L - 1) := by
    obtain ⟨k, rfl⟩ : ∃ k, L = k + 1 := ⟨L - 1, by omega⟩
    rw [Nat.pow_succ]; simp only [Nat.add_sub_cancel]; omega
  have hL : L < 64 := by
    by_cases hx : L < 64
    · exact hx
    · have : 2 ^ 63 ≤ 2 ^ (L - 1) := Nat.pow_le_pow_right (by omega) (by omega)
      omega
  refine ⟨2 ^ L, f_slices_nextPowerOfTwo_of ?_, Nat.pos_of_ne_zero (by simp), by omega⟩
  unfold f_slices_nextPowerOfTwo
  rw [wrapu64 (A := x) (by omega), h1]
  simp only [Option.bind_some, V.nth_zero, V.toInt_int]
  rw [bif_decide, if_pos (by omega), Int.toNat_natCast, u64_bit hL]
theorem Next_spec (r : Int) : ∃ R : Nat, CC F_slices_xorshift_Next [.int .u64 r] = some [.int .u64 (R : Int), .int .u64 (R : Int)] ∧ R < 2 ^ 64 := by
  have h : ∀ n : Int, ∃ R : Nat, IntKind.wrap .u64 n = (R : Int) ∧ R < 2 ^ 64 := fun n => ⟨(IntKind.wrap .u64 n).toNat, by rw [wrap_u64]; omega, by rw [wrap_u64]; omega⟩
  obtain ⟨R, h1, h2⟩ := h _
  exact ⟨R, f_slices_xorshift_Next_of (by unfold f_slices_xorshift_Next; rw [h1]), h2⟩
theorem idx_eA {d : Array XE} {i : Nat} (h : i < d.size) : idx (eA d) (i : Int) = some (d[i]!).enc := by rw [idx_nat, encA_get h]
theorem order2_spec {d : Array XE} {a b : Nat} {s : Int} (ha : a < d.size) (hb : b < d.size) : ∃ (x y : Nat) (s' : Int), CC F_slices_order2CmpFunc_api_Expr_ [.list T_api_Expr (eA d), .int .i64 (a : Int), .int .i64 (b : Int), .int .i64 s] = some [.int .i64 (x : Int), .int .i64 (y : Int), .int .i64 s'] ∧ (x = a ∧ y = b ∨ x = b ∧ y = a) := by
  by_cases h : cmpX d[b]! d[a]! < 0
  · refine ⟨b, a, _, f_slices_order2CmpFunc_api_Expr__of (by unfold f_slices_order2CmpFunc_api_Expr_; rw [idx_eA hb, idx_eA ha]; simp only [Option.bind_some, XE.enc_0, XE.enc_1, XE.enc_2, compareX_spec, V.nth_zero, V.toInt_int]; rw [bif_decide, if_pos h]), .inr ⟨rfl, rfl⟩⟩
  · refine ⟨a, b, _, f_slices_order2CmpFunc_api_Expr__of (by unfold f_slices_order2CmpFunc_api_Expr_; rw [idx_eA hb, idx_eA ha]; simp only [Option.bind_some, XE.enc_0, XE.enc_1, XE.enc_2, compareX_spec, V.nth_zero, V.toInt_int]; rw [bif_decide, if_neg h]), .inl ⟨rfl, rfl⟩⟩
theorem median_spec {d : Array XE} {a b c : Nat} {s : Int} (ha : a < d.size) (hb : b < d.size) (hc : c < d.size) : ∃ (m : Nat) (s' : Int), CC F_slices_medianCmpFunc_api_Expr_ [.list T_api_Expr (eA d), .int .i64 (a : Int), .int .i64 (b : Int), .int .i64 (c : Int), .int .i64 s] = some [.int .i64 (m : Int), .int .i64 s'] ∧ (m = a ∨ m = b ∨ m = c) := by
  obtain ⟨x1, y1, s1, e1, o1⟩ := order2_spec (s := s) ha hb
  obtain ⟨x2, y2, s2, e2, o2⟩ := order2_spec (d := d) (a := y1) (b := c) (s := s1) (by omega) hc
  obtain ⟨x3, y3, s3, e3, o3⟩ := order2_spec (d := d) (a := x1) (b := x2) (s := s2) (by omega) (by omega)
  refine ⟨y3, s3, f_slices_medianCmpFunc_api_Expr__of ?_, by omega⟩
  unfold f_slices_medianCmpFunc_api_Expr_
  rw [e1]
  simp only [Option.bind_some, V.nth_zero, V.nth_succ, V.toInt_int, List.drop_succ_cons, List.drop_zero]
  rw [e2]
  simp only [Option.bind_some, V.nth_zero, V.nth_succ, V.toInt_int, List.drop_succ_cons, List.drop_zero]
  rw [e3]
  rfl
theorem medAdj_spec {d : Array XE} {a : Nat} {s : Int} (h1 : 1 ≤ a) (ha : a + 1 < d.size) (hs : d.size < 1152921504606846976) : ∃ (m : Nat) (s' : Int), CC F_slices_medianAdjacentCmpFunc_api_Expr_ [.list T_api_Expr (eA d), .int .i64 (a : Int), .int .i64 s] = some [.int .i64 (m : Int), .int .i64 s'] ∧ a ≤ m + 1 ∧ m ≤ a + 1 := by
  obtain ⟨m, s', e, o⟩ := median_spec (d := d) (a := a - 1) (b := a) (c := a + 1) (s := s) (by omega) (by omega) (by omega)
  refine ⟨m, s', f_slices_medianAdjacentCmpFunc_api_Expr__of ?_, by omega, by omega⟩
  unfold f_slices_medianAdjacentCmpFunc_api_Expr_
  simp (disch := omega) only [sub1C, succC, wrap64]
  rw [e]
  rfl
theorem div4C (n : Nat) : Int.tdiv (n : Int) 4 = ((n / 4 : Nat) : Int) := by
  have := divC n 4
  exact this
theorem mulC (k n : Nat) : ((k : Nat) : Int) * (n : Int) = ((k * n : Nat) : Int) := (Int.natCast_mul k n).symm
theorem choose_spec' {d : Array XE} {a b : Nat} (hab : a + 12 < b) (hb : b ≤ d.size) (hs : d.size < 1152921504606846976) : ∃ (p : Nat) (h : Int), CC F_slices_choosePivotCmpFunc_api_Expr_ [.list T_api_Expr (eA d), .int .i64 (a : Int), .int .i64 (b : Int)] = some [.int .i64 (p : Int), .int .i64 h] ∧ a ≤ p ∧ p < b := by
  have fin : ∀ (p : Nat) (s : Int), ∃ h : Int, (bif (s : Int) == 0 then some [V.int .i64 (p : Int), V.int .i64 1] else bif (s : Int) == 12 then some [V.int .i64 (p : Int), V.int .i64 2] else some [V.int .i64 (p : Int), V.int .i64 0]) = some [V.int .i64 (p : Int), V.int .i64 h] := by
    intro p s
    rw [bif_beq]
    split
    · exact ⟨1, rfl⟩
    · rw [bif_beq]
      split
      · exact ⟨2, rfl⟩
      · exact ⟨0, rfl⟩
  have e1 : IntKind.wrap .i64 ((b : Int) - (a : Int)) = ((b - a : Nat) : Int) := by rw [subC (by omega), wrap64 (by omega) (by omega)]
  have e2 : IntKind.wrap .i64 (Int.tdiv ((b - a : Nat) : Int) 4) = (((b - a) / 4 : Nat) : Int) := by rw [div4C, wrap64 (by omega) (by omega)]
  have e3 : ∀ k : Nat, k ≤ 3 → IntKind.wrap .i64 ((a : Int) + IntKind.wrap .i64 ((k : Int) * (((b - a) / 4 : Nat) : Int))) = ((a + k * ((b - a) / 4) : Nat) : Int) := by
    intro k hk
    have hk2 : k * ((b - a) / 4) ≤ 3 * ((b - a) / 4) := Nat.mul_le_mul_right _ hk
    simp (disch := omega) only [mulC, wrap64, addC]
  have e31 := e3 1 (by omega)
  have e32 := e3 2 (by omega)
  have e33 := e3 3 (by omega)
  rw [show ((1 : Nat) : Int) = 1 from rfl] at e31
  rw [show ((2 : Nat) : Int) = 2 from rfl] at e32
  rw [show ((3 : Nat) : Int) = 3 from rfl] at e33
  by_cases h50 : b - a ≥ 50
  · obtain ⟨m1, s1, q1, r1⟩ := medAdj_spec (d := d) (a := a + 1 * ((b - a) / 4)) (s := 0) (by omega) (by omega) hs
    obtain ⟨m2, s2, q2, r2⟩ := medAdj_spec (d := d) (a := a + 2 * ((b - a) / 4)) (s := s1) (by omega) (by omega) hs
    obtain ⟨m3, s3, q3, r3⟩ := medAdj_spec (d := d) (a := a + 3 * ((b - a) / 4)) (s := s2) (by omega) (by omega) hs
    obtain ⟨m, s, q, r⟩ := median_spec (d := d) (a := m1) (b := m2) (c := m3) (s := s3) (by omega) (by omega) (by omega)
    obtain ⟨h, hf⟩ := fin m s
    refine ⟨m, h, f_slices_choosePivotCmpFunc_api_Expr__of ?_, by omega, by omega⟩
    unfold f_slices_choosePivotCmpFunc_api_Expr_ s_slices_choosePivotCmpFunc_api_Expr__2 s_slices_choosePivotCmpFunc_api_Expr__1
    rw [e1, e2, e31, e32, e33, dec_true (by omega), cond_true, dec_true (by omega), cond_true, q1]
    simp only [Option.bind_some, V.nth_zero, V.nth_succ, V.toInt_int, List.drop_succ_cons, List.drop_zero]
    rw [q2]
    simp only [Option.bind_some, V.nth_zero, V.nth_succ, V.toInt_int, List.drop_succ_cons, List.drop_zero]
    rw [q3]
    simp only [Option.bind_some, V.nth_zero, V.nth_succ, V.toInt_int, List.drop_succ_cons, List.drop_zero, un]
    rw [q]
    exact hf
  · obtain ⟨m, s, q, r⟩ := median_spec (d := d) (a := a + 1 * ((b - a) / 4)) (b := a + 2 * ((b - a) / 4)) (c := a + 3 * ((b - a) / 4)) (s := 0) (by omega) (by omega) (by omega)
    obtain ⟨h, hf⟩ := fin m s
    refine ⟨m, h, f_slices_choosePivotCmpFunc_api_Expr__of ?_, by omega, by omega⟩
    unfold f_slices_choosePivotCmpFunc_api_Expr_ s_slices_choosePivotCmpFunc_api_Expr__2 s_slices_choosePivotCmpFunc_api_Expr__1
    rw [e1, e2, e31, e32, e33, dec_true (by omega), cond_true, dec_false (by omega), cond_false]
    simp only [un]
    rw [q]
    exact hf
theorem break_loop {a b M : Nat} (hM1 : 1 ≤ M) (hM : M ≤ 2 * (b - a)) (h8 : 8 ≤ b - a) (hB : b < 1152921504606846976) : ∀ (n i : Nat) (d : Array XE) (r : Int), a + 2 * ((b - a) / 4) + 2 - i = n → a ≤ i → b ≤ d.size → d.size < 1152921504606846976 →
    ∃ x y z R, Loop (s_slices_breakPatternsCmpFunc_api_Expr__2L CC a (b - a : Nat) M) ((i : Int), eA d, r) = some (x, y, eA R, z) ∧ PermIn a b d R := by
  have e2 : IntKind.wrap .i64 (Int.tdiv ((b - a : Nat) : Int) 4) = (((b - a) / 4 : Nat) : Int) := by rw [div4C, wrap64 (by omega) (by omega)]
  have e32 : IntKind.wrap .i64 ((a : Int) + IntKind.wrap .i64 (2 * (((b - a) / 4 : Nat) : Int))) = ((a + 2 * ((b - a) / 4) : Nat) : Int) := by
    have := mulC 2 ((b - a) / 4)
    rw [show ((2 : Nat) : Int) = 2 from rfl] at this
    rw [this]
    simp (disch := omega) only [wrap64, addC]
  intro n
  induction n with
  | zero =>
    intro i d r hn hi hb hs
    refine ⟨(i : Int), false, r, d, Loop_end ?_, permIn_refl _ _ _⟩
    simp only [s_slices_breakPatternsCmpFunc_api_Expr__2L, s_slices_breakPatternsCmpFunc_api_Expr__2, un]
    rw [e2, e32, succC, wrap64 (by omega) (by omega), dec_false (by omega), cond_false]
  | succ n ih =>
    intro i d r hn hi hb hs
    obtain ⟨R1, q1, q2⟩ := Next_spec r
    obtain ⟨o, ho, ho2⟩ : ∃ o : Nat, (o = if R1 &&& (M - 1) ≥ b - a then (R1 &&& (M - 1)) - (b - a) else R1 &&& (M - 1)) ∧ o < b - a := by
      refine ⟨_, rfl, ?_⟩
      have : R1 &&& (M - 1) ≤ M - 1 := Nat.and_le_right
      split <;> omega
    have hand : R1 &&& (M - 1) ≤ M - 1 := Nat.and_le_right
    have hP := swp_permIn (α := XE) d a b i (a + o) hi (by omega) (by omega) (by omega) hb
    obtain ⟨x, y, z, R, e, hR⟩ := ih (i + 1) (swp d i (a + o)) (R1 : Int) (by omega) (by omega) (by rw [size_swp]; exact hb) (by rw [size_swp]; exact hs)
    refine ⟨x, y, z, R, (Loop_norm ?_).trans e, permIn_trans _ _ _ a b hP hR⟩
    simp only [s_slices_breakPatternsCmpFunc_api_Expr__2L, s_slices_breakPatternsCmpFunc_api_Expr__2, un]
    rw [e2, e32, succC, wrap64 (x := ((a + 2 * ((b - a) / 4) + 1 : Nat) : Int)) (by omega) (by omega), dec_true (by omega), cond_true, q1]
    simp only [Option.bind_some, V.nth_zero, V.nth_succ, V.toInt_int, List.drop_succ_cons, List.drop_zero]
    have e5 : IntKind.wrap .u64 ((M : Int) - 1) = ((M - 1 : Nat) : Int) := by rw [sub1C hM1, wrapu64 (by omega)]
    rw [e5, u64_and q2 (by omega), wrap64 (x := ((R1 &&& (M - 1) : Nat) : Int)) (by omega) (by omega)]
    have fin : ∀ k : Int, k = (o : Int) → (bif (decide (0 ≤ (IntKind.wrap .i64 ((a : Int) + k)))) && (decide ((IntKind.wrap .i64 ((a : Int) + k)) < ((eA d).length : Int))) then
      ((eA d)[(IntKind.wrap .i64 ((a : Int) + k) : Int).toNat]?).bind fun x4 =>
      bif (decide (0 ≤ (i : Int))) && (decide ((i : Int) < ((eA d).length : Int))) then
       ((eA d)[((i : Int) : Int).toNat]?).bind fun x5 =>
       bif (decide (0 ≤ (i : Int))) && (decide ((i : Int) < ((eA d).length : Int))) then
        ((eA d)[((i : Int) : Int).toNat]?).bind fun x6 =>
        bif (decide (0 ≤ (IntKind.wrap .i64 ((a : Int) + k)))) && (decide ((IntKind.wrap .i64 ((a : Int) + k)) < (((eA d).set (((i : Int) : Int).toNat) (.agg [.int .i64 ((x4.cell 0).toInt), .int .i64 ((x4.cell 1).toInt), .list T_api_Expr ((x4.cell 2).toList)])).length : Int))) then
         (((eA d).set (((i : Int) : Int).toNat) (.agg [.int .i64 ((x4.cell 0).toInt), .int .i64 ((x4.cell 1).toInt), .list T_api_Expr ((x4.cell 2).toList)]))[(IntKind.wrap .i64 ((a : Int) + k) : Int).toNat]?).bind fun x7 =>
         some (.inl (IntKind.wrap .i64 ((i : Int) + 1), ((eA d).set (((i : Int) : Int).toNat) (.agg [.int .i64 ((x4.cell 0).toInt), .int .i64 ((x4.cell 1).toInt), .list T_api_Expr ((x4.cell 2).toList)])).set ((IntKind.wrap .i64 ((a : Int) + k) : Int).toNat) (.agg [.int .i64 ((x5.cell 0).toInt), .int .i64 ((x5.cell 1).toInt), .list T_api_Expr ((x5.cell 2).toList)]), (R1 : Int)))
        else none
       else none
      else none
     else none : Option ((Int × List V × Int) ⊕ (Int × Bool × List V × Int))) = some (.inl (((i + 1 : Nat) : Int), eA (swp d i (a + o)), (R1 : Int))) := by
      intro k hk
      subst hk
      simp (disch := omega) only [bif_decide, bif_and, bif_not, if_pos, if_neg, wrap64, succC, addC, Int.toNat_natCast, Option.bind_some, encA_length, encA_get, XE.enc_0, XE.enc_1, XE.enc_2, XE.re, encA_set, encA_get2, Array.size_setIfInBounds, compareX_spec, V.nth_zero, V.toInt_int, cond_true, cond_false]
      rfl
    unfold s_slices_breakPatternsCmpFunc_api_Expr__1
    by_cases h : R1 &&& (M - 1) ≥ b - a
    · rw [if_pos h] at ho
      rw [dec_true (by omega), cond_true]
      exact fin _ (by rw [subC (by omega), wrap64 (by omega) (by omega)]; omega)
    · rw [if_neg h] at ho
      rw [dec_false (by omega), cond_false]
      exact fin _ (by omega)
theorem break_spec {a b : Nat} {d : Array XE} (hab : a + 12 < b) (hb : b ≤ d.size) (hs : d.size < 1152921504606846976) : ∃ R, CC F_slices_breakPatternsCmpFunc_api_Expr_ [.int .i64 (a : Int), .int .i64 (b : Int), .list T_api_Expr (eA d)] = some [.list T_api_Expr (eA R)] ∧ PermIn a b d R := by
  obtain ⟨M, q1, q2, q3⟩ := nextPow_spec (x := b - a) (by omega) (by omega)
  have e1 : IntKind.wrap .i64 ((b : Int) - (a : Int)) = ((b - a : Nat) : Int) := by rw [subC (by omega), wrap64 (by omega) (by omega)]
  have e2 : IntKind.wrap .i64 (Int.tdiv ((b - a : Nat) : Int) 4) = (((b - a) / 4 : Nat) : Int) := by rw [div4C, wrap64 (by omega) (by omega)]
  have e32 : IntKind.wrap .i64 ((a : Int) + IntKind.wrap .i64 (2 * (((b - a) / 4 : Nat) : Int))) = ((a + 2 * ((b - a) / 4) : Nat) : Int) := by
    have := mulC 2 ((b - a) / 4)
    rw [show ((2 : Nat) : Int) = 2 from rfl] at this
    rw [this]
    simp (disch := omega) only [wrap64, addC]
  obtain ⟨x, y, z, R, e, hR⟩ := break_loop (a := a) (b := b) (M := M) q2 q3 (by omega) (by omega) _ (a + 2 * ((b - a) / 4) - 1) d (IntKind.wrap .u64 ((b - a : Nat) : Int)) rfl (by omega) hb hs
  refine ⟨R, f_slices_breakPatternsCmpFunc_api_Expr__of ?_, hR⟩
  unfold f_slices_breakPatternsCmpFunc_api_Expr_
  rw [e1, bif_decide, if_pos (by omega), q1]
  simp only [Option.bind_some, V.nth_zero, V.toInt_int]
  rw [e2, e32, sub1C (by omega), wrap64 (x := ((a + 2 * ((b - a) / 4) - 1 : Nat) : Int)) (by omega) (by omega), e]
  rfl
noncomputable def pdqRest (C : CallF) (a b' : Int) (wasBalanced wasPartitioned : Bool) (limit_4 pivot_8 : Int) (datas_12 : List V) {β : Type} (kn : (Int × Int × Int × Bool × Bool × (List V)) → Option β) : Option β :=
            bif decide ((a : Int) > 0) then
             bif (decide (0 ≤ (IntKind.wrap .i64 (a - 1)))) && (decide ((IntKind.wrap .i64 (a - 1)) < (datas_12.length : Int))) then
              (datas_12[(IntKind.wrap .i64 (a - 1) : Int).toNat]?).bind fun x13 =>
              bif (decide (0 ≤ pivot_8)) && (decide (pivot_8 < (datas_12.length : Int))) then
               (datas_12[(pivot_8 : Int).toNat]?).bind fun x14 =>
               (C F_expr_Compare [.int .i64 ((x13.cell 0).toInt), .int .i64 ((x13.cell 1).toInt), .list T_api_Expr ((x13.cell 2).toList), .int .i64 ((x14.cell 0).toInt), .int .i64 ((x14.cell 1).toInt), .list T_api_Expr ((x14.cell 2).toList)]).bind fun r15 =>
               bif !(decide ((((V.nth r15 0).toInt) : Int) < 0)) then
                (C F_slices_partitionEqualCmpFunc_api_Expr_ [.int .i64 a, .int .i64 b', .int .i64 pivot_8, .list T_api_Expr datas_12]).bind fun r16 =>
                kn ((V.nth r16 0).toInt, b', limit_4, wasBalanced, wasPartitioned, (V.nth (r16.drop 1) 0).toList)
               else
                (C F_slices_partitionCmpFunc_api_Expr_ [.int .i64 a, .int .i64 b', .int .i64 pivot_8, .list T_api_Expr datas_12]).bind fun r17 =>
                bif decide (((IntKind.wrap .i64 (((V.nth r17 0).toInt) - a)) : Int) < (IntKind.wrap .i64 (b' - ((V.nth r17 0).toInt)))) then
                 (C F_slices_pdqsortCmpFunc_api_Expr_ [.int .i64 a, .int .i64 ((V.nth r17 0).toInt), .int .i64 limit_4, .list T_api_Expr ((V.nth (r17.drop 2) 0).toList)]).bind fun r18 =>
                 kn (IntKind.wrap .i64 (((V.nth r17 0).toInt) + 1), b', limit_4, decide (((IntKind.wrap .i64 (((V.nth r17 0).toInt) - a)) : Int) ≥ (IntKind.wrap .i64 (Int.tdiv (IntKind.wrap .i64 (b' - a)) 8))), (V.nth (r17.drop 1) 0).toBool, (V.nth r18 0).toList)
                else
                 (C F_slices_pdqsortCmpFunc_api_Expr_ [.int .i64 (IntKind.wrap .i64 (((V.nth r17 0).toInt) + 1)), .int .i64 b', .int .i64 limit_4, .list T_api_Expr ((V.nth (r17.drop 2) 0).toList)]).bind fun r19 =>
                 kn (a, (V.nth r17 0).toInt, limit_4, decide (((IntKind.wrap .i64 (b' - ((V.nth r17 0).toInt))) : Int) ≥ (IntKind.wrap .i64 (Int.tdiv (IntKind.wrap .i64 (b' - a)) 8))), (V.nth (r17.drop 1) 0).toBool, (V.nth r19 0).toList)
              else none
             else none
            else
             (C F_slices_partitionCmpFunc_api_Expr_ [.int .i64 a, .int .i64 b', .int .i64 pivot_8, .list T_api_Expr datas_12]).bind fun r20 =>
             bif decide (((IntKind.wrap .i64 (((V.nth r20 0).toInt) - a)) : Int) < (IntKind.wrap .i64 (b' - ((V.nth r20 0).toInt)))) then
              (C F_slices_pdqsortCmpFunc_api_Expr_ [.int .i64 a, .int .i64 ((V.nth r20 0).toInt), .int .i64 limit_4, .list T_api_Expr ((V.nth (r20.drop 2) 0).toList)]).bind fun r21 =>
              kn (IntKind.wrap .i64 (((V.nth r20 0).toInt) + 1), b', limit_4, decide (((IntKind.wrap .i64 (((V.nth r20 0).toInt) - a)) : Int) ≥ (IntKind.wrap .i64 (Int.tdiv (IntKind.wrap .i64 (b' - a)) 8))), (V.nth (r20.drop 1) 0).toBool, (V.nth r21 0).toList)
             else
              (C F_slices_pdqsortCmpFunc_api_Expr_ [.int .i64 (IntKind.wrap .i64 (((V.nth r20 0).toInt) + 1)), .int .i64 b', .int .i64 limit_4, .list T_api_Expr ((V.nth (r20.drop 2) 0).toList)]).bind fun r22 =>
              kn (a, (V.nth r20 0).toInt, limit_4, decide (((IntKind.wrap .i64 (b' - ((V.nth r20 0).toInt))) : Int) ≥ (IntKind.wrap .i64 (Int.tdiv (IntKind.wrap .i64 (b' - a)) 8))), (V.nth (r20.drop 1) 0).toBool, (V.nth r22 0).toList)
theorem pdq4_eq (C : CallF) (a b' limit : Int) (wasBalanced wasPartitioned : Bool) (datas : List V) {β : Type} (kn : (Int × Int × Int × Bool × Bool × (List V)) → Option β) (kr : (List V) → Option β) :
   s_slices_pdqsortCmpFunc_api_Expr__4 C a b' limit wasBalanced wasPartitioned datas kn kr =
  bif decide (((IntKind.wrap .i64 (b' - a)) : Int) ≤ 12) then
   (C F_slices_insertionSortCmpFunc_api_Expr_ [.int .i64 a, .int .i64 b', .list T_api_Expr datas]).bind fun r1 =>
   kr ((V.nth r1 0).toList)
  else
   bif (limit : Int) == 0 then
    (C F_slices_heapSortCmpFunc_api_Expr_ [.int .i64 a, .int .i64 b', .list T_api_Expr datas]).bind fun r2 =>
    kr ((V.nth r2 0).toList)
   else
    s_slices_pdqsortCmpFunc_api_Expr__1 C a b' limit wasBalanced wasPartitioned (IntKind.wrap .i64 (b' - a)) (!wasBalanced) datas (un fun (limit_4 : Int) (datas_5 : List V) =>
      (C F_slices_choosePivotCmpFunc_api_Expr_ [.list T_api_Expr datas_5, .int .i64 a, .int .i64 b']).bind fun r6 =>
      s_slices_pdqsortCmpFunc_api_Expr__2 C a b' limit_4 wasBalanced wasPartitioned (IntKind.wrap .i64 (b' - a)) ((V.nth r6 0).toInt) ((V.nth (r6.drop 1) 0).toInt) ((((V.nth (r6.drop 1) 0).toInt) : Int) == 2) datas_5 (un fun (pivot_8 : Int) => un fun (hint_9 : Int) (datas_10 : List V) =>
        bif wasBalanced then
         bif wasPartitioned then
          s_slices_pdqsortCmpFunc_api_Expr__3 C a b' limit_4 wasBalanced wasPartitioned (IntKind.wrap .i64 (b' - a)) pivot_8 ((hint_9 : Int) == 1) datas_10 (way2 (un fun (t_23 : Bool) (datas_24 : List V) =>
            kr datas_24) (fun (datas_12 : List V) => pdqRest C a b' wasBalanced wasPartitioned limit_4 pivot_8 datas_12 kn))
         else
          s_slices_pdqsortCmpFunc_api_Expr__3 C a b' limit_4 wasBalanced wasPartitioned (IntKind.wrap .i64 (b' - a)) pivot_8 false datas_10 (way2 (un fun (t_36 : Bool) (datas_37 : List V) =>
            kr datas_37) (fun (datas_25 : List V) => pdqRest C a b' wasBalanced wasPartitioned limit_4 pivot_8 datas_25 kn))
        else
         s_slices_pdqsortCmpFunc_api_Expr__3 C a b' limit_4 wasBalanced wasPartitioned (IntKind.wrap .i64 (b' - a)) pivot_8 false datas_10 (way2 (un fun (t_49 : Bool) (datas_50 : List V) =>
           kr datas_50) (fun (datas_38 : List V) => pdqRest C a b' wasBalanced wasPartitioned limit_4 pivot_8 datas_38 kn)))) := rfl
section
variable {a b : Nat} {lim : Int} {wb wp : Bool}
theorem pd_1 {d : Array XE} (hab : a + 12 < b) (hb : b ≤ d.size) (hs : d.size < 1152921504606846976) (len : Int) (t : Bool) : ∃ (l1 : Int) (d1 : Array XE), PermIn a b d d1 ∧ ∀ (β : Type) (kr : (Int × List V) → Option β), s_slices_pdqsortCmpFunc_api_Expr__1 CC a b lim wb wp len t (eA d) kr = kr (l1, eA d1) := by
  cases t with
  | true =>
    obtain ⟨R, e, hR⟩ := break_spec hab hb hs
    refine ⟨IntKind.wrap .i64 (lim - 1), R, hR, fun β kr => ?_⟩
    unfold s_slices_pdqsortCmpFunc_api_Expr__1
    rw [cond_true, e]
    rfl
  | false => exact ⟨lim, d, permIn_refl _ _ _, fun β kr => rfl⟩
theorem pd_2 {d : Array XE} (hab : a + 12 < b) (hb : b ≤ d.size) (hs : d.size < 1152921504606846976) (len h : Int) (t : Bool) {p : Nat} (h1 : a ≤ p) (h2 : p < b) : ∃ (p2 : Nat) (h2 : Int) (d1 : Array XE), a ≤ p2 ∧ p2 < b ∧ PermIn a b d d1 ∧ ∀ (β : Type) (kr : (Int × Int × List V) → Option β), s_slices_pdqsortCmpFunc_api_Expr__2 CC a b lim wb wp len p h t (eA d) kr = kr ((p2 : Int), h2, eA d1) := by
  cases t with
  | true =>
    refine ⟨b - 1 - (p - a), 1, reverseRange d a b, by omega, by omega, reverseRange_holds d a b (by omega) hb, fun β kr => ?_⟩
    unfold s_slices_pdqsortCmpFunc_api_Expr__2
    rw [cond_true, rev_spec (by omega) hb hs]
    simp (disch := omega) only [Option.bind_some, V.nth_zero, V.toList_list, sub1C, subC, wrap64]
  | false => exact ⟨p, h, d, h1, h2, permIn_refl _ _ _, fun β kr => rfl⟩
theorem pd_3 {d : Array XE} (hab : a + 12 < b) (hb : b ≤ d.size) (hs : d.size < 1152921504606846976) (hB : Below ltE a b d) (len p : Int) (t : Bool) : ∃ d1 : Array XE, PermIn a b d d1 ∧
    ((∀ (β : Type) (kr : ((Bool × List V) ⊕ List V) → Option β), s_slices_pdqsortCmpFunc_api_Expr__3 CC a b lim wb wp len p t (eA d) kr = kr (.inr (eA d1))) ∨
    (SortedIn ltE a b d1 ∧ ∀ (β : Type) (kr : ((Bool × List V) ⊕ List V) → Option β), s_slices_pdqsortCmpFunc_api_Expr__3 CC a b lim wb wp len p t (eA d) kr = kr (.inl (true, eA d1)))) := by
  cases t with
  | true =>
    have hp := partialInsertionSort_holds (lt := ltE) swo_E d a b (by omega) hb hB
    refine ⟨_, hp.1, ?_⟩
    cases h : (partialInsertionSort ltE d a b).2 with
    | true =>
      refine .inr ⟨hp.2 h, fun β kr => ?_⟩
      unfold s_slices_pdqsortCmpFunc_api_Expr__3
      rw [cond_true, pins_spec (by omega) hb hs, h]
      rfl
    | false =>
      refine .inl fun β kr => ?_
      unfold s_slices_pdqsortCmpFunc_api_Expr__3
      rw [cond_true, pins_spec (by omega) hb hs, h]
      rfl
  | false => exact ⟨d, permIn_refl _ _ _, .inl fun β kr => rfl⟩
end
def Sorts (a b : Nat) (d : Array XE) : Prop := ∀ (lim : Int) (wb wp : Bool), ∃ R, Loop (s_slices_pdqsortCmpFunc_api_Expr__4L CC) ((a : Int), (b : Int), lim, wb, wp, eA d) = some (eA R) ∧ PermIn a b d R ∧ SortedIn ltE a b R
theorem Sorts.call {a b : Nat} {d : Array XE} (h : Sorts a b d) (lim : Int) : ∃ R, CC F_slices_pdqsortCmpFunc_api_Expr_ [.int .i64 (a : Int), .int .i64 (b : Int), .int .i64 lim, .list T_api_Expr (eA d)] = some [.list T_api_Expr (eA R)] ∧ PermIn a b d R ∧ SortedIn ltE a b R := by
  obtain ⟨R, e, h1, h2⟩ := h lim true true
  refine ⟨R, f_slices_pdqsortCmpFunc_api_Expr__of ?_, h1, h2⟩
  unfold f_slices_pdqsortCmpFunc_api_Expr_
  rw [e]
  rfl
theorem rest_spec {a b p : Nat} {d : Array XE} (hab : a + 12 < b) (hb : b ≤ d.size) (hs : d.size < 1152921504606846976) (hB : Below ltE a b d) (h1 : a ≤ p) (h2 : p < b)
    (ih : ∀ (a2 b2 : Nat) (d2 : Array XE), b2 - a2 < b - a → a2 ≤ b2 → b2 ≤ d2.size → d2.size < 1152921504606846976 → Below ltE a2 b2 d2 → Sorts a2 b2 d2) (wb wp : Bool) (lim : Int) :
    ∃ (a2 b2 : Nat) (wb2 wp2 : Bool) (d2 : Array XE), b2 - a2 < b - a ∧ a2 ≤ b2 ∧ b2 ≤ d2.size ∧ d2.size < 1152921504606846976 ∧ Below ltE a2 b2 d2 ∧
      (∀ R, PermIn a2 b2 d2 R → SortedIn ltE a2 b2 R → PermIn a b d R ∧ SortedIn ltE a b R) ∧
      ∀ (β : Type) (kn : (Int × Int × Int × Bool × Bool × (List V)) → Option β), pdqRest CC a b wb wp lim p (eA d) kn = kn ((a2 : Int), (b2 : Int), lim, wb2, wp2, eA d2) := by
  have part : ∃ (a2 b2 : Nat) (wb2 wp2 : Bool) (d2 : Array XE), b2 - a2 < b - a ∧ a2 ≤ b2 ∧ b2 ≤ d2.size ∧ d2.size < 1152921504606846976 ∧ Below ltE a2 b2 d2 ∧
      (∀ R, PermIn a2 b2 d2 R → SortedIn ltE a2 b2 R → PermIn a b d R ∧ SortedIn ltE a b R) ∧
      ∀ (β : Type) (kn : (Int × Int × Int × Bool × Bool × (List V)) → Option β),
        ((CC F_slices_partitionCmpFunc_api_Expr_ [.int .i64 (a : Int), .int .i64 (b : Int), .int .i64 (p : Int), .list T_api_Expr (eA d)]).bind fun r17 =>
                bif decide (((IntKind.wrap .i64 (((V.nth r17 0).toInt) - (a : Int))) : Int) < (IntKind.wrap .i64 ((b : Int) - ((V.nth r17 0).toInt)))) then
                 (CC F_slices_pdqsortCmpFunc_api_Expr_ [.int .i64 (a : Int), .int .i64 ((V.nth r17 0).toInt), .int .i64 lim, .list T_api_Expr ((V.nth (r17.drop 2) 0).toList)]).bind fun r18 =>
                 kn (IntKind.wrap .i64 (((V.nth r17 0).toInt) + 1), (b : Int), lim, decide (((IntKind.wrap .i64 (((V.nth r17 0).toInt) - (a : Int))) : Int) ≥ (IntKind.wrap .i64 (Int.tdiv (IntKind.wrap .i64 ((b : Int) - (a : Int))) 8))), (V.nth (r17.drop 1) 0).toBool, (V.nth r18 0).toList)
                else
                 (CC F_slices_pdqsortCmpFunc_api_Expr_ [.int .i64 (IntKind.wrap .i64 (((V.nth r17 0).toInt) + 1)), .int .i64 (b : Int), .int .i64 lim, .list T_api_Expr ((V.nth (r17.drop 2) 0).toList)]).bind fun r19 =>
                 kn ((a : Int), (V.nth r17 0).toInt, lim, decide (((IntKind.wrap .i64 ((b : Int) - ((V.nth r17 0).toInt))) : Int) ≥ (IntKind.wrap .i64 (Int.tdiv (IntKind.wrap .i64 ((b : Int) - (a : Int))) 8))), (V.nth (r17.drop 1) 0).toBool, (V.nth r19 0).toList)) = kn ((a2 : Int), (b2 : Int), lim, wb2, wp2, eA d2) := by
    obtain ⟨mid, ap, d4, hx⟩ : ∃ mid ap d4, partition ltE d a b p = (mid, ap, d4) := ⟨_, _, _, rfl⟩
    obtain ⟨g1, g2, hs4, hBa, hBr, hleft, hright⟩ := round_part swo_E (partition_holds ltE) h1 h2 hb hB hx
    have hc := part_spec (a := a) (b := b) (pivot := p) (d := d) h2 (by omega) hb hs
    rw [hx] at hc
    by_cases hl : mid - a < b - mid
    · obtain ⟨L, e, l1, l2⟩ := (ih a mid d4 (by omega) g1 (by rw [hs4]; omega) (by rw [hs4]; exact hs) hBa).call lim
      obtain ⟨hBL, hfin⟩ := hleft _ l1 l2
      refine ⟨mid + 1, b, decide (((IntKind.wrap .i64 ((mid : Int) - (a : Int))) : Int) ≥ (IntKind.wrap .i64 (Int.tdiv (IntKind.wrap .i64 ((b : Int) - (a : Int))) 8))), ap, L, by omega, by omega, by rw [l1.1, hs4]; exact hb, by rw [l1.1, hs4]; exact hs, hBL, hfin, fun β kn => ?_⟩
      · rw [hc]
        simp only [Option.bind_some, V.nth_zero, V.nth_succ, V.toInt_int, V.toBool_bool, V.toList_list, List.drop_succ_cons, List.drop_zero]
        rw [bif_decide, if_pos (by rw [subC g1, subC (by omega), wrap64 (by omega) (by omega), wrap64 (by omega) (by omega)]; omega), e]
        simp only [Option.bind_some, V.nth_zero, V.toList_list]
        rw [succC, wrap64 (x := ((mid + 1 : Nat) : Int)) (by omega) (by omega)]
    · obtain ⟨L, e, l1, l2⟩ := (ih (mid + 1) b d4 (by omega) (by omega) (by rw [hs4]; exact hb) (by rw [hs4]; exact hs) hBr).call lim
      obtain ⟨hBL, hfin⟩ := hright _ l1 l2
      refine ⟨a, mid, decide (((IntKind.wrap .i64 ((b : Int) - (mid : Int))) : Int) ≥ (IntKind.wrap .i64 (Int.tdiv (IntKind.wrap .i64 ((b : Int) - (a : Int))) 8))), ap, L, by omega, by omega, by rw [l1.1, hs4]; omega, by rw [l1.1, hs4]; exact hs, hBL, hfin, fun β kn => ?_⟩
      · rw [hc]
        simp only [Option.bind_some, V.nth_zero, V.nth_succ, V.toInt_int, V.toBool_bool, V.toList_list, List.drop_succ_cons, List.drop_zero]
        rw [bif_decide, if_neg (by rw [subC g1, subC (by omega), wrap64 (by omega) (by omega), wrap64 (by omega) (by omega)]; omega), succC, wrap64 (x := ((mid + 1 : Nat) : Int)) (by omega) (by omega), e]
        simp only [Option.bind_some, V.nth_zero, V.toList_list]
  by_cases ha : 0 < a
  · by_cases hc : cmpX d[a - 1]! d[p]! < 0
    · obtain ⟨a2, b2, wb2, wp2, d2, q1, q2, q3, q4, q5, q6, q7⟩ := part
      refine ⟨a2, b2, wb2, wp2, d2, q1, q2, q3, q4, q5, q6, fun β kn => ?_⟩
      rw [← q7 β kn]
      unfold pdqRest
      rw [bif_decide, if_pos (by omega), sub1C ha, wrap64 (by omega) (by omega), chk_eA (i := a - 1) (by omega), getB (by omega), chk_eA (i := p) (by omega), getB (by omega)]
      simp only [XE.enc_0, XE.enc_1, XE.enc_2, compareX_spec, Option.bind_some, V.nth_zero, V.toInt_int]
      rw [bif_not, bif_decide, if_pos hc]
    · obtain ⟨mid, d4, hx⟩ : ∃ mid d4, partitionEqual ltE d a b p = (mid, d4) := ⟨_, _, rfl⟩
      obtain ⟨g1, hm2, hs4, hB4, hfin⟩ := round_eq swo_E (partitionEqual_holds ltE) ha h1 h2 hb hB (by rw [ltE_eqf, ← propext (cmpX_neg _ _)]; exact hc) hx
      have he := pequ_spec (a := a) (b := b) (pivot := p) (d := d) h2 (by omega) hb hs
      rw [hx] at he
      refine ⟨mid, b, wb, wp, d4, by omega, hm2, by rw [hs4]; exact hb, by rw [hs4]; exact hs, hB4, hfin, fun β kn => ?_⟩
      unfold pdqRest
      rw [bif_decide, if_pos (by omega), sub1C ha, wrap64 (by omega) (by omega), chk_eA (i := a - 1) (by omega), getB (by omega), chk_eA (i := p) (by omega), getB (by omega)]
      simp only [XE.enc_0, XE.enc_1, XE.enc_2, compareX_spec, Option.bind_some, V.nth_zero, V.toInt_int]
      rw [bif_not, bif_decide, if_neg hc, he]
      rfl
  · obtain ⟨a2, b2, wb2, wp2, d2, q1, q2, q3, q4, q5, q6, q7⟩ := part
    refine ⟨a2, b2, wb2, wp2, d2, q1, q2, q3, q4, q5, q6, fun β kn => ?_⟩
    rw [← q7 β kn]
    unfold pdqRest
    rw [bif_decide, if_neg (by omega)]
theorem pdq_main : ∀ (n a b : Nat) (d : Array XE), b - a ≤ n → a ≤ b → b ≤ d.size → d.size < 1152921504606846976 → Below ltE a b d → Sorts a b d := by
  intro n
  induction n with
  | zero =>
    intro a b d hn hab hb hs hB lim wb wp
    have hi := insertionSort_holds (lt := ltE) swo_E d a b hab hb
    refine ⟨_, Loop_end ?_, hi⟩
    show s_slices_pdqsortCmpFunc_api_Expr__4 CC a b lim wb wp (eA d) (fun y => some (Sum.inl y)) (fun r => some (Sum.inr r)) = _
    rw [pdq4_eq, bif_decide, if_pos (by rw [subC hab, wrap64 (by omega) (by omega)]; omega), ins_spec hb hs (by omega)]
    rfl
  | succ n ih =>
    intro a b d hn hab hb hs hB lim wb wp
    by_cases h12 : b - a ≤ 12
    · have hi := insertionSort_holds (lt := ltE) swo_E d a b hab hb
      refine ⟨_, Loop_end ?_, hi⟩
      show s_slices_pdqsortCmpFunc_api_Expr__4 CC a b lim wb wp (eA d) (fun y => some (Sum.inl y)) (fun r => some (Sum.inr r)) = _
      rw [pdq4_eq, bif_decide, if_pos (by rw [subC hab, wrap64 (by omega) (by omega)]; omega), ins_spec hb hs (by omega)]
      rfl
    · have hab' : a + 12 < b := by omega
      have e12 : ¬ (((IntKind.wrap .i64 ((b : Int) - (a : Int))) : Int) ≤ 12) := by rw [subC hab, wrap64 (by omega) (by omega)]; omega
      by_cases h0 : lim = 0
      · have hi := heapSort_holds (lt := ltE) swo_E d a b hab hb
        refine ⟨_, Loop_end ?_, hi⟩
        show s_slices_pdqsortCmpFunc_api_Expr__4 CC a b lim wb wp (eA d) (fun y => some (Sum.inl y)) (fun r => some (Sum.inr r)) = _
        rw [pdq4_eq, bif_decide, if_neg e12, bif_beq, if_pos h0, heap_spec (by omega) hb hs]
        rfl
      · obtain ⟨l1, d1, s1, k1⟩ := pd_1 (lim := lim) (wb := wb) (wp := wp) hab' hb hs (IntKind.wrap .i64 ((b : Int) - (a : Int))) (!wb)
        have b1 : b ≤ d1.size := by rw [s1.1]; exact hb
        have z1 : d1.size < 1152921504606846976 := by rw [s1.1]; exact hs
        obtain ⟨p, h, c1, p1, p2⟩ := choose_spec' hab' b1 z1
        obtain ⟨q, h2, d2, q1, q2, s2, k2⟩ := pd_2 (lim := l1) (wb := wb) (wp := wp) hab' b1 z1 (IntKind.wrap .i64 ((b : Int) - (a : Int))) h (h == 2) p1 p2
        have b2 : b ≤ d2.size := by rw [s2.1]; exact b1
        have z2 : d2.size < 1152921504606846976 := by rw [s2.1]; exact z1
        have B2 : Below ltE a b d2 := (hB.perm hb s1).perm b1 s2
        obtain ⟨t, ht⟩ : ∃ t : Bool, t = (bif wb then (bif wp then (h2 == 1) else false) else false) := ⟨_, rfl⟩
        obtain ⟨d3, s3, k3⟩ := pd_3 (lim := l1) (wb := wb) (wp := wp) hab' b2 z2 B2 (IntKind.wrap .i64 ((b : Int) - (a : Int))) (q : Int) t
        have b3 : b ≤ d3.size := by rw [s3.1]; exact b2
        have z3 : d3.size < 1152921504606846976 := by rw [s3.1]; exact z2
        have B3 : Below ltE a b d3 := B2.perm b2 s3
        have P3 : PermIn a b d d3 := permIn_trans _ _ _ a b (permIn_trans _ _ _ a b s1 s2) s3
        have step : ∀ (β : Type) (kn : (Int × Int × Int × Bool × Bool × (List V)) → Option β) (kr : (List V) → Option β), s_slices_pdqsortCmpFunc_api_Expr__4 CC a b lim wb wp (eA d) kn kr =
            s_slices_pdqsortCmpFunc_api_Expr__3 CC a b l1 wb wp (IntKind.wrap .i64 ((b : Int) - (a : Int))) (q : Int) t (eA d2) (way2 (un fun (t_23 : Bool) (datas_24 : List V) => kr datas_24) (fun (datas_12 : List V) => pdqRest CC a b wb wp l1 q datas_12 kn)) := by
          intro β kn kr
          rw [pdq4_eq, bif_decide, if_neg e12, bif_beq, if_neg h0, k1]
          simp only [un]
          rw [c1]
          simp only [Option.bind_some, V.nth_zero, V.nth_succ, V.toInt_int, List.drop_succ_cons, List.drop_zero]
          rw [k2]
          simp only [un]
          rw [ht]
          cases wb
          · rfl
          · cases wp
            · rfl
            · rfl
        rcases k3 with k3 | ⟨k3s, k3⟩
        · obtain ⟨a4, b4, wb4, wp4, d4, r1, r2, r3, r4, r5, r6, r7⟩ := rest_spec hab' b3 z3 B3 q1 q2 (fun a2 b2 d2 hlt h1 h2 h3 h4 => ih a2 b2 d2 (by omega) h1 h2 h3 h4) wb wp l1
          obtain ⟨R, e, e1, e2⟩ := ih a4 b4 d4 (by omega) r2 r3 r4 r5 l1 wb4 wp4
          obtain ⟨f1, f2⟩ := r6 R e1 e2
          refine ⟨R, (Loop_norm ?_).trans e, permIn_trans _ _ _ a b P3 f1, f2⟩
          show s_slices_pdqsortCmpFunc_api_Expr__4 CC a b lim wb wp (eA d) (fun y => some (Sum.inl y)) (fun r => some (Sum.inr r)) = _
          rw [step, k3]
          exact r7 _ (fun y => some (Sum.inl y))
        · refine ⟨d3, Loop_end ?_, P3, k3s⟩
          show s_slices_pdqsortCmpFunc_api_Expr__4 CC a b lim wb wp (eA d) (fun y => some (Sum.inl y)) (fun r => some (Sum.inr r)) = _
          rw [step, k3]
          rfl
theorem sortX_spec (l : List XE) (hs : l.length < 1152921504606846976) : ∃ R : List XE, CC F_slices_SortFunc___api_Expr_api_Expr_ [.list T_api_Expr (l.map XE.enc)] = some [.list T_api_Expr (R.map XE.enc)] ∧ R.Perm l ∧ R.Pairwise (fun x y => ¬ y.lt x) := by
  obtain ⟨L, e1, _⟩ := Len_spec (x := l.length) (by omega)
  obtain ⟨R, e2, h1, h2⟩ := (pdq_main _ 0 l.toArray.size l.toArray (Nat.le_refl _) (Nat.zero_le _) (Nat.le_refl _) (by simpa using hs) (.inl rfl)).call (L : Int)
  have hsz : R.size = l.length := by rw [h1.1]; simp
  refine ⟨R.toList, f_slices_SortFunc___api_Expr_api_Expr__of ?_, ?_, ?_⟩
  · unfold f_slices_SortFunc___api_Expr_api_Expr_
    rw [List.length_map, wrapu64 (A := l.length) (by omega), e1]
    simp only [Option.bind_some, V.nth_zero, V.toInt_int]
    have e3 : eA l.toArray = l.map XE.enc := by simp [encA]
    rw [e3, show ((l.toArray.size : Nat) : Int) = (l.length : Int) by simp, show ((0 : Nat) : Int) = 0 from rfl] at e2
    rw [e2]
    rfl
  · have h3 := h1.2.2
    rw [show l.toArray.size = R.size from h1.1.symm, Array.extract_size, h1.1, Array.extract_size] at h3
    exact h3
  · rw [List.pairwise_iff_getElem]
    intro i j hi hj hij
    have h3 := h2 i j (Nat.zero_le _) hij (by simpa [← hsz] using hj)
    rw [ltE_eqf] at h3
    have hi' : i < R.size := by simpa using hi
    have hj' : j < R.size := by simpa using hj
    rw [getElem!_pos R i hi', getElem!_pos R j hj'] at h3
    simpa using h3
end Go.AM.SX
set_option maxRecDepth 100000
namespace Go.AM
open Go.Proofs
noncomputable abbrev B_slices_CompactFunc___api_Expr_api_Expr_ : Code := bodyOf Try.prog (ann.fid 92)
noncomputable def s_slices_CompactFunc___api_Expr_api_Expr__1 (C : CallF) (s2_0 s2_1 : Nat) (k' k2' : Int) (ss : List V) {β : Type} (kn : (Int × Int × (List V)) → Option β) (kr : (Int × Int × Bool × (List V)) → Option β) : Option β :=
  bif decide ((k2' : Int) < (s2_1 : Int)) then
   bif (decide (0 ≤ k2')) && (decide (k2' < (s2_1 : Int))) then
    (ss[s2_0 + ((k2' : Int).toNat)]?).bind fun x4 =>
    bif (decide (0 ≤ (IntKind.wrap .i64 (k2' - 1)))) && (decide ((IntKind.wrap .i64 (k2' - 1)) < (s2_1 : Int))) then
     (ss[s2_0 + ((IntKind.wrap .i64 (k2' - 1) : Int).toNat)]?).bind fun x5 =>
     (C F_expr_ordered_1 [.int .i64 ((x4.cell 0).toInt), .int .i64 ((x4.cell 1).toInt), .list T_api_Expr ((x4.cell 2).toList), .int .i64 ((x5.cell 0).toInt), .int .i64 ((x5.cell 1).toInt), .list T_api_Expr ((x5.cell 2).toList)]).bind fun r6 =>
     bif !((V.nth r6 0).toBool) then
      bif (decide (0 ≤ k2')) && (decide (k2' < (s2_1 : Int))) then
       (ss[s2_0 + ((k2' : Int).toNat)]?).bind fun x7 =>
       bif (decide (0 ≤ k')) && (decide (k' < (ss.length : Int))) then
        (ss[(k' : Int).toNat]?).bind fun x8 =>
        kn (IntKind.wrap .i64 (k' + 1), IntKind.wrap .i64 (k2' + 1), ss.set ((k' : Int).toNat) (.agg [.int .i64 ((x7.cell 0).toInt), .int .i64 ((x7.cell 1).toInt), .list T_api_Expr ((x7.cell 2).toList)]))
       else none
      else none
     else
      kn (k', IntKind.wrap .i64 (k2' + 1), ss)
    else none
   else none
  else
   kr (k', k2', decide ((k2' : Int) < (s2_1 : Int)), ss)
noncomputable def s_slices_CompactFunc___api_Expr_api_Expr__1L (C : CallF) (s2_0 s2_1 : Nat) : (Int × Int × (List V)) → Option ((Int × Int × (List V)) ⊕ (Int × Int × Bool × (List V))) := un fun k' => un fun k2' ss => s_slices_CompactFunc___api_Expr_api_Expr__1 C s2_0 s2_1 k' k2' ss (fun y => some (.inl y)) (fun r => some (.inr r))
noncomputable def s_slices_CompactFunc___api_Expr_api_Expr__2 (C : CallF) (ss : List V) (k' : Int) {β : Type} (kn : Int → Option β) (kr : ((List V) ⊕ (Int × Bool)) → Option β) : Option β :=
  bif decide ((k' : Int) < (ss.length : Int)) then
   bif (decide (0 ≤ k')) && (decide (k' < (ss.length : Int))) then
    (ss[(k' : Int).toNat]?).bind fun x1 =>
    bif (decide (0 ≤ (IntKind.wrap .i64 (k' - 1)))) && (decide ((IntKind.wrap .i64 (k' - 1)) < (ss.length : Int))) then
     (ss[(IntKind.wrap .i64 (k' - 1) : Int).toNat]?).bind fun x2 =>
     (C F_expr_ordered_1 [.int .i64 ((x1.cell 0).toInt), .int .i64 ((x1.cell 1).toInt), .list T_api_Expr ((x1.cell 2).toList), .int .i64 ((x2.cell 0).toInt), .int .i64 ((x2.cell 1).toInt), .list T_api_Expr ((x2.cell 2).toList)]).bind fun r3 =>
     bif (V.nth r3 0).toBool then
      bif (decide (0 ≤ k')) && (decide (k' ≤ (ss.length : Int))) then
       (Loop (s_slices_CompactFunc___api_Expr_api_Expr__1L C ((k' : Int).toNat) (ss.length - ((k' : Int).toNat))) (k', 1, ss)).bind (un fun (k_9 : Int) => un fun (k_10 : Int) => un fun (t_11 : Bool) (ss_12 : List V) =>
         bif (decide (0 ≤ k_9)) && (decide (k_9 ≤ (ss_12.length : Int))) then
          bif (decide (0 ≤ k_9)) && (decide (k_9 ≤ ((ss_12.take ((k_9 : Int).toNat) ++ (List.replicate (ss_12.length - ((k_9 : Int).toNat)) (V.agg [.int .i64 0, .int .i64 0, .list T_api_Expr ([] : List V)]) ++ ss_12.drop (((k_9 : Int).toNat) + (ss_12.length - ((k_9 : Int).toNat))))).length : Int))) then
           kr (.inl ((ss_12.take ((k_9 : Int).toNat) ++ (List.replicate (ss_12.length - ((k_9 : Int).toNat)) (V.agg [.int .i64 0, .int .i64 0, .list T_api_Expr ([] : List V)]) ++ ss_12.drop (((k_9 : Int).toNat) + (ss_12.length - ((k_9 : Int).toNat))))).take ((k_9 : Int).toNat)))
          else none
         else none)
      else none
     else
      kn (IntKind.wrap .i64 (k' + 1))
    else none
   else none
  else
   kr (.inr (k', decide ((k' : Int) < (ss.length : Int))))
noncomputable def s_slices_CompactFunc___api_Expr_api_Expr__2L (C : CallF) (ss : List V) : (Int) → Option ((Int) ⊕ ((List V) ⊕ (Int × Bool))) := fun k' => s_slices_CompactFunc___api_Expr_api_Expr__2 C ss k' (fun y => some (.inl y)) (fun r => some (.inr r))
noncomputable def LT_slices_CompactFunc___api_Expr_api_Expr_ (C : CallF) : LTab := fun β n ds k =>
  bif Nat.beq n 145 then loopS S92_145 [true, false, false, true, true] [[0, 2, 3, 0, 0, 0]] (@s_slices_CompactFunc___api_Expr_api_Expr__1 C) ds k else
  bif Nat.beq n 65 then loopS S92_65 [true, false] [[0], [0, 0, 2]] (@s_slices_CompactFunc___api_Expr_api_Expr__2 C) ds k else
  none
abbrev TS_slices_CompactFunc___api_Expr_api_Expr_ (C : CallF) (b : Bar) : Prop := Tells Try.prog ann C (LT_slices_CompactFunc___api_Expr_api_Expr_ C) 92 (ntmpsOf Try.prog (ann.fid 92)) (ann.sin 92).blks.length b
theorem t_slices_CompactFunc___api_Expr_api_Expr__1 (C : CallF) : TS_slices_CompactFunc___api_Expr_api_Expr_ C (.loop (codeAt [1, 1, 0, 1, 0, 0, 1, 0, 0, 1, 0, 1, 0, 1, 0, 0] B_slices_CompactFunc___api_Expr_api_Expr_)) :=
  tl3 S92_145 [true, false, false, true, true] [[0, 2, 3, 0, 0, 0]] (@s_slices_CompactFunc___api_Expr_api_Expr__1 C) (by kernel_rfl) (ltok_of (bs := []) (by kernel_rfl) tells_nil) (fun ds => by kernel_rfl) (fun i x => by kernel_rfl) (fun i x β k => by kernel_rfl) (fun β ds k => by kernel_rfl)
theorem t_slices_CompactFunc___api_Expr_api_Expr__2 (C : CallF) : TS_slices_CompactFunc___api_Expr_api_Expr_ C (.loop (codeAt [1, 1, 0, 1, 0, 0] B_slices_CompactFunc___api_Expr_api_Expr_)) :=
  tl3 S92_65 [true, false] [[0], [0, 0, 2]] (@s_slices_CompactFunc___api_Expr_api_Expr__2 C) (by kernel_rfl) (ltok_of (bs := [.loop (codeAt [1, 1, 0, 1, 0, 0, 1, 0, 0, 1, 0, 1, 0, 1, 0, 0] B_slices_CompactFunc___api_Expr_api_Expr_)]) (by kernel_rfl) (tells_cons (t_slices_CompactFunc___api_Expr_api_Expr__1 C) tells_nil)) (fun ds => by kernel_rfl) (fun i x => by kernel_rfl) (fun i x β k => by kernel_rfl) (fun β ds k => by kernel_rfl)
noncomputable def f_slices_CompactFunc___api_Expr_api_Expr_ (C : CallF) (ss : List V) : Option (List V) :=
  bif decide (((ss.length : Int) : Int) < 2) then
   some [V.bool true, .list T_api_Expr ss]
  else
   (Loop (s_slices_CompactFunc___api_Expr_api_Expr__2L C ss) 1).bind (way2 (fun (t4s_13 : List V) =>
     some [V.bool false, .list T_api_Expr t4s_13]) (un fun (k_14 : Int) (t_15 : Bool) =>
     some [V.bool true, .list T_api_Expr ss]))
theorem f_slices_CompactFunc___api_Expr_api_Expr__of {ss : List V} {r : Option (List V)} (h : f_slices_CompactFunc___api_Expr_api_Expr_ CC ss = r) : CC F_slices_CompactFunc___api_Expr_api_Expr_ [.list T_api_Expr ss] = r :=
  func_of (key := 92) (L := LT_slices_CompactFunc___api_Expr_api_Expr_ CC) (bs := [.loop (codeAt [1, 1, 0, 1, 0, 0] B_slices_CompactFunc___api_Expr_api_Expr_)]) (by kernel_rfl) (tells_cons (t_slices_CompactFunc___api_Expr_api_Expr__2 CC) tells_nil) (Eq.trans (by kernel_rfl) h)
end Go.AM
set_option maxRecDepth 100000
namespace Go.AM
open Go.Proofs
noncomputable def f_expr_ordered (C : CallF) (partss : List V) : Option (List V) :=
  (C F_slices_SortFunc___api_Expr_api_Expr_ [.list T_api_Expr partss]).bind fun r1 =>
  (C F_slices_CompactFunc___api_Expr_api_Expr_ [.list T_api_Expr ((V.nth r1 0).toList)]).bind fun r2 =>
  bif (V.nth r2 0).toBool then
   some [V.bool true, .list T_api_Expr ((V.nth (r2.drop 1) 0).toList)]
  else
   some [V.bool false, .list T_api_Expr ((V.nth (r2.drop 1) 0).toList)]
theorem f_expr_ordered_of {partss : List V} {r : Option (List V)} (h : f_expr_ordered CC partss = r) : CC F_expr_ordered [.list T_api_Expr partss] = r :=
  func_of (key := 86) (L := LT0) (bs := []) (by kernel_rfl) tells_nil (Eq.trans (by kernel_rfl) h)
end Go.AM
set_option maxRecDepth 100000
namespace Go.AM
open Go.Proofs
noncomputable def f_expr_ordered_1 (C : CallF) (a_0 a_1 : Int) (a_2 : List V) (b'_0 b'_1 : Int) (b'_2 : List V) : Option (List V) :=
  (C F_expr_Compare [.int .i64 a_0, .int .i64 a_1, .list T_api_Expr a_2, .int .i64 b'_0, .int .i64 b'_1, .list T_api_Expr b'_2]).bind fun r1 =>
  some [.bool ((((V.nth r1 0).toInt) : Int) == 0)]
theorem f_expr_ordered_1_of {a_0 a_1 : Int} {a_2 : List V} {b'_0 b'_1 : Int} {b'_2 : List V} {r : Option (List V)} (h : f_expr_ordered_1 CC a_0 a_1 a_2 b'_0 b'_1 b'_2 = r) : CC F_expr_ordered_1 [.int .i64 a_0, .int .i64 a_1, .list T_api_Expr a_2, .int .i64 b'_0, .int .i64 b'_1, .list T_api_Expr b'_2] = r :=
  func_of (key := 93) (L := LT0) (bs := []) (by kernel_rfl) tells_nil (Eq.trans (by kernel_rfl) h)
end Go.AM
set_option maxRecDepth 100000
set_option linter.unusedSimpArgs false
namespace Go.AM
open Go.Proofs Ex
def cptF (prev : Ex) : List Ex → List Ex
  | [] => []
  | x :: l => if cmp x prev = 0 then cptF x l else x :: cptF x l
def cpt : List Ex → List Ex
  | [] => []
  | x :: l => x :: cptF x l
theorem cptF_snoc : ∀ (m : List Ex) (prev x : Ex), cptF prev (m ++ [x]) = cptF prev m ++ (if cmp x ((prev :: m).getD m.length ex0) = 0 then [] else [x])
  | [], prev, x => by simp only [List.nil_append, cptF, List.length_nil, List.getD_cons_zero]
  | y :: m, prev, x => by
    have ih := cptF_snoc m y x
    simp only [List.cons_append, cptF, List.length_cons, List.getD_cons_succ]
    split
    · exact ih
    · rw [ih]; rfl
theorem cpt_snoc {l : List Ex} {p : Nat} (h1 : 1 ≤ p) (h2 : p < l.length) : cpt (l.take (p + 1)) = cpt (l.take p) ++ (if cmp (l.getD p ex0) (l.getD (p - 1) ex0) = 0 then [] else [l.getD p ex0]) := by
  match l, p, h1, h2 with
  | y :: l, p + 1, _, h2 =>
    simp only [List.length_cons] at h2
    rw [List.take_succ_cons, List.take_succ_cons, cpt, cpt, take_snoc (by omega), cptF_snoc]
    simp only [List.getD_cons_succ, List.length_take, Nat.add_sub_cancel]
    rw [show min p l.length = p by omega]
    have : (y :: l.take p).getD p ex0 = (y :: l).getD p ex0 := by
      match p with
      | 0 => rfl
      | q + 1 => simp only [List.getD_cons_succ]; rw [List.getD_eq_getElem?_getD, List.getD_eq_getElem?_getD, List.getElem?_take_of_lt (by omega)]
    rw [this]; rfl
theorem cptF_srt : ∀ (m : List Ex) (prev : Ex), (prev :: m).Pairwise (fun x y => ¬ y.lx x) → SrtX (prev :: cptF prev m) ∧ ∀ x, x ∈ prev :: cptF prev m ↔ x ∈ prev :: m
  | [], prev, _ => ⟨by simp [cptF], by simp [cptF]⟩
  | y :: m, prev, h => by
    have h1 := List.pairwise_cons.1 h
    obtain ⟨i1, i2⟩ := cptF_srt m y h1.2
    rw [cptF]
    by_cases hc : cmp y prev = 0
    · rw [if_pos hc]
      have := cmp_eq _ _ hc
      subst this
      refine ⟨i1, fun x => ?_⟩
      rw [i2 x]; simp
    · rw [if_neg hc]
      have hlt : prev.lx y := by
        by_cases h2 : prev.lx y
        · exact h2
        · exact absurd (Ex.lx_tri h2 (h1.1 y (by simp))) fun e => hc (by rw [e]; exact cmp_self _)
      refine ⟨List.pairwise_cons.2 ⟨fun x hx => ?_, i1⟩, fun x => ?_⟩
      · rcases List.mem_cons.1 hx with rfl | hx
        · exact hlt
        · exact Ex.lx_trans hlt ((List.pairwise_cons.1 i1).1 x hx)
      · rw [List.mem_cons, i2 x, ← List.mem_cons]
theorem cpt_srt {l : List Ex} (h : l.Pairwise (fun x y => ¬ y.lx x)) : SrtX (cpt l) ∧ ∀ x, x ∈ cpt l ↔ x ∈ l := by
  match l, h with
  | [], _ => exact ⟨List.Pairwise.nil, fun _ => Iff.rfl⟩
  | y :: l, h => exact cptF_srt l y h
theorem ordered1_spec (a : Ex) (ha : a.Ok) (b : Ex) (hb : b.Ok) : CC F_expr_ordered_1 (exA a (exA b [])) = some [.bool (decide (cmp a b = 0))] := by
  refine f_expr_ordered_1_of ?_
  unfold f_expr_ordered_1
  refine (congrArg (fun o => Option.bind o _) (Compare_spec a ha b hb)).trans ?_
  simp only [Option.bind_some, V.nth_zero, V.toInt_int]
  rw [beqd]
section
variable {l : List Ex} (hn : l.length ≤ 1000000) (hok : ∀ k ∈ l, k.Ok)
include hn hok
theorem compact_in {k : Nat} : ∀ (d k2 i : Nat) (ss : List Ex), k + k2 + d = l.length → 1 ≤ k2 → i + 1 ≤ k + k2 → ss.length = l.length → ss.take i = cpt (l.take (k + k2)) → ss.drop (k + k2 - 1) = l.drop (k + k2 - 1) →
    ∃ t u ss', Loop (s_slices_CompactFunc___api_Expr_api_Expr__1L CC k (l.length - k)) ((i : Int), (k2 : Int), ss.map enc) = some (((cpt l).length : Int), u, t, List.map enc ss') ∧ ss'.take (cpt l).length = cpt l ∧ ss'.length = l.length := by
  intro d
  induction d with
  | zero =>
    intro k2 i ss hj hk2 hi hl ht hd
    have e0 : l.take (k + k2) = l := List.take_of_length_le (by omega)
    rw [e0] at ht
    have hi2 : i = (cpt l).length := by rw [← ht, List.length_take]; omega
    refine ⟨false, (k2 : Int), ss, Loop_end ?_, by rw [← hi2]; exact ht, hl⟩
    simp only [s_slices_CompactFunc___api_Expr_api_Expr__1L, s_slices_CompactFunc___api_Expr_api_Expr__1, un, List.length_map, bif_decide]
    rw [if_neg (by omega), decide_eq_false (by omega), hi2]
  | succ d ih =>
    intro k2 i ss hj hk2 hi hl ht hd
    have hp : k + k2 < l.length := by omega
    have hd2 : ss.drop (k + k2) = l.drop (k + k2) := by
      have h := congrArg (List.drop 1) hd
      rw [List.drop_drop, List.drop_drop] at h
      rwa [show k + k2 - 1 + 1 = k + k2 by omega] at h
    have g1 := drop_get hl hd2 hp
    have g0 := drop_get hl hd (show k + k2 - 1 < l.length by omega)
    have x1 : (ss.map enc)[k + k2]? = some (l.getD (k + k2) ex0).enc := by rw [get_enc (by omega), g1]
    have x0 : (ss.map enc)[k + (k2 - 1)]? = some (l.getD (k + k2 - 1) ex0).enc := by rw [show k + (k2 - 1) = k + k2 - 1 by omega, get_enc (by omega), g0]
    have w1 : IntKind.wrap .i64 ((k2 : Int) - 1) = ((k2 - 1 : Nat) : Int) := by rw [wrap64 (by omega) (by omega)]; omega
    have t1 : ((k2 : Nat) : Int) < ((l.length - k : Nat) : Int) := by omega
    have t2 : (0 : Int) ≤ ((k2 : Nat) : Int) := by omega
    have t3 : (0 : Int) ≤ ((k2 - 1 : Nat) : Int) := by omega
    have t4 : ((k2 - 1 : Nat) : Int) < ((l.length - k : Nat) : Int) := by omega
    have t5 : ((i : Nat) : Int) < (ss.length : Int) := by omega
    have t6 : (0 : Int) ≤ ((i : Nat) : Int) := by omega
    have hix : ∃ y, (ss.map enc)[i]? = some y := ⟨_, get_enc (by omega)⟩
    obtain ⟨y, hy⟩ := hix
    have co := ordered1_spec (l.getD (k + k2) ex0) (okD hok hp) (l.getD (k + k2 - 1) ex0) (okD hok (by omega))
    have cs := cpt_snoc (l := l) (p := k + k2) (by omega) hp
    by_cases he : cmp (l.getD (k + k2) ex0) (l.getD (k + k2 - 1) ex0) = 0
    · have hst : s_slices_CompactFunc___api_Expr_api_Expr__1L CC k (l.length - k) ((i : Int), (k2 : Int), ss.map enc) = some (.inl ((i : Int), ((k2 + 1 : Nat) : Int), ss.map enc)) := by
        simp only [s_slices_CompactFunc___api_Expr_api_Expr__1L, s_slices_CompactFunc___api_Expr_api_Expr__1, un, List.length_map, bif_decide, bif_and, w1, t1, t2, t3, t4, if_true, Int.toNat_natCast, x1, x0, Option.bind_some, enc_0, enc_1, enc_2]
        refine (congrArg (fun o => Option.bind o _) co).trans ?_
        simp only [Option.bind_some, V.nth_zero, V.toBool_bool]
        rw [decide_eq_true he, Bool.not_true, cond_false, wrap64 (by omega) (by omega)]
        rfl
      rw [Loop_norm hst]
      refine ih (k2 + 1) i ss (by omega) (by omega) (by omega) hl ?_ (by rw [show k + (k2 + 1) - 1 = k + k2 by omega]; exact hd2)
      rw [show k + (k2 + 1) = k + k2 + 1 by omega, cs, if_pos he, List.append_nil, ht]
    · have hst : s_slices_CompactFunc___api_Expr_api_Expr__1L CC k (l.length - k) ((i : Int), (k2 : Int), ss.map enc) = some (.inl (((i + 1 : Nat) : Int), ((k2 + 1 : Nat) : Int), (ss.set i (l.getD (k + k2) ex0)).map enc)) := by
        simp only [s_slices_CompactFunc___api_Expr_api_Expr__1L, s_slices_CompactFunc___api_Expr_api_Expr__1, un, List.length_map, bif_decide, bif_and, w1, t1, t2, t3, t4, t5, t6, if_true, Int.toNat_natCast, x1, x0, hy, Option.bind_some, enc_0, enc_1, enc_2]
        refine (congrArg (fun o => Option.bind o _) co).trans ?_
        simp only [Option.bind_some, V.nth_zero, V.toBool_bool]
        rw [decide_eq_false he, Bool.not_false, cond_true, wrap64 (by omega) (by omega), wrap64 (by omega) (by omega), ← enc_eq, List.map_set]
        rfl
      rw [Loop_norm hst]
      refine ih (k2 + 1) (i + 1) (ss.set i (l.getD (k + k2) ex0)) (by omega) (by omega) (by omega) (by simpa using hl) ?_ ?_
      · rw [take_snoc (by rw [List.length_set]; omega), List.take_set_of_le (Nat.le_refl i), ht, show k + (k2 + 1) = k + k2 + 1 by omega, cs, if_neg he]
        simp [show i < ss.length by omega]
      · rw [show k + (k2 + 1) - 1 = k + k2 by omega, List.drop_set_of_lt (by omega), hd2]
theorem compact_out : ∀ (d p : Nat), p + d = l.length → 1 ≤ p → cpt (l.take p) = l.take p →
    (cpt l = l ∧ ∃ t, Loop (s_slices_CompactFunc___api_Expr_api_Expr__2L CC (l.map enc)) (p : Int) = some (.inr t)) ∨ Loop (s_slices_CompactFunc___api_Expr_api_Expr__2L CC (l.map enc)) (p : Int) = some (.inl ((cpt l).map enc)) := by
  intro d
  induction d with
  | zero =>
    intro p hp h1 hc
    obtain rfl : p = l.length := by omega
    rw [List.take_length] at hc
    refine .inl ⟨hc, ((l.length : Int), false), Loop_end ?_⟩
    simp only [s_slices_CompactFunc___api_Expr_api_Expr__2L, s_slices_CompactFunc___api_Expr_api_Expr__2, List.length_map, bif_decide]
    rw [if_neg (by omega), decide_eq_false (by omega)]
  | succ d ih =>
    intro p hp h1 hc
    have hpl : p < l.length := by omega
    have cs := cpt_snoc (l := l) h1 hpl
    have co := ordered1_spec (l.getD p ex0) (okD hok hpl) (l.getD (p - 1) ex0) (okD hok (by omega))
    have x1 : (l.map enc)[p]? = some (l.getD p ex0).enc := get_enc hpl
    have x0 : (l.map enc)[p - 1]? = some (l.getD (p - 1) ex0).enc := get_enc (by omega)
    have w1 : IntKind.wrap .i64 ((p : Int) - 1) = ((p - 1 : Nat) : Int) := by rw [wrap64 (by omega) (by omega)]; omega
    have t1 : ((p : Nat) : Int) < (l.length : Int) := by omega
    have t2 : (0 : Int) ≤ ((p : Nat) : Int) := by omega
    have t3 : (0 : Int) ≤ ((p - 1 : Nat) : Int) := by omega
    have t4 : ((p - 1 : Nat) : Int) < (l.length : Int) := by omega
    have t5 : ((p : Nat) : Int) ≤ (l.length : Int) := by omega
    by_cases he : cmp (l.getD p ex0) (l.getD (p - 1) ex0) = 0
    · refine .inr (Loop_end ?_)
      obtain ⟨t, u, ss', e1, e2, e3⟩ := compact_in hn hok (k := p) (l.length - (p + 1)) 1 p l (by omega) (by omega) (by omega) rfl (by rw [cs, if_pos he, List.append_nil, hc]) rfl
      have hm : (cpt l).length ≤ ss'.length := by
        have := congrArg List.length e2
        rw [List.length_take] at this
        omega
      have m1 : (0 : Int) ≤ (((cpt l).length : Nat) : Int) := by omega
      have m2 : (((cpt l).length : Nat) : Int) ≤ ((ss'.map enc).length : Int) := by rw [List.length_map]; omega
      simp only [s_slices_CompactFunc___api_Expr_api_Expr__2L, s_slices_CompactFunc___api_Expr_api_Expr__2, List.length_map, bif_decide, bif_and, w1, t1, t2, t3, t4, t5, if_true, Int.toNat_natCast, x1, x0, Option.bind_some, enc_0, enc_1, enc_2]
      refine (congrArg (fun o => Option.bind o _) co).trans ?_
      simp only [Option.bind_some, V.nth_zero, V.toBool_bool]
      rw [decide_eq_true he, cond_true]
      refine (congrArg (fun o => Option.bind o _) e1).trans ?_
      simp only [Option.bind_some, un, bif_and, bif_decide, Int.toNat_natCast]
      rw [if_pos m1, if_pos m2, if_pos m1, if_pos (by simp only [List.length_append, List.length_take, List.length_replicate, List.length_drop, List.length_map]; omega), cut_take _ _ _ hm, e2]
    · have hst : s_slices_CompactFunc___api_Expr_api_Expr__2L CC (l.map enc) (p : Int) = some (.inl ((p + 1 : Nat) : Int)) := by
        simp only [s_slices_CompactFunc___api_Expr_api_Expr__2L, s_slices_CompactFunc___api_Expr_api_Expr__2, List.length_map, bif_decide, bif_and, w1, t1, t2, t3, t4, if_true, Int.toNat_natCast, x1, x0, Option.bind_some, enc_0, enc_1, enc_2]
        refine (congrArg (fun o => Option.bind o _) co).trans ?_
        simp only [Option.bind_some, V.nth_zero, V.toBool_bool]
        rw [decide_eq_false he, cond_false, wrap64 (by omega) (by omega)]
        rfl
      rw [Loop_norm hst]
      exact ih (p + 1) (by omega) (by omega) (by rw [cs, if_neg he, hc, ← take_snoc hpl])
theorem compact_spec : ∃ b, CC F_slices_CompactFunc___api_Expr_api_Expr_ [.list T_api_Expr (l.map enc)] = some [.bool b, .list T_api_Expr ((cpt l).map enc)] := by
  by_cases h2 : l.length < 2
  · refine ⟨true, f_slices_CompactFunc___api_Expr_api_Expr__of ?_⟩
    unfold f_slices_CompactFunc___api_Expr_api_Expr_
    rw [List.length_map, bif_decide, if_pos (by omega)]
    match l, h2 with
    | [], _ => rfl
    | [k], _ => rfl
  · rcases compact_out hn hok (l.length - 1) 1 (by omega) (by omega) (by
      match l, h2 with
      | k :: l, _ => rfl) with ⟨h3, t, h4⟩ | h4
    · refine ⟨true, f_slices_CompactFunc___api_Expr_api_Expr__of ?_⟩
      unfold f_slices_CompactFunc___api_Expr_api_Expr_
      rw [List.length_map, bif_decide, if_neg (by omega)]
      refine (congrArg (fun o => Option.bind o _) h4).trans ?_
      rw [h3]; rfl
    · refine ⟨false, f_slices_CompactFunc___api_Expr_api_Expr__of ?_⟩
      unfold f_slices_CompactFunc___api_Expr_api_Expr_
      rw [List.length_map, bif_decide, if_neg (by omega)]
      refine (congrArg (fun o => Option.bind o _) h4).trans ?_
      rfl
theorem sortEx_spec : ∃ R : List Ex, CC F_slices_SortFunc___api_Expr_api_Expr_ [.list T_api_Expr (l.map enc)] = some [.list T_api_Expr (R.map enc)] ∧ R.Perm l ∧ R.Pairwise (fun x y => ¬ y.lx x) := by
  have hx : ∃ L : List SX.XE, L.map SX.XE.e = l := by
    clear hn
    induction l with
    | nil => exact ⟨[], rfl⟩
    | cons k l ih =>
      obtain ⟨L, hL⟩ := ih fun k hk => hok k (by simp [hk])
      exact ⟨⟨k, hok k (by simp)⟩ :: L, by rw [List.map_cons, hL]⟩
  obtain ⟨L, rfl⟩ := hx
  have he : ∀ L : List SX.XE, L.map SX.XE.enc = (L.map SX.XE.e).map enc := fun L => by rw [List.map_map]; rfl
  obtain ⟨R, e1, h1, h2⟩ := SX.sortX_spec L (by rw [List.length_map] at hn; omega)
  refine ⟨R.map SX.XE.e, ?_, h1.map _, List.pairwise_map.2 h2⟩
  rw [← he, ← he]; exact e1
theorem ordered_spec : ∃ b, CC F_expr_ordered [.list T_api_Expr (l.map enc)] = some [.bool b, .list T_api_Expr ((l.foldl insX []).map enc)] := by
  obtain ⟨R, e1, h1, h2⟩ := sortEx_spec hn hok
  obtain ⟨b, e2⟩ := compact_spec (l := R) (by rw [h1.length_eq]; exact hn) fun k hk => hok k (h1.mem_iff.1 hk)
  obtain ⟨c1, c2⟩ := cpt_srt h2
  have hc : cpt R = l.foldl insX [] := srt_extX c1 fold_srt fun x => by rw [c2, fold_mem, h1.mem_iff]
  rw [hc] at e2
  refine ⟨b, f_expr_ordered_of ?_⟩
  unfold f_expr_ordered
  refine (congrArg (fun o => Option.bind o _) e1).trans ?_
  simp only [Option.bind_some, V.nth_zero, V.toList_list]
  refine (congrArg (fun o => Option.bind o _) e2).trans ?_
  cases b <;> rfl
end
end Go.AM
set_option maxRecDepth 100000
namespace Go.AM
open Go.Proofs
noncomputable def f_expr_joinUnion (C : CallF) (kids : List V) : Option (List V) :=
  (C K_slices_ContainsFunc___api_Expr_api_Expr__k133 [.list T_api_Expr kids]).bind fun r1 =>
  bif (V.nth r1 0).toBool then
   (C F_expr_universal []).bind fun r2 =>
   some [.int .i64 ((V.nth r2 0).toInt), .int .i64 ((V.nth (r2.drop 1) 0).toInt), .list T_api_Expr ((V.nth (r2.drop 2) 0).toList)]
  else
   (C F_expr_flatten [.int .i64 4, .list T_api_Expr kids]).bind fun r3 =>
   (C K_slices_DeleteFunc___api_Expr_api_Expr__k137 [.list T_api_Expr ((V.nth r3 0).toList)]).bind fun r4 =>
   bif (V.nth r4 0).toBool then
    (C F_expr_ordered [.list T_api_Expr ((V.nth (r4.drop 1) 0).toList)]).bind fun r5 =>
    bif (V.nth r5 0).toBool then
     (C F_expr_empty []).bind fun r6 =>
     (C F_expr_collect [.int .i64 4, .list T_api_Expr ((V.nth (r5.drop 1) 0).toList), .int .i64 ((V.nth r6 0).toInt), .int .i64 ((V.nth (r6.drop 1) 0).toInt), .list T_api_Expr ((V.nth (r6.drop 2) 0).toList)]).bind fun r7 =>
     some [.int .i64 ((V.nth r7 0).toInt), .int .i64 ((V.nth (r7.drop 1) 0).toInt), .list T_api_Expr ((V.nth ((r7.drop 1).drop 1) 0).toList)]
    else
     (C F_expr_empty []).bind fun r8 =>
     (C F_expr_collect [.int .i64 4, .list T_api_Expr ((V.nth (r5.drop 1) 0).toList), .int .i64 ((V.nth r8 0).toInt), .int .i64 ((V.nth (r8.drop 1) 0).toInt), .list T_api_Expr ((V.nth (r8.drop 2) 0).toList)]).bind fun r9 =>
     some [.int .i64 ((V.nth r9 0).toInt), .int .i64 ((V.nth (r9.drop 1) 0).toInt), .list T_api_Expr ((V.nth ((r9.drop 1).drop 1) 0).toList)]
   else
    (C F_expr_ordered [.list T_api_Expr ((V.nth (r4.drop 1) 0).toList)]).bind fun r10 =>
    bif (V.nth r10 0).toBool then
     (C F_expr_empty []).bind fun r11 =>
     (C F_expr_collect [.int .i64 4, .list T_api_Expr ((V.nth (r10.drop 1) 0).toList), .int .i64 ((V.nth r11 0).toInt), .int .i64 ((V.nth (r11.drop 1) 0).toInt), .list T_api_Expr ((V.nth (r11.drop 2) 0).toList)]).bind fun r12 =>
     some [.int .i64 ((V.nth r12 0).toInt), .int .i64 ((V.nth (r12.drop 1) 0).toInt), .list T_api_Expr ((V.nth ((r12.drop 1).drop 1) 0).toList)]
    else
     (C F_expr_empty []).bind fun r13 =>
     (C F_expr_collect [.int .i64 4, .list T_api_Expr ((V.nth (r10.drop 1) 0).toList), .int .i64 ((V.nth r13 0).toInt), .int .i64 ((V.nth (r13.drop 1) 0).toInt), .list T_api_Expr ((V.nth (r13.drop 2) 0).toList)]).bind fun r14 =>
     some [.int .i64 ((V.nth r14 0).toInt), .int .i64 ((V.nth (r14.drop 1) 0).toInt), .list T_api_Expr ((V.nth ((r14.drop 1).drop 1) 0).toList)]
theorem f_expr_joinUnion_of {kids : List V} {r : Option (List V)} (h : f_expr_joinUnion CC kids = r) : CC F_expr_joinUnion [.list T_api_Expr kids] = r :=
  func_of (key := 73) (L := LT0) (bs := []) (by kernel_rfl) tells_nil (Eq.trans (by kernel_rfl) h)
end Go.AM
set_option maxRecDepth 100000
namespace Go.AM
open Go.Proofs
noncomputable def f_expr_joinConcat (C : CallF) (kids : List V) : Option (List V) :=
  (C F_slices_ContainsFunc___api_Expr_api_Expr_ [.list T_api_Expr kids]).bind fun r1 =>
  bif (V.nth r1 0).toBool then
   (C F_expr_empty []).bind fun r2 =>
   some [.int .i64 ((V.nth r2 0).toInt), .int .i64 ((V.nth (r2.drop 1) 0).toInt), .list T_api_Expr ((V.nth (r2.drop 2) 0).toList)]
  else
   (C F_expr_flatten [.int .i64 5, .list T_api_Expr kids]).bind fun r3 =>
   (C K_slices_DeleteFunc___api_Expr_api_Expr__k135 [.list T_api_Expr ((V.nth r3 0).toList)]).bind fun r4 =>
   bif (V.nth r4 0).toBool then
    (C F_expr_unit []).bind fun r5 =>
    (C F_expr_collect [.int .i64 5, .list T_api_Expr ((V.nth (r4.drop 1) 0).toList), .int .i64 ((V.nth r5 0).toInt), .int .i64 ((V.nth (r5.drop 1) 0).toInt), .list T_api_Expr ((V.nth (r5.drop 2) 0).toList)]).bind fun r6 =>
    some [.int .i64 ((V.nth r6 0).toInt), .int .i64 ((V.nth (r6.drop 1) 0).toInt), .list T_api_Expr ((V.nth ((r6.drop 1).drop 1) 0).toList)]
   else
    (C F_expr_unit []).bind fun r7 =>
    (C F_expr_collect [.int .i64 5, .list T_api_Expr ((V.nth (r4.drop 1) 0).toList), .int .i64 ((V.nth r7 0).toInt), .int .i64 ((V.nth (r7.drop 1) 0).toInt), .list T_api_Expr ((V.nth (r7.drop 2) 0).toList)]).bind fun r8 =>
    some [.int .i64 ((V.nth r8 0).toInt), .int .i64 ((V.nth (r8.drop 1) 0).toInt), .list T_api_Expr ((V.nth ((r8.drop 1).drop 1) 0).toList)]
theorem f_expr_joinConcat_of {kids : List V} {r : Option (List V)} (h : f_expr_joinConcat CC kids = r) : CC F_expr_joinConcat [.list T_api_Expr kids] = r :=
  func_of (key := 74) (L := LT0) (bs := []) (by kernel_rfl) tells_nil (Eq.trans (by kernel_rfl) h)
end Go.AM
set_option maxRecDepth 100000
namespace Go.AM
open Go.Proofs
noncomputable def f_expr_joinAnd (C : CallF) (kids : List V) : Option (List V) :=
  (C F_slices_ContainsFunc___api_Expr_api_Expr_ [.list T_api_Expr kids]).bind fun r1 =>
  bif (V.nth r1 0).toBool then
   (C F_expr_empty []).bind fun r2 =>
   some [.int .i64 ((V.nth r2 0).toInt), .int .i64 ((V.nth (r2.drop 1) 0).toInt), .list T_api_Expr ((V.nth (r2.drop 2) 0).toList)]
  else
   (C F_expr_flatten [.int .i64 6, .list T_api_Expr kids]).bind fun r3 =>
   (C F_slices_DeleteFunc___api_Expr_api_Expr_ [.list T_api_Expr ((V.nth r3 0).toList)]).bind fun r4 =>
   bif (V.nth r4 0).toBool then
    (C F_expr_ordered [.list T_api_Expr ((V.nth (r4.drop 1) 0).toList)]).bind fun r5 =>
    bif (V.nth r5 0).toBool then
     (C F_expr_universal []).bind fun r6 =>
     (C F_expr_collect [.int .i64 6, .list T_api_Expr ((V.nth (r5.drop 1) 0).toList), .int .i64 ((V.nth r6 0).toInt), .int .i64 ((V.nth (r6.drop 1) 0).toInt), .list T_api_Expr ((V.nth (r6.drop 2) 0).toList)]).bind fun r7 =>
     some [.int .i64 ((V.nth r7 0).toInt), .int .i64 ((V.nth (r7.drop 1) 0).toInt), .list T_api_Expr ((V.nth ((r7.drop 1).drop 1) 0).toList)]
    else
     (C F_expr_universal []).bind fun r8 =>
     (C F_expr_collect [.int .i64 6, .list T_api_Expr ((V.nth (r5.drop 1) 0).toList), .int .i64 ((V.nth r8 0).toInt), .int .i64 ((V.nth (r8.drop 1) 0).toInt), .list T_api_Expr ((V.nth (r8.drop 2) 0).toList)]).bind fun r9 =>
     some [.int .i64 ((V.nth r9 0).toInt), .int .i64 ((V.nth (r9.drop 1) 0).toInt), .list T_api_Expr ((V.nth ((r9.drop 1).drop 1) 0).toList)]
   else
    (C F_expr_ordered [.list T_api_Expr ((V.nth (r4.drop 1) 0).toList)]).bind fun r10 =>
    bif (V.nth r10 0).toBool then
     (C F_expr_universal []).bind fun r11 =>
     (C F_expr_collect [.int .i64 6, .list T_api_Expr ((V.nth (r10.drop 1) 0).toList), .int .i64 ((V.nth r11 0).toInt), .int .i64 ((V.nth (r11.drop 1) 0).toInt), .list T_api_Expr ((V.nth (r11.drop 2) 0).toList)]).bind fun r12 =>
     some [.int .i64 ((V.nth r12 0).toInt), .int .i64 ((V.nth (r12.drop 1) 0).toInt), .list T_api_Expr ((V.nth ((r12.drop 1).drop 1) 0).toList)]
    else
     (C F_expr_universal []).bind fun r13 =>
     (C F_expr_collect [.int .i64 6, .list T_api_Expr ((V.nth (r10.drop 1) 0).toList), .int .i64 ((V.nth r13 0).toInt), .int .i64 ((V.nth (r13.drop 1) 0).toInt), .list T_api_Expr ((V.nth (r13.drop 2) 0).toList)]).bind fun r14 =>
     some [.int .i64 ((V.nth r14 0).toInt), .int .i64 ((V.nth (r14.drop 1) 0).toInt), .list T_api_Expr ((V.nth ((r14.drop 1).drop 1) 0).toList)]
theorem f_expr_joinAnd_of {kids : List V} {r : Option (List V)} (h : f_expr_joinAnd CC kids = r) : CC F_expr_joinAnd [.list T_api_Expr kids] = r :=
  func_of (key := 75) (L := LT0) (bs := []) (by kernel_rfl) tells_nil (Eq.trans (by kernel_rfl) h)
end Go.AM
set_option maxRecDepth 100000
namespace Go.AM
open Go.Proofs
noncomputable def f_expr_Join (C : CallF) (op : Int) (kids : List V) : Option (List V) :=
  bif (op : Int) == 4 then
   (C F_expr_joinUnion [.list T_api_Expr kids]).bind fun r1 =>
   some [.int .i64 ((V.nth r1 0).toInt), .int .i64 ((V.nth (r1.drop 1) 0).toInt), .list T_api_Expr ((V.nth ((r1.drop 1).drop 1) 0).toList)]
  else
   bif (op : Int) == 5 then
    (C F_expr_joinConcat [.list T_api_Expr kids]).bind fun r2 =>
    some [.int .i64 ((V.nth r2 0).toInt), .int .i64 ((V.nth (r2.drop 1) 0).toInt), .list T_api_Expr ((V.nth ((r2.drop 1).drop 1) 0).toList)]
   else
    bif (op : Int) == 6 then
     (C F_expr_joinAnd [.list T_api_Expr kids]).bind fun r3 =>
     some [.int .i64 ((V.nth r3 0).toInt), .int .i64 ((V.nth (r3.drop 1) 0).toInt), .list T_api_Expr ((V.nth ((r3.drop 1).drop 1) 0).toList)]
    else
     bif ((kids.length : Int) : Int) != 1 then
      some [.int .i64 0, .int .i64 0, .list T_api_Expr ([] : List V)]
     else
      (kids[0]?).bind fun x4 =>
      bif (op : Int) == 8 then
       bif (((x4.cell 0).toInt) : Int) == 8 then
        bif ((((x4.cell 2).toList).length : Int) : Int) == 1 then
         (((x4.cell 2).toList)[0]?).bind fun x5 =>
         some [.int .i64 ((x5.cell 0).toInt), .int .i64 ((x5.cell 1).toInt), .list T_api_Expr ((x5.cell 2).toList)]
        else
         some [.int .i64 8, .int .i64 0, .list T_api_Expr ([.agg [.int .i64 ((x4.cell 0).toInt), .int .i64 ((x4.cell 1).toInt), .list T_api_Expr ((x4.cell 2).toList)]] : List V)]
       else
        some [.int .i64 8, .int .i64 0, .list T_api_Expr ([.agg [.int .i64 ((x4.cell 0).toInt), .int .i64 ((x4.cell 1).toInt), .list T_api_Expr ((x4.cell 2).toList)]] : List V)]
      else
       bif (op : Int) == 7 then
        bif (((x4.cell 0).toInt) : Int) == 1 then
         (C F_expr_unit []).bind fun r6 =>
         some [.int .i64 ((V.nth r6 0).toInt), .int .i64 ((V.nth (r6.drop 1) 0).toInt), .list T_api_Expr ((V.nth (r6.drop 2) 0).toList)]
        else
         bif (((x4.cell 0).toInt) : Int) == 2 then
          (C F_expr_unit []).bind fun r7 =>
          some [.int .i64 ((V.nth r7 0).toInt), .int .i64 ((V.nth (r7.drop 1) 0).toInt), .list T_api_Expr ((V.nth (r7.drop 2) 0).toList)]
         else
          bif (((x4.cell 0).toInt) : Int) == 7 then
           some [.int .i64 ((x4.cell 0).toInt), .int .i64 ((x4.cell 1).toInt), .list T_api_Expr ((x4.cell 2).toList)]
          else
           (C F_expr_isUniversal [.int .i64 ((x4.cell 0).toInt), .int .i64 ((x4.cell 1).toInt), .list T_api_Expr ((x4.cell 2).toList)]).bind fun r8 =>
           bif (V.nth r8 0).toBool then
            some [.int .i64 ((x4.cell 0).toInt), .int .i64 ((x4.cell 1).toInt), .list T_api_Expr ((x4.cell 2).toList)]
           else
            some [.int .i64 7, .int .i64 0, .list T_api_Expr ([.agg [.int .i64 ((x4.cell 0).toInt), .int .i64 ((x4.cell 1).toInt), .list T_api_Expr ((x4.cell 2).toList)]] : List V)]
       else
        some [.int .i64 0, .int .i64 0, .list T_api_Expr ([] : List V)]
theorem f_expr_Join_of {op : Int} {kids : List V} {r : Option (List V)} (h : f_expr_Join CC op kids = r) : CC F_expr_Join [.int .i64 op, .list T_api_Expr kids] = r :=
  func_of (key := 66) (L := LT0) (bs := []) (by kernel_rfl) tells_nil (Eq.trans (by kernel_rfl) h)
end Go.AM
