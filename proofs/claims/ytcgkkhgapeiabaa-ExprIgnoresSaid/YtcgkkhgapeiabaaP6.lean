/-
  Functions of the program, lifted to plain data.
-/
import Derived.Test.YtcgkkhgapeiabaaP5
set_option linter.unusedVariables false
set_option linter.unusedSimpArgs false
set_option maxRecDepth 100000
namespace Go.AM
open Go.Proofs
noncomputable abbrev B_expr_Simplify : Code := bodyOf Try.prog (ann.fid 52)
noncomputable def s_expr_Simplify_1 (C : CallF) (t20 : List V) (t21 es_0 es_1 : Int) (es_2 : List V) (t2s_0 t2s_1 : Int) (b3_ : List V) (t22 : Int) (kidss : List V) {β : Type} (kn : (Int × (List V)) → Option β) (kr : (Int × Bool × (List V)) → Option β) : Option β :=
  bif decide ((t22 : Int) < t21) then
   (idx t20 t22).bind fun x1 =>
   (C F_expr_Simplify [.int .i64 ((x1.cell 0).toInt), .int .i64 ((x1.cell 1).toInt), .list T_api_Expr ((x1.cell 2).toList)]).bind fun r2 =>
   bif (decide (0 ≤ t22)) && (decide (t22 < (kidss.length : Int))) then
    (kidss[(t22 : Int).toNat]?).bind fun x3 =>
    kn (IntKind.wrap .i64 (t22 + 1), kidss.set ((t22 : Int).toNat) (.agg [.int .i64 ((V.nth r2 0).toInt), .int .i64 ((V.nth (r2.drop 1) 0).toInt), .list T_api_Expr ((V.nth ((r2.drop 1).drop 1) 0).toList)]))
   else none
  else
   kr (t22, decide ((t22 : Int) < t21), kidss)
noncomputable def s_expr_Simplify_1L (C : CallF) (t20 : List V) (t21 es_0 es_1 : Int) (es_2 : List V) (t2s_0 t2s_1 : Int) (b3_ : List V) : (Int × (List V)) → Option ((Int × (List V)) ⊕ (Int × Bool × (List V))) := un fun t22 kidss => s_expr_Simplify_1 C t20 t21 es_0 es_1 es_2 t2s_0 t2s_1 b3_ t22 kidss (fun y => some (.inl y)) (fun r => some (.inr r))
noncomputable def LT_expr_Simplify (C : CallF) : LTab := fun β n ds k =>
  bif Nat.beq n 81 then loopS S52_81 [false, false, true, false, false, false, false, false, true, false] [[1, 2, 0, 0, 4, 5, 6, 7, 8, 0, 10]] (@s_expr_Simplify_1 C) ds k else
  none
abbrev TS_expr_Simplify (C : CallF) (b : Bar) : Prop := Tells Try.prog ann C (LT_expr_Simplify C) 52 (ntmpsOf Try.prog (ann.fid 52)) (ann.sin 52).blks.length b
theorem t_expr_Simplify_1 (C : CallF) : TS_expr_Simplify C (.loop (codeAt [1, 1, 1, 0, 1, 0, 0] B_expr_Simplify)) :=
  tl3 S52_81 [false, false, true, false, false, false, false, false, true, false] [[1, 2, 0, 0, 4, 5, 6, 7, 8, 0, 10]] (@s_expr_Simplify_1 C) (by kernel_rfl) (ltok_of (bs := []) (by kernel_rfl) tells_nil) (fun ds => by kernel_rfl) (fun i x => by kernel_rfl) (fun i x β k => by kernel_rfl) (fun β ds k => by kernel_rfl)
noncomputable def f_expr_Simplify (C : CallF) (e_0 e_1 : Int) (e_2 : List V) : Option (List V) :=
  bif ((e_2.length : Int) : Int) == 0 then
   some [.int .i64 e_0, .int .i64 e_1, .list T_api_Expr ([] : List V)]
  else
   bif (decide (0 ≤ (e_2.length : Int))) && ((decide ((e_2.length : Int) ≤ (e_2.length : Int))) && (Nat.ble ((((e_2.length : Int) : Int).toNat) * 40) maxBytes)) then
    (Loop (s_expr_Simplify_1L C e_2 (e_2.length : Int) e_0 e_1 e_2 0 0 ([] : List V)) (0, List.replicate (((e_2.length : Int) : Int).toNat) (V.agg [.int .i64 0, .int .i64 0, .list T_api_Expr ([] : List V)]))).bind (un fun (t_4 : Int) => un fun (t_5 : Bool) (kidss_6 : List V) =>
      (C F_expr_Join [.int .i64 e_0, .list T_api_Expr kidss_6]).bind fun r7 =>
      some [.int .i64 ((V.nth r7 0).toInt), .int .i64 ((V.nth (r7.drop 1) 0).toInt), .list T_api_Expr ((V.nth ((r7.drop 1).drop 1) 0).toList)])
   else none
theorem f_expr_Simplify_of {e_0 e_1 : Int} {e_2 : List V} {r : Option (List V)} (h : f_expr_Simplify CC e_0 e_1 e_2 = r) : CC F_expr_Simplify [.int .i64 e_0, .int .i64 e_1, .list T_api_Expr e_2] = r :=
  func_of (key := 52) (L := LT_expr_Simplify CC) (bs := [.loop (codeAt [1, 1, 1, 0, 1, 0, 0] B_expr_Simplify)]) (by kernel_rfl) (tells_cons (t_expr_Simplify_1 CC) tells_nil) (Eq.trans (by kernel_rfl) h)
end Go.AM
set_option maxRecDepth 100000
namespace Go.AM
open Go.Proofs
noncomputable def f_expr_Normal (C : CallF) (e_0 e_1 : Int) (e_2 : List V) : Option (List V) :=
  (C F_expr_valid [.int .i64 e_0, .int .i64 e_1, .list T_api_Expr e_2]).bind fun r1 =>
  bif !((V.nth r1 0).toBool) then
   some [.int .i64 0, .int .i64 0, .list T_api_Expr ([] : List V)]
  else
   (C F_expr_Simplify [.int .i64 e_0, .int .i64 e_1, .list T_api_Expr e_2]).bind fun r2 =>
   some [.int .i64 ((V.nth r2 0).toInt), .int .i64 ((V.nth (r2.drop 1) 0).toInt), .list T_api_Expr ((V.nth ((r2.drop 1).drop 1) 0).toList)]
theorem f_expr_Normal_of {e_0 e_1 : Int} {e_2 : List V} {r : Option (List V)} (h : f_expr_Normal CC e_0 e_1 e_2 = r) : CC F_expr_Normal [.int .i64 e_0, .int .i64 e_1, .list T_api_Expr e_2] = r :=
  func_of (key := 31) (L := LT0) (bs := []) (by kernel_rfl) tells_nil (Eq.trans (by kernel_rfl) h)
end Go.AM
set_option maxRecDepth 100000
set_option linter.unusedSimpArgs false
namespace Go.AM
open Go.Proofs Ex
theorem emptyX_spec : CC F_expr_empty [] = some (exR emptyX) := f_expr_empty_of rfl
theorem unitX_spec : CC F_expr_unit [] = some (exR unitX) := f_expr_unit_of rfl
theorem univX_spec : CC F_expr_universal [] = some (exR univX) := by
  refine f_expr_universal_of ?_
  unfold f_expr_universal
  refine bs emptyX_spec ?_
  simp [exR, emptyX, univX, Ex.op, Ex.letter, Ex.kids, enc_eq]
theorem filter_ne (o : Int) (l : List Ex) : (l.filter fun k => !(decide (k.op = o))) = l.filter fun k => decide (k.op ≠ o) := by
  congr 1; funext k; simp
theorem contains_emp' {ks : List Ex} (hlen : ks.length ≤ 1000000) : CC F_slices_ContainsFunc___api_Expr_api_Expr_ [.list T_api_Expr (ks.map enc)] = some [.bool (ks.any fun k => decide (k.op = 1))] := contains_emp hlen
theorem delete_emp' {ks : List Ex} (hn : ks.length ≤ 1000000) : ∃ b, CC K_slices_DeleteFunc___api_Expr_api_Expr__k137 [.list T_api_Expr (ks.map enc)] = some [.bool b, .list T_api_Expr ((ks.filter (fun k => decide (k.op ≠ 1))).map enc)] := by
  rw [← filter_ne]; exact delete_emp hn
theorem delete_unt' {ks : List Ex} (hn : ks.length ≤ 1000000) : ∃ b, CC K_slices_DeleteFunc___api_Expr_api_Expr__k135 [.list T_api_Expr (ks.map enc)] = some [.bool b, .list T_api_Expr ((ks.filter (fun k => decide (k.op ≠ 2))).map enc)] := by
  rw [← filter_ne]; exact delete_unt hn
theorem flat_ok {o : Int} {ks : List Ex} (h : ∀ k ∈ ks, k.Ok) : ∀ k ∈ flatX o ks, k.Ok := fun x hx => by
  obtain ⟨k, h1, h2 | h2⟩ := flat_mem.1 hx
  · have := h k h1
    obtain ⟨o2, l2, ks2⟩ := k
    exact this.kid x h2.2
  · rw [h2.2]; exact h k h1
theorem joinConcat_spec {n : Int} {ks : List Ex} (hk : ∀ k ∈ ks, Gd n k) (hs : sizes ks ≤ 1000000) : CC F_expr_joinConcat [.list T_api_Expr (ks.map enc)] = some (exR (joinR 5 0 ks)) := by
  have hl := sizes_len ks
  have a1 := sizes_flat 5 ks
  have a2 := sizes_len (flatX 5 ks)
  refine f_expr_joinConcat_of ?_
  unfold f_expr_joinConcat
  rw [joinR_5, any5 hk]
  refine bs (contains_emp' (by omega)) ?_
  cases hu : ks.any fun k => decide (k.op = 1) with
  | true =>
    refine bT rfl ?_
    refine bs emptyX_spec ?_
    rfl
  | false =>
    refine bF rfl ?_
    refine bs (flatten_spec (by omega) (by omega)) ?_
    obtain ⟨b, e⟩ := delete_unt' (ks := flatX 5 ks) (by omega)
    refine bs e ?_
    cases b
    · exact bF rfl (bs unitX_spec (bs (collect_spec (z := unitX)) rfl))
    · exact bT rfl (bs unitX_spec (bs (collect_spec (z := unitX)) rfl))
section
variable {n : Int} {ks : List Ex} (hk : ∀ k ∈ ks, Gd n k) (hok : ∀ k ∈ ks, k.Ok) (hs : sizes ks ≤ 1000000)
include hk hok hs
theorem joinUnion_spec : CC F_expr_joinUnion [.list T_api_Expr (ks.map enc)] = some (exR (joinR 4 0 ks)) := by
  have hl := sizes_len ks
  have a1 := sizes_flat 4 ks
  have a2 := sizes_len (flatX 4 ks)
  refine f_expr_joinUnion_of ?_
  unfold f_expr_joinUnion
  rw [joinR_4, any4 hk]
  refine bs (contains_unv (by omega)) ?_
  cases hu : ks.any univ with
  | true =>
    refine bT rfl ?_
    refine bs univX_spec ?_
    rfl
  | false =>
    refine bF rfl ?_
    refine bs (flatten_spec (by omega) (by omega)) ?_
    obtain ⟨b, e⟩ := delete_emp' (ks := flatX 4 ks) (by omega)
    refine bs e ?_
    obtain ⟨b2, e2⟩ := ordered_spec (l := (flatX 4 ks).filter fun k => decide (k.op ≠ 1)) (by have := List.length_filter_le (fun k : Ex => decide (k.op ≠ 1)) (flatX 4 ks); omega) fun k h => flat_ok hok k (List.mem_filter.1 h).1
    cases b
    · refine bF rfl ?_
      refine bs e2 ?_
      cases b2
      · exact bF rfl (bs emptyX_spec (bs (collect_spec (z := emptyX)) rfl))
      · exact bT rfl (bs emptyX_spec (bs (collect_spec (z := emptyX)) rfl))
    · refine bT rfl ?_
      refine bs e2 ?_
      cases b2
      · exact bF rfl (bs emptyX_spec (bs (collect_spec (z := emptyX)) rfl))
      · exact bT rfl (bs emptyX_spec (bs (collect_spec (z := emptyX)) rfl))
theorem joinAnd_spec : CC F_expr_joinAnd [.list T_api_Expr (ks.map enc)] = some (exR (joinR 6 0 ks)) := by
  have hl := sizes_len ks
  have a1 := sizes_flat 6 ks
  have a2 := sizes_len (flatX 6 ks)
  refine f_expr_joinAnd_of ?_
  unfold f_expr_joinAnd
  rw [joinR_6, any6 hk]
  refine bs (contains_emp' (by omega)) ?_
  cases hu : ks.any fun k => decide (k.op = 1) with
  | true =>
    refine bT rfl ?_
    refine bs emptyX_spec ?_
    rfl
  | false =>
    refine bF rfl ?_
    refine bs (flatten_spec (by omega) (by omega)) ?_
    obtain ⟨b, e⟩ := delete_unv (ks := flatX 6 ks) (by omega)
    refine bs e ?_
    obtain ⟨b2, e2⟩ := ordered_spec (l := (flatX 6 ks).filter fun k => !(univ k)) (by have := List.length_filter_le (fun k : Ex => !(univ k)) (flatX 6 ks); omega) fun k h => flat_ok hok k (List.mem_filter.1 h).1
    cases b
    · refine bF rfl ?_
      refine bs e2 ?_
      cases b2
      · exact bF rfl (bs univX_spec (bs (collect_spec (z := univX)) rfl))
      · exact bT rfl (bs univX_spec (bs (collect_spec (z := univX)) rfl))
    · refine bT rfl ?_
      refine bs e2 ?_
      cases b2
      · exact bF rfl (bs univX_spec (bs (collect_spec (z := univX)) rfl))
      · exact bT rfl (bs univX_spec (bs (collect_spec (z := univX)) rfl))
theorem Join_spec {o : Int} (ho : o = 4 ∨ o = 5 ∨ o = 6) : CC F_expr_Join [.int .i64 o, .list T_api_Expr (ks.map enc)] = some (exR (joinR o 0 ks)) := by
  refine f_expr_Join_of ?_
  unfold f_expr_Join
  rcases ho with rfl | rfl | rfl
  · exact bT rfl (bs (joinUnion_spec hk hok hs) rfl)
  · exact bF rfl (bT rfl (bs (joinConcat_spec hk hs) rfl))
  · exact bF rfl (bF rfl (bT rfl (bs (joinAnd_spec hk hok hs) rfl)))
end
theorem encs1 (k : Ex) : [V.agg [.int .i64 k.op, .int .i64 k.letter, .list T_api_Expr (k.kids.map enc)]] = [k].map enc := by rw [← enc_eq]; rfl
theorem Join1_spec {n o : Int} {k : Ex} (hk : Gd n k) (ho : o = 7 ∨ o = 8) : CC F_expr_Join [.int .i64 o, .list T_api_Expr ([k].map enc)] = some (exR (joinR o 0 [k])) := by
  refine f_expr_Join_of ?_
  unfold f_expr_Join
  rcases ho with rfl | rfl
  · refine bF rfl (bF rfl (bF rfl (bF rfl (bs (a := k.enc) rfl (bF rfl (bT rfl ?_))))))
    rw [joinR_7, enc_0, enc_1, enc_2, bif_beq, bif_beq, bif_beq]
    by_cases h1 : k.op = 1
    · rw [if_pos h1, if_pos (.inl h1)]; exact bs unitX_spec rfl
    · rw [if_neg h1]
      by_cases h2 : k.op = 2
      · rw [if_pos h2, if_pos (.inr h2)]; exact bs unitX_spec rfl
      · rw [if_neg h2, if_neg (show ¬ (k.op = 1 ∨ k.op = 2) by omega)]
        by_cases h7 : k.op = 7
        · rw [if_pos h7, if_pos (.inl h7)]; rfl
        · rw [if_neg h7]
          refine bs (isUniv_spec k) ?_
          cases hu : univ k with
          | true => rw [if_pos (.inr rfl)]; exact bT rfl rfl
          | false =>
            rw [if_neg (by rintro (h | h); exact h7 h; cases h)]
            refine bF rfl ?_
            rw [encs1]; rfl
  · refine bF rfl (bF rfl (bF rfl (bF rfl (bs (a := k.enc) rfl (bT rfl ?_)))))
    rw [joinR_8, enc_0, enc_1, enc_2, bif_beq]
    by_cases h8 : k.op = 8
    · rw [if_pos h8, if_pos h8]
      have hs := shape_cases hk.shape
      obtain ⟨o2, l2, ks2⟩ := k
      simp only [Ex.op, Ex.kids, Ex.letter] at *
      match ks2, (show (ks2.length : Int) = 1 by omega) with
      | [x], _ =>
        refine bT (by simp) (bs (a := x.enc) rfl ?_)
        rw [enc_0, enc_1, enc_2]; rfl
    · rw [if_neg h8, if_neg h8, encs1]; rfl
theorem set_mid {α : Type} (a : List α) (x y : α) (b : List α) {i : Nat} (h : i = a.length) : (a ++ x :: b).set i y = (a ++ [y]) ++ b := by
  subst h; simp [List.set_append_right]
theorem simp_loop {ks : List Ex} {a b c d : Int} {l1 l2 : List V} (hn : ks.length ≤ 1000000) (ih : ∀ k ∈ ks, CC F_expr_Simplify (exA k []) = some (exR (nrm k))) :
    ∀ (suf pre : List Ex), ks = pre ++ suf → ∃ t, Loop (s_expr_Simplify_1L CC (ks.map enc) ((ks.map enc).length : Int) a b l1 c d l2) (((pre.length : Nat) : Int), (pre.map nrm).map enc ++ List.replicate suf.length (V.agg [.int .i64 0, .int .i64 0, .list T_api_Expr ([] : List V)])) = some (((ks.map enc).length : Int), t, (ks.map nrm).map enc) := by
  intro suf
  induction suf with
  | nil =>
    intro pre e
    rw [List.append_nil] at e
    subst e
    refine ⟨false, Loop_end ?_⟩
    simp only [s_expr_Simplify_1L, s_expr_Simplify_1, un, List.length_map]
    rw [bif_decide, if_neg (by omega), decide_eq_false (by omega)]
    simp
  | cons k suf ihs =>
    intro pre e
    have hpl : pre.length < ks.length := by rw [e]; simp
    have hix : idx (ks.map enc) (pre.length : Int) = some k.enc := by rw [e]; exact idx_kid _ _ _
    obtain ⟨t, ht⟩ := ihs (pre ++ [k]) (by simp [e])
    refine ⟨t, (Loop_norm ?_).trans ht⟩
    simp only [s_expr_Simplify_1L, s_expr_Simplify_1, un, List.length_map]
    rw [bif_decide, if_pos (by omega), hix]
    simp only [Option.bind_some, enc_0, enc_1, enc_2]
    refine bs (ih k (by rw [e]; simp)) ?_
    refine bT (by simp only [Bool.and_eq_true, decide_eq_true_eq, List.length_append, List.length_map, List.length_replicate, List.length_cons]; omega) ?_
    refine bs (a := V.agg [.int .i64 0, .int .i64 0, .list T_api_Expr ([] : List V)]) ?_ ?_
    · rw [Int.toNat_natCast, List.getElem?_append_right (by simp)]
      simp
    · rw [wrap64 (by omega) (by omega), Int.toNat_natCast, List.length_cons, List.replicate_succ, set_mid _ _ _ _ (by simp)]
      show some (Sum.inl _) = some (Sum.inl _)
      refine congrArg (fun x => some (Sum.inl x)) (Prod.ext ?_ ?_)
      · simp
      · simp only [List.map_append, List.map_cons, List.map_nil]
        rw [enc_eq (nrm k)]; rfl
theorem Simplify_spec {n : Int} (hn : n ≤ 6) : ∀ e : Ex, e.wf n = true → e.size ≤ 1000000 → CC F_expr_Simplify (exA e []) = some (exR (nrm e)) :=
  ind fun o l ks ih hw hs => by
    obtain ⟨h1, h2⟩ := wf_node hw
    have hl := sizes_len ks
    simp only [size] at hs
    have h3 := shape_cases h1
    refine f_expr_Simplify_of ?_
    unfold f_expr_Simplify
    simp only [Ex.op, Ex.kids, Ex.letter, List.length_map, bif_beq]
    rw [nrm_node]
    by_cases h0 : ks = []
    · subst h0
      rw [if_pos (by simp), joinR_0 (by simp only [List.length_nil] at h3; omega)]
      rfl
    · have hp : 0 < ks.length := List.length_pos_iff.2 h0
      rw [if_neg (by omega)]
      refine bT (by simp only [Bool.and_eq_true, decide_eq_true_eq, Nat.ble_eq, maxB, Int.toNat_natCast]; omega) ?_
      obtain ⟨t, ht⟩ := simp_loop (a := o) (b := l) (c := 0) (d := 0) (l1 := ks.map enc) (l2 := []) (ks := ks) (by omega) (fun k hk => ih k hk (h2 k hk) (by have := kid_size hk; omega)) ks [] rfl
      rw [List.length_map] at ht
      refine bs ht ?_
      have hg : ∀ k ∈ ks.map nrm, Gd n k := fun x hx => by
        obtain ⟨k, hk, rfl⟩ := List.mem_map.1 hx
        exact nrm_gd k (h2 k hk)
      have hz : sizes (ks.map nrm) ≤ sizes ks := by
        clear ht h3 h1 hw ih hp h0 hl hs hg
        induction ks with
        | nil => simp [sizes]
        | cons k ks ih => have a := nrm_size k (h2 k (by simp)); have b := ih fun k hk => h2 k (by simp [hk]); simp only [List.map_cons, sizes]; omega
      have hok : ∀ k ∈ ks.map nrm, k.Ok := fun k hk => wf_ok hn k (hg k hk).2 (by have := kid_size hk; omega)
      rcases (show (o = 4 ∨ o = 5 ∨ o = 6) ∨ (o = 7 ∨ o = 8) by omega) with ho | ho
      · obtain rfl : l = 0 := by omega
        exact bs (Join_spec hg hok (by omega) ho) rfl
      · obtain rfl : l = 0 := by omega
        have h5 : ks.length = 1 := by omega
        match ks, h5 with
        | [k], _ => exact bs (Join1_spec (hg (nrm k) (by simp)) ho) rfl
theorem Normal_spec (e : Ex) (h : e.Ok) : CC F_expr_Normal (exA e []) = some (exR (if e.val 6 = 0 then nrm e else ex0)) := by
  refine f_expr_Normal_of ?_
  unfold f_expr_Normal
  refine bs (exValid_spec e h) ?_
  by_cases hv : e.val 6 = 0
  · have := val0 hv
    rw [if_pos hv]
    refine bF (by simp [hv]) ?_
    exact bs (Simplify_spec (by omega) e this.2.2 (by omega)) rfl
  · rw [if_neg hv]
    refine bT (by simp [hv]) ?_
    rfl
instance : DecidableEq Ex := fun _ _ => decidable_of_iff _ same_iff
theorem exR_same {a b : Ex} (ha : a.Ok) (hb : b.Ok) : CC F_semigrouplaw04_same (exA a (exA b [])) = some [.bool (decide (a = b))] := by
  rw [same_spec a ha b hb]
  refine congrArg (fun x => some [V.bool x]) ?_
  rw [decide_eq_decide]; exact same_iff
theorem nrm_ok {e : Ex} (hv : e.val 6 = 0) : (nrm e).Ok := by
  have := val0 hv
  have h2 := nrm_size e this.2.2
  exact wf_ok (n := 6) (by omega) _ (nrm_gd e this.2.2).2 (by omega)
end Go.AM
set_option maxRecDepth 100000
namespace Go.AM
open Go.Proofs
theorem awake : CC F_semigrouplaw04_awake [] = some [.bool true] := Call_of_run (N := 40) (n := 40) (by kernel_rfl)
end Go.AM
set_option maxRecDepth 100000
set_option linter.unusedSimpArgs false
namespace Go.AM
open Go.Proofs Ex
mutual
def Ex.sh : Ex → Nat
  | .node o _ ks => shs ks + (if o = 7 then 1 else 0)
def Ex.shs : List Ex → Nat
  | [] => 0
  | k :: ks => max (sh k) (shs ks)
end
end Go.AM
set_option maxRecDepth 100000
namespace Go.AM
open Go.Proofs
noncomputable def f_semigrouplaw04_little (C : CallF) (e_0 e_1 : Int) (e_2 : List V) (most : Int) : Option (List V) :=
  (C F_semigroupref04_Valid [.int .i64 e_0, .int .i64 e_1, .list T_api_Expr e_2]).bind fun r1 =>
  bif (V.nth r1 0).toBool then
   (C F_semigroupref04_Size [.int .i64 e_0, .int .i64 e_1, .list T_api_Expr e_2]).bind fun r2 =>
   bif decide ((((V.nth r2 0).toInt) : Int) ≤ most) then
    (C F_semigroupref04_Depth [.int .i64 e_0, .int .i64 e_1, .list T_api_Expr e_2]).bind fun r3 =>
    some [.bool (decide ((((V.nth r3 0).toInt) : Int) ≤ 12))]
   else
    some [.bool false]
  else
   some [.bool false]
theorem f_semigrouplaw04_little_of {e_0 e_1 : Int} {e_2 : List V} {most : Int} {r : Option (List V)} (h : f_semigrouplaw04_little CC e_0 e_1 e_2 most = r) : CC F_semigrouplaw04_little [.int .i64 e_0, .int .i64 e_1, .list T_api_Expr e_2, .int .i64 most] = r :=
  func_of (key := 33) (L := LT0) (bs := []) (by kernel_rfl) tells_nil (Eq.trans (by kernel_rfl) h)
end Go.AM
set_option maxRecDepth 100000
set_option linter.unusedSimpArgs false
namespace Go.AM
open Go.Proofs Ex
def lit (e : Ex) (most : Int) : Prop := e.val 6 = 0 ∧ (e.size : Int) ≤ most ∧ e.depth ≤ 12
instance (e : Ex) (most : Int) : Decidable (lit e most) := by unfold lit; infer_instance
theorem little_spec (e : Ex) (h : e.Ok) (most : Int) : CC F_semigrouplaw04_little (exA e [.int .i64 most]) = some [.bool (decide (lit e most))] := by
  refine f_semigrouplaw04_little_of ?_
  unfold f_semigrouplaw04_little
  refine (congrArg (fun o => Option.bind o _) (exRefValid_spec e h)).trans ?_
  simp only [Option.bind_some, V.nth_zero, V.toBool_bool, bif_decide]
  by_cases h1 : e.val 6 = 0
  · have hs := (val0 h1).2.1
    rw [if_pos h1]
    refine (congrArg (fun o => Option.bind o _) (refSize_spec e h hs)).trans ?_
    simp only [Option.bind_some, V.nth_zero, V.toInt_int, bif_decide]
    by_cases h2 : (e.size : Int) ≤ most
    · rw [if_pos h2]
      refine (congrArg (fun o => Option.bind o _) (refDepth_spec e h hs)).trans ?_
      simp only [Option.bind_some, V.nth_zero, V.toInt_int]
      congr 3
      rw [decide_eq_decide]
      unfold lit
      exact ⟨fun h3 => ⟨h1, h2, by omega⟩, fun h3 => by have := h3.2.2; omega⟩
    · rw [if_neg h2, decide_eq_false (fun h => h2 h.2.1)]
  · rw [if_neg h1, decide_eq_false (fun h => h1 h.1)]
theorem val_of {e : Ex} (h1 : e.depth ≤ 40) (h2 : e.size ≤ 400) (h3 : e.wf 6 = true) : e.val 6 = 0 := by
  unfold Ex.val
  rw [if_pos (by omega), if_pos ⟨h1, h2⟩, if_pos h3]
end Go.AM
set_option maxRecDepth 100000
namespace Go.AM
open Go.Proofs Ex
theorem nrm_val {e : Ex} (hv : e.val 6 = 0) : (nrm e).val 6 = 0 := by
  have h0 := val0 hv
  have a := nrm_size e h0.2.2
  have b := nrm_depth e h0.2.2
  exact val_of (by omega) (by omega) (nrm_gd e h0.2.2).2
end Go.AM
set_option maxRecDepth 100000
namespace Go.AM
open Go.Proofs
noncomputable abbrev B_semigrouplaw04_ExprIgnores : Code := bodyOf Try.prog (ann.fid 9)
noncomputable def s_semigrouplaw04_ExprIgnores_1 (C : CallF) (t38 as_0 as_1 : Int) (as_2 : List V) (b's_0 b's_1 : Int) (b's_2 : List V) (cs_0 cs_1 : Int) (cs_2 t37s : List V) (t39 : Int) {β : Type} (kn : Int → Option β) (kr : ((Bool) ⊕ (Int × Bool)) → Option β) : Option β :=
  bif decide ((t39 : Int) < t38) then
   bif (decide (0 ≤ t39)) && (decide (t39 < (t37s.length : Int))) then
    (t37s[(t39 : Int).toNat]?).bind fun x11 =>
    (C F_expr_Normal [.int .i64 x11.toInt, .int .i64 0, .list T_api_Expr ([.agg [.int .i64 as_0, .int .i64 as_1, .list T_api_Expr as_2], .agg [.int .i64 b's_0, .int .i64 b's_1, .list T_api_Expr b's_2], .agg [.int .i64 cs_0, .int .i64 cs_1, .list T_api_Expr cs_2]] : List V)]).bind fun r12 =>
    (C F_expr_Normal [.int .i64 x11.toInt, .int .i64 0, .list T_api_Expr ([.agg [.int .i64 x11.toInt, .int .i64 0, .list T_api_Expr ([.agg [.int .i64 cs_0, .int .i64 cs_1, .list T_api_Expr cs_2], .agg [.int .i64 as_0, .int .i64 as_1, .list T_api_Expr as_2]] : List V)], .agg [.int .i64 b's_0, .int .i64 b's_1, .list T_api_Expr b's_2], .agg [.int .i64 as_0, .int .i64 as_1, .list T_api_Expr as_2]] : List V)]).bind fun r13 =>
    (C F_expr_Validate [.int .i64 ((V.nth r12 0).toInt), .int .i64 ((V.nth (r12.drop 1) 0).toInt), .list T_api_Expr ((V.nth ((r12.drop 1).drop 1) 0).toList), .int .i64 6]).bind fun r14 =>
    bif (((V.nth r14 0).toInt) : Int) != 0 then
     kr (.inl false)
    else
     (C F_semigrouplaw04_same [.int .i64 ((V.nth r12 0).toInt), .int .i64 ((V.nth (r12.drop 1) 0).toInt), .list T_api_Expr ((V.nth ((r12.drop 1).drop 1) 0).toList), .int .i64 ((V.nth r13 0).toInt), .int .i64 ((V.nth (r13.drop 1) 0).toInt), .list T_api_Expr ((V.nth ((r13.drop 1).drop 1) 0).toList)]).bind fun r15 =>
     bif !((V.nth r15 0).toBool) then
      kr (.inl false)
     else
      kn (IntKind.wrap .i64 (t39 + 1))
   else none
  else
   kr (.inr (t39, decide ((t39 : Int) < t38)))
noncomputable def s_semigrouplaw04_ExprIgnores_1L (C : CallF) (t38 as_0 as_1 : Int) (as_2 : List V) (b's_0 b's_1 : Int) (b's_2 : List V) (cs_0 cs_1 : Int) (cs_2 t37s : List V) : (Int) → Option ((Int) ⊕ ((Bool) ⊕ (Int × Bool))) := fun t39 => s_semigrouplaw04_ExprIgnores_1 C t38 as_0 as_1 as_2 b's_0 b's_1 b's_2 cs_0 cs_1 cs_2 t37s t39 (fun y => some (.inl y)) (fun r => some (.inr r))
noncomputable def LT_semigrouplaw04_ExprIgnores (C : CallF) : LTab := fun β n ds k =>
  bif Nat.beq n 65 then loopS S9_65 [false, true, false, false, false, false, false, false, false, false, false, false] [[0], [1, 0, 0, 3, 4, 5, 6, 7, 8, 9, 10, 11, 12]] (@s_semigrouplaw04_ExprIgnores_1 C) ds k else
  none
abbrev TS_semigrouplaw04_ExprIgnores (C : CallF) (b : Bar) : Prop := Tells Try.prog ann C (LT_semigrouplaw04_ExprIgnores C) 9 (ntmpsOf Try.prog (ann.fid 9)) (ann.sin 9).blks.length b
theorem t_semigrouplaw04_ExprIgnores_1 (C : CallF) : TS_semigrouplaw04_ExprIgnores C (.loop (codeAt [1, 1, 0, 1, 0, 0] B_semigrouplaw04_ExprIgnores)) :=
  tl3 S9_65 [false, true, false, false, false, false, false, false, false, false, false, false] [[0], [1, 0, 0, 3, 4, 5, 6, 7, 8, 9, 10, 11, 12]] (@s_semigrouplaw04_ExprIgnores_1 C) (by kernel_rfl) (ltok_of (bs := []) (by kernel_rfl) tells_nil) (fun ds => by kernel_rfl) (fun i x => by kernel_rfl) (fun i x β k => by kernel_rfl) (fun β ds k => by kernel_rfl)
noncomputable def f_semigrouplaw04_ExprIgnores (C : CallF) (a_0 a_1 : Int) (a_2 : List V) (b'_0 b'_1 : Int) (b'_2 : List V) (c_0 c_1 : Int) (c_2 : List V) : Option (List V) :=
  (C F_semigrouplaw04_little [.int .i64 a_0, .int .i64 a_1, .list T_api_Expr a_2, .int .i64 60]).bind fun r1 =>
  bif !((V.nth r1 0).toBool) then
   (C F_semigrouplaw04_awake []).bind fun r2 =>
   some [.bool ((V.nth r2 0).toBool)]
  else
   (C F_semigrouplaw04_little [.int .i64 b'_0, .int .i64 b'_1, .list T_api_Expr b'_2, .int .i64 60]).bind fun r3 =>
   bif !((V.nth r3 0).toBool) then
    (C F_semigrouplaw04_awake []).bind fun r4 =>
    some [.bool ((V.nth r4 0).toBool)]
   else
    (C F_semigrouplaw04_little [.int .i64 c_0, .int .i64 c_1, .list T_api_Expr c_2, .int .i64 60]).bind fun r5 =>
    bif !((V.nth r5 0).toBool) then
     (C F_semigrouplaw04_awake []).bind fun r6 =>
     some [.bool ((V.nth r6 0).toBool)]
    else
     (C F_semigroupref04_Depth [.int .i64 a_0, .int .i64 a_1, .list T_api_Expr a_2]).bind fun r7 =>
     (C F_semigroupref04_Depth [.int .i64 b'_0, .int .i64 b'_1, .list T_api_Expr b'_2]).bind fun r8 =>
     (C F_semigroupref04_Depth [.int .i64 c_0, .int .i64 c_1, .list T_api_Expr c_2]).bind fun r9 =>
     bif decide (((if ((V.nth r9 0).toInt) > (if ((V.nth r8 0).toInt) > ((V.nth r7 0).toInt) then ((V.nth r8 0).toInt) else ((V.nth r7 0).toInt)) then ((V.nth r9 0).toInt) else (if ((V.nth r8 0).toInt) > ((V.nth r7 0).toInt) then ((V.nth r8 0).toInt) else ((V.nth r7 0).toInt))) : Int) > 38) then
      (C F_semigrouplaw04_awake []).bind fun r10 =>
      some [.bool ((V.nth r10 0).toBool)]
     else
      (Loop (s_semigrouplaw04_ExprIgnores_1L C (([.int .i64 4, .int .i64 6] : List V).length : Int) a_0 a_1 a_2 b'_0 b'_1 b'_2 c_0 c_1 c_2 ([.int .i64 4, .int .i64 6] : List V)) 0).bind (way2 (fun (t_16 : Bool) =>
        some [.bool t_16]) (un fun (t_17 : Int) (t_18 : Bool) =>
        (C F_expr_Normal [.int .i64 5, .int .i64 0, .list T_api_Expr ([.agg [.int .i64 a_0, .int .i64 a_1, .list T_api_Expr a_2], .agg [.int .i64 5, .int .i64 0, .list T_api_Expr ([.agg [.int .i64 b'_0, .int .i64 b'_1, .list T_api_Expr b'_2], .agg [.int .i64 c_0, .int .i64 c_1, .list T_api_Expr c_2]] : List V)]] : List V)]).bind fun r19 =>
        (C F_expr_Normal [.int .i64 5, .int .i64 0, .list T_api_Expr ([.agg [.int .i64 5, .int .i64 0, .list T_api_Expr ([.agg [.int .i64 a_0, .int .i64 a_1, .list T_api_Expr a_2], .agg [.int .i64 b'_0, .int .i64 b'_1, .list T_api_Expr b'_2]] : List V)], .agg [.int .i64 c_0, .int .i64 c_1, .list T_api_Expr c_2]] : List V)]).bind fun r20 =>
        (C F_semigrouplaw04_same [.int .i64 ((V.nth r19 0).toInt), .int .i64 ((V.nth (r19.drop 1) 0).toInt), .list T_api_Expr ((V.nth ((r19.drop 1).drop 1) 0).toList), .int .i64 ((V.nth r20 0).toInt), .int .i64 ((V.nth (r20.drop 1) 0).toInt), .list T_api_Expr ((V.nth ((r20.drop 1).drop 1) 0).toList)]).bind fun r21 =>
        bif (V.nth r21 0).toBool then
         (C F_semigrouplaw04_awake []).bind fun r22 =>
         some [.bool ((V.nth r22 0).toBool)]
        else
         some [.bool false]))
theorem f_semigrouplaw04_ExprIgnores_of {a_0 a_1 : Int} {a_2 : List V} {b'_0 b'_1 : Int} {b'_2 : List V} {c_0 c_1 : Int} {c_2 : List V} {r : Option (List V)} (h : f_semigrouplaw04_ExprIgnores CC a_0 a_1 a_2 b'_0 b'_1 b'_2 c_0 c_1 c_2 = r) : CC F_semigrouplaw04_ExprIgnores [.int .i64 a_0, .int .i64 a_1, .list T_api_Expr a_2, .int .i64 b'_0, .int .i64 b'_1, .list T_api_Expr b'_2, .int .i64 c_0, .int .i64 c_1, .list T_api_Expr c_2] = r :=
  func_of (key := 9) (L := LT_semigrouplaw04_ExprIgnores CC) (bs := [.loop (codeAt [1, 1, 0, 1, 0, 0] B_semigrouplaw04_ExprIgnores)]) (by kernel_rfl) (tells_cons (t_semigrouplaw04_ExprIgnores_1 CC) tells_nil) (Eq.trans (by kernel_rfl) h)
end Go.AM
set_option maxRecDepth 100000
set_option linter.unusedSimpArgs false
namespace Go.AM
open Go.Proofs Ex
theorem ok_mk {o : Int} {ks : List Ex} (ho : 0 ≤ o ∧ o ≤ 8) (hl : ks.length ≤ 10) (h : ∀ k ∈ ks, k.Ok) : (Ex.node o 0 ks).Ok := .node (by omega) (by omega) (by unfold maxLen; omega) h
section
variable {a b c : Ex} (ha : lit a 60) (hb : lit b 60) (hc : lit c 60) (da : a.depth ≤ 38) (db : b.depth ≤ 38) (dc : c.depth ≤ 38) (oa : a.Ok) (ob : b.Ok) (oc : c.Ok)
include ha hb hc da db dc oa ob oc
theorem ig_in {o p : Int} (ho : 4 ≤ o ∧ o ≤ 6) (hp : 4 ≤ p ∧ p ≤ 6) (x y z u : Ex) (hx : x = a ∨ x = b ∨ x = c) (hy : y = a ∨ y = b ∨ y = c) (hz : z = a ∨ z = b ∨ z = c) (hu : u = a ∨ u = b ∨ u = c) (ks : List Ex)
    (hks : ks = [x, y, z] ∨ ks = [.node p 0 [x, y], z, u] ∨ ks = [x, .node p 0 [y, z]] ∨ ks = [.node p 0 [x, y], z]) : (Ex.node o 0 ks).val 6 = 0 ∧ (Ex.node o 0 ks).Ok := by
  have va := val0 ha.1
  have vb := val0 hb.1
  have vc := val0 hc.1
  have key : ∀ t, t = a ∨ t = b ∨ t = c → t.size ≤ 60 ∧ t.depth ≤ 38 ∧ t.wf 6 = true ∧ t.Ok := by
    rintro t (rfl | rfl | rfl)
    · exact ⟨by have := ha.2.1; omega, da, va.2.2, oa⟩
    · exact ⟨by have := hb.2.1; omega, db, vb.2.2, ob⟩
    · exact ⟨by have := hc.2.1; omega, dc, vc.2.2, oc⟩
  obtain ⟨x1, x2, x3, x4⟩ := key x hx
  obtain ⟨y1, y2, y3, y4⟩ := key y hy
  obtain ⟨z1, z2, z3, z4⟩ := key z hz
  obtain ⟨u1, u2, u3, u4⟩ := key u hu
  have two : ∀ s t : Ex, s.wf 6 = true → t.wf 6 = true → (Ex.node p 0 [s, t]).wf 6 = true := fun s t hs ht => wf_mk (by
    unfold shapeOk
    rw [if_neg (by omega), if_neg (by omega), if_neg (by omega)]
    simp; omega) (by simp [hs, ht])
  have sh : 2 ≤ ks.length → (∀ k ∈ ks, k.wf 6 = true) → (Ex.node o 0 ks).wf 6 = true := fun h1 h2 => wf_mk (by
    unfold shapeOk
    rw [if_neg (by omega), if_neg (by omega), if_neg (by omega)]
    simp only [decide_true, Bool.true_and]
    exact decide_eq_true (by omega)) h2
  have ot : ∀ s t : Ex, s.Ok → t.Ok → (Ex.node p 0 [s, t]).Ok := fun s t hs ht => ok_mk (by omega) (by simp) (by simp [hs, ht])
  rcases hks with rfl | rfl | rfl | rfl
  · exact ⟨val_of (by simp only [depth, depths]; omega) (by simp only [size, sizes]; omega) (sh (by simp) (by simp [x3, y3, z3])), ok_mk (by omega) (by simp) (by simp [x4, y4, z4])⟩
  · exact ⟨val_of (by simp only [depth, depths]; omega) (by simp only [size, sizes]; omega) (sh (by simp) (by simp [two, x3, y3, z3, u3])), ok_mk (by omega) (by simp) (by simp [ot, x4, y4, z4, u4])⟩
  · exact ⟨val_of (by simp only [depth, depths]; omega) (by simp only [size, sizes]; omega) (sh (by simp) (by simp [two, x3, y3, z3])), ok_mk (by omega) (by simp) (by simp [ot, x4, y4, z4])⟩
  · exact ⟨val_of (by simp only [depth, depths]; omega) (by simp only [size, sizes]; omega) (sh (by simp) (by simp [two, x3, y3, z3])), ok_mk (by omega) (by simp) (by simp [ot, x4, y4, z4])⟩
theorem ig_step (o : Int) (ho : o = 4 ∨ o = 6) {i : Nat} (hi : i < 2) (hio : ([.int .i64 4, .int .i64 6] : List V)[i]? = some (.int .i64 o)) :
    s_semigrouplaw04_ExprIgnores_1L CC (([.int .i64 4, .int .i64 6] : List V).length : Int) a.op a.letter (a.kids.map enc) b.op b.letter (b.kids.map enc) c.op c.letter (c.kids.map enc) ([.int .i64 4, .int .i64 6] : List V) (i : Int) = some (.inl ((i + 1 : Nat) : Int)) := by
  have ga := nrm_gd a (val0 ha.1).2.2
  have gb := nrm_gd b (val0 hb.1).2.2
  have gc := nrm_gd c (val0 hc.1).2.2
  obtain ⟨v1, o1⟩ := ig_in ha hb hc da db dc oa ob oc (o := o) (p := o) (by omega) (by omega) a b c a (.inl rfl) (.inr (.inl rfl)) (.inr (.inr rfl)) (.inl rfl) _ (.inl rfl)
  obtain ⟨v2, o2⟩ := ig_in ha hb hc da db dc oa ob oc (o := o) (p := o) (by omega) (by omega) c a b a (.inr (.inr rfl)) (.inl rfl) (.inr (.inl rfl)) (.inl rfl) _ (.inr (.inl rfl))
  have n1 := Normal_spec _ o1
  have n2 := Normal_spec _ o2
  rw [if_pos v1] at n1
  rw [if_pos v2] at n2
  have e12 : nrm (.node o 0 [a, b, c]) = nrm (.node o 0 [.node o 0 [c, a], b, a]) := by
    simp only [nrm_node, List.map_cons, List.map_nil]
    rcases ho with rfl | rfl
    · exact ignores4 ga gb gc
    · exact ignores6 ga gb gc
  simp only [s_semigrouplaw04_ExprIgnores_1L, s_semigrouplaw04_ExprIgnores_1, bif_decide, ← enc_eq]
  rw [if_pos (by simp; omega)]
  refine bT (by simp; omega) ?_
  rw [Int.toNat_natCast]
  refine bs hio ?_
  simp only [exA, Ex.op, Ex.letter, Ex.kids, List.map_cons, List.map_nil, enc_eq] at n1 n2
  refine bs (by simp only [enc_eq, V.toInt_int]; exact n1) ?_
  refine bs (by simp only [enc_eq, V.toInt_int]; exact n2) ?_
  refine bs (exVal_spec _ (nrm_ok v1) 6) ?_
  refine bF (by simp [nrm_val v1]) ?_
  refine bs (exR_same (nrm_ok v1) (nrm_ok v2)) ?_
  refine bF (by simp [e12]) ?_
  rw [wrap64 (by omega) (by omega)]
  rfl
theorem ig_end : CC F_expr_Normal (exA (.node 5 0 [a, .node 5 0 [b, c]]) []) = some (exR (nrm (.node 5 0 [a, .node 5 0 [b, c]]))) ∧ CC F_expr_Normal (exA (.node 5 0 [.node 5 0 [a, b], c]) []) = some (exR (nrm (.node 5 0 [a, .node 5 0 [b, c]]))) ∧ (nrm (.node 5 0 [a, .node 5 0 [b, c]])).Ok := by
  have ga := nrm_gd a (val0 ha.1).2.2
  have gb := nrm_gd b (val0 hb.1).2.2
  have gc := nrm_gd c (val0 hc.1).2.2
  obtain ⟨v1, o1⟩ := ig_in ha hb hc da db dc oa ob oc (o := 5) (p := 5) (by omega) (by omega) a b c a (.inl rfl) (.inr (.inl rfl)) (.inr (.inr rfl)) (.inl rfl) _ (.inr (.inr (.inl rfl)))
  obtain ⟨v2, o2⟩ := ig_in ha hb hc da db dc oa ob oc (o := 5) (p := 5) (by omega) (by omega) a b c a (.inl rfl) (.inr (.inl rfl)) (.inr (.inr rfl)) (.inl rfl) _ (.inr (.inr (.inr rfl)))
  have n1 := Normal_spec _ o1
  have n2 := Normal_spec _ o2
  rw [if_pos v1] at n1
  rw [if_pos v2] at n2
  have e12 : nrm (.node 5 0 [a, .node 5 0 [b, c]]) = nrm (.node 5 0 [.node 5 0 [a, b], c]) := by
    simp only [nrm_node, List.map_cons, List.map_nil]
    exact ignores5 ga gb gc
  rw [← e12] at n2
  exact ⟨n1, n2, nrm_ok v1⟩
end
theorem exprIgnores (a : Ex) (oa : a.Ok) (b : Ex) (ob : b.Ok) (c : Ex) (oc : c.Ok) : CC F_semigrouplaw04_ExprIgnores (exA a (exA b (exA c []))) = some [.bool true] := by
  refine f_semigrouplaw04_ExprIgnores_of ?_
  unfold f_semigrouplaw04_ExprIgnores
  refine bs (little_spec a oa 60) ?_
  by_cases ha : lit a 60
  case neg => exact bT (by simp [ha]) (bs awake rfl)
  refine bF (by simp [ha]) ?_
  refine bs (little_spec b ob 60) ?_
  by_cases hb : lit b 60
  case neg => exact bT (by simp [hb]) (bs awake rfl)
  refine bF (by simp [hb]) ?_
  refine bs (little_spec c oc 60) ?_
  by_cases hc : lit c 60
  case neg => exact bT (by simp [hc]) (bs awake rfl)
  refine bF (by simp [hc]) ?_
  have va := val0 ha.1
  have vb := val0 hb.1
  have vc := val0 hc.1
  refine bs (refDepth_spec a oa va.2.1) ?_
  refine bs (refDepth_spec b ob vb.2.1) ?_
  refine bs (refDepth_spec c oc vc.2.1) ?_
  simp only [V.nth_zero, V.toInt_int, bif_decide]
  by_cases hd : a.depth ≤ 38 ∧ b.depth ≤ 38 ∧ c.depth ≤ 38
  case neg =>
    rw [if_pos (by split <;> (try split at *) <;> omega)]
    exact bs awake rfl
  rw [if_neg (by split <;> (try split at *) <;> omega)]
  obtain ⟨da, db, dc⟩ := hd
  have s0 := ig_step ha hb hc da db dc oa ob oc 4 (.inl rfl) (i := 0) (by omega) rfl
  have s1 := ig_step ha hb hc da db dc oa ob oc 6 (.inr rfl) (i := 1) (by omega) rfl
  have s2 : s_semigrouplaw04_ExprIgnores_1L CC (([.int .i64 4, .int .i64 6] : List V).length : Int) a.op a.letter (a.kids.map enc) b.op b.letter (b.kids.map enc) c.op c.letter (c.kids.map enc) ([.int .i64 4, .int .i64 6] : List V) ((2 : Nat) : Int) = some (.inr (.inr (2, false))) := rfl
  have hL := (Loop_norm s0).trans ((Loop_norm s1).trans (Loop_end s2))
  refine bs hL ?_
  obtain ⟨e1, e2, e3⟩ := ig_end ha hb hc da db dc oa ob oc
  simp only [exA, Ex.op, Ex.letter, Ex.kids, List.map_cons, List.map_nil, enc_eq] at e1 e2
  simp only [way2, un]
  refine bs e1 ?_
  refine bs e2 ?_
  refine bs (exR_same e3 e3) ?_
  refine bT (by simp) ?_
  exact bs awake rfl
end Go.AM
