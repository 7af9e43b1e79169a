/-
  Functions of the program, lifted to plain data.
-/
import Derived.Test.YtcgkkhgapeiabaaP5
set_option linter.unusedVariables false
set_option linter.unusedSimpArgs false
set_option maxRecDepth 100000
namespace Go.AM
open Go.Proofs
noncomputable abbrev B_expr_Simplify : Code := bodyOf Try.prog (ann.fid 52)
noncomputable def s_expr_Simplify_1 (C : CallF) (t20 : List V) (t21 es_0 es_1 : Int) (es_2 : List V) (t2s_0 t2s_1 : Int) (b3_ : List V) (t22 : Int) (kidss : List V) {β : Type} (kn : (Int × (List V)) → Option β) (kr : (Int × Bool × (List V)) → Option β) : Option β :=
  bif decide ((t22 : Int) < t21) then
   (idx t20 t22).bind fun x1 =>
   (C F_expr_Simplify [.int .i64 ((x1.cell 0).toInt), .int .i64 ((x1.cell 1).toInt), .list T_api_Expr ((x1.cell 2).toList)]).bind fun r2 =>
   bif (decide (0 ≤ t22)) && (decide (t22 < (kidss.length : Int))) then
    (kidss[(t22 : Int).toNat]?).bind fun x3 =>
    kn (IntKind.wrap .i64 (t22 + 1), kidss.set ((t22 : Int).toNat) (.agg [.int .i64 ((V.nth r2 0).toInt), .int .i64 ((V.nth (r2.drop 1) 0).toInt), .list T_api_Expr ((V.nth ((r2.drop 1).drop 1) 0).toList)]))
   else none
  else
   kr (t22, decide ((t22 : Int) < t21), kidss)
noncomputable def s_expr_Simplify_1L (C : CallF) (t20 : List V) (t21 es_0 es_1 : Int) (es_2 : List V) (t2s_0 t2s_1 : Int) (b3_ : List V) : (Int × (List V)) → Option ((Int × (List V)) ⊕ (Int × Bool × (List V))) := un fun t22 kidss => s_expr_Simplify_1 C t20 t21 es_0 es_1 es_2 t2s_0 t2s_1 b3_ t22 kidss (fun y => some (.inl y)) (fun r => some (.inr r))
noncomputable def LT_expr_Simplify (C : CallF) : LTab := fun β n ds k =>
  bif Nat.beq n 81 then loopS S52_81 [false, false, true, false, false, false, false, false, true, false] [[1, 2, 0, 0, 4, 5, 6, 7, 8, 0, 10]] (@s_expr_Simplify_1 C) ds k else
  none
abbrev TS_expr_Simplify (C : CallF) (b : Bar) : Prop := Tells Try.prog ann C (LT_expr_Simplify C) 52 (ntmpsOf Try.prog (ann.fid 52)) (ann.sin 52).blks.length b
theorem t_expr_Simplify_1 (C : CallF) : TS_expr_Simplify C (.loop (codeAt [1, 1, 1, 0, 1, 0, 0] B_expr_Simplify)) :=
  tl3 S52_81 [false, false, true, false, false, false, false, false, true, false] [[1, 2, 0, 0, 4, 5, 6, 7, 8, 0, 10]] (@s_expr_Simplify_1 C) (by kernel_rfl) (ltok_of (bs := []) (by kernel_rfl) tells_nil) (fun ds => by kernel_rfl) (fun i x => by kernel_rfl) (fun i x β k => by kernel_rfl) (fun β ds k => by kernel_rfl)
noncomputable def f_expr_Simplify (C : CallF) (e_0 e_1 : Int) (e_2 : List V) : Option (List V) :=
  bif ((e_2.length : Int) : Int) == 0 then
   some [.int .i64 e_0, .int .i64 e_1, .list T_api_Expr ([] : List V)]
  else
   bif (decide (0 ≤ (e_2.length : Int))) && ((decide ((e_2.length : Int) ≤ (e_2.length : Int))) && (Nat.ble ((((e_2.length : Int) : Int).toNat) * 40) maxBytes)) then
    (Loop (s_expr_Simplify_1L C e_2 (e_2.length : Int) e_0 e_1 e_2 0 0 ([] : List V)) (0, List.replicate (((e_2.length : Int) : Int).toNat) (V.agg [.int .i64 0, .int .i64 0, .list T_api_Expr ([] : List V)]))).bind (un fun (t_4 : Int) => un fun (t_5 : Bool) (kidss_6 : List V) =>
      (C F_expr_Join [.int .i64 e_0, .list T_api_Expr kidss_6]).bind fun r7 =>
      some [.int .i64 ((V.nth r7 0).toInt), .int .i64 ((V.nth (r7.drop 1) 0).toInt), .list T_api_Expr ((V.nth ((r7.drop 1).drop 1) 0).toList)])
   else none
theorem f_expr_Simplify_of {e_0 e_1 : Int} {e_2 : List V} {r : Option (List V)} (h : f_expr_Simplify CC e_0 e_1 e_2 = r) : CC F_expr_Simplify [.int .i64 e_0, .int .i64 e_1, .list T_api_Expr e_2] = r :=
  func_of (key := 52) (L := LT_expr_Simplify CC) (bs := [.loop (codeAt [1, 1, 1, 0, 1, 0, 0] B_expr_Simplify)]) (by kernel_rfl) (tells_cons (t_expr_Simplify_1 CC) tells_nil) (Eq.trans (by kernel_rfl) h)
end Go.AM
set_option maxRecDepth 100000
namespace Go.AM
open Go.Proofs
noncomputable def f_expr_Normal (C : CallF) (e_0 e_1 : Int) (e_2 : List V) : Option (List V) :=
  (C F_expr_valid [.int .i64 e_0, .int .i64 e_1, .list T_api_Expr e_2]).bind fun r1 =>
  bif !((V.nth r1 0).toBool) then
   some [.int .i64 0, .int .i64 0, .list T_api_Expr ([] : List V)]
  else
   (C F_expr_Simplify [.int .i64 e_0, .int .i64 e_1, .list T_api_Expr e_2]).bind fun r2 =>
   some [.int .i64 ((V.nth r2 0).toInt), .int .i64 ((V.nth (r2.drop 1) 0).toInt), .list T_api_Expr ((V.nth ((r2.drop 1).drop 1) 0).toList)]
theorem f_expr_Normal_of {e_0 e_1 : Int} {e_2 : List V} {r : Option (List V)} (h : f_expr_Normal CC e_0 e_1 e_2 = r) : CC F_expr_Normal [.int .i64 e_0, .int .i64 e_1, .list T_api_Expr e_2] = r :=
  func_of (key := 31) (L := LT0) (bs := []) (by kernel_rfl) tells_nil (Eq.trans (by kernel_rfl) h)
end Go.AM
set_option maxRecDepth 100000
set_option linter.unusedSimpArgs false
namespace Go.AM
open Go.Proofs Ex
theorem emptyX_spec : CC F_expr_empty [] = some (exR emptyX) := f_expr_empty_of rfl
theorem unitX_spec : CC F_expr_unit [] = some (exR unitX) := f_expr_unit_of rfl
theorem univX_spec : CC F_expr_universal [] = some (exR univX) := by
  refine f_expr_universal_of ?_
  unfold f_expr_universal
  refine bs emptyX_spec ?_
  simp [exR, emptyX, univX, Ex.op, Ex.letter, Ex.kids, enc_eq]
theorem filter_ne (o : Int) (l : List Ex) : (l.filter fun k => !(decide (k.op = o))) = l.filter fun k => decide (k.op ≠ o) := by
  congr 1; funext k; simp
theorem contains_emp' {ks : List Ex} (hlen : ks.length ≤ 1000000) : CC F_slices_ContainsFunc___api_Expr_api_Expr_ [.list T_api_Expr (ks.map enc)] = some [.bool (ks.any fun k => decide (k.op = 1))] := contains_emp hlen
theorem delete_emp' {ks : List Ex} (hn : ks.length ≤ 1000000) : ∃ b, CC K_slices_DeleteFunc___api_Expr_api_Expr__k137 [.list T_api_Expr (ks.map enc)] = some [.bool b, .list T_api_Expr ((ks.filter (fun k => decide (k.op ≠ 1))).map enc)] := by
  rw [← filter_ne]; exact delete_emp hn
theorem delete_unt' {ks : List Ex} (hn : ks.length ≤ 1000000) : ∃ b, CC K_slices_DeleteFunc___api_Expr_api_Expr__k135 [.list T_api_Expr (ks.map enc)] = some [.bool b, .list T_api_Expr ((ks.filter (fun k => decide (k.op ≠ 2))).map enc)] := by
  rw [← filter_ne]; exact delete_unt hn
theorem flat_ok {o : Int} {ks : List Ex} (h : ∀ k ∈ ks, k.Ok) : ∀ k ∈ flatX o ks, k.Ok := fun x hx => by
  obtain ⟨k, h1, h2 | h2⟩ := flat_mem.1 hx
  · have := h k h1
    obtain ⟨o2, l2, ks2⟩ := k
    exact this.kid x h2.2
  · rw [h2.2]; exact h k h1
theorem joinConcat_spec {n : Int} {ks : List Ex} (hk : ∀ k ∈ ks, Gd n k) (hs : sizes ks ≤ 1000000) : CC F_expr_joinConcat [.list T_api_Expr (ks.map enc)] = some (exR (joinR 5 0 ks)) := by
  have hl := sizes_len ks
  have a1 := sizes_flat 5 ks
  have a2 := sizes_len (flatX 5 ks)
  refine f_expr_joinConcat_of ?_
  unfold f_expr_joinConcat
  rw [joinR_5, any5 hk]
  refine bs (contains_emp' (by omega)) ?_
  cases hu : ks.any fun k => decide (k.op = 1) with
  | true =>
    refine bT rfl ?_
    refine bs emptyX_spec ?_
    rfl
  | false =>
    refine bF rfl ?_
    refine bs (flatten_spec (by omega) (by omega)) ?_
    obtain ⟨b, e⟩ := delete_unt' (ks := flatX 5 ks) (by omega)
    refine bs e ?_
    cases b
    · exact bF rfl (bs unitX_spec (bs (collect_spec (z := unitX)) rfl))
    · exact bT rfl (bs unitX_spec (bs (collect_spec (z := unitX)) rfl))
section
variable {n : Int} {ks : List Ex} (hk : ∀ k ∈ ks, Gd n k) (hok : ∀ k ∈ ks, k.Ok) (hs : sizes ks ≤ 1000000)
include hk hok hs
theorem joinUnion_spec : CC F_expr_joinUnion [.list T_api_Expr (ks.map enc)] = some (exR (joinR 4 0 ks)) := by
  have hl := sizes_len ks
  have a1 := sizes_flat 4 ks
  have a2 := sizes_len (flatX 4 ks)
  refine f_expr_joinUnion_of ?_
  unfold f_expr_joinUnion
  rw [joinR_4, any4 hk]
  refine bs (contains_unv (by omega)) ?_
  cases hu : ks.any univ with
  | true =>
    refine bT rfl ?_
    refine bs univX_spec ?_
    rfl
  | false =>
    refine bF rfl ?_
    refine bs (flatten_spec (by omega) (by omega)) ?_
    obtain ⟨b, e⟩ := delete_emp' (ks := flatX 4 ks) (by omega)
    refine bs e ?_
    obtain ⟨b2, e2⟩ := ordered_spec (l := (flatX 4 ks).filter fun k => decide (k.op ≠ 1)) (by have := List.length_filter_le (fun k : Ex => decide (k.op ≠ 1)) (flatX 4 ks); omega) fun k h => flat_ok hok k (List.mem_filter.1 h).1
    cases b
    · refine bF rfl ?_
      refine bs e2 ?_
      cases b2
      · exact bF rfl (bs emptyX_spec (bs (collect_spec (z := emptyX)) rfl))
      · exact bT rfl (bs emptyX_spec (bs (collect_spec (z := emptyX)) rfl))
    · refine bT rfl ?_
      refine bs e2 ?_
      cases b2
      · exact bF rfl (bs emptyX_spec (bs (collect_spec (z := emptyX)) rfl))
      · exact bT rfl (bs emptyX_spec (bs (collect_spec (z := emptyX)) rfl))
theorem joinAnd_spec : CC F_expr_joinAnd [.list T_api_Expr (ks.map enc)] = some (exR (joinR 6 0 ks)) := by
  have hl := sizes_len ks
  have a1 := sizes_flat 6 ks
  have a2 := sizes_len (flatX 6 ks)
  refine f_expr_joinAnd_of ?_
  unfold f_expr_joinAnd
  rw [joinR_6, any6 hk]
  refine bs (contains_emp' (by omega)) ?_
  cases hu : ks.any fun k => decide (k.op = 1) with
  | true =>
    refine bT rfl ?_
    refine bs emptyX_spec ?_
    rfl
  | false =>
    refine bF rfl ?_
    refine bs (flatten_spec (by omega) (by omega)) ?_
    obtain ⟨b, e⟩ := delete_unv (ks := flatX 6 ks) (by omega)
    refine bs e ?_
    obtain ⟨b2, e2⟩ := ordered_spec (l := (flatX 6 ks).filter fun k => !(univ k)) (by have := List.length_filter_le (fun k : Ex => !(univ k)) (flatX 6 ks); omega) fun k h => flat_ok hok k (List.mem_filter.1 h).1
    cases b
    · refine bF rfl ?_
      refine bs e2 ?_
      cases b2
      · exact bF rfl (bs univX_spec (bs (collect_spec (z := univX)) rfl))
      · exact bT rfl (bs univX_spec (bs (collect_spec (z := univX)) rfl))
    · refine bT rfl ?_
      refine bs e2 ?_
      cases b2
      · exact bF rfl (bs univX_spec (bs (collect_spec (z := univX)) rfl))
      · exact bT rfl (bs univX_spec (bs (collect_spec (z := univX)) rfl))
theorem Join_spec {o : Int} (ho : o = 4 ∨ o = 5 ∨ o = 6) : CC F_expr_Join [.int .i64 o, .list T_api_Expr (ks.map enc)] = some (exR (joinR o 0 ks)) := by
  refine f_expr_Join_of ?_
  unfold f_expr_Join
  rcases ho with rfl | rfl | rfl
  · exact bT rfl (bs (joinUnion_spec hk hok hs) rfl)
  · exact bF rfl (bT rfl (bs (joinConcat_spec hk hs) rfl))
  · exact bF rfl (bF rfl (bT rfl (bs (joinAnd_spec hk hok hs) rfl)))
end
theorem encs1 (k : Ex) : [V.agg [.int .i64 k.op, .int .i64 k.letter, .list T_api_Expr (k.kids.map enc)]] = [k].map enc := by rw [← enc_eq]; rfl
theorem Join1_spec {n o : Int} {k : Ex} (hk : Gd n k) (ho : o = 7 ∨ o = 8) : CC F_expr_Join [.int .i64 o, .list T_api_Expr ([k].map enc)] = some (exR (joinR o 0 [k])) := by
  refine f_expr_Join_of ?_
  unfold f_expr_Join
  rcases ho with rfl | rfl
  · refine bF rfl (bF rfl (bF rfl (bF rfl (bs (a := k.enc) rfl (bF rfl (bT rfl ?_))))))
    rw [joinR_7, enc_0, enc_1, enc_2, bif_beq, bif_beq, bif_beq]
    by_cases h1 : k.op = 1
    · rw [if_pos h1, if_pos (.inl h1)]; exact bs unitX_spec rfl
    · rw [if_neg h1]
      by_cases h2 : k.op = 2
      · rw [if_pos h2, if_pos (.inr h2)]; exact bs unitX_spec rfl
      · rw [if_neg h2, if_neg (show ¬ (k.op = 1 ∨ k.op = 2) by omega)]
        by_cases h7 : k.op = 7
        · rw [if_pos h7, if_pos (.inl h7)]; rfl
        · rw [if_neg h7]
          refine bs (isUniv_spec k) ?_
          cases hu : univ k with
          | true => rw [if_pos (.inr rfl)]; exact bT rfl rfl
          | false =>
            rw [if_neg (by rintro (h | h); exact h7 h; cases h)]
            refine bF rfl ?_
            rw [encs1]; rfl
  · refine bF rfl (bF rfl (bF rfl (bF rfl (bs (a := k.enc) rfl (bT rfl ?_)))))
    rw [joinR_8, enc_0, enc_1, enc_2, bif_beq]
    by_cases h8 : k.op = 8
    · rw [if_pos h8, if_pos h8]
      have hs := shape_cases hk.shape
      obtain ⟨o2, l2, ks2⟩ := k
      simp only [Ex.op, Ex.kids, Ex.letter] at *
      match ks2, (show (ks2.length : Int) = 1 by omega) with
      | [x], _ =>
        refine bT (by simp) (bs (a := x.enc) rfl ?_)
        rw [enc_0, enc_1, enc_2]; rfl
    · rw [if_neg h8, if_neg h8, encs1]; rfl
theorem set_mid {α : Type} (a : List α) (x y : α) (b : List α) {i : Nat} (h : i = a.length) : (a ++ x :: b).set i y = (a ++ [y]) ++ b := by
  subst h; simp [List.set_append_right]
theorem simp_loop {ks : List Ex} {a b c d : Int} {l1 l2 : List V} (hn : ks.length ≤ 1000000) (ih : ∀ k ∈ ks, CC F_expr_Simplify (exA k []) = some (exR (nrm k))) :
    ∀ (suf pre : List Ex), ks = pre ++ suf → ∃ t, Loop (s_expr_Simplify_1L CC (ks.map enc) ((ks.map enc).length : Int) a b l1 c d l2) (((pre.length : Nat) : Int), (pre.map nrm).map enc ++ List.replicate suf.length (V.agg [.int .i64 0, .int .i64 0, .list T_api_Expr ([] : List V)])) = some (((ks.map enc).length : Int), t, (ks.map nrm).map enc) := by
  intro suf
  induction suf with
  | nil =>
    intro pre e
    rw [List.append_nil] at e
    subst e
    refine ⟨false, Loop_end ?_⟩
    simp only [s_expr_Simplify_1L, s_expr_Simplify_1, un, List.length_map]
    rw [bif_decide, if_neg (by omega), decide_eq_false (by omega)]
    simp
  | cons k suf ihs =>
    intro pre e
    have hpl : pre.length < ks.length := by rw [e]; simp
    have hix : idx (ks.map enc) (pre.length : Int) = some k.enc := by rw [e]; exact idx_kid _ _ _
    obtain ⟨t, ht⟩ := ihs (pre ++ [k]) (by simp [e])
    refine ⟨t, (Loop_norm ?_).trans ht⟩
    simp only [s_expr_Simplify_1L, s_expr_Simplify_1, un, List.length_map]
    rw [bif_decide, if_pos (by omega), hix]
    simp only [Option.bind_some, enc_0, enc_1, enc_2]
    refine bs (ih k (by rw [e]; simp)) ?_
    refine bT (by simp only [Bool.and_eq_true, decide_eq_true_eq, List.length_append, List.length_map, List.length_replicate, List.length_cons]; omega) ?_
    refine bs (a := V.agg [.int .i64 0, .int .i64 0, .list T_api_Expr ([] : List V)]) ?_ ?_
    · rw [Int.toNat_natCast, List.getElem?_append_right (by simp)]
      simp
    · rw [wrap64 (by omega) (by omega), Int.toNat_natCast, List.length_cons, List.replicate_succ, set_mid _ _ _ _ (by simp)]
      show some (Sum.inl _) = some (Sum.inl _)
      refine congrArg (fun x => some (Sum.inl x)) (Prod.ext ?_ ?_)
      · simp
      · simp only [List.map_append, List.map_cons, List.map_nil]
        rw [enc_eq (nrm k)]; rfl
theorem Simplify_spec {n : Int} (hn : n ≤ 6) : ∀ e : Ex, e.wf n = true → e.size ≤ 1000000 → CC F_expr_Simplify (exA e []) = some (exR (nrm e)) :=
  ind fun o l ks ih hw hs => by
    obtain ⟨h1, h2⟩ := wf_node hw
    have hl := sizes_len ks
    simp only [size] at hs
    have h3 := shape_cases h1
    refine f_expr_Simplify_of ?_
    unfold f_expr_Simplify
    simp only [Ex.op, Ex.kids, Ex.letter, List.length_map, bif_beq]
    rw [nrm_node]
    by_cases h0 : ks = []
    · subst h0
      rw [if_pos (by simp), joinR_0 (by simp only [List.length_nil] at h3; omega)]
      rfl
    · have hp : 0 < ks.length := List.length_pos_iff.2 h0
      rw [if_neg (by omega)]
      refine bT (by simp only [Bool.and_eq_true, decide_eq_true_eq, Nat.ble_eq, maxB, Int.toNat_natCast]; omega) ?_
      obtain ⟨t, ht⟩ := simp_loop (a := o) (b := l) (c := 0) (d := 0) (l1 := ks.map enc) (l2 := []) (ks := ks) (by omega) (fun k hk => ih k hk (h2 k hk) (by have := kid_size hk; omega)) ks [] rfl
      rw [List.length_map] at ht
      refine bs ht ?_
      have hg : ∀ k ∈ ks.map nrm, Gd n k := fun x hx => by
        obtain ⟨k, hk, rfl⟩ := List.mem_map.1 hx
        exact nrm_gd k (h2 k hk)
      have hz : sizes (ks.map nrm) ≤ sizes ks := by
        clear ht h3 h1 hw ih hp h0 hl hs hg
        induction ks with
        | nil => simp [sizes]
        | cons k ks ih => have a := nrm_size k (h2 k (by simp)); have b := ih fun k hk => h2 k (by simp [hk]); simp only [List.map_cons, sizes]; omega
      have hok : ∀ k ∈ ks.map nrm, k.Ok := fun k hk => wf_ok hn k (hg k hk).2 (by have := kid_size hk; omega)
      rcases (show (o = 4 ∨ o = 5 ∨ o = 6) ∨ (o = 7 ∨ o = 8) by omega) with ho | ho
      · obtain rfl : l = 0 := by omega
        exact bs (Join_spec hg hok (by omega) ho) rfl
      · obtain rfl : l = 0 := by omega
        have h5 : ks.length = 1 := by omega
        match ks, h5 with
        | [k], _ => exact bs (Join1_spec (hg (nrm k) (by simp)) ho) rfl
theorem Normal_spec (e : Ex) (h : e.Ok) : CC F_expr_Normal (exA e []) = some (exR (if e.val 6 = 0 then nrm e else ex0)) := by
  refine f_expr_Normal_of ?_
  unfold f_expr_Normal
  refine bs (exValid_spec e h) ?_
  by_cases hv : e.val 6 = 0
  · have := val0 hv
    rw [if_pos hv]
    refine bF (by simp [hv]) ?_
    exact bs (Simplify_spec (by omega) e this.2.2 (by omega)) rfl
  · rw [if_neg hv]
    refine bT (by simp [hv]) ?_
    rfl
instance : DecidableEq Ex := fun _ _ => decidable_of_iff _ same_iff
theorem exR_same {a b : Ex} (ha : a.Ok) (hb : b.Ok) : CC F_semigrouplaw04_same (exA a (exA b [])) = some [.bool (decide (a = b))] := by
  rw [same_spec a ha b hb]
  refine congrArg (fun x => some [V.bool x]) ?_
  rw [decide_eq_decide]; exact same_iff
theorem nrm_ok {e : Ex} (hv : e.val 6 = 0) : (nrm e).Ok := by
  have := val0 hv
  have h2 := nrm_size e this.2.2
  exact wf_ok (n := 6) (by omega) _ (nrm_gd e this.2.2).2 (by omega)
end Go.AM
set_option maxRecDepth 100000
namespace Go.AM
open Go.Proofs
theorem awake : CC F_semigrouplaw04_awake [] = some [.bool true] := Call_of_run (N := 40) (n := 40) (by kernel_rfl)
end Go.AM
set_option maxRecDepth 100000
namespace Go.AM
open Go.Proofs
noncomputable def f_expr_Size (C : CallF) (e_0 e_1 : Int) (e_2 : List V) : Option (List V) :=
  (C F_expr_valid [.int .i64 e_0, .int .i64 e_1, .list T_api_Expr e_2]).bind fun r1 =>
  bif !((V.nth r1 0).toBool) then
   some [.int .i64 0]
  else
   (C F_expr_size [.int .i64 e_0, .int .i64 e_1, .list T_api_Expr e_2]).bind fun r2 =>
   some [.int .i64 ((V.nth r2 0).toInt)]
theorem f_expr_Size_of {e_0 e_1 : Int} {e_2 : List V} {r : Option (List V)} (h : f_expr_Size CC e_0 e_1 e_2 = r) : CC F_expr_Size [.int .i64 e_0, .int .i64 e_1, .list T_api_Expr e_2] = r :=
  func_of (key := 21) (L := LT0) (bs := []) (by kernel_rfl) tells_nil (Eq.trans (by kernel_rfl) h)
end Go.AM
set_option maxRecDepth 100000
namespace Go.AM
open Go.Proofs
noncomputable abbrev B_expr_size : Code := bodyOf Try.prog (ann.fid 47)
noncomputable def s_expr_size_1 (C : CallF) (t7 : List V) (t8 nodes t9 : Int) {β : Type} (kn : (Int × Int) → Option β) (kr : (Int × Int × Bool) → Option β) : Option β :=
  bif decide ((t9 : Int) < t8) then
   (idx t7 t9).bind fun x1 =>
   (C F_expr_size [.int .i64 ((x1.cell 0).toInt), .int .i64 ((x1.cell 1).toInt), .list T_api_Expr ((x1.cell 2).toList)]).bind fun r2 =>
   kn (IntKind.wrap .i64 (nodes + ((V.nth r2 0).toInt)), IntKind.wrap .i64 (t9 + 1))
  else
   kr (nodes, t9, decide ((t9 : Int) < t8))
noncomputable def s_expr_size_1L (C : CallF) (t7 : List V) (t8 : Int) : (Int × Int) → Option ((Int × Int) ⊕ (Int × Int × Bool)) := un fun nodes t9 => s_expr_size_1 C t7 t8 nodes t9 (fun y => some (.inl y)) (fun r => some (.inr r))
noncomputable def LT_expr_size (C : CallF) : LTab := fun β n ds k =>
  bif Nat.beq n 49 then loopS S47_49 [true, false, false, true] [[0, 2, 3, 0, 0]] (@s_expr_size_1 C) ds k else
  none
abbrev TS_expr_size (C : CallF) (b : Bar) : Prop := Tells Try.prog ann C (LT_expr_size C) 47 (ntmpsOf Try.prog (ann.fid 47)) (ann.sin 47).blks.length b
theorem t_expr_size_1 (C : CallF) : TS_expr_size C (.loop (codeAt [1, 1, 0, 1, 0, 0] B_expr_size)) :=
  tl3 S47_49 [true, false, false, true] [[0, 2, 3, 0, 0]] (@s_expr_size_1 C) (by kernel_rfl) (ltok_of (bs := []) (by kernel_rfl) tells_nil) (fun ds => by kernel_rfl) (fun i x => by kernel_rfl) (fun i x β k => by kernel_rfl) (fun β ds k => by kernel_rfl)
noncomputable def f_expr_size (C : CallF) (e_0 e_1 : Int) (e_2 : List V) : Option (List V) :=
  (Loop (s_expr_size_1L C e_2 (e_2.length : Int)) (1, 0)).bind (un fun (nodes_3 : Int) => un fun (t_4 : Int) (t_5 : Bool) =>
    some [.int .i64 nodes_3])
theorem f_expr_size_of {e_0 e_1 : Int} {e_2 : List V} {r : Option (List V)} (h : f_expr_size CC e_0 e_1 e_2 = r) : CC F_expr_size [.int .i64 e_0, .int .i64 e_1, .list T_api_Expr e_2] = r :=
  func_of (key := 47) (L := LT_expr_size CC) (bs := [.loop (codeAt [1, 1, 0, 1, 0, 0] B_expr_size)]) (by kernel_rfl) (tells_cons (t_expr_size_1 CC) tells_nil) (Eq.trans (by kernel_rfl) h)
end Go.AM
set_option maxRecDepth 100000
set_option linter.unusedSimpArgs false
namespace Go.AM
open Go.Proofs Ex
theorem fold_size : ∀ (ks : List Ex) (n : Int), ks.foldl (fun n k => n + (k.size : Int)) n = n + sizes ks
  | [], n => by simp [sizes]
  | k :: ks, n => by rw [List.foldl_cons, fold_size ks]; simp only [sizes]; omega
theorem size_spec : ∀ e : Ex, e.Ok → e.size ≤ 400 → CC F_expr_size (exA e []) = some [.int .i64 e.size] :=
  ind fun o l ks ih hok hsz => by
    have hs : (Ex.node o l ks).size = 1 + sizes ks := by simp only [size]
    have := maxLen_le
    have hlen := hok.len
    refine f_expr_size_of ?_
    have hl := scan_loop (step := s_expr_size_1L CC (ks.map enc) ((ks.map enc).length : Int)) (ks := ks) (fun n i => (n, (i : Int))) (fun n k => n + (k.size : Int)) (fun n => (n, ((ks.length : Nat) : Int), false)) (fun n suf => 0 ≤ n ∧ n + sizes suf ≤ 400)
      (fun pre k suf s hks hI => by
        have hpl : pre.length < ks.length := by rw [hks]; simp
        have hm : k ∈ ks := by rw [hks]; simp
        have hks1 := kid_size hm
        have hI' := hI
        simp only [sizes] at hI'
        refine ⟨?_, by omega⟩
        simp only [s_expr_size_1L, s_expr_size_1, un, List.length_map, bif_decide]
        rw [if_pos (by omega), show idx (ks.map enc) (pre.length : Int) = some k.enc by rw [hks]; exact idx_kid _ _ _]
        simp only [Option.bind_some, enc_0, enc_1, enc_2]
        rw [ih k hm (hok.kid k hm) (by omega)]
        simp only [Option.bind_some, V.nth_zero, V.toInt_int]
        rw [wrap64 (by omega) (by omega), wrap64 (by omega) (by omega)]
        simp)
      (fun s => by
        simp only [s_expr_size_1L, s_expr_size_1, un, List.length_map, bif_decide]
        rw [if_neg (by omega)]
        simp) ks [] 1 rfl ⟨by omega, by omega⟩
    unfold f_expr_size
    simp only [Ex.kids]
    rw [fold_size] at hl
    simp only [List.length_nil, Int.ofNat_zero, Int.natCast_zero] at hl
    erw [hl]
    simp only [Option.bind_some, un]
    rw [hs]
    rfl
theorem Size_spec (e : Ex) (h : e.Ok) : CC F_expr_Size (exA e []) = some [.int .i64 (if e.val 6 = 0 then (e.size : Int) else 0)] := by
  refine f_expr_Size_of ?_
  unfold f_expr_Size
  rw [exValid_spec e h]
  by_cases hv : e.val 6 = 0
  · rw [size_spec e h (val0 hv).2.1]; simp [hv]
  · simp [hv]
end Go.AM
set_option maxRecDepth 100000
set_option linter.unusedSimpArgs false
namespace Go.AM
open Go.Proofs Ex
def lit (e : Ex) (most : Int) : Prop := e.val 6 = 0 ∧ (e.size : Int) ≤ most ∧ e.depth ≤ 12
instance (e : Ex) (most : Int) : Decidable (lit e most) := by unfold lit; infer_instance
theorem val_of {e : Ex} (h1 : e.depth ≤ 40) (h2 : e.size ≤ 400) (h3 : e.wf 6 = true) : e.val 6 = 0 := by
  unfold Ex.val
  rw [if_pos (by omega), if_pos ⟨h1, h2⟩, if_pos h3]
end Go.AM
set_option maxRecDepth 100000
namespace Go.AM
open Go.Proofs
noncomputable def f_semigrouplaw04_ExprSettles (C : CallF) (e_0 e_1 : Int) (e_2 : List V) : Option (List V) :=
  (C F_semigroupref04_Valid [.int .i64 e_0, .int .i64 e_1, .list T_api_Expr e_2]).bind fun r1 =>
  bif !((V.nth r1 0).toBool) then
   (C F_semigrouplaw04_awake []).bind fun r2 =>
   some [.bool ((V.nth r2 0).toBool)]
  else
   (C F_expr_Normal [.int .i64 e_0, .int .i64 e_1, .list T_api_Expr e_2]).bind fun r3 =>
   (C F_expr_Validate [.int .i64 ((V.nth r3 0).toInt), .int .i64 ((V.nth (r3.drop 1) 0).toInt), .list T_api_Expr ((V.nth ((r3.drop 1).drop 1) 0).toList), .int .i64 6]).bind fun r4 =>
   bif (((V.nth r4 0).toInt) : Int) == 0 then
    (C F_expr_Size [.int .i64 ((V.nth r3 0).toInt), .int .i64 ((V.nth (r3.drop 1) 0).toInt), .list T_api_Expr ((V.nth ((r3.drop 1).drop 1) 0).toList)]).bind fun r5 =>
    (C F_expr_Size [.int .i64 e_0, .int .i64 e_1, .list T_api_Expr e_2]).bind fun r6 =>
    bif decide ((((V.nth r5 0).toInt) : Int) ≤ ((V.nth r6 0).toInt)) then
     (C F_expr_Normal [.int .i64 ((V.nth r3 0).toInt), .int .i64 ((V.nth (r3.drop 1) 0).toInt), .list T_api_Expr ((V.nth ((r3.drop 1).drop 1) 0).toList)]).bind fun r7 =>
     (C F_semigrouplaw04_same [.int .i64 ((V.nth r7 0).toInt), .int .i64 ((V.nth (r7.drop 1) 0).toInt), .list T_api_Expr ((V.nth ((r7.drop 1).drop 1) 0).toList), .int .i64 ((V.nth r3 0).toInt), .int .i64 ((V.nth (r3.drop 1) 0).toInt), .list T_api_Expr ((V.nth ((r3.drop 1).drop 1) 0).toList)]).bind fun r8 =>
     bif (V.nth r8 0).toBool then
      (C F_semigrouplaw04_awake []).bind fun r9 =>
      some [.bool ((V.nth r9 0).toBool)]
     else
      some [.bool false]
    else
     some [.bool false]
   else
    some [.bool false]
theorem f_semigrouplaw04_ExprSettles_of {e_0 e_1 : Int} {e_2 : List V} {r : Option (List V)} (h : f_semigrouplaw04_ExprSettles CC e_0 e_1 e_2 = r) : CC F_semigrouplaw04_ExprSettles [.int .i64 e_0, .int .i64 e_1, .list T_api_Expr e_2] = r :=
  func_of (key := 10) (L := LT0) (bs := []) (by kernel_rfl) tells_nil (Eq.trans (by kernel_rfl) h)
end Go.AM
set_option maxRecDepth 100000
namespace Go.AM
open Go.Proofs Ex
theorem nrm_val {e : Ex} (hv : e.val 6 = 0) : (nrm e).val 6 = 0 := by
  have h0 := val0 hv
  have a := nrm_size e h0.2.2
  have b := nrm_depth e h0.2.2
  exact val_of (by omega) (by omega) (nrm_gd e h0.2.2).2
theorem exprSettles (e : Ex) (h : e.Ok) : CC F_semigrouplaw04_ExprSettles (exA e []) = some [.bool true] := by
  refine f_semigrouplaw04_ExprSettles_of ?_
  unfold f_semigrouplaw04_ExprSettles
  refine bs (exRefValid_spec e h) ?_
  by_cases hv : e.val 6 = 0
  · have h0 := val0 hv
    have ho := nrm_ok hv
    have hg := nrm_gd e h0.2.2
    refine bF (by simp [hv]) ?_
    refine bs (Normal_spec e h) ?_
    rw [if_pos hv]
    refine bs (exVal_spec (nrm e) ho 6) ?_
    refine bT (by simp [nrm_val hv]) ?_
    refine bs (Size_spec (nrm e) ho) ?_
    refine bs (Size_spec e h) ?_
    refine bT (by simp [nrm_val hv, hv, nrm_size e h0.2.2]) ?_
    refine bs (Normal_spec (nrm e) ho) ?_
    rw [if_pos (nrm_val hv), nrm_fix _ hg]
    refine bs (exR_same ho ho) ?_
    refine bT (by simp) ?_
    exact bs awake rfl
  · refine bT (by simp [hv]) ?_
    exact bs awake rfl
end Go.AM
