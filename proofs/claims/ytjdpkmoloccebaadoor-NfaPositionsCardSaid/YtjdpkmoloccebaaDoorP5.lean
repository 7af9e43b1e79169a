/-
  Functions of the program, lifted to plain data.
-/
import Derived.Test.YtjdpkmoloccebaaDoorP4
set_option linter.unusedVariables false
set_option linter.unusedSimpArgs false
set_option maxRecDepth 100000
namespace Go.AM
open Go.Proofs
noncomputable abbrev B_slices_heapSortCmpFunc_api_Edge_ : Code := bodyOf Tryd.prog (ann.fid 75)
noncomputable def s_slices_heapSortCmpFunc_api_Edge__1 (C : CallF) (first lo hi i : Int) (datas : List V) {β : Type} (kn : (Int × (List V)) → Option β) (kr : (Int × Bool × (List V)) → Option β) : Option β :=
  bif decide ((i : Int) ≥ 0) then
   (C F_slices_siftDownCmpFunc_api_Edge_ [.int .i64 i, .int .i64 hi, .int .i64 first, .list T_api_Edge datas]).bind fun r1 =>
   kn (IntKind.wrap .i64 (i - 1), (V.nth r1 0).toList)
  else
   kr (i, decide ((i : Int) ≥ 0), datas)
noncomputable def s_slices_heapSortCmpFunc_api_Edge__1L (C : CallF) (first lo hi : Int) : (Int × (List V)) → Option ((Int × (List V)) ⊕ (Int × Bool × (List V))) := un fun i datas => s_slices_heapSortCmpFunc_api_Edge__1 C first lo hi i datas (fun y => some (.inl y)) (fun r => some (.inr r))
noncomputable def s_slices_heapSortCmpFunc_api_Edge__2 (C : CallF) (first lo i : Int) (datas : List V) {β : Type} (kn : (Int × (List V)) → Option β) (kr : (Int × Bool × (List V)) → Option β) : Option β :=
  bif decide ((i : Int) ≥ 0) then
   bif (decide (0 ≤ (IntKind.wrap .i64 (first + i)))) && (decide ((IntKind.wrap .i64 (first + i)) < (datas.length : Int))) then
    (datas[(IntKind.wrap .i64 (first + i) : Int).toNat]?).bind fun x5 =>
    bif (decide (0 ≤ first)) && (decide (first < (datas.length : Int))) then
     (datas[(first : Int).toNat]?).bind fun x6 =>
     bif (decide (0 ≤ first)) && (decide (first < (datas.length : Int))) then
      (datas[(first : Int).toNat]?).bind fun x7 =>
      bif (decide (0 ≤ (IntKind.wrap .i64 (first + i)))) && (decide ((IntKind.wrap .i64 (first + i)) < ((datas.set ((first : Int).toNat) (.agg [.int .i64 ((x5.cell 0).toInt), .int .i64 ((x5.cell 1).toInt), .int .i64 ((x5.cell 2).toInt)])).length : Int))) then
       ((datas.set ((first : Int).toNat) (.agg [.int .i64 ((x5.cell 0).toInt), .int .i64 ((x5.cell 1).toInt), .int .i64 ((x5.cell 2).toInt)]))[(IntKind.wrap .i64 (first + i) : Int).toNat]?).bind fun x8 =>
       (C F_slices_siftDownCmpFunc_api_Edge_ [.int .i64 lo, .int .i64 i, .int .i64 first, .list T_api_Edge ((datas.set ((first : Int).toNat) (.agg [.int .i64 ((x5.cell 0).toInt), .int .i64 ((x5.cell 1).toInt), .int .i64 ((x5.cell 2).toInt)])).set ((IntKind.wrap .i64 (first + i) : Int).toNat) (.agg [.int .i64 ((x6.cell 0).toInt), .int .i64 ((x6.cell 1).toInt), .int .i64 ((x6.cell 2).toInt)]))]).bind fun r9 =>
       kn (IntKind.wrap .i64 (i - 1), (V.nth r9 0).toList)
      else none
     else none
    else none
   else none
  else
   kr (i, decide ((i : Int) ≥ 0), datas)
noncomputable def s_slices_heapSortCmpFunc_api_Edge__2L (C : CallF) (first lo : Int) : (Int × (List V)) → Option ((Int × (List V)) ⊕ (Int × Bool × (List V))) := un fun i datas => s_slices_heapSortCmpFunc_api_Edge__2 C first lo i datas (fun y => some (.inl y)) (fun r => some (.inr r))
noncomputable def LT_slices_heapSortCmpFunc_api_Edge_ (C : CallF) : LTab := fun β n ds k =>
  bif Nat.beq n 65 then loopS S75_65 [false, false, false, true, true] [[1, 2, 3, 0, 0, 0]] (@s_slices_heapSortCmpFunc_api_Edge__1 C) ds k else
  bif Nat.beq n 129 then loopS S75_129 [false, false, true, true] [[1, 2, 0, 0, 0]] (@s_slices_heapSortCmpFunc_api_Edge__2 C) ds k else
  none
abbrev TS_slices_heapSortCmpFunc_api_Edge_ (C : CallF) (b : Bar) : Prop := Tells Tryd.prog ann C (LT_slices_heapSortCmpFunc_api_Edge_ C) 75 (ntmpsOf Tryd.prog (ann.fid 75)) (ann.sin 75).blks.length b
theorem t_slices_heapSortCmpFunc_api_Edge__1 (C : CallF) : TS_slices_heapSortCmpFunc_api_Edge_ C (.loop (codeAt [1, 1, 1, 0, 1, 0, 0] B_slices_heapSortCmpFunc_api_Edge_)) :=
  tl3 S75_65 [false, false, false, true, true] [[1, 2, 3, 0, 0, 0]] (@s_slices_heapSortCmpFunc_api_Edge__1 C) (by kernel_rfl) (ltok_of (bs := []) (by kernel_rfl) tells_nil) (fun ds => by kernel_rfl) (fun i x => by kernel_rfl) (fun i x β k => by kernel_rfl) (fun β ds k => by kernel_rfl)
theorem t_slices_heapSortCmpFunc_api_Edge__2 (C : CallF) : TS_slices_heapSortCmpFunc_api_Edge_ C (.loop (codeAt [1, 1, 1, 1, 1, 0, 0] B_slices_heapSortCmpFunc_api_Edge_)) :=
  tl3 S75_129 [false, false, true, true] [[1, 2, 0, 0, 0]] (@s_slices_heapSortCmpFunc_api_Edge__2 C) (by kernel_rfl) (ltok_of (bs := []) (by kernel_rfl) tells_nil) (fun ds => by kernel_rfl) (fun i x => by kernel_rfl) (fun i x β k => by kernel_rfl) (fun β ds k => by kernel_rfl)
noncomputable def f_slices_heapSortCmpFunc_api_Edge_ (C : CallF) (a b' : Int) (datas : List V) : Option (List V) :=
  (Loop (s_slices_heapSortCmpFunc_api_Edge__1L C a 0 (IntKind.wrap .i64 (b' - a))) (IntKind.wrap .i64 (Int.tdiv (IntKind.wrap .i64 ((IntKind.wrap .i64 (b' - a)) - 1)) 2), datas)).bind (un fun (i_2 : Int) => un fun (t_3 : Bool) (datas_4 : List V) =>
    (Loop (s_slices_heapSortCmpFunc_api_Edge__2L C a 0) (IntKind.wrap .i64 ((IntKind.wrap .i64 (b' - a)) - 1), datas_4)).bind (un fun (i_10 : Int) => un fun (t_11 : Bool) (datas_12 : List V) =>
      some [.list T_api_Edge datas_12]))
theorem f_slices_heapSortCmpFunc_api_Edge__of {a b' : Int} {datas : List V} {r : Option (List V)} (h : f_slices_heapSortCmpFunc_api_Edge_ CC a b' datas = r) : CC F_slices_heapSortCmpFunc_api_Edge_ [.int .i64 a, .int .i64 b', .list T_api_Edge datas] = r :=
  func_of (key := 75) (L := LT_slices_heapSortCmpFunc_api_Edge_ CC) (bs := [.loop (codeAt [1, 1, 1, 0, 1, 0, 0] B_slices_heapSortCmpFunc_api_Edge_), .loop (codeAt [1, 1, 1, 1, 1, 0, 0] B_slices_heapSortCmpFunc_api_Edge_)]) (by kernel_rfl) (tells_cons (t_slices_heapSortCmpFunc_api_Edge__1 CC) (tells_cons (t_slices_heapSortCmpFunc_api_Edge__2 CC) tells_nil)) (Eq.trans (by kernel_rfl) h)
end Go.AM
set_option maxRecDepth 100000
namespace Go.AM
open Go.Proofs
noncomputable abbrev B_slices_reverseRangeCmpFunc_api_Edge_ : Code := bodyOf Tryd.prog (ann.fid 78)
noncomputable def s_slices_reverseRangeCmpFunc_api_Edge__1 (C : CallF) (i j : Int) (datas : List V) {β : Type} (kn : (Int × Int × (List V)) → Option β) (kr : (Int × Int × Bool × (List V)) → Option β) : Option β :=
  bif decide ((i : Int) < j) then
   bif (decide (0 ≤ j)) && (decide (j < (datas.length : Int))) then
    (datas[(j : Int).toNat]?).bind fun x1 =>
    bif (decide (0 ≤ i)) && (decide (i < (datas.length : Int))) then
     (datas[(i : Int).toNat]?).bind fun x2 =>
     bif (decide (0 ≤ i)) && (decide (i < (datas.length : Int))) then
      (datas[(i : Int).toNat]?).bind fun x3 =>
      bif (decide (0 ≤ j)) && (decide (j < ((datas.set ((i : Int).toNat) (.agg [.int .i64 ((x1.cell 0).toInt), .int .i64 ((x1.cell 1).toInt), .int .i64 ((x1.cell 2).toInt)])).length : Int))) then
       ((datas.set ((i : Int).toNat) (.agg [.int .i64 ((x1.cell 0).toInt), .int .i64 ((x1.cell 1).toInt), .int .i64 ((x1.cell 2).toInt)]))[(j : Int).toNat]?).bind fun x4 =>
       kn (IntKind.wrap .i64 (i + 1), IntKind.wrap .i64 (j - 1), (datas.set ((i : Int).toNat) (.agg [.int .i64 ((x1.cell 0).toInt), .int .i64 ((x1.cell 1).toInt), .int .i64 ((x1.cell 2).toInt)])).set ((j : Int).toNat) (.agg [.int .i64 ((x2.cell 0).toInt), .int .i64 ((x2.cell 1).toInt), .int .i64 ((x2.cell 2).toInt)]))
      else none
     else none
    else none
   else none
  else
   kr (i, j, decide ((i : Int) < j), datas)
noncomputable def s_slices_reverseRangeCmpFunc_api_Edge__1L (C : CallF) : (Int × Int × (List V)) → Option ((Int × Int × (List V)) ⊕ (Int × Int × Bool × (List V))) := un fun i => un fun j datas => s_slices_reverseRangeCmpFunc_api_Edge__1 C i j datas (fun y => some (.inl y)) (fun r => some (.inr r))
noncomputable def LT_slices_reverseRangeCmpFunc_api_Edge_ (C : CallF) : LTab := fun β n ds k =>
  bif Nat.beq n 33 then loopS S78_33 [true, true, true] [[0, 0, 0, 0]] (@s_slices_reverseRangeCmpFunc_api_Edge__1 C) ds k else
  none
abbrev TS_slices_reverseRangeCmpFunc_api_Edge_ (C : CallF) (b : Bar) : Prop := Tells Tryd.prog ann C (LT_slices_reverseRangeCmpFunc_api_Edge_ C) 78 (ntmpsOf Tryd.prog (ann.fid 78)) (ann.sin 78).blks.length b
theorem t_slices_reverseRangeCmpFunc_api_Edge__1 (C : CallF) : TS_slices_reverseRangeCmpFunc_api_Edge_ C (.loop (codeAt [1, 1, 0, 0] B_slices_reverseRangeCmpFunc_api_Edge_)) :=
  tl3 S78_33 [true, true, true] [[0, 0, 0, 0]] (@s_slices_reverseRangeCmpFunc_api_Edge__1 C) (by kernel_rfl) (ltok_of (bs := []) (by kernel_rfl) tells_nil) (fun ds => by kernel_rfl) (fun i x => by kernel_rfl) (fun i x β k => by kernel_rfl) (fun β ds k => by kernel_rfl)
noncomputable def f_slices_reverseRangeCmpFunc_api_Edge_ (C : CallF) (a b' : Int) (datas : List V) : Option (List V) :=
  (Loop (s_slices_reverseRangeCmpFunc_api_Edge__1L C) (a, IntKind.wrap .i64 (b' - 1), datas)).bind (un fun (i_5 : Int) => un fun (j_6 : Int) => un fun (t_7 : Bool) (datas_8 : List V) =>
    some [.list T_api_Edge datas_8])
theorem f_slices_reverseRangeCmpFunc_api_Edge__of {a b' : Int} {datas : List V} {r : Option (List V)} (h : f_slices_reverseRangeCmpFunc_api_Edge_ CC a b' datas = r) : CC F_slices_reverseRangeCmpFunc_api_Edge_ [.int .i64 a, .int .i64 b', .list T_api_Edge datas] = r :=
  func_of (key := 78) (L := LT_slices_reverseRangeCmpFunc_api_Edge_ CC) (bs := [.loop (codeAt [1, 1, 0, 0] B_slices_reverseRangeCmpFunc_api_Edge_)]) (by kernel_rfl) (tells_cons (t_slices_reverseRangeCmpFunc_api_Edge__1 CC) tells_nil) (Eq.trans (by kernel_rfl) h)
end Go.AM
set_option maxRecDepth 100000
set_option linter.unusedSimpArgs false
set_option maxHeartbeats 4000000
namespace Go.AM
open Go.Proofs Go.Sort
def ltE (a b : Ed) : Bool := decide (cmpE a b < 0)
theorem ltE_i (a b : Ed) : (ltE a b = true) = (cmpE a b < 0) := by unfold ltE; rw [decide_eq_true_eq]
theorem ltE_n (a b : Ed) : ((!ltE a b) = true) = ¬ (cmpE a b < 0) := by unfold ltE; simp
theorem Ed.re (e : Ed) : V.agg [.int .i64 e.f, .int .i64 e.l, .int .i64 e.t] = e.enc := rfl
abbrev eA (d : Array Ed) : List V := encA Ed.enc d
theorem insInner_succ' (a j : Nat) (d : Array Ed) : insInner ltE a (j + 1) d = if j + 1 > a then (if cmpE d[j + 1]! d[j]! < 0 then insInner ltE a j (swp d (j + 1) j) else d) else d := by
  rw [insInner_succ]
  by_cases h1 : j + 1 > a
  · rw [if_pos h1]; simp only [h1, decide_true, Bool.true_and, ltE_i]
  · rw [if_neg h1, if_neg (by simp [h1])]
theorem siftDown_eq' (hi first root : Nat) (d : Array Ed) : siftDown ltE hi first root d =
    if 2 * root + 1 ≥ hi then d else
      if 2 * root + 2 < hi then
        (if cmpE d[first + (2 * root + 1)]! d[first + (2 * root + 2)]! < 0 then
          (if cmpE d[first + root]! d[first + (2 * root + 2)]! < 0 then siftDown ltE hi first (2 * root + 2) (swp d (first + root) (first + (2 * root + 2))) else d)
        else (if cmpE d[first + root]! d[first + (2 * root + 1)]! < 0 then siftDown ltE hi first (2 * root + 1) (swp d (first + root) (first + (2 * root + 1))) else d))
      else (if cmpE d[first + root]! d[first + (2 * root + 1)]! < 0 then siftDown ltE hi first (2 * root + 1) (swp d (first + root) (first + (2 * root + 1))) else d) := by
  rw [siftDown]
  by_cases h1 : 2 * root + 1 ≥ hi
  · rw [dif_pos h1, if_pos h1]
  rw [dif_neg h1, if_neg h1]
  by_cases h2 : 2 * root + 2 < hi
  · rw [if_pos h2]
    by_cases h3 : cmpE d[first + (2 * root + 1)]! d[first + (2 * root + 2)]! < 0
    · rw [if_pos h3, if_pos (by simp only [Bool.and_eq_true, decide_eq_true_eq, ltE_i]; exact ⟨h2, h3⟩)]
      simp only [ltE_n]
      by_cases h4 : cmpE d[first + root]! d[first + (2 * root + 2)]! < 0
      · rw [if_neg (not_not_intro h4), dif_pos h2, if_pos h4]
      · rw [if_pos h4, if_neg h4]
    · rw [if_neg h3, if_neg (by simp only [Bool.and_eq_true, decide_eq_true_eq, ltE_i]; exact fun h => h3 h.2)]
      simp only [ltE_n]
      by_cases h4 : cmpE d[first + root]! d[first + (2 * root + 1)]! < 0
      · rw [if_neg (not_not_intro h4), if_pos h4]
      · rw [if_pos h4, if_neg h4]
  · rw [if_neg h2, if_neg (by simp only [Bool.and_eq_true, decide_eq_true_eq, ltE_i]; exact fun h => h2 h.1)]
    simp only [ltE_n]
    by_cases h4 : cmpE d[first + root]! d[first + (2 * root + 1)]! < 0
    · rw [if_neg (not_not_intro h4), if_pos h4]
    · rw [if_pos h4, if_neg h4]
theorem ins_inner {a b i : Nat} : ∀ (j : Nat) (d : Array Ed), j < d.size → d.size < 1152921504606846976 →
    ∃ j' t, Loop (s_slices_insertionSortCmpFunc_api_Edge__1L CC a b i) ((j : Int), eA d) = some (j', t, eA (insInner ltE a j d))
  | 0, d, hj, hs => ⟨(0 : Nat), false, Loop_end (by
      simp (disch := omega) only [s_slices_insertionSortCmpFunc_api_Edge__1L, s_slices_insertionSortCmpFunc_api_Edge__1, un, bif_decide, if_neg]
      rfl)⟩
  | j + 1, d, hj, hs => by
    obtain ⟨j', t, ih⟩ := ins_inner (a := a) (b := b) (i := i) j (swp d (j + 1) j) (by rw [size_swp]; omega) (by rw [size_swp]; omega)
    rw [insInner_succ']
    by_cases h1 : j + 1 > a
    · rw [if_pos h1]
      have e : s_slices_insertionSortCmpFunc_api_Edge__1L CC a b i (((j + 1 : Nat) : Int), eA d) = if cmpE d[j + 1]! d[j]! < 0 then some (.inl ((j : Int), eA (swp d (j + 1) j))) else some (.inr (((j + 1 : Nat) : Int), decide (cmpE d[j + 1]! d[j]! < 0), eA d)) := by
        simp (disch := omega) only [s_slices_insertionSortCmpFunc_api_Edge__1L, s_slices_insertionSortCmpFunc_api_Edge__1, un, bif_decide, bif_and, bif_not, if_pos, if_neg, wrap64, succC, addC, Int.toNat_natCast, Option.bind_some, encA_length, encA_get, Ed.enc_0, Ed.enc_1, Ed.enc_2, Ed.re, encA_set, encA_get2, Array.size_setIfInBounds, compareEdges_spec, V.nth_zero, V.toInt_int, cond_true, cond_false, predC]
        rfl
      by_cases h2 : cmpE d[j + 1]! d[j]! < 0
      · rw [if_pos h2] at e ⊢
        exact ⟨j', t, (Loop_norm e).trans ih⟩
      · rw [if_neg h2] at e ⊢
        exact ⟨_, _, Loop_end e⟩
    · rw [if_neg h1]
      exact ⟨((j + 1 : Nat) : Int), false, Loop_end (by
        simp (disch := omega) only [s_slices_insertionSortCmpFunc_api_Edge__1L, s_slices_insertionSortCmpFunc_api_Edge__1, un, bif_decide, if_neg])⟩
theorem ins_outer {a b : Nat} : ∀ (n i : Nat) (d : Array Ed), b - i = n → b ≤ d.size → d.size < 1152921504606846976 →
    ∃ j' t, Loop (s_slices_insertionSortCmpFunc_api_Edge__2L CC a b) ((i : Int), eA d) = some (j', t, eA (insOuter ltE a b i d)) := by
  intro n
  induction n with
  | zero =>
    intro i d hn hb hs
    rw [insOuter, if_neg (by omega)]
    exact ⟨(i : Int), false, Loop_end (by
      simp (disch := omega) only [s_slices_insertionSortCmpFunc_api_Edge__2L, s_slices_insertionSortCmpFunc_api_Edge__2, un, dec_false, cond_false])⟩
  | succ n ih =>
    intro i d hn hb hs
    obtain ⟨j1, t1, h1⟩ := ins_inner (a := a) (b := b) (i := i) i d (by omega) hs
    obtain ⟨j', t, h2⟩ := ih (i + 1) (insInner ltE a i d) (by omega) (by rw [insInner_size]; omega) (by rw [insInner_size]; omega)
    rw [insOuter, if_pos (by omega)]
    refine ⟨j', t, (Loop_norm ?_).trans h2⟩
    simp (disch := omega) only [s_slices_insertionSortCmpFunc_api_Edge__2L, s_slices_insertionSortCmpFunc_api_Edge__2, un, bif_decide, if_pos, h1, Option.bind_some, succC, wrap64]
theorem ins_spec {a b : Nat} {d : Array Ed} (hb : b ≤ d.size) (hs : d.size < 1152921504606846976) (ha : a < 1152921504606846976) :
    CC F_slices_insertionSortCmpFunc_api_Edge_ [.int .i64 (a : Int), .int .i64 (b : Int), .list T_api_Edge (eA d)] = some [.list T_api_Edge (eA (insertionSort ltE d a b))] := by
  refine f_slices_insertionSortCmpFunc_api_Edge__of ?_
  unfold f_slices_insertionSortCmpFunc_api_Edge_
  obtain ⟨j', t, h⟩ := ins_outer (a := a) (b := b) _ (a + 1) d rfl hb hs
  simp (disch := omega) only [succC, wrap64]
  rw [h]
  rfl
theorem sift_loop (hi first : Nat) : ∀ (n root : Nat) (d : Array Ed), hi - root ≤ n → root < 1152921504606846976 → first + hi ≤ d.size → d.size < 1152921504606846976 →
    (∃ x y z, Loop (s_slices_siftDownCmpFunc_api_Edge__2L CC hi first) ((root : Int), eA d) = some (.inl (x, y, z, eA (siftDown ltE hi first root d)))) ∨
    (∃ x y z, Loop (s_slices_siftDownCmpFunc_api_Edge__2L CC hi first) ((root : Int), eA d) = some (.inr (x, y, z, eA (siftDown ltE hi first root d)))) := by
  intro n
  induction n with
  | zero =>
    intro root d hn hr hb hs
    rw [siftDown_eq', if_pos (by omega)]
    exact .inl ⟨(root : Int), ((root * 2 + 1 : Nat) : Int), true, Loop_end (by
      simp (disch := omega) only [s_slices_siftDownCmpFunc_api_Edge__2L, s_slices_siftDownCmpFunc_api_Edge__2, un, mul2C, succC, wrap64]; rw [dec_true (by omega)]; rfl)⟩
  | succ n ih =>
    intro root d hn hr hb hs
    by_cases h1 : 2 * root + 1 ≥ hi
    · rw [siftDown_eq', if_pos h1]
      exact .inl ⟨(root : Int), ((root * 2 + 1 : Nat) : Int), true, Loop_end (by
        simp (disch := omega) only [s_slices_siftDownCmpFunc_api_Edge__2L, s_slices_siftDownCmpFunc_api_Edge__2, un, mul2C, succC, wrap64]; rw [dec_true (by omega)]; rfl)⟩
    · have go : ∀ c : Nat, c < hi → root < c → (s_slices_siftDownCmpFunc_api_Edge__2L CC hi first ((root : Int), eA d) =
            if cmpE d[first + root]! d[first + c]! < 0 then some (.inl ((c : Int), eA (swp d (first + root) (first + c)))) else some (.inr (.inr ((root : Int), (c : Int), true, eA d)))) →
          siftDown ltE hi first root d = (if cmpE d[first + root]! d[first + c]! < 0 then siftDown ltE hi first c (swp d (first + root) (first + c)) else d) →
          ((∃ x y z, Loop (s_slices_siftDownCmpFunc_api_Edge__2L CC hi first) ((root : Int), eA d) = some (.inl (x, y, z, eA (siftDown ltE hi first root d)))) ∨
          (∃ x y z, Loop (s_slices_siftDownCmpFunc_api_Edge__2L CC hi first) ((root : Int), eA d) = some (.inr (x, y, z, eA (siftDown ltE hi first root d))))) := by
        intro c hc hrc e1 e2
        rw [e2]
        by_cases h3 : cmpE d[first + root]! d[first + c]! < 0
        · rw [if_pos h3] at e1
          rw [if_pos h3, Loop_norm e1]
          exact ih c _ (by omega) (by omega) (by rw [size_swp]; omega) (by rw [size_swp]; omega)
        · rw [if_neg h3] at e1
          rw [if_neg h3, Loop_end e1]
          exact .inr ⟨_, _, _, rfl⟩
      have e0 := siftDown_eq' hi first root d
      rw [if_neg h1] at e0
      by_cases h2 : 2 * root + 2 < hi
      · rw [if_pos h2] at e0
        by_cases h3 : cmpE d[first + (2 * root + 1)]! d[first + (2 * root + 2)]! < 0
        · rw [if_pos h3] at e0
          refine go (2 * root + 2) (by omega) (by omega) ?_ e0
          rw [Nat.mul_comm 2 root] at h3
          simp (disch := omega) only [s_slices_siftDownCmpFunc_api_Edge__2L, s_slices_siftDownCmpFunc_api_Edge__2, un, mul2C, succC, addC, wrap64]
          rw [bif_decide, if_neg (by omega), bif_decide, if_pos (by omega)]
          simp (disch := omega) only [s_slices_siftDownCmpFunc_api_Edge__1, bif_decide, bif_and, bif_not, if_pos, if_neg, wrap64, succC, addC, Int.toNat_natCast, Option.bind_some, encA_length, encA_get, Ed.enc_0, Ed.enc_1, Ed.enc_2, Ed.re, encA_set, encA_get2, Array.size_setIfInBounds, compareEdges_spec, V.nth_zero, V.toInt_int, cond_true, cond_false, Nat.mul_comm 2 root, dec_true]
          by_cases h4 : cmpE d[first + root]! d[first + (root * 2 + 2)]! < 0
          · simp only [h4, if_true]; rfl
          · simp only [h4, if_false]; rfl
        · rw [if_neg h3] at e0
          refine go (2 * root + 1) (by omega) (by omega) ?_ e0
          rw [Nat.mul_comm 2 root] at h3
          simp (disch := omega) only [s_slices_siftDownCmpFunc_api_Edge__2L, s_slices_siftDownCmpFunc_api_Edge__2, un, mul2C, succC, addC, wrap64]
          rw [bif_decide, if_neg (by omega), bif_decide, if_pos (by omega)]
          simp (disch := omega) only [s_slices_siftDownCmpFunc_api_Edge__1, bif_decide, bif_and, bif_not, if_pos, if_neg, wrap64, succC, addC, Int.toNat_natCast, Option.bind_some, encA_length, encA_get, Ed.enc_0, Ed.enc_1, Ed.enc_2, Ed.re, encA_set, encA_get2, Array.size_setIfInBounds, compareEdges_spec, V.nth_zero, V.toInt_int, cond_true, cond_false, Nat.mul_comm 2 root, dec_false]
          by_cases h4 : cmpE d[first + root]! d[first + (root * 2 + 1)]! < 0
          · simp only [h4, if_true]; rfl
          · simp only [h4, if_false]; rfl
      · rw [if_neg h2] at e0
        refine go (2 * root + 1) (by omega) (by omega) ?_ e0
        simp (disch := omega) only [s_slices_siftDownCmpFunc_api_Edge__2L, s_slices_siftDownCmpFunc_api_Edge__2, un, mul2C, succC, addC, wrap64]
        rw [bif_decide, if_neg (by omega), bif_decide, if_neg (by omega)]
        simp (disch := omega) only [s_slices_siftDownCmpFunc_api_Edge__1, bif_decide, bif_and, bif_not, if_pos, if_neg, wrap64, succC, addC, Int.toNat_natCast, Option.bind_some, encA_length, encA_get, Ed.enc_0, Ed.enc_1, Ed.enc_2, Ed.re, encA_set, encA_get2, Array.size_setIfInBounds, compareEdges_spec, V.nth_zero, V.toInt_int, cond_true, cond_false, Nat.mul_comm 2 root]
        by_cases h4 : cmpE d[first + root]! d[first + (root * 2 + 1)]! < 0
        · simp only [h4, if_true]; rfl
        · simp only [h4, if_false]; rfl
theorem sift_spec {lo hi first : Nat} {d : Array Ed} (hl : lo < 1152921504606846976) (hb : first + hi ≤ d.size) (hs : d.size < 1152921504606846976) :
    CC F_slices_siftDownCmpFunc_api_Edge_ [.int .i64 (lo : Int), .int .i64 (hi : Int), .int .i64 (first : Int), .list T_api_Edge (eA d)] = some [.list T_api_Edge (eA (siftDown ltE hi first lo d))] := by
  refine f_slices_siftDownCmpFunc_api_Edge__of ?_
  unfold f_slices_siftDownCmpFunc_api_Edge_
  rcases sift_loop hi first _ lo d (Nat.le_refl _) hl hb hs with ⟨x, y, z, h⟩ | ⟨x, y, z, h⟩
  · rw [h]; rfl
  · rw [h]; rfl
theorem heap_1 {hi first : Nat} : ∀ (k : Nat) (d : Array Ed), k < 1152921504606846976 → first + hi ≤ d.size → d.size < 1152921504606846976 →
    ∃ x y, Loop (s_slices_heapSortCmpFunc_api_Edge__1L CC first 0 hi) ((k : Int) - 1, eA d) = some (x, y, eA (heapBuild ltE hi first k d))
  | 0, d, hk, hb, hs => ⟨-1, false, Loop_end (by
      simp (disch := omega) only [s_slices_heapSortCmpFunc_api_Edge__1L, s_slices_heapSortCmpFunc_api_Edge__1, un, bif_decide, if_neg]
      rfl)⟩
  | k + 1, d, hk, hb, hs => by
    obtain ⟨x, y, ih⟩ := heap_1 (hi := hi) (first := first) k (siftDown ltE hi first k d) (by omega) (by rw [siftDown_size _ _ _ _ _ (Nat.le_refl _)]; omega) (by rw [siftDown_size _ _ _ _ _ (Nat.le_refl _)]; omega)
    refine ⟨x, y, (Loop_norm ?_).trans ih⟩
    simp (disch := omega) only [s_slices_heapSortCmpFunc_api_Edge__1L, s_slices_heapSortCmpFunc_api_Edge__1, un, bif_decide, if_pos, predC, sift_spec, Option.bind_some, V.nth_zero, V.toList_list, wrap64]
theorem heap_2 {first : Nat} : ∀ (k : Nat) (d : Array Ed), k < 1152921504606846976 → first + k ≤ d.size → d.size < 1152921504606846976 →
    ∃ x y, Loop (s_slices_heapSortCmpFunc_api_Edge__2L CC first 0) ((k : Int) - 1, eA d) = some (x, y, eA (heapPop ltE first k d))
  | 0, d, hk, hb, hs => ⟨-1, false, Loop_end (by
      simp (disch := omega) only [s_slices_heapSortCmpFunc_api_Edge__2L, s_slices_heapSortCmpFunc_api_Edge__2, un, bif_decide, if_neg]
      rfl)⟩
  | k + 1, d, hk, hb, hs => by
    obtain ⟨x, y, ih⟩ := heap_2 (first := first) k (siftDown ltE k first 0 (swp d first (first + k))) (by omega) (by rw [siftDown_size _ _ _ _ _ (Nat.le_refl _), size_swp]; omega) (by rw [siftDown_size _ _ _ _ _ (Nat.le_refl _), size_swp]; omega)
    refine ⟨x, y, (Loop_norm ?_).trans ih⟩
    have hsp := sift_spec (lo := 0) (hi := k) (first := first) (d := swp d first (first + k)) (by omega) (by rw [size_swp]; omega) (by rw [size_swp]; omega)
    unfold swp at hsp ⊢
    rw [show ((0 : Nat) : Int) = 0 from rfl] at hsp
    simp (disch := omega) only [s_slices_heapSortCmpFunc_api_Edge__2L, s_slices_heapSortCmpFunc_api_Edge__2, un, predC, bif_decide, bif_and, bif_not, if_pos, if_neg, wrap64, succC, addC, Int.toNat_natCast, Option.bind_some, encA_length, encA_get, Ed.enc_0, Ed.enc_1, Ed.enc_2, Ed.re, encA_set, encA_get2, Array.size_setIfInBounds, compareEdges_spec, V.nth_zero, V.toInt_int, cond_true, cond_false]
    rw [hsp]
    simp (disch := omega) only [Option.bind_some, V.nth_zero, V.toList_list, wrap64]
theorem heap_spec {a b : Nat} {d : Array Ed} (hab : a < b) (hb : b ≤ d.size) (hs : d.size < 1152921504606846976) :
    CC F_slices_heapSortCmpFunc_api_Edge_ [.int .i64 (a : Int), .int .i64 (b : Int), .list T_api_Edge (eA d)] = some [.list T_api_Edge (eA (heapSort ltE d a b))] := by
  refine f_slices_heapSortCmpFunc_api_Edge__of ?_
  unfold f_slices_heapSortCmpFunc_api_Edge_
  obtain ⟨x, y, h1⟩ := heap_1 (hi := b - a) (first := a) ((b - a - 1) / 2 + 1) d (by omega) (by omega) hs
  obtain ⟨x2, y2, h2⟩ := heap_2 (first := a) (b - a) (heapBuild ltE (b - a) a ((b - a - 1) / 2 + 1) d) (by omega) (by rw [heapBuild_size]; omega) (by rw [heapBuild_size]; omega)
  have e1 : ((((b - a - 1) / 2 + 1 : Nat) : Int) - 1) = Int.tdiv (((b - a : Nat) : Int) - 1) 2 := by
    rw [Int.tdiv_eq_ediv_of_nonneg (by omega)]
    omega
  rw [e1] at h1
  simp (disch := omega) only [subC, wrap64]
  rw [h1]
  simp only [Option.bind_some, un]
  rw [h2]
  rfl
theorem rev_loop : ∀ (n i j : Nat) (d : Array Ed), j - i ≤ n → j < d.size → d.size < 1152921504606846976 →
    ∃ x y z, Loop (s_slices_reverseRangeCmpFunc_api_Edge__1L CC) ((i : Int), (j : Int), eA d) = some (x, y, z, eA (reverseLoop i j d)) := by
  intro n
  induction n with
  | zero =>
    intro i j d hn hj hs
    rw [reverseLoop, if_neg (by omega)]
    exact ⟨(i : Int), (j : Int), false, Loop_end (by
      simp (disch := omega) only [s_slices_reverseRangeCmpFunc_api_Edge__1L, s_slices_reverseRangeCmpFunc_api_Edge__1, un, dec_false, cond_false])⟩
  | succ n ih =>
    intro i j d hn hj hs
    rw [reverseLoop]
    by_cases h : i < j
    · rw [if_pos h]
      obtain ⟨x, y, z, h2⟩ := ih (i + 1) (j - 1) (swp d i j) (by omega) (by rw [size_swp]; omega) (by rw [size_swp]; omega)
      refine ⟨x, y, z, (Loop_norm ?_).trans h2⟩
      simp (disch := omega) only [s_slices_reverseRangeCmpFunc_api_Edge__1L, s_slices_reverseRangeCmpFunc_api_Edge__1, un, bif_decide, bif_and, bif_not, if_pos, if_neg, wrap64, succC, addC, Int.toNat_natCast, Option.bind_some, encA_length, encA_get, Ed.enc_0, Ed.enc_1, Ed.enc_2, Ed.re, encA_set, encA_get2, Array.size_setIfInBounds, compareEdges_spec, V.nth_zero, V.toInt_int, cond_true, cond_false, sub1C]
      rfl
    · rw [if_neg h]
      exact ⟨(i : Int), (j : Int), false, Loop_end (by
        simp (disch := omega) only [s_slices_reverseRangeCmpFunc_api_Edge__1L, s_slices_reverseRangeCmpFunc_api_Edge__1, un, dec_false, cond_false])⟩
theorem rev_spec {a b : Nat} {d : Array Ed} (hab : a < b) (hb : b ≤ d.size) (hs : d.size < 1152921504606846976) :
    CC F_slices_reverseRangeCmpFunc_api_Edge_ [.int .i64 (a : Int), .int .i64 (b : Int), .list T_api_Edge (eA d)] = some [.list T_api_Edge (eA (reverseRange d a b))] := by
  refine f_slices_reverseRangeCmpFunc_api_Edge__of ?_
  unfold f_slices_reverseRangeCmpFunc_api_Edge_
  obtain ⟨x, y, z, h⟩ := rev_loop _ a (b - 1) d (Nat.le_refl _) (by omega) hs
  simp (disch := omega) only [sub1C, wrap64]
  rw [h]
  rfl
end Go.AM
set_option maxRecDepth 100000
namespace Go.AM
open Go.Proofs
noncomputable abbrev B_slices_partitionCmpFunc_api_Edge_ : Code := bodyOf Tryd.prog (ann.fid 81)
noncomputable def s_slices_partitionCmpFunc_api_Edge__1 (C : CallF) (a j : Int) (datas : List V) (i : Int) {β : Type} (kn : Int → Option β) (kr : (Int × Bool) → Option β) : Option β :=
  bif decide ((i : Int) ≤ j) then
   bif (decide (0 ≤ i)) && (decide (i < (datas.length : Int))) then
    (datas[(i : Int).toNat]?).bind fun x5 =>
    bif (decide (0 ≤ a)) && (decide (a < (datas.length : Int))) then
     (datas[(a : Int).toNat]?).bind fun x6 =>
     (C F_nfa_compareEdges [.int .i64 ((x5.cell 0).toInt), .int .i64 ((x5.cell 1).toInt), .int .i64 ((x5.cell 2).toInt), .int .i64 ((x6.cell 0).toInt), .int .i64 ((x6.cell 1).toInt), .int .i64 ((x6.cell 2).toInt)]).bind fun r7 =>
     bif decide ((((V.nth r7 0).toInt) : Int) < 0) then
      kn (IntKind.wrap .i64 (i + 1))
     else
      kr (i, decide ((((V.nth r7 0).toInt) : Int) < 0))
    else none
   else none
  else
   kr (i, false)
noncomputable def s_slices_partitionCmpFunc_api_Edge__1L (C : CallF) (a j : Int) (datas : List V) : (Int) → Option ((Int) ⊕ (Int × Bool)) := fun i => s_slices_partitionCmpFunc_api_Edge__1 C a j datas i (fun y => some (.inl y)) (fun r => some (.inr r))
noncomputable def s_slices_partitionCmpFunc_api_Edge__2 (C : CallF) (a i : Int) (datas : List V) (j : Int) {β : Type} (kn : Int → Option β) (kr : (Int × Bool) → Option β) : Option β :=
  bif decide ((i : Int) ≤ j) then
   bif (decide (0 ≤ j)) && (decide (j < (datas.length : Int))) then
    (datas[(j : Int).toNat]?).bind fun x10 =>
    bif (decide (0 ≤ a)) && (decide (a < (datas.length : Int))) then
     (datas[(a : Int).toNat]?).bind fun x11 =>
     (C F_nfa_compareEdges [.int .i64 ((x10.cell 0).toInt), .int .i64 ((x10.cell 1).toInt), .int .i64 ((x10.cell 2).toInt), .int .i64 ((x11.cell 0).toInt), .int .i64 ((x11.cell 1).toInt), .int .i64 ((x11.cell 2).toInt)]).bind fun r12 =>
     bif !(decide ((((V.nth r12 0).toInt) : Int) < 0)) then
      kn (IntKind.wrap .i64 (j - 1))
     else
      kr (j, !(decide ((((V.nth r12 0).toInt) : Int) < 0)))
    else none
   else none
  else
   kr (j, false)
noncomputable def s_slices_partitionCmpFunc_api_Edge__2L (C : CallF) (a i : Int) (datas : List V) : (Int) → Option ((Int) ⊕ (Int × Bool)) := fun j => s_slices_partitionCmpFunc_api_Edge__2 C a i datas j (fun y => some (.inl y)) (fun r => some (.inr r))
noncomputable def s_slices_partitionCmpFunc_api_Edge__3 (C : CallF) (a j : Int) (datas : List V) (i : Int) {β : Type} (kn : Int → Option β) (kr : (Int × Bool) → Option β) : Option β :=
  bif decide ((i : Int) ≤ j) then
   bif (decide (0 ≤ i)) && (decide (i < (datas.length : Int))) then
    (datas[(i : Int).toNat]?).bind fun x23 =>
    bif (decide (0 ≤ a)) && (decide (a < (datas.length : Int))) then
     (datas[(a : Int).toNat]?).bind fun x24 =>
     (C F_nfa_compareEdges [.int .i64 ((x23.cell 0).toInt), .int .i64 ((x23.cell 1).toInt), .int .i64 ((x23.cell 2).toInt), .int .i64 ((x24.cell 0).toInt), .int .i64 ((x24.cell 1).toInt), .int .i64 ((x24.cell 2).toInt)]).bind fun r25 =>
     bif decide ((((V.nth r25 0).toInt) : Int) < 0) then
      kn (IntKind.wrap .i64 (i + 1))
     else
      kr (i, decide ((((V.nth r25 0).toInt) : Int) < 0))
    else none
   else none
  else
   kr (i, false)
noncomputable def s_slices_partitionCmpFunc_api_Edge__3L (C : CallF) (a j : Int) (datas : List V) : (Int) → Option ((Int) ⊕ (Int × Bool)) := fun i => s_slices_partitionCmpFunc_api_Edge__3 C a j datas i (fun y => some (.inl y)) (fun r => some (.inr r))
noncomputable def s_slices_partitionCmpFunc_api_Edge__4 (C : CallF) (a i : Int) (datas : List V) (j : Int) {β : Type} (kn : Int → Option β) (kr : (Int × Bool) → Option β) : Option β :=
  bif decide ((i : Int) ≤ j) then
   bif (decide (0 ≤ j)) && (decide (j < (datas.length : Int))) then
    (datas[(j : Int).toNat]?).bind fun x28 =>
    bif (decide (0 ≤ a)) && (decide (a < (datas.length : Int))) then
     (datas[(a : Int).toNat]?).bind fun x29 =>
     (C F_nfa_compareEdges [.int .i64 ((x28.cell 0).toInt), .int .i64 ((x28.cell 1).toInt), .int .i64 ((x28.cell 2).toInt), .int .i64 ((x29.cell 0).toInt), .int .i64 ((x29.cell 1).toInt), .int .i64 ((x29.cell 2).toInt)]).bind fun r30 =>
     bif !(decide ((((V.nth r30 0).toInt) : Int) < 0)) then
      kn (IntKind.wrap .i64 (j - 1))
     else
      kr (j, !(decide ((((V.nth r30 0).toInt) : Int) < 0)))
    else none
   else none
  else
   kr (j, false)
noncomputable def s_slices_partitionCmpFunc_api_Edge__4L (C : CallF) (a i : Int) (datas : List V) : (Int) → Option ((Int) ⊕ (Int × Bool)) := fun j => s_slices_partitionCmpFunc_api_Edge__4 C a i datas j (fun y => some (.inl y)) (fun r => some (.inr r))
noncomputable def s_slices_partitionCmpFunc_api_Edge__5 (C : CallF) (a i j : Int) (datas : List V) {β : Type} (kn : (Int × Int × (List V)) → Option β) (kr : (Int × Int × Bool × (List V)) → Option β) : Option β :=
  (Loop (s_slices_partitionCmpFunc_api_Edge__3L C a j datas) i).bind (un fun (i_26 : Int) (t_27 : Bool) =>
    (Loop (s_slices_partitionCmpFunc_api_Edge__4L C a i_26 datas) j).bind (un fun (j_31 : Int) (t_32 : Bool) =>
      bif decide ((i_26 : Int) > j_31) then
       kr (i_26, j_31, decide ((i_26 : Int) > j_31), datas)
      else
       bif (decide (0 ≤ j_31)) && (decide (j_31 < (datas.length : Int))) then
        (datas[(j_31 : Int).toNat]?).bind fun x33 =>
        bif (decide (0 ≤ i_26)) && (decide (i_26 < (datas.length : Int))) then
         (datas[(i_26 : Int).toNat]?).bind fun x34 =>
         bif (decide (0 ≤ i_26)) && (decide (i_26 < (datas.length : Int))) then
          (datas[(i_26 : Int).toNat]?).bind fun x35 =>
          bif (decide (0 ≤ j_31)) && (decide (j_31 < ((datas.set ((i_26 : Int).toNat) (.agg [.int .i64 ((x33.cell 0).toInt), .int .i64 ((x33.cell 1).toInt), .int .i64 ((x33.cell 2).toInt)])).length : Int))) then
           ((datas.set ((i_26 : Int).toNat) (.agg [.int .i64 ((x33.cell 0).toInt), .int .i64 ((x33.cell 1).toInt), .int .i64 ((x33.cell 2).toInt)]))[(j_31 : Int).toNat]?).bind fun x36 =>
           kn (IntKind.wrap .i64 (i_26 + 1), IntKind.wrap .i64 (j_31 - 1), (datas.set ((i_26 : Int).toNat) (.agg [.int .i64 ((x33.cell 0).toInt), .int .i64 ((x33.cell 1).toInt), .int .i64 ((x33.cell 2).toInt)])).set ((j_31 : Int).toNat) (.agg [.int .i64 ((x34.cell 0).toInt), .int .i64 ((x34.cell 1).toInt), .int .i64 ((x34.cell 2).toInt)]))
          else none
         else none
        else none
       else none))
noncomputable def s_slices_partitionCmpFunc_api_Edge__5L (C : CallF) (a : Int) : (Int × Int × (List V)) → Option ((Int × Int × (List V)) ⊕ (Int × Int × Bool × (List V))) := un fun i => un fun j datas => s_slices_partitionCmpFunc_api_Edge__5 C a i j datas (fun y => some (.inl y)) (fun r => some (.inr r))
noncomputable def LT_slices_partitionCmpFunc_api_Edge_ (C : CallF) : LTab := fun β n ds k =>
  bif Nat.beq n 49 then loopS S81_49 [false, true, false, false] [[1, 0, 3, 0, 4]] (@s_slices_partitionCmpFunc_api_Edge__1 C) ds k else
  bif Nat.beq n 81 then loopS S81_81 [false, false, true, false] [[1, 2, 0, 0, 4]] (@s_slices_partitionCmpFunc_api_Edge__2 C) ds k else
  bif Nat.beq n 209 then loopS S81_209 [false, true, false, false] [[1, 0, 3, 0, 4]] (@s_slices_partitionCmpFunc_api_Edge__3 C) ds k else
  bif Nat.beq n 241 then loopS S81_241 [false, false, true, false] [[1, 2, 0, 0, 4]] (@s_slices_partitionCmpFunc_api_Edge__4 C) ds k else
  bif Nat.beq n 210 then loopS S81_210 [false, true, true, true] [[1, 0, 0, 0, 0]] (@s_slices_partitionCmpFunc_api_Edge__5 C) ds k else
  none
abbrev TS_slices_partitionCmpFunc_api_Edge_ (C : CallF) (b : Bar) : Prop := Tells Tryd.prog ann C (LT_slices_partitionCmpFunc_api_Edge_ C) 81 (ntmpsOf Tryd.prog (ann.fid 81)) (ann.sin 81).blks.length b
theorem t_slices_partitionCmpFunc_api_Edge__1 (C : CallF) : TS_slices_partitionCmpFunc_api_Edge_ C (.loop (codeAt [1, 1, 1, 0, 0, 0] B_slices_partitionCmpFunc_api_Edge_)) :=
  tl3 S81_49 [false, true, false, false] [[1, 0, 3, 0, 4]] (@s_slices_partitionCmpFunc_api_Edge__1 C) (by kernel_rfl) (ltok_of (bs := []) (by kernel_rfl) tells_nil) (fun ds => by kernel_rfl) (fun i x => by kernel_rfl) (fun i x β k => by kernel_rfl) (fun β ds k => by kernel_rfl)
theorem t_slices_partitionCmpFunc_api_Edge__2 (C : CallF) : TS_slices_partitionCmpFunc_api_Edge_ C (.loop (codeAt [1, 1, 1, 1, 0, 0, 0] B_slices_partitionCmpFunc_api_Edge_)) :=
  tl3 S81_81 [false, false, true, false] [[1, 2, 0, 0, 4]] (@s_slices_partitionCmpFunc_api_Edge__2 C) (by kernel_rfl) (ltok_of (bs := []) (by kernel_rfl) tells_nil) (fun ds => by kernel_rfl) (fun i x => by kernel_rfl) (fun i x β k => by kernel_rfl) (fun β ds k => by kernel_rfl)
theorem t_slices_partitionCmpFunc_api_Edge__3 (C : CallF) : TS_slices_partitionCmpFunc_api_Edge_ C (.loop (codeAt [1, 1, 1, 1, 1, 1, 1, 1, 1, 0, 0, 0, 0, 0, 0, 0] B_slices_partitionCmpFunc_api_Edge_)) :=
  tl3 S81_209 [false, true, false, false] [[1, 0, 3, 0, 4]] (@s_slices_partitionCmpFunc_api_Edge__3 C) (by kernel_rfl) (ltok_of (bs := []) (by kernel_rfl) tells_nil) (fun ds => by kernel_rfl) (fun i x => by kernel_rfl) (fun i x β k => by kernel_rfl) (fun β ds k => by kernel_rfl)
theorem t_slices_partitionCmpFunc_api_Edge__4 (C : CallF) : TS_slices_partitionCmpFunc_api_Edge_ C (.loop (codeAt [1, 1, 1, 1, 1, 1, 1, 1, 1, 0, 0, 0, 0, 1, 0, 0, 0] B_slices_partitionCmpFunc_api_Edge_)) :=
  tl3 S81_241 [false, false, true, false] [[1, 2, 0, 0, 4]] (@s_slices_partitionCmpFunc_api_Edge__4 C) (by kernel_rfl) (ltok_of (bs := []) (by kernel_rfl) tells_nil) (fun ds => by kernel_rfl) (fun i x => by kernel_rfl) (fun i x β k => by kernel_rfl) (fun β ds k => by kernel_rfl)
theorem t_slices_partitionCmpFunc_api_Edge__5 (C : CallF) : TS_slices_partitionCmpFunc_api_Edge_ C (.loop (codeAt [1, 1, 1, 1, 1, 1, 1, 1, 1, 0, 0, 0] B_slices_partitionCmpFunc_api_Edge_)) :=
  tl3 S81_210 [false, true, true, true] [[1, 0, 0, 0, 0]] (@s_slices_partitionCmpFunc_api_Edge__5 C) (by kernel_rfl) (ltok_of (bs := [.loop (codeAt [1, 1, 1, 1, 1, 1, 1, 1, 1, 0, 0, 0, 0, 0, 0, 0] B_slices_partitionCmpFunc_api_Edge_), .loop (codeAt [1, 1, 1, 1, 1, 1, 1, 1, 1, 0, 0, 0, 0, 1, 0, 0, 0] B_slices_partitionCmpFunc_api_Edge_)]) (by kernel_rfl) (tells_cons (t_slices_partitionCmpFunc_api_Edge__3 C) (tells_cons (t_slices_partitionCmpFunc_api_Edge__4 C) tells_nil))) (fun ds => by kernel_rfl) (fun i x => by kernel_rfl) (fun i x β k => by kernel_rfl) (fun β ds k => by kernel_rfl)
noncomputable def f_slices_partitionCmpFunc_api_Edge_ (C : CallF) (a b' pivot : Int) (datas : List V) : Option (List V) :=
  bif (decide (0 ≤ pivot)) && (decide (pivot < (datas.length : Int))) then
   (datas[(pivot : Int).toNat]?).bind fun x1 =>
   bif (decide (0 ≤ a)) && (decide (a < (datas.length : Int))) then
    (datas[(a : Int).toNat]?).bind fun x2 =>
    bif (decide (0 ≤ a)) && (decide (a < (datas.length : Int))) then
     (datas[(a : Int).toNat]?).bind fun x3 =>
     bif (decide (0 ≤ pivot)) && (decide (pivot < ((datas.set ((a : Int).toNat) (.agg [.int .i64 ((x1.cell 0).toInt), .int .i64 ((x1.cell 1).toInt), .int .i64 ((x1.cell 2).toInt)])).length : Int))) then
      ((datas.set ((a : Int).toNat) (.agg [.int .i64 ((x1.cell 0).toInt), .int .i64 ((x1.cell 1).toInt), .int .i64 ((x1.cell 2).toInt)]))[(pivot : Int).toNat]?).bind fun x4 =>
      (Loop (s_slices_partitionCmpFunc_api_Edge__1L C a (IntKind.wrap .i64 (b' - 1)) ((datas.set ((a : Int).toNat) (.agg [.int .i64 ((x1.cell 0).toInt), .int .i64 ((x1.cell 1).toInt), .int .i64 ((x1.cell 2).toInt)])).set ((pivot : Int).toNat) (.agg [.int .i64 ((x2.cell 0).toInt), .int .i64 ((x2.cell 1).toInt), .int .i64 ((x2.cell 2).toInt)]))) (IntKind.wrap .i64 (a + 1))).bind (un fun (i_8 : Int) (t_9 : Bool) =>
        (Loop (s_slices_partitionCmpFunc_api_Edge__2L C a i_8 ((datas.set ((a : Int).toNat) (.agg [.int .i64 ((x1.cell 0).toInt), .int .i64 ((x1.cell 1).toInt), .int .i64 ((x1.cell 2).toInt)])).set ((pivot : Int).toNat) (.agg [.int .i64 ((x2.cell 0).toInt), .int .i64 ((x2.cell 1).toInt), .int .i64 ((x2.cell 2).toInt)]))) (IntKind.wrap .i64 (b' - 1))).bind (un fun (j_13 : Int) (t_14 : Bool) =>
          bif decide ((i_8 : Int) > j_13) then
           bif (decide (0 ≤ a)) && (decide (a < (((datas.set ((a : Int).toNat) (.agg [.int .i64 ((x1.cell 0).toInt), .int .i64 ((x1.cell 1).toInt), .int .i64 ((x1.cell 2).toInt)])).set ((pivot : Int).toNat) (.agg [.int .i64 ((x2.cell 0).toInt), .int .i64 ((x2.cell 1).toInt), .int .i64 ((x2.cell 2).toInt)])).length : Int))) then
            (((datas.set ((a : Int).toNat) (.agg [.int .i64 ((x1.cell 0).toInt), .int .i64 ((x1.cell 1).toInt), .int .i64 ((x1.cell 2).toInt)])).set ((pivot : Int).toNat) (.agg [.int .i64 ((x2.cell 0).toInt), .int .i64 ((x2.cell 1).toInt), .int .i64 ((x2.cell 2).toInt)]))[(a : Int).toNat]?).bind fun x15 =>
            bif (decide (0 ≤ j_13)) && (decide (j_13 < (((datas.set ((a : Int).toNat) (.agg [.int .i64 ((x1.cell 0).toInt), .int .i64 ((x1.cell 1).toInt), .int .i64 ((x1.cell 2).toInt)])).set ((pivot : Int).toNat) (.agg [.int .i64 ((x2.cell 0).toInt), .int .i64 ((x2.cell 1).toInt), .int .i64 ((x2.cell 2).toInt)])).length : Int))) then
             (((datas.set ((a : Int).toNat) (.agg [.int .i64 ((x1.cell 0).toInt), .int .i64 ((x1.cell 1).toInt), .int .i64 ((x1.cell 2).toInt)])).set ((pivot : Int).toNat) (.agg [.int .i64 ((x2.cell 0).toInt), .int .i64 ((x2.cell 1).toInt), .int .i64 ((x2.cell 2).toInt)]))[(j_13 : Int).toNat]?).bind fun x16 =>
             bif (decide (0 ≤ j_13)) && (decide (j_13 < (((datas.set ((a : Int).toNat) (.agg [.int .i64 ((x1.cell 0).toInt), .int .i64 ((x1.cell 1).toInt), .int .i64 ((x1.cell 2).toInt)])).set ((pivot : Int).toNat) (.agg [.int .i64 ((x2.cell 0).toInt), .int .i64 ((x2.cell 1).toInt), .int .i64 ((x2.cell 2).toInt)])).length : Int))) then
              (((datas.set ((a : Int).toNat) (.agg [.int .i64 ((x1.cell 0).toInt), .int .i64 ((x1.cell 1).toInt), .int .i64 ((x1.cell 2).toInt)])).set ((pivot : Int).toNat) (.agg [.int .i64 ((x2.cell 0).toInt), .int .i64 ((x2.cell 1).toInt), .int .i64 ((x2.cell 2).toInt)]))[(j_13 : Int).toNat]?).bind fun x17 =>
              bif (decide (0 ≤ a)) && (decide (a < ((((datas.set ((a : Int).toNat) (.agg [.int .i64 ((x1.cell 0).toInt), .int .i64 ((x1.cell 1).toInt), .int .i64 ((x1.cell 2).toInt)])).set ((pivot : Int).toNat) (.agg [.int .i64 ((x2.cell 0).toInt), .int .i64 ((x2.cell 1).toInt), .int .i64 ((x2.cell 2).toInt)])).set ((j_13 : Int).toNat) (.agg [.int .i64 ((x15.cell 0).toInt), .int .i64 ((x15.cell 1).toInt), .int .i64 ((x15.cell 2).toInt)])).length : Int))) then
               ((((datas.set ((a : Int).toNat) (.agg [.int .i64 ((x1.cell 0).toInt), .int .i64 ((x1.cell 1).toInt), .int .i64 ((x1.cell 2).toInt)])).set ((pivot : Int).toNat) (.agg [.int .i64 ((x2.cell 0).toInt), .int .i64 ((x2.cell 1).toInt), .int .i64 ((x2.cell 2).toInt)])).set ((j_13 : Int).toNat) (.agg [.int .i64 ((x15.cell 0).toInt), .int .i64 ((x15.cell 1).toInt), .int .i64 ((x15.cell 2).toInt)]))[(a : Int).toNat]?).bind fun x18 =>
               some [.int .i64 j_13, .bool true, .list T_api_Edge ((((datas.set ((a : Int).toNat) (.agg [.int .i64 ((x1.cell 0).toInt), .int .i64 ((x1.cell 1).toInt), .int .i64 ((x1.cell 2).toInt)])).set ((pivot : Int).toNat) (.agg [.int .i64 ((x2.cell 0).toInt), .int .i64 ((x2.cell 1).toInt), .int .i64 ((x2.cell 2).toInt)])).set ((j_13 : Int).toNat) (.agg [.int .i64 ((x15.cell 0).toInt), .int .i64 ((x15.cell 1).toInt), .int .i64 ((x15.cell 2).toInt)])).set ((a : Int).toNat) (.agg [.int .i64 ((x16.cell 0).toInt), .int .i64 ((x16.cell 1).toInt), .int .i64 ((x16.cell 2).toInt)]))]
              else none
             else none
            else none
           else none
          else
           bif (decide (0 ≤ j_13)) && (decide (j_13 < (((datas.set ((a : Int).toNat) (.agg [.int .i64 ((x1.cell 0).toInt), .int .i64 ((x1.cell 1).toInt), .int .i64 ((x1.cell 2).toInt)])).set ((pivot : Int).toNat) (.agg [.int .i64 ((x2.cell 0).toInt), .int .i64 ((x2.cell 1).toInt), .int .i64 ((x2.cell 2).toInt)])).length : Int))) then
            (((datas.set ((a : Int).toNat) (.agg [.int .i64 ((x1.cell 0).toInt), .int .i64 ((x1.cell 1).toInt), .int .i64 ((x1.cell 2).toInt)])).set ((pivot : Int).toNat) (.agg [.int .i64 ((x2.cell 0).toInt), .int .i64 ((x2.cell 1).toInt), .int .i64 ((x2.cell 2).toInt)]))[(j_13 : Int).toNat]?).bind fun x19 =>
            bif (decide (0 ≤ i_8)) && (decide (i_8 < (((datas.set ((a : Int).toNat) (.agg [.int .i64 ((x1.cell 0).toInt), .int .i64 ((x1.cell 1).toInt), .int .i64 ((x1.cell 2).toInt)])).set ((pivot : Int).toNat) (.agg [.int .i64 ((x2.cell 0).toInt), .int .i64 ((x2.cell 1).toInt), .int .i64 ((x2.cell 2).toInt)])).length : Int))) then
             (((datas.set ((a : Int).toNat) (.agg [.int .i64 ((x1.cell 0).toInt), .int .i64 ((x1.cell 1).toInt), .int .i64 ((x1.cell 2).toInt)])).set ((pivot : Int).toNat) (.agg [.int .i64 ((x2.cell 0).toInt), .int .i64 ((x2.cell 1).toInt), .int .i64 ((x2.cell 2).toInt)]))[(i_8 : Int).toNat]?).bind fun x20 =>
             bif (decide (0 ≤ i_8)) && (decide (i_8 < (((datas.set ((a : Int).toNat) (.agg [.int .i64 ((x1.cell 0).toInt), .int .i64 ((x1.cell 1).toInt), .int .i64 ((x1.cell 2).toInt)])).set ((pivot : Int).toNat) (.agg [.int .i64 ((x2.cell 0).toInt), .int .i64 ((x2.cell 1).toInt), .int .i64 ((x2.cell 2).toInt)])).length : Int))) then
              (((datas.set ((a : Int).toNat) (.agg [.int .i64 ((x1.cell 0).toInt), .int .i64 ((x1.cell 1).toInt), .int .i64 ((x1.cell 2).toInt)])).set ((pivot : Int).toNat) (.agg [.int .i64 ((x2.cell 0).toInt), .int .i64 ((x2.cell 1).toInt), .int .i64 ((x2.cell 2).toInt)]))[(i_8 : Int).toNat]?).bind fun x21 =>
              bif (decide (0 ≤ j_13)) && (decide (j_13 < ((((datas.set ((a : Int).toNat) (.agg [.int .i64 ((x1.cell 0).toInt), .int .i64 ((x1.cell 1).toInt), .int .i64 ((x1.cell 2).toInt)])).set ((pivot : Int).toNat) (.agg [.int .i64 ((x2.cell 0).toInt), .int .i64 ((x2.cell 1).toInt), .int .i64 ((x2.cell 2).toInt)])).set ((i_8 : Int).toNat) (.agg [.int .i64 ((x19.cell 0).toInt), .int .i64 ((x19.cell 1).toInt), .int .i64 ((x19.cell 2).toInt)])).length : Int))) then
               ((((datas.set ((a : Int).toNat) (.agg [.int .i64 ((x1.cell 0).toInt), .int .i64 ((x1.cell 1).toInt), .int .i64 ((x1.cell 2).toInt)])).set ((pivot : Int).toNat) (.agg [.int .i64 ((x2.cell 0).toInt), .int .i64 ((x2.cell 1).toInt), .int .i64 ((x2.cell 2).toInt)])).set ((i_8 : Int).toNat) (.agg [.int .i64 ((x19.cell 0).toInt), .int .i64 ((x19.cell 1).toInt), .int .i64 ((x19.cell 2).toInt)]))[(j_13 : Int).toNat]?).bind fun x22 =>
               (Loop (s_slices_partitionCmpFunc_api_Edge__5L C a) (IntKind.wrap .i64 (i_8 + 1), IntKind.wrap .i64 (j_13 - 1), (((datas.set ((a : Int).toNat) (.agg [.int .i64 ((x1.cell 0).toInt), .int .i64 ((x1.cell 1).toInt), .int .i64 ((x1.cell 2).toInt)])).set ((pivot : Int).toNat) (.agg [.int .i64 ((x2.cell 0).toInt), .int .i64 ((x2.cell 1).toInt), .int .i64 ((x2.cell 2).toInt)])).set ((i_8 : Int).toNat) (.agg [.int .i64 ((x19.cell 0).toInt), .int .i64 ((x19.cell 1).toInt), .int .i64 ((x19.cell 2).toInt)])).set ((j_13 : Int).toNat) (.agg [.int .i64 ((x20.cell 0).toInt), .int .i64 ((x20.cell 1).toInt), .int .i64 ((x20.cell 2).toInt)]))).bind (un fun (i_37 : Int) => un fun (j_38 : Int) => un fun (t_39 : Bool) (datas_40 : List V) =>
                 bif (decide (0 ≤ a)) && (decide (a < (datas_40.length : Int))) then
                  (datas_40[(a : Int).toNat]?).bind fun x41 =>
                  bif (decide (0 ≤ j_38)) && (decide (j_38 < (datas_40.length : Int))) then
                   (datas_40[(j_38 : Int).toNat]?).bind fun x42 =>
                   bif (decide (0 ≤ j_38)) && (decide (j_38 < (datas_40.length : Int))) then
                    (datas_40[(j_38 : Int).toNat]?).bind fun x43 =>
                    bif (decide (0 ≤ a)) && (decide (a < ((datas_40.set ((j_38 : Int).toNat) (.agg [.int .i64 ((x41.cell 0).toInt), .int .i64 ((x41.cell 1).toInt), .int .i64 ((x41.cell 2).toInt)])).length : Int))) then
                     ((datas_40.set ((j_38 : Int).toNat) (.agg [.int .i64 ((x41.cell 0).toInt), .int .i64 ((x41.cell 1).toInt), .int .i64 ((x41.cell 2).toInt)]))[(a : Int).toNat]?).bind fun x44 =>
                     some [.int .i64 j_38, .bool false, .list T_api_Edge ((datas_40.set ((j_38 : Int).toNat) (.agg [.int .i64 ((x41.cell 0).toInt), .int .i64 ((x41.cell 1).toInt), .int .i64 ((x41.cell 2).toInt)])).set ((a : Int).toNat) (.agg [.int .i64 ((x42.cell 0).toInt), .int .i64 ((x42.cell 1).toInt), .int .i64 ((x42.cell 2).toInt)]))]
                    else none
                   else none
                  else none
                 else none)
              else none
             else none
            else none
           else none))
     else none
    else none
   else none
  else none
theorem f_slices_partitionCmpFunc_api_Edge__of {a b' pivot : Int} {datas : List V} {r : Option (List V)} (h : f_slices_partitionCmpFunc_api_Edge_ CC a b' pivot datas = r) : CC F_slices_partitionCmpFunc_api_Edge_ [.int .i64 a, .int .i64 b', .int .i64 pivot, .list T_api_Edge datas] = r :=
  func_of (key := 81) (L := LT_slices_partitionCmpFunc_api_Edge_ CC) (bs := [.loop (codeAt [1, 1, 1, 0, 0, 0] B_slices_partitionCmpFunc_api_Edge_), .loop (codeAt [1, 1, 1, 1, 0, 0, 0] B_slices_partitionCmpFunc_api_Edge_), .loop (codeAt [1, 1, 1, 1, 1, 1, 1, 1, 1, 0, 0, 0] B_slices_partitionCmpFunc_api_Edge_)]) (by kernel_rfl) (tells_cons (t_slices_partitionCmpFunc_api_Edge__1 CC) (tells_cons (t_slices_partitionCmpFunc_api_Edge__2 CC) (tells_cons (t_slices_partitionCmpFunc_api_Edge__5 CC) tells_nil))) (Eq.trans (by kernel_rfl) h)
end Go.AM
set_option maxRecDepth 100000
namespace Go.AM
open Go.Proofs
noncomputable abbrev B_slices_partitionEqualCmpFunc_api_Edge_ : Code := bodyOf Tryd.prog (ann.fid 80)
noncomputable def s_slices_partitionEqualCmpFunc_api_Edge__1 (C : CallF) (a j : Int) (datas : List V) (i : Int) {β : Type} (kn : Int → Option β) (kr : (Int × Bool) → Option β) : Option β :=
  bif decide ((i : Int) ≤ j) then
   bif (decide (0 ≤ a)) && (decide (a < (datas.length : Int))) then
    (datas[(a : Int).toNat]?).bind fun x5 =>
    bif (decide (0 ≤ i)) && (decide (i < (datas.length : Int))) then
     (datas[(i : Int).toNat]?).bind fun x6 =>
     (C F_nfa_compareEdges [.int .i64 ((x5.cell 0).toInt), .int .i64 ((x5.cell 1).toInt), .int .i64 ((x5.cell 2).toInt), .int .i64 ((x6.cell 0).toInt), .int .i64 ((x6.cell 1).toInt), .int .i64 ((x6.cell 2).toInt)]).bind fun r7 =>
     bif !(decide ((((V.nth r7 0).toInt) : Int) < 0)) then
      kn (IntKind.wrap .i64 (i + 1))
     else
      kr (i, !(decide ((((V.nth r7 0).toInt) : Int) < 0)))
    else none
   else none
  else
   kr (i, false)
noncomputable def s_slices_partitionEqualCmpFunc_api_Edge__1L (C : CallF) (a j : Int) (datas : List V) : (Int) → Option ((Int) ⊕ (Int × Bool)) := fun i => s_slices_partitionEqualCmpFunc_api_Edge__1 C a j datas i (fun y => some (.inl y)) (fun r => some (.inr r))
noncomputable def s_slices_partitionEqualCmpFunc_api_Edge__2 (C : CallF) (a i : Int) (datas : List V) (j : Int) {β : Type} (kn : Int → Option β) (kr : (Int × Bool) → Option β) : Option β :=
  bif decide ((i : Int) ≤ j) then
   bif (decide (0 ≤ a)) && (decide (a < (datas.length : Int))) then
    (datas[(a : Int).toNat]?).bind fun x10 =>
    bif (decide (0 ≤ j)) && (decide (j < (datas.length : Int))) then
     (datas[(j : Int).toNat]?).bind fun x11 =>
     (C F_nfa_compareEdges [.int .i64 ((x10.cell 0).toInt), .int .i64 ((x10.cell 1).toInt), .int .i64 ((x10.cell 2).toInt), .int .i64 ((x11.cell 0).toInt), .int .i64 ((x11.cell 1).toInt), .int .i64 ((x11.cell 2).toInt)]).bind fun r12 =>
     bif decide ((((V.nth r12 0).toInt) : Int) < 0) then
      kn (IntKind.wrap .i64 (j - 1))
     else
      kr (j, decide ((((V.nth r12 0).toInt) : Int) < 0))
    else none
   else none
  else
   kr (j, false)
noncomputable def s_slices_partitionEqualCmpFunc_api_Edge__2L (C : CallF) (a i : Int) (datas : List V) : (Int) → Option ((Int) ⊕ (Int × Bool)) := fun j => s_slices_partitionEqualCmpFunc_api_Edge__2 C a i datas j (fun y => some (.inl y)) (fun r => some (.inr r))
noncomputable def s_slices_partitionEqualCmpFunc_api_Edge__3 (C : CallF) (a i j : Int) (datas : List V) {β : Type} (kn : (Int × Int × (List V)) → Option β) (kr : (Int × Int × Bool × (List V)) → Option β) : Option β :=
  (Loop (s_slices_partitionEqualCmpFunc_api_Edge__1L C a j datas) i).bind (un fun (i_8 : Int) (t_9 : Bool) =>
    (Loop (s_slices_partitionEqualCmpFunc_api_Edge__2L C a i_8 datas) j).bind (un fun (j_13 : Int) (t_14 : Bool) =>
      bif decide ((i_8 : Int) > j_13) then
       kr (i_8, j_13, decide ((i_8 : Int) > j_13), datas)
      else
       bif (decide (0 ≤ j_13)) && (decide (j_13 < (datas.length : Int))) then
        (datas[(j_13 : Int).toNat]?).bind fun x15 =>
        bif (decide (0 ≤ i_8)) && (decide (i_8 < (datas.length : Int))) then
         (datas[(i_8 : Int).toNat]?).bind fun x16 =>
         bif (decide (0 ≤ i_8)) && (decide (i_8 < (datas.length : Int))) then
          (datas[(i_8 : Int).toNat]?).bind fun x17 =>
          bif (decide (0 ≤ j_13)) && (decide (j_13 < ((datas.set ((i_8 : Int).toNat) (.agg [.int .i64 ((x15.cell 0).toInt), .int .i64 ((x15.cell 1).toInt), .int .i64 ((x15.cell 2).toInt)])).length : Int))) then
           ((datas.set ((i_8 : Int).toNat) (.agg [.int .i64 ((x15.cell 0).toInt), .int .i64 ((x15.cell 1).toInt), .int .i64 ((x15.cell 2).toInt)]))[(j_13 : Int).toNat]?).bind fun x18 =>
           kn (IntKind.wrap .i64 (i_8 + 1), IntKind.wrap .i64 (j_13 - 1), (datas.set ((i_8 : Int).toNat) (.agg [.int .i64 ((x15.cell 0).toInt), .int .i64 ((x15.cell 1).toInt), .int .i64 ((x15.cell 2).toInt)])).set ((j_13 : Int).toNat) (.agg [.int .i64 ((x16.cell 0).toInt), .int .i64 ((x16.cell 1).toInt), .int .i64 ((x16.cell 2).toInt)]))
          else none
         else none
        else none
       else none))
noncomputable def s_slices_partitionEqualCmpFunc_api_Edge__3L (C : CallF) (a : Int) : (Int × Int × (List V)) → Option ((Int × Int × (List V)) ⊕ (Int × Int × Bool × (List V))) := un fun i => un fun j datas => s_slices_partitionEqualCmpFunc_api_Edge__3 C a i j datas (fun y => some (.inl y)) (fun r => some (.inr r))
noncomputable def LT_slices_partitionEqualCmpFunc_api_Edge_ (C : CallF) : LTab := fun β n ds k =>
  bif Nat.beq n 49 then loopS S80_49 [false, true, false, false] [[1, 0, 3, 0, 4]] (@s_slices_partitionEqualCmpFunc_api_Edge__1 C) ds k else
  bif Nat.beq n 81 then loopS S80_81 [false, false, true, false] [[1, 2, 0, 0, 4]] (@s_slices_partitionEqualCmpFunc_api_Edge__2 C) ds k else
  bif Nat.beq n 50 then loopS S80_50 [false, true, true, true] [[1, 0, 0, 0, 0]] (@s_slices_partitionEqualCmpFunc_api_Edge__3 C) ds k else
  none
abbrev TS_slices_partitionEqualCmpFunc_api_Edge_ (C : CallF) (b : Bar) : Prop := Tells Tryd.prog ann C (LT_slices_partitionEqualCmpFunc_api_Edge_ C) 80 (ntmpsOf Tryd.prog (ann.fid 80)) (ann.sin 80).blks.length b
theorem t_slices_partitionEqualCmpFunc_api_Edge__1 (C : CallF) : TS_slices_partitionEqualCmpFunc_api_Edge_ C (.loop (codeAt [1, 1, 1, 0, 0, 0, 0, 0, 0, 0] B_slices_partitionEqualCmpFunc_api_Edge_)) :=
  tl3 S80_49 [false, true, false, false] [[1, 0, 3, 0, 4]] (@s_slices_partitionEqualCmpFunc_api_Edge__1 C) (by kernel_rfl) (ltok_of (bs := []) (by kernel_rfl) tells_nil) (fun ds => by kernel_rfl) (fun i x => by kernel_rfl) (fun i x β k => by kernel_rfl) (fun β ds k => by kernel_rfl)
theorem t_slices_partitionEqualCmpFunc_api_Edge__2 (C : CallF) : TS_slices_partitionEqualCmpFunc_api_Edge_ C (.loop (codeAt [1, 1, 1, 0, 0, 0, 0, 1, 0, 0, 0] B_slices_partitionEqualCmpFunc_api_Edge_)) :=
  tl3 S80_81 [false, false, true, false] [[1, 2, 0, 0, 4]] (@s_slices_partitionEqualCmpFunc_api_Edge__2 C) (by kernel_rfl) (ltok_of (bs := []) (by kernel_rfl) tells_nil) (fun ds => by kernel_rfl) (fun i x => by kernel_rfl) (fun i x β k => by kernel_rfl) (fun β ds k => by kernel_rfl)
theorem t_slices_partitionEqualCmpFunc_api_Edge__3 (C : CallF) : TS_slices_partitionEqualCmpFunc_api_Edge_ C (.loop (codeAt [1, 1, 1, 0, 0, 0] B_slices_partitionEqualCmpFunc_api_Edge_)) :=
  tl3 S80_50 [false, true, true, true] [[1, 0, 0, 0, 0]] (@s_slices_partitionEqualCmpFunc_api_Edge__3 C) (by kernel_rfl) (ltok_of (bs := [.loop (codeAt [1, 1, 1, 0, 0, 0, 0, 0, 0, 0] B_slices_partitionEqualCmpFunc_api_Edge_), .loop (codeAt [1, 1, 1, 0, 0, 0, 0, 1, 0, 0, 0] B_slices_partitionEqualCmpFunc_api_Edge_)]) (by kernel_rfl) (tells_cons (t_slices_partitionEqualCmpFunc_api_Edge__1 C) (tells_cons (t_slices_partitionEqualCmpFunc_api_Edge__2 C) tells_nil))) (fun ds => by kernel_rfl) (fun i x => by kernel_rfl) (fun i x β k => by kernel_rfl) (fun β ds k => by kernel_rfl)
noncomputable def f_slices_partitionEqualCmpFunc_api_Edge_ (C : CallF) (a b' pivot : Int) (datas : List V) : Option (List V) :=
  bif (decide (0 ≤ pivot)) && (decide (pivot < (datas.length : Int))) then
   (datas[(pivot : Int).toNat]?).bind fun x1 =>
   bif (decide (0 ≤ a)) && (decide (a < (datas.length : Int))) then
    (datas[(a : Int).toNat]?).bind fun x2 =>
    bif (decide (0 ≤ a)) && (decide (a < (datas.length : Int))) then
     (datas[(a : Int).toNat]?).bind fun x3 =>
     bif (decide (0 ≤ pivot)) && (decide (pivot < ((datas.set ((a : Int).toNat) (.agg [.int .i64 ((x1.cell 0).toInt), .int .i64 ((x1.cell 1).toInt), .int .i64 ((x1.cell 2).toInt)])).length : Int))) then
      ((datas.set ((a : Int).toNat) (.agg [.int .i64 ((x1.cell 0).toInt), .int .i64 ((x1.cell 1).toInt), .int .i64 ((x1.cell 2).toInt)]))[(pivot : Int).toNat]?).bind fun x4 =>
      (Loop (s_slices_partitionEqualCmpFunc_api_Edge__3L C a) (IntKind.wrap .i64 (a + 1), IntKind.wrap .i64 (b' - 1), (datas.set ((a : Int).toNat) (.agg [.int .i64 ((x1.cell 0).toInt), .int .i64 ((x1.cell 1).toInt), .int .i64 ((x1.cell 2).toInt)])).set ((pivot : Int).toNat) (.agg [.int .i64 ((x2.cell 0).toInt), .int .i64 ((x2.cell 1).toInt), .int .i64 ((x2.cell 2).toInt)]))).bind (un fun (i_19 : Int) => un fun (j_20 : Int) => un fun (t_21 : Bool) (datas_22 : List V) =>
        some [.int .i64 i_19, .list T_api_Edge datas_22])
     else none
    else none
   else none
  else none
theorem f_slices_partitionEqualCmpFunc_api_Edge__of {a b' pivot : Int} {datas : List V} {r : Option (List V)} (h : f_slices_partitionEqualCmpFunc_api_Edge_ CC a b' pivot datas = r) : CC F_slices_partitionEqualCmpFunc_api_Edge_ [.int .i64 a, .int .i64 b', .int .i64 pivot, .list T_api_Edge datas] = r :=
  func_of (key := 80) (L := LT_slices_partitionEqualCmpFunc_api_Edge_ CC) (bs := [.loop (codeAt [1, 1, 1, 0, 0, 0] B_slices_partitionEqualCmpFunc_api_Edge_)]) (by kernel_rfl) (tells_cons (t_slices_partitionEqualCmpFunc_api_Edge__3 CC) tells_nil) (Eq.trans (by kernel_rfl) h)
end Go.AM
set_option maxRecDepth 100000
namespace Go.AM
open Go.Proofs
noncomputable abbrev B_slices_partialInsertionSortCmpFunc_api_Edge_ : Code := bodyOf Tryd.prog (ann.fid 79)
noncomputable def s_slices_partialInsertionSortCmpFunc_api_Edge__1 (C : CallF) (a b' j : Int) (datas : List V) (i : Int) {β : Type} (kn : Int → Option β) (kr : (Int × Bool) → Option β) : Option β :=
  bif decide ((i : Int) < b') then
   bif (decide (0 ≤ i)) && (decide (i < (datas.length : Int))) then
    (datas[(i : Int).toNat]?).bind fun x1 =>
    bif (decide (0 ≤ (IntKind.wrap .i64 (i - 1)))) && (decide ((IntKind.wrap .i64 (i - 1)) < (datas.length : Int))) then
     (datas[(IntKind.wrap .i64 (i - 1) : Int).toNat]?).bind fun x2 =>
     (C F_nfa_compareEdges [.int .i64 ((x1.cell 0).toInt), .int .i64 ((x1.cell 1).toInt), .int .i64 ((x1.cell 2).toInt), .int .i64 ((x2.cell 0).toInt), .int .i64 ((x2.cell 1).toInt), .int .i64 ((x2.cell 2).toInt)]).bind fun r3 =>
     bif !(decide ((((V.nth r3 0).toInt) : Int) < 0)) then
      kn (IntKind.wrap .i64 (i + 1))
     else
      kr (i, !(decide ((((V.nth r3 0).toInt) : Int) < 0)))
    else none
   else none
  else
   kr (i, false)
noncomputable def s_slices_partialInsertionSortCmpFunc_api_Edge__1L (C : CallF) (a b' j : Int) (datas : List V) : (Int) → Option ((Int) ⊕ (Int × Bool)) := fun i => s_slices_partialInsertionSortCmpFunc_api_Edge__1 C a b' j datas i (fun y => some (.inl y)) (fun r => some (.inr r))
noncomputable def s_slices_partialInsertionSortCmpFunc_api_Edge__2 (C : CallF) (a b' i j j' : Int) (datas : List V) {β : Type} (kn : (Int × (List V)) → Option β) (kr : (Int × (List V)) → Option β) : Option β :=
  bif decide ((j' : Int) ≥ 1) then
   bif (decide (0 ≤ j')) && (decide (j' < (datas.length : Int))) then
    (datas[(j' : Int).toNat]?).bind fun x10 =>
    bif (decide (0 ≤ (IntKind.wrap .i64 (j' - 1)))) && (decide ((IntKind.wrap .i64 (j' - 1)) < (datas.length : Int))) then
     (datas[(IntKind.wrap .i64 (j' - 1) : Int).toNat]?).bind fun x11 =>
     (C F_nfa_compareEdges [.int .i64 ((x10.cell 0).toInt), .int .i64 ((x10.cell 1).toInt), .int .i64 ((x10.cell 2).toInt), .int .i64 ((x11.cell 0).toInt), .int .i64 ((x11.cell 1).toInt), .int .i64 ((x11.cell 2).toInt)]).bind fun r12 =>
     bif !(decide ((((V.nth r12 0).toInt) : Int) < 0)) then
      kr (j', datas)
     else
      bif (decide (0 ≤ (IntKind.wrap .i64 (j' - 1)))) && (decide ((IntKind.wrap .i64 (j' - 1)) < (datas.length : Int))) then
       (datas[(IntKind.wrap .i64 (j' - 1) : Int).toNat]?).bind fun x13 =>
       bif (decide (0 ≤ j')) && (decide (j' < (datas.length : Int))) then
        (datas[(j' : Int).toNat]?).bind fun x14 =>
        bif (decide (0 ≤ j')) && (decide (j' < (datas.length : Int))) then
         (datas[(j' : Int).toNat]?).bind fun x15 =>
         bif (decide (0 ≤ (IntKind.wrap .i64 (j' - 1)))) && (decide ((IntKind.wrap .i64 (j' - 1)) < ((datas.set ((j' : Int).toNat) (.agg [.int .i64 ((x13.cell 0).toInt), .int .i64 ((x13.cell 1).toInt), .int .i64 ((x13.cell 2).toInt)])).length : Int))) then
          ((datas.set ((j' : Int).toNat) (.agg [.int .i64 ((x13.cell 0).toInt), .int .i64 ((x13.cell 1).toInt), .int .i64 ((x13.cell 2).toInt)]))[(IntKind.wrap .i64 (j' - 1) : Int).toNat]?).bind fun x16 =>
          kn (IntKind.wrap .i64 (j' - 1), (datas.set ((j' : Int).toNat) (.agg [.int .i64 ((x13.cell 0).toInt), .int .i64 ((x13.cell 1).toInt), .int .i64 ((x13.cell 2).toInt)])).set ((IntKind.wrap .i64 (j' - 1) : Int).toNat) (.agg [.int .i64 ((x14.cell 0).toInt), .int .i64 ((x14.cell 1).toInt), .int .i64 ((x14.cell 2).toInt)]))
         else none
        else none
       else none
      else none
    else none
   else none
  else
   kr (j', datas)
noncomputable def s_slices_partialInsertionSortCmpFunc_api_Edge__2L (C : CallF) (a b' i j : Int) : (Int × (List V)) → Option ((Int × (List V)) ⊕ (Int × (List V))) := un fun j' datas => s_slices_partialInsertionSortCmpFunc_api_Edge__2 C a b' i j j' datas (fun y => some (.inl y)) (fun r => some (.inr r))
noncomputable def s_slices_partialInsertionSortCmpFunc_api_Edge__3 (C : CallF) (a b' i j : Int) (t65 : Bool) (datas : List V) {β : Type} (kr : (List V) → Option β) : Option β :=
  bif t65 then
   (Loop (s_slices_partialInsertionSortCmpFunc_api_Edge__2L C a b' i j) (IntKind.wrap .i64 (i - 1), datas)).bind (un fun (j_17 : Int) (datas_18 : List V) =>
     kr datas_18)
  else
   kr datas
noncomputable def s_slices_partialInsertionSortCmpFunc_api_Edge__4 (C : CallF) (a b' i j j' : Int) (datas : List V) {β : Type} (kn : (Int × (List V)) → Option β) (kr : (Int × (List V)) → Option β) : Option β :=
  bif decide ((j' : Int) < b') then
   bif (decide (0 ≤ j')) && (decide (j' < (datas.length : Int))) then
    (datas[(j' : Int).toNat]?).bind fun x20 =>
    bif (decide (0 ≤ (IntKind.wrap .i64 (j' - 1)))) && (decide ((IntKind.wrap .i64 (j' - 1)) < (datas.length : Int))) then
     (datas[(IntKind.wrap .i64 (j' - 1) : Int).toNat]?).bind fun x21 =>
     (C F_nfa_compareEdges [.int .i64 ((x20.cell 0).toInt), .int .i64 ((x20.cell 1).toInt), .int .i64 ((x20.cell 2).toInt), .int .i64 ((x21.cell 0).toInt), .int .i64 ((x21.cell 1).toInt), .int .i64 ((x21.cell 2).toInt)]).bind fun r22 =>
     bif !(decide ((((V.nth r22 0).toInt) : Int) < 0)) then
      kr (j', datas)
     else
      bif (decide (0 ≤ (IntKind.wrap .i64 (j' - 1)))) && (decide ((IntKind.wrap .i64 (j' - 1)) < (datas.length : Int))) then
       (datas[(IntKind.wrap .i64 (j' - 1) : Int).toNat]?).bind fun x23 =>
       bif (decide (0 ≤ j')) && (decide (j' < (datas.length : Int))) then
        (datas[(j' : Int).toNat]?).bind fun x24 =>
        bif (decide (0 ≤ j')) && (decide (j' < (datas.length : Int))) then
         (datas[(j' : Int).toNat]?).bind fun x25 =>
         bif (decide (0 ≤ (IntKind.wrap .i64 (j' - 1)))) && (decide ((IntKind.wrap .i64 (j' - 1)) < ((datas.set ((j' : Int).toNat) (.agg [.int .i64 ((x23.cell 0).toInt), .int .i64 ((x23.cell 1).toInt), .int .i64 ((x23.cell 2).toInt)])).length : Int))) then
          ((datas.set ((j' : Int).toNat) (.agg [.int .i64 ((x23.cell 0).toInt), .int .i64 ((x23.cell 1).toInt), .int .i64 ((x23.cell 2).toInt)]))[(IntKind.wrap .i64 (j' - 1) : Int).toNat]?).bind fun x26 =>
          kn (IntKind.wrap .i64 (j' + 1), (datas.set ((j' : Int).toNat) (.agg [.int .i64 ((x23.cell 0).toInt), .int .i64 ((x23.cell 1).toInt), .int .i64 ((x23.cell 2).toInt)])).set ((IntKind.wrap .i64 (j' - 1) : Int).toNat) (.agg [.int .i64 ((x24.cell 0).toInt), .int .i64 ((x24.cell 1).toInt), .int .i64 ((x24.cell 2).toInt)]))
         else none
        else none
       else none
      else none
    else none
   else none
  else
   kr (j', datas)
noncomputable def s_slices_partialInsertionSortCmpFunc_api_Edge__4L (C : CallF) (a b' i j : Int) : (Int × (List V)) → Option ((Int × (List V)) ⊕ (Int × (List V))) := un fun j' datas => s_slices_partialInsertionSortCmpFunc_api_Edge__4 C a b' i j j' datas (fun y => some (.inl y)) (fun r => some (.inr r))
noncomputable def s_slices_partialInsertionSortCmpFunc_api_Edge__5 (C : CallF) (a b' i j : Int) (datas : List V) {β : Type} (kn : (Int × Int × (List V)) → Option β) (kr : ((Bool × (List V)) ⊕ (Int × Int × Bool × (List V))) → Option β) : Option β :=
  bif decide ((j : Int) < 5) then
   (Loop (s_slices_partialInsertionSortCmpFunc_api_Edge__1L C a b' j datas) i).bind (un fun (i_4 : Int) (t_5 : Bool) =>
     bif (i_4 : Int) == b' then
      kr (.inl (true, datas))
     else
      bif decide (((IntKind.wrap .i64 (b' - a)) : Int) < 50) then
       kr (.inl (false, datas))
      else
       bif (decide (0 ≤ (IntKind.wrap .i64 (i_4 - 1)))) && (decide ((IntKind.wrap .i64 (i_4 - 1)) < (datas.length : Int))) then
        (datas[(IntKind.wrap .i64 (i_4 - 1) : Int).toNat]?).bind fun x6 =>
        bif (decide (0 ≤ i_4)) && (decide (i_4 < (datas.length : Int))) then
         (datas[(i_4 : Int).toNat]?).bind fun x7 =>
         bif (decide (0 ≤ i_4)) && (decide (i_4 < (datas.length : Int))) then
          (datas[(i_4 : Int).toNat]?).bind fun x8 =>
          bif (decide (0 ≤ (IntKind.wrap .i64 (i_4 - 1)))) && (decide ((IntKind.wrap .i64 (i_4 - 1)) < ((datas.set ((i_4 : Int).toNat) (.agg [.int .i64 ((x6.cell 0).toInt), .int .i64 ((x6.cell 1).toInt), .int .i64 ((x6.cell 2).toInt)])).length : Int))) then
           ((datas.set ((i_4 : Int).toNat) (.agg [.int .i64 ((x6.cell 0).toInt), .int .i64 ((x6.cell 1).toInt), .int .i64 ((x6.cell 2).toInt)]))[(IntKind.wrap .i64 (i_4 - 1) : Int).toNat]?).bind fun x9 =>
           s_slices_partialInsertionSortCmpFunc_api_Edge__3 C a b' i_4 j (decide (((IntKind.wrap .i64 (i_4 - a)) : Int) ≥ 2)) ((datas.set ((i_4 : Int).toNat) (.agg [.int .i64 ((x6.cell 0).toInt), .int .i64 ((x6.cell 1).toInt), .int .i64 ((x6.cell 2).toInt)])).set ((IntKind.wrap .i64 (i_4 - 1) : Int).toNat) (.agg [.int .i64 ((x7.cell 0).toInt), .int .i64 ((x7.cell 1).toInt), .int .i64 ((x7.cell 2).toInt)])) (fun (datas_19 : List V) =>
             bif decide (((IntKind.wrap .i64 (b' - i_4)) : Int) ≥ 2) then
              (Loop (s_slices_partialInsertionSortCmpFunc_api_Edge__4L C a b' i_4 j) (IntKind.wrap .i64 (i_4 + 1), datas_19)).bind (un fun (j_27 : Int) (datas_28 : List V) =>
                kn (i_4, IntKind.wrap .i64 (j + 1), datas_28))
             else
              kn (i_4, IntKind.wrap .i64 (j + 1), datas_19))
          else none
         else none
        else none
       else none)
  else
   kr (.inr (i, j, decide ((j : Int) < 5), datas))
noncomputable def s_slices_partialInsertionSortCmpFunc_api_Edge__5L (C : CallF) (a b' : Int) : (Int × Int × (List V)) → Option ((Int × Int × (List V)) ⊕ ((Bool × (List V)) ⊕ (Int × Int × Bool × (List V)))) := un fun i => un fun j datas => s_slices_partialInsertionSortCmpFunc_api_Edge__5 C a b' i j datas (fun y => some (.inl y)) (fun r => some (.inr r))
noncomputable def LT_slices_partialInsertionSortCmpFunc_api_Edge_ (C : CallF) : LTab := fun β n ds k =>
  bif Nat.beq n 81 then loopS S79_81 [false, false, true, false, false] [[1, 2, 0, 4, 0, 5]] (@s_slices_partialInsertionSortCmpFunc_api_Edge__1 C) ds k else
  bif Nat.beq n 225 then loopS S79_225 [false, false, false, false, true, true] [[1, 2, 3, 4, 0, 0]] (@s_slices_partialInsertionSortCmpFunc_api_Edge__2 C) ds k else
  bif Nat.beq n 1055 then condS S79_1055 [[1, 2, 3, 4, 0]] (@s_slices_partialInsertionSortCmpFunc_api_Edge__3 C) ds k else
  bif Nat.beq n 321 then loopS S79_321 [false, false, false, false, true, true] [[1, 2, 3, 4, 0, 0]] (@s_slices_partialInsertionSortCmpFunc_api_Edge__4 C) ds k else
  bif Nat.beq n 49 then loopS S79_49 [false, false, true, true, true] [[0, 0], [1, 2, 0, 0, 0, 0]] (@s_slices_partialInsertionSortCmpFunc_api_Edge__5 C) ds k else
  none
abbrev TS_slices_partialInsertionSortCmpFunc_api_Edge_ (C : CallF) (b : Bar) : Prop := Tells Tryd.prog ann C (LT_slices_partialInsertionSortCmpFunc_api_Edge_ C) 79 (ntmpsOf Tryd.prog (ann.fid 79)) (ann.sin 79).blks.length b
theorem t_slices_partialInsertionSortCmpFunc_api_Edge__1 (C : CallF) : TS_slices_partialInsertionSortCmpFunc_api_Edge_ C (.loop (codeAt [1, 1, 0, 1, 0, 0, 1, 0, 0, 0, 0, 0] B_slices_partialInsertionSortCmpFunc_api_Edge_)) :=
  tl3 S79_81 [false, false, true, false, false] [[1, 2, 0, 4, 0, 5]] (@s_slices_partialInsertionSortCmpFunc_api_Edge__1 C) (by kernel_rfl) (ltok_of (bs := []) (by kernel_rfl) tells_nil) (fun ds => by kernel_rfl) (fun i x => by kernel_rfl) (fun i x β k => by kernel_rfl) (fun β ds k => by kernel_rfl)
theorem t_slices_partialInsertionSortCmpFunc_api_Edge__2 (C : CallF) : TS_slices_partialInsertionSortCmpFunc_api_Edge_ C (.loop (codeAt [1, 1, 0, 1, 0, 0, 1, 0, 0, 1, 1, 1, 1, 0, 1, 0, 1, 0, 0] B_slices_partialInsertionSortCmpFunc_api_Edge_)) :=
  tl3 S79_225 [false, false, false, false, true, true] [[1, 2, 3, 4, 0, 0]] (@s_slices_partialInsertionSortCmpFunc_api_Edge__2 C) (by kernel_rfl) (ltok_of (bs := []) (by kernel_rfl) tells_nil) (fun ds => by kernel_rfl) (fun i x => by kernel_rfl) (fun i x β k => by kernel_rfl) (fun β ds k => by kernel_rfl)
theorem t_slices_partialInsertionSortCmpFunc_api_Edge__3 (C : CallF) : TS_slices_partialInsertionSortCmpFunc_api_Edge_ C (.cond 65 (codeAt [1, 1, 0, 1, 0, 0, 1, 0, 0, 1, 1, 1, 1, 0, 1, 0] B_slices_partialInsertionSortCmpFunc_api_Edge_) (codeAt [1, 1, 0, 1, 0, 0, 1, 0, 0, 1, 1, 1, 1, 0, 1, 1] B_slices_partialInsertionSortCmpFunc_api_Edge_)) :=
  tc3 S79_1055 [[1, 2, 3, 4, 0]] (@s_slices_partialInsertionSortCmpFunc_api_Edge__3 C) (by kernel_rfl) (ltok_of (bs := [.loop (codeAt [1, 1, 0, 1, 0, 0, 1, 0, 0, 1, 1, 1, 1, 0, 1, 0, 1, 0, 0] B_slices_partialInsertionSortCmpFunc_api_Edge_)]) (by kernel_rfl) (tells_cons (t_slices_partialInsertionSortCmpFunc_api_Edge__2 C) tells_nil)) (ltok_of (bs := []) (by kernel_rfl) tells_nil) (fun ds => by kernel_rfl) (fun i β k => by kernel_rfl) (fun β ds k => by kernel_rfl)
theorem t_slices_partialInsertionSortCmpFunc_api_Edge__4 (C : CallF) : TS_slices_partialInsertionSortCmpFunc_api_Edge_ C (.loop (codeAt [1, 1, 0, 1, 0, 0, 1, 0, 0, 1, 1, 1, 1, 1, 1, 0, 1, 0, 0] B_slices_partialInsertionSortCmpFunc_api_Edge_)) :=
  tl3 S79_321 [false, false, false, false, true, true] [[1, 2, 3, 4, 0, 0]] (@s_slices_partialInsertionSortCmpFunc_api_Edge__4 C) (by kernel_rfl) (ltok_of (bs := []) (by kernel_rfl) tells_nil) (fun ds => by kernel_rfl) (fun i x => by kernel_rfl) (fun i x β k => by kernel_rfl) (fun β ds k => by kernel_rfl)
theorem t_slices_partialInsertionSortCmpFunc_api_Edge__5 (C : CallF) : TS_slices_partialInsertionSortCmpFunc_api_Edge_ C (.loop (codeAt [1, 1, 0, 1, 0, 0] B_slices_partialInsertionSortCmpFunc_api_Edge_)) :=
  tl3 S79_49 [false, false, true, true, true] [[0, 0], [1, 2, 0, 0, 0, 0]] (@s_slices_partialInsertionSortCmpFunc_api_Edge__5 C) (by kernel_rfl) (ltok_of (bs := [.loop (codeAt [1, 1, 0, 1, 0, 0, 1, 0, 0, 0, 0, 0] B_slices_partialInsertionSortCmpFunc_api_Edge_), .cond 65 (codeAt [1, 1, 0, 1, 0, 0, 1, 0, 0, 1, 1, 1, 1, 0, 1, 0] B_slices_partialInsertionSortCmpFunc_api_Edge_) (codeAt [1, 1, 0, 1, 0, 0, 1, 0, 0, 1, 1, 1, 1, 0, 1, 1] B_slices_partialInsertionSortCmpFunc_api_Edge_), .loop (codeAt [1, 1, 0, 1, 0, 0, 1, 0, 0, 1, 1, 1, 1, 1, 1, 0, 1, 0, 0] B_slices_partialInsertionSortCmpFunc_api_Edge_)]) (by kernel_rfl) (tells_cons (t_slices_partialInsertionSortCmpFunc_api_Edge__1 C) (tells_cons (t_slices_partialInsertionSortCmpFunc_api_Edge__3 C) (tells_cons (t_slices_partialInsertionSortCmpFunc_api_Edge__4 C) tells_nil)))) (fun ds => by kernel_rfl) (fun i x => by kernel_rfl) (fun i x β k => by kernel_rfl) (fun β ds k => by kernel_rfl)
noncomputable def f_slices_partialInsertionSortCmpFunc_api_Edge_ (C : CallF) (a b' : Int) (datas : List V) : Option (List V) :=
  (Loop (s_slices_partialInsertionSortCmpFunc_api_Edge__5L C a b') (IntKind.wrap .i64 (a + 1), 0, datas)).bind (way2 (un fun (t_29 : Bool) (b_30 : List V) =>
    some [.bool t_29, .list T_api_Edge b_30]) (un fun (i_31 : Int) => un fun (j_32 : Int) => un fun (t_33 : Bool) (datas_34 : List V) =>
    some [.bool false, .list T_api_Edge datas_34]))
theorem f_slices_partialInsertionSortCmpFunc_api_Edge__of {a b' : Int} {datas : List V} {r : Option (List V)} (h : f_slices_partialInsertionSortCmpFunc_api_Edge_ CC a b' datas = r) : CC F_slices_partialInsertionSortCmpFunc_api_Edge_ [.int .i64 a, .int .i64 b', .list T_api_Edge datas] = r :=
  func_of (key := 79) (L := LT_slices_partialInsertionSortCmpFunc_api_Edge_ CC) (bs := [.loop (codeAt [1, 1, 0, 1, 0, 0] B_slices_partialInsertionSortCmpFunc_api_Edge_)]) (by kernel_rfl) (tells_cons (t_slices_partialInsertionSortCmpFunc_api_Edge__5 CC) tells_nil) (Eq.trans (by kernel_rfl) h)
end Go.AM
set_option maxRecDepth 100000
set_option linter.unusedSimpArgs false
set_option maxHeartbeats 4000000
namespace Go.AM
open Go.Proofs Go.Sort
theorem scanUp_eq (p : Ed → Bool) (d : Array Ed) (j i : Nat) : scanUp p d j i = if i ≤ j then (if p d[i]! = true then scanUp p d j (i + 1) else i) else i := by
  conv => lhs; rw [scanUp]
  by_cases h : i ≤ j
  · rw [if_pos h]; simp only [h, decide_true, Bool.true_and]
  · rw [if_neg h, if_neg (by simp [h])]
theorem scanDown_eq (p : Ed → Bool) (d : Array Ed) (i j : Nat) : scanDown p d i (j + 1) = if i ≤ j + 1 then (if p d[j + 1]! = true then scanDown p d i j else j + 1) else j + 1 := by
  conv => lhs; rw [scanDown]
  by_cases h : i ≤ j + 1
  · rw [if_pos h]; simp only [h, decide_true, Bool.true_and]
  · rw [if_neg h, if_neg (by simp [h])]
theorem scanSorted_eq (d : Array Ed) (b i : Nat) : scanSorted ltE d b i = if i < b then (if cmpE d[i]! d[i - 1]! < 0 then i else scanSorted ltE d b (i + 1)) else i := by
  conv => lhs; rw [scanSorted]
  by_cases h : i < b
  · rw [if_pos h]; simp only [h, decide_true, Bool.true_and, ltE_n]
    by_cases h2 : cmpE d[i]! d[i - 1]! < 0
    · rw [if_neg (not_not_intro h2), if_pos h2]
    · rw [if_pos h2, if_neg h2]
  · rw [if_neg h, if_neg (by simp [h])]
theorem shiftDown_eq' (j : Nat) (d : Array Ed) : shiftDown ltE (j + 1) d = if cmpE d[j + 1]! d[j]! < 0 then shiftDown ltE j (swp d (j + 1) j) else d := by
  conv => lhs; rw [shiftDown]
  simp only [ltE_n]
  by_cases h2 : cmpE d[j + 1]! d[j]! < 0
  · rw [if_neg (not_not_intro h2), if_pos h2]
  · rw [if_pos h2, if_neg h2]
theorem shiftUp_eq' (b j : Nat) (d : Array Ed) : shiftUp ltE b j d = if j < b then (if cmpE d[j]! d[j - 1]! < 0 then shiftUp ltE b (j + 1) (swp d j (j - 1)) else d) else d := by
  conv => lhs; rw [shiftUp]
  simp only [ltE_n]
  by_cases h : j < b
  · rw [if_pos h, if_pos h]
    by_cases h2 : cmpE d[j]! d[j - 1]! < 0
    · rw [if_neg (not_not_intro h2), if_pos h2]
    · rw [if_pos h2, if_neg h2]
  · rw [if_neg h, if_neg h]
theorem part_size {a : Nat} : ∀ (n i j : Nat) (d : Array Ed), j + 1 - i ≤ n → (partLoop ltE a i j d).2.size = d.size ∧ (partLoop ltE a i j d).1 ≤ j := by
  intro n
  induction n with
  | zero =>
    intro i j d hn
    have h1 := scanUp_ge (fun x => ltE x d[a]!) d j i
    have h2 := scanDown_le (fun x => !ltE x d[a]!) d (scanUp (fun x => ltE x d[a]!) d j i) j
    rw [partLoop_eq, if_pos (by omega)]
    exact ⟨rfl, h2⟩
  | succ n ih =>
    intro i j d hn
    rw [partLoop_eq]
    have h1 := scanUp_ge (fun x => ltE x d[a]!) d j i
    have h2 := scanDown_le (fun x => !ltE x d[a]!) d (scanUp (fun x => ltE x d[a]!) d j i) j
    split
    · exact ⟨rfl, h2⟩
    · obtain ⟨h3, h4⟩ := ih (scanUp (fun x => ltE x d[a]!) d j i + 1) (scanDown (fun x => !ltE x d[a]!) d (scanUp (fun x => ltE x d[a]!) d j i) j - 1) (swp d (scanUp (fun x => ltE x d[a]!) d j i) (scanDown (fun x => !ltE x d[a]!) d (scanUp (fun x => ltE x d[a]!) d j i) j)) (by omega)
      exact ⟨by rw [h3, size_swp], by omega⟩
theorem chk_eA {β : Type} {d : Array Ed} {i : Nat} {x y : Option β} (h : i < d.size) : (bif (decide (0 ≤ (i : Int))) && (decide ((i : Int) < ((eA d).length : Int))) then x else y) = x := by
  rw [encA_length, bif_and, bif_decide, if_pos (by omega), bif_decide, if_pos (by omega)]
theorem chk_set {β : Type} {d : Array Ed} {i k : Nat} {v : V} {x y : Option β} (h : i < d.size) : (bif (decide (0 ≤ (i : Int))) && (decide ((i : Int) < (((eA d).set k v).length : Int))) then x else y) = x := by
  rw [List.length_set, encA_length, bif_and, bif_decide, if_pos (by omega), bif_decide, if_pos (by omega)]
theorem getB {β : Type} {d : Array Ed} {i : Nat} {f : V → Option β} (h : i < d.size) : ((eA d)[(i : Int).toNat]?).bind f = f (d[i]!).enc := by
  rw [Int.toNat_natCast, encA_get h]; rfl
theorem setB {β : Type} {d : Array Ed} {i k : Nat} {v : V} {x : Option β} (h : i < d.size) : (((eA d).set k v)[(i : Int).toNat]?).bind (fun _ => x) = x := by
  rw [Int.toNat_natCast, List.getElem?_eq_getElem (by rw [List.length_set, encA_length]; exact h)]; rfl
theorem getB' {β : Type} {d : Array Ed} {i : Nat} {f : V → Option β} (h : i < d.size) : ((eA d)[i]?).bind f = f (d[i]!).enc := by
  rw [encA_get h]; rfl
theorem setB' {β : Type} {d : Array Ed} {i k : Nat} {v : V} {x : Option β} (h : i < d.size) : (((eA d).set k v)[i]?).bind (fun _ => x) = x := by
  rw [List.getElem?_eq_getElem (by rw [List.length_set, encA_length]; exact h)]; rfl
theorem part_1 {a j : Nat} {d : Array Ed} (ha : a < d.size) (hj : j < d.size) (hs : d.size < 1152921504606846976) : ∀ (n i : Nat), j + 1 - i = n → i ≤ d.size →
    ∃ t, Loop (s_slices_partitionCmpFunc_api_Edge__1L CC a j (eA d)) (i : Int) = some (((scanUp (fun x => ltE x d[a]!) d j i : Nat) : Int), t) := by
  intro n
  induction n with
  | zero =>
    intro i hn hi
    rw [scanUp_eq, if_neg (by omega)]
    exact ⟨false, Loop_end (by simp (disch := omega) only [s_slices_partitionCmpFunc_api_Edge__1L, s_slices_partitionCmpFunc_api_Edge__1, bif_decide, if_neg])⟩
  | succ n ih =>
    intro i hn hi
    obtain ⟨t, h⟩ := ih (i + 1) (by omega) (by omega)
    rw [scanUp_eq, if_pos (by omega)]
    have e : s_slices_partitionCmpFunc_api_Edge__1L CC a j (eA d) (i : Int) = if cmpE d[i]! d[a]! < 0 then some (.inl ((i + 1 : Nat) : Int)) else some (.inr ((i : Int), decide (cmpE d[i]! d[a]! < 0))) := by
      simp (disch := omega) only [s_slices_partitionCmpFunc_api_Edge__1L, s_slices_partitionCmpFunc_api_Edge__1, bif_decide, bif_and, bif_not, if_pos, if_neg, wrap64, succC, addC, Int.toNat_natCast, Option.bind_some, encA_length, encA_get, Ed.enc_0, Ed.enc_1, Ed.enc_2, Ed.re, encA_set, encA_get2, Array.size_setIfInBounds, compareEdges_spec, V.nth_zero, V.toInt_int, cond_true, cond_false]
    simp only [ltE_i]
    by_cases h2 : cmpE d[i]! d[a]! < 0
    · rw [if_pos h2] at e
      rw [if_pos h2]
      exact ⟨t, (Loop_norm e).trans h⟩
    · rw [if_neg h2] at e
      rw [if_neg h2]
      exact ⟨_, Loop_end e⟩
theorem part_3 {a j : Nat} {d : Array Ed} (ha : a < d.size) (hj : j < d.size) (hs : d.size < 1152921504606846976) : ∀ (n i : Nat), j + 1 - i = n → i ≤ d.size →
    ∃ t, Loop (s_slices_partitionCmpFunc_api_Edge__3L CC a j (eA d)) (i : Int) = some (((scanUp (fun x => ltE x d[a]!) d j i : Nat) : Int), t) := by
  intro n
  induction n with
  | zero =>
    intro i hn hi
    rw [scanUp_eq, if_neg (by omega)]
    exact ⟨false, Loop_end (by simp (disch := omega) only [s_slices_partitionCmpFunc_api_Edge__3L, s_slices_partitionCmpFunc_api_Edge__3, bif_decide, if_neg])⟩
  | succ n ih =>
    intro i hn hi
    obtain ⟨t, h⟩ := ih (i + 1) (by omega) (by omega)
    rw [scanUp_eq, if_pos (by omega)]
    have e : s_slices_partitionCmpFunc_api_Edge__3L CC a j (eA d) (i : Int) = if cmpE d[i]! d[a]! < 0 then some (.inl ((i + 1 : Nat) : Int)) else some (.inr ((i : Int), decide (cmpE d[i]! d[a]! < 0))) := by
      simp (disch := omega) only [s_slices_partitionCmpFunc_api_Edge__3L, s_slices_partitionCmpFunc_api_Edge__3, bif_decide, bif_and, bif_not, if_pos, if_neg, wrap64, succC, addC, Int.toNat_natCast, Option.bind_some, encA_length, encA_get, Ed.enc_0, Ed.enc_1, Ed.enc_2, Ed.re, encA_set, encA_get2, Array.size_setIfInBounds, compareEdges_spec, V.nth_zero, V.toInt_int, cond_true, cond_false]
    simp only [ltE_i]
    by_cases h2 : cmpE d[i]! d[a]! < 0
    · rw [if_pos h2] at e
      rw [if_pos h2]
      exact ⟨t, (Loop_norm e).trans h⟩
    · rw [if_neg h2] at e
      rw [if_neg h2]
      exact ⟨_, Loop_end e⟩
theorem part_2 {a i : Nat} {d : Array Ed} (ha : a < d.size) (hi : 1 ≤ i) (hs : d.size < 1152921504606846976) : ∀ (j : Nat), j < d.size →
    ∃ t, Loop (s_slices_partitionCmpFunc_api_Edge__2L CC a i (eA d)) (j : Int) = some (((scanDown (fun x => !ltE x d[a]!) d i j : Nat) : Int), t)
  | 0, hj => ⟨false, Loop_end (by simp (disch := omega) only [s_slices_partitionCmpFunc_api_Edge__2L, s_slices_partitionCmpFunc_api_Edge__2, bif_decide, if_neg]; rfl)⟩
  | j + 1, hj => by
    obtain ⟨t, h⟩ := part_2 ha hi hs j (by omega)
    rw [scanDown_eq]
    by_cases h1 : i ≤ j + 1
    · rw [if_pos h1]
      have e : s_slices_partitionCmpFunc_api_Edge__2L CC a i (eA d) ((j + 1 : Nat) : Int) = if cmpE d[j + 1]! d[a]! < 0 then some (.inr (((j + 1 : Nat) : Int), !decide (cmpE d[j + 1]! d[a]! < 0))) else some (.inl (j : Int)) := by
        simp (disch := omega) only [s_slices_partitionCmpFunc_api_Edge__2L, s_slices_partitionCmpFunc_api_Edge__2, bif_decide, bif_and, bif_not, if_pos, if_neg, wrap64, succC, addC, Int.toNat_natCast, Option.bind_some, encA_length, encA_get, Ed.enc_0, Ed.enc_1, Ed.enc_2, Ed.re, encA_set, encA_get2, Array.size_setIfInBounds, compareEdges_spec, V.nth_zero, V.toInt_int, cond_true, cond_false, predC]
      simp only [ltE_n]
      by_cases h2 : cmpE d[j + 1]! d[a]! < 0
      · rw [if_pos h2] at e
        rw [if_neg (not_not_intro h2)]
        exact ⟨_, Loop_end e⟩
      · rw [if_neg h2] at e
        rw [if_pos h2]
        exact ⟨t, (Loop_norm e).trans h⟩
    · rw [if_neg h1]
      exact ⟨false, Loop_end (by simp (disch := omega) only [s_slices_partitionCmpFunc_api_Edge__2L, s_slices_partitionCmpFunc_api_Edge__2, bif_decide, if_neg])⟩
theorem part_4 {a i : Nat} {d : Array Ed} (ha : a < d.size) (hi : 1 ≤ i) (hs : d.size < 1152921504606846976) : ∀ (j : Nat), j < d.size →
    ∃ t, Loop (s_slices_partitionCmpFunc_api_Edge__4L CC a i (eA d)) (j : Int) = some (((scanDown (fun x => !ltE x d[a]!) d i j : Nat) : Int), t)
  | 0, hj => ⟨false, Loop_end (by simp (disch := omega) only [s_slices_partitionCmpFunc_api_Edge__4L, s_slices_partitionCmpFunc_api_Edge__4, bif_decide, if_neg]; rfl)⟩
  | j + 1, hj => by
    obtain ⟨t, h⟩ := part_4 ha hi hs j (by omega)
    rw [scanDown_eq]
    by_cases h1 : i ≤ j + 1
    · rw [if_pos h1]
      have e : s_slices_partitionCmpFunc_api_Edge__4L CC a i (eA d) ((j + 1 : Nat) : Int) = if cmpE d[j + 1]! d[a]! < 0 then some (.inr (((j + 1 : Nat) : Int), !decide (cmpE d[j + 1]! d[a]! < 0))) else some (.inl (j : Int)) := by
        simp (disch := omega) only [s_slices_partitionCmpFunc_api_Edge__4L, s_slices_partitionCmpFunc_api_Edge__4, bif_decide, bif_and, bif_not, if_pos, if_neg, wrap64, succC, addC, Int.toNat_natCast, Option.bind_some, encA_length, encA_get, Ed.enc_0, Ed.enc_1, Ed.enc_2, Ed.re, encA_set, encA_get2, Array.size_setIfInBounds, compareEdges_spec, V.nth_zero, V.toInt_int, cond_true, cond_false, predC]
      simp only [ltE_n]
      by_cases h2 : cmpE d[j + 1]! d[a]! < 0
      · rw [if_pos h2] at e
        rw [if_neg (not_not_intro h2)]
        exact ⟨_, Loop_end e⟩
      · rw [if_neg h2] at e
        rw [if_pos h2]
        exact ⟨t, (Loop_norm e).trans h⟩
    · rw [if_neg h1]
      exact ⟨false, Loop_end (by simp (disch := omega) only [s_slices_partitionCmpFunc_api_Edge__4L, s_slices_partitionCmpFunc_api_Edge__4, bif_decide, if_neg])⟩
theorem pequ_1 {a j : Nat} {d : Array Ed} (ha : a < d.size) (hj : j < d.size) (hs : d.size < 1152921504606846976) : ∀ (n i : Nat), j + 1 - i = n → i ≤ d.size →
    ∃ t, Loop (s_slices_partitionEqualCmpFunc_api_Edge__1L CC a j (eA d)) (i : Int) = some (((scanUp (fun x => !ltE d[a]! x) d j i : Nat) : Int), t) := by
  intro n
  induction n with
  | zero =>
    intro i hn hi
    rw [scanUp_eq, if_neg (by omega)]
    exact ⟨false, Loop_end (by simp (disch := omega) only [s_slices_partitionEqualCmpFunc_api_Edge__1L, s_slices_partitionEqualCmpFunc_api_Edge__1, bif_decide, if_neg])⟩
  | succ n ih =>
    intro i hn hi
    obtain ⟨t, h⟩ := ih (i + 1) (by omega) (by omega)
    rw [scanUp_eq, if_pos (by omega)]
    have e : s_slices_partitionEqualCmpFunc_api_Edge__1L CC a j (eA d) (i : Int) = if cmpE d[a]! d[i]! < 0 then some (.inr ((i : Int), !decide (cmpE d[a]! d[i]! < 0))) else some (.inl ((i + 1 : Nat) : Int)) := by
      simp (disch := omega) only [s_slices_partitionEqualCmpFunc_api_Edge__1L, s_slices_partitionEqualCmpFunc_api_Edge__1, bif_decide, bif_and, bif_not, if_pos, if_neg, wrap64, succC, addC, Int.toNat_natCast, Option.bind_some, encA_length, encA_get, Ed.enc_0, Ed.enc_1, Ed.enc_2, Ed.re, encA_set, encA_get2, Array.size_setIfInBounds, compareEdges_spec, V.nth_zero, V.toInt_int, cond_true, cond_false]
    simp only [ltE_n]
    by_cases h2 : cmpE d[a]! d[i]! < 0
    · rw [if_pos h2] at e
      rw [if_neg (not_not_intro h2)]
      exact ⟨_, Loop_end e⟩
    · rw [if_neg h2] at e
      rw [if_pos h2]
      exact ⟨t, (Loop_norm e).trans h⟩
theorem pequ_2 {a i : Nat} {d : Array Ed} (ha : a < d.size) (hi : 1 ≤ i) (hs : d.size < 1152921504606846976) : ∀ (j : Nat), j < d.size →
    ∃ t, Loop (s_slices_partitionEqualCmpFunc_api_Edge__2L CC a i (eA d)) (j : Int) = some (((scanDown (fun x => ltE d[a]! x) d i j : Nat) : Int), t)
  | 0, hj => ⟨false, Loop_end (by simp (disch := omega) only [s_slices_partitionEqualCmpFunc_api_Edge__2L, s_slices_partitionEqualCmpFunc_api_Edge__2, bif_decide, if_neg]; rfl)⟩
  | j + 1, hj => by
    obtain ⟨t, h⟩ := pequ_2 ha hi hs j (by omega)
    rw [scanDown_eq]
    by_cases h1 : i ≤ j + 1
    · rw [if_pos h1]
      have e : s_slices_partitionEqualCmpFunc_api_Edge__2L CC a i (eA d) ((j + 1 : Nat) : Int) = if cmpE d[a]! d[j + 1]! < 0 then some (.inl (j : Int)) else some (.inr (((j + 1 : Nat) : Int), decide (cmpE d[a]! d[j + 1]! < 0))) := by
        simp (disch := omega) only [s_slices_partitionEqualCmpFunc_api_Edge__2L, s_slices_partitionEqualCmpFunc_api_Edge__2, bif_decide, bif_and, bif_not, if_pos, if_neg, wrap64, succC, addC, Int.toNat_natCast, Option.bind_some, encA_length, encA_get, Ed.enc_0, Ed.enc_1, Ed.enc_2, Ed.re, encA_set, encA_get2, Array.size_setIfInBounds, compareEdges_spec, V.nth_zero, V.toInt_int, cond_true, cond_false, predC]
      simp only [ltE_i]
      by_cases h2 : cmpE d[a]! d[j + 1]! < 0
      · rw [if_pos h2] at e
        rw [if_pos h2]
        exact ⟨t, (Loop_norm e).trans h⟩
      · rw [if_neg h2] at e
        rw [if_neg h2]
        exact ⟨_, Loop_end e⟩
    · rw [if_neg h1]
      exact ⟨false, Loop_end (by simp (disch := omega) only [s_slices_partitionEqualCmpFunc_api_Edge__2L, s_slices_partitionEqualCmpFunc_api_Edge__2, bif_decide, if_neg])⟩
theorem part_5 {a : Nat} : ∀ (n i j : Nat) (d : Array Ed), j + 1 - i ≤ n → 1 ≤ i → i ≤ d.size → a < d.size → j < d.size → d.size < 1152921504606846976 →
    ∃ x z, Loop (s_slices_partitionCmpFunc_api_Edge__5L CC a) ((i : Int), (j : Int), eA d) = some (x, (((partLoop ltE a i j d).1 : Nat) : Int), z, eA (partLoop ltE a i j d).2) := by
  intro n
  induction n with
  | zero =>
    intro i j d hn h1 h2 ha hj hs
    obtain ⟨t3, e3⟩ := part_3 (a := a) ha hj hs _ i rfl h2
    have g1 := scanUp_ge (fun x => ltE x d[a]!) d j i
    have g2 := scanDown_le (fun x => !ltE x d[a]!) d (scanUp (fun x => ltE x d[a]!) d j i) j
    obtain ⟨t4, e4⟩ := part_4 (a := a) (i := scanUp (fun x => ltE x d[a]!) d j i) ha (by omega) hs j hj
    rw [partLoop_eq, if_pos (by omega)]
    refine ⟨((scanUp (fun x => ltE x d[a]!) d j i : Nat) : Int), true, Loop_end ?_⟩
    simp only [s_slices_partitionCmpFunc_api_Edge__5L, s_slices_partitionCmpFunc_api_Edge__5, un]
    rw [e3]
    simp only [Option.bind_some, un]
    rw [e4]
    simp (disch := omega) only [Option.bind_some, un, dec_true, cond_true]
  | succ n ih =>
    intro i j d hn h1 h2 ha hj hs
    obtain ⟨t3, e3⟩ := part_3 (a := a) ha hj hs _ i rfl h2
    have g1 := scanUp_ge (fun x => ltE x d[a]!) d j i
    have g2 := scanDown_le (fun x => !ltE x d[a]!) d (scanUp (fun x => ltE x d[a]!) d j i) j
    obtain ⟨t4, e4⟩ := part_4 (a := a) (i := scanUp (fun x => ltE x d[a]!) d j i) ha (by omega) hs j hj
    rw [partLoop_eq]
    have f : s_slices_partitionCmpFunc_api_Edge__5L CC a ((i : Int), (j : Int), eA d) = s_slices_partitionCmpFunc_api_Edge__5L CC a ((i : Int), (j : Int), eA d) := rfl
    conv at f => rhs; simp only [s_slices_partitionCmpFunc_api_Edge__5L, s_slices_partitionCmpFunc_api_Edge__5, un]; rw [e3]; simp only [Option.bind_some, un]; rw [e4]; simp only [Option.bind_some, un]
    generalize hi2 : scanUp (fun x => ltE x d[a]!) d j i = i2 at *
    generalize hj2 : scanDown (fun x => !ltE x d[a]!) d i2 j = j2 at *
    by_cases h : i2 > j2
    · rw [if_pos h]
      refine ⟨(i2 : Int), true, Loop_end (f.trans ?_)⟩
      simp (disch := omega) only [Option.bind_some, dec_true, cond_true]
    · rw [if_neg h]
      obtain ⟨x, z, e⟩ := ih (i2 + 1) (j2 - 1) (swp d i2 j2) (by omega) (by omega) (by rw [size_swp]; omega) (by rw [size_swp]; omega) (by rw [size_swp]; omega) (by rw [size_swp]; omega)
      refine ⟨x, z, (Loop_norm (f.trans ?_)).trans e⟩
      simp (disch := omega) only [bif_decide, bif_and, bif_not, if_pos, if_neg, wrap64, succC, addC, Int.toNat_natCast, Option.bind_some, encA_length, encA_get, Ed.enc_0, Ed.enc_1, Ed.enc_2, Ed.re, encA_set, encA_get2, Array.size_setIfInBounds, compareEdges_spec, V.nth_zero, V.toInt_int, cond_true, cond_false, sub1C]
      rfl
theorem part_eq' (d : Array Ed) (a b pivot : Nat) : partition ltE d a b pivot =
    if scanUp (fun x => ltE x (swp d a pivot)[a]!) (swp d a pivot) (b - 1) (a + 1) > scanDown (fun x => !ltE x (swp d a pivot)[a]!) (swp d a pivot) (scanUp (fun x => ltE x (swp d a pivot)[a]!) (swp d a pivot) (b - 1) (a + 1)) (b - 1) then
      (scanDown (fun x => !ltE x (swp d a pivot)[a]!) (swp d a pivot) (scanUp (fun x => ltE x (swp d a pivot)[a]!) (swp d a pivot) (b - 1) (a + 1)) (b - 1), true, swp (swp d a pivot) (scanDown (fun x => !ltE x (swp d a pivot)[a]!) (swp d a pivot) (scanUp (fun x => ltE x (swp d a pivot)[a]!) (swp d a pivot) (b - 1) (a + 1)) (b - 1)) a)
    else
      ((partLoop ltE a (scanUp (fun x => ltE x (swp d a pivot)[a]!) (swp d a pivot) (b - 1) (a + 1) + 1) (scanDown (fun x => !ltE x (swp d a pivot)[a]!) (swp d a pivot) (scanUp (fun x => ltE x (swp d a pivot)[a]!) (swp d a pivot) (b - 1) (a + 1)) (b - 1) - 1) (swp (swp d a pivot) (scanUp (fun x => ltE x (swp d a pivot)[a]!) (swp d a pivot) (b - 1) (a + 1)) (scanDown (fun x => !ltE x (swp d a pivot)[a]!) (swp d a pivot) (scanUp (fun x => ltE x (swp d a pivot)[a]!) (swp d a pivot) (b - 1) (a + 1)) (b - 1)))).1, false,
       swp (partLoop ltE a (scanUp (fun x => ltE x (swp d a pivot)[a]!) (swp d a pivot) (b - 1) (a + 1) + 1) (scanDown (fun x => !ltE x (swp d a pivot)[a]!) (swp d a pivot) (scanUp (fun x => ltE x (swp d a pivot)[a]!) (swp d a pivot) (b - 1) (a + 1)) (b - 1) - 1) (swp (swp d a pivot) (scanUp (fun x => ltE x (swp d a pivot)[a]!) (swp d a pivot) (b - 1) (a + 1)) (scanDown (fun x => !ltE x (swp d a pivot)[a]!) (swp d a pivot) (scanUp (fun x => ltE x (swp d a pivot)[a]!) (swp d a pivot) (b - 1) (a + 1)) (b - 1)))).2
        (partLoop ltE a (scanUp (fun x => ltE x (swp d a pivot)[a]!) (swp d a pivot) (b - 1) (a + 1) + 1) (scanDown (fun x => !ltE x (swp d a pivot)[a]!) (swp d a pivot) (scanUp (fun x => ltE x (swp d a pivot)[a]!) (swp d a pivot) (b - 1) (a + 1)) (b - 1) - 1) (swp (swp d a pivot) (scanUp (fun x => ltE x (swp d a pivot)[a]!) (swp d a pivot) (b - 1) (a + 1)) (scanDown (fun x => !ltE x (swp d a pivot)[a]!) (swp d a pivot) (scanUp (fun x => ltE x (swp d a pivot)[a]!) (swp d a pivot) (b - 1) (a + 1)) (b - 1)))).1 a) := rfl
theorem swp_eA (d : Array Ed) (i j : Nat) : eA ((d.setIfInBounds i d[j]!).setIfInBounds j d[i]!) = eA (swp d i j) := rfl
theorem part_spec {a b pivot : Nat} {d : Array Ed} (hp : pivot < b) (hab : a < b) (hb : b ≤ d.size) (hs : d.size < 1152921504606846976) :
    CC F_slices_partitionCmpFunc_api_Edge_ [.int .i64 (a : Int), .int .i64 (b : Int), .int .i64 (pivot : Int), .list T_api_Edge (eA d)] =
      some [.int .i64 ((partition ltE d a b pivot).1 : Int), .bool (partition ltE d a b pivot).2.1, .list T_api_Edge (eA (partition ltE d a b pivot).2.2)] := by
  refine f_slices_partitionCmpFunc_api_Edge__of ?_
  unfold f_slices_partitionCmpFunc_api_Edge_
  have z1 : (swp d a pivot).size = d.size := size_swp ..
  obtain ⟨t1, e1⟩ := part_1 (a := a) (j := b - 1) (d := swp d a pivot) (by omega) (by omega) (by omega) _ (a + 1) rfl (by omega)
  have g1 := scanUp_ge (fun x => ltE x (swp d a pivot)[a]!) (swp d a pivot) (b - 1) (a + 1)
  have g2 := scanDown_le (fun x => !ltE x (swp d a pivot)[a]!) (swp d a pivot) (scanUp (fun x => ltE x (swp d a pivot)[a]!) (swp d a pivot) (b - 1) (a + 1)) (b - 1)
  obtain ⟨t2, e2⟩ := part_2 (a := a) (i := scanUp (fun x => ltE x (swp d a pivot)[a]!) (swp d a pivot) (b - 1) (a + 1)) (d := swp d a pivot) (by omega) (by omega) (by omega) (b - 1) (by omega)
  have e0 := part_eq' d a b pivot
  rw [chk_eA (i := pivot) (by omega), getB (by omega), chk_eA (i := a) (by omega), getB (by omega), chk_eA (i := a) (by omega), getB (by omega), chk_set (i := pivot) (by omega), setB (by omega)]
  simp only [Ed.enc_0, Ed.enc_1, Ed.enc_2, Ed.re, Int.toNat_natCast, encA_set, swp_eA]
  simp (disch := omega) only [sub1C, succC, wrap64]
  rw [e1]
  simp only [Option.bind_some, un]
  rw [e2]
  simp only [Option.bind_some, un]
  generalize hi2 : scanUp (fun x => ltE x (swp d a pivot)[a]!) (swp d a pivot) (b - 1) (a + 1) = i2 at *
  generalize hj2 : scanDown (fun x => !ltE x (swp d a pivot)[a]!) (swp d a pivot) i2 (b - 1) = j2 at *
  generalize swp d a pivot = d1 at *
  by_cases h : i2 > j2
  · rw [if_pos h] at e0
    rw [e0, bif_decide, if_pos (by omega)]
    rw [chk_eA (i := a) (by omega)]; (first | rw [getB (by omega)] | rw [getB' (by omega)]); rw [chk_eA (i := j2) (by omega)]; (first | rw [getB (by omega)] | rw [getB' (by omega)]); rw [chk_eA (i := j2) (by omega)]; (first | rw [getB (by omega)] | rw [getB' (by omega)]); rw [chk_set (i := a) (by omega)]; (first | rw [setB (by omega)] | rw [setB' (by omega)])
    simp only [Ed.enc_0, Ed.enc_1, Ed.enc_2, Ed.re, Int.toNat_natCast, encA_set, swp_eA]
  · rw [if_neg h] at e0
    rw [e0, bif_decide, if_neg (by omega)]
    have z2 : (swp d1 i2 j2).size = d1.size := size_swp ..
    obtain ⟨x, z, e5⟩ := part_5 (a := a) _ (i2 + 1) (j2 - 1) (swp d1 i2 j2) (Nat.le_refl _) (by omega) (by omega) (by omega) (by omega) (by omega)
    obtain ⟨q1, q2⟩ := part_size (a := a) _ (i2 + 1) (j2 - 1) (swp d1 i2 j2) (Nat.le_refl _)
    rw [chk_eA (i := j2) (by omega)]; (first | rw [getB (by omega)] | rw [getB' (by omega)]); rw [chk_eA (i := i2) (by omega)]; (first | rw [getB (by omega)] | rw [getB' (by omega)]); rw [chk_eA (i := i2) (by omega)]; (first | rw [getB (by omega)] | rw [getB' (by omega)]); rw [chk_set (i := j2) (by omega)]; (first | rw [setB (by omega)] | rw [setB' (by omega)])
    simp only [Ed.enc_0, Ed.enc_1, Ed.enc_2, Ed.re, Int.toNat_natCast, encA_set, swp_eA]
    simp (disch := omega) only [sub1C, succC, wrap64]
    rw [e5]
    generalize partLoop ltE a (i2 + 1) (j2 - 1) (swp d1 i2 j2) = r at *
    simp only [Option.bind_some, un]
    rw [chk_eA (i := a) (by omega)]; (first | rw [getB (by omega)] | rw [getB' (by omega)]); rw [chk_eA (i := r.1) (by omega)]; (first | rw [getB (by omega)] | rw [getB' (by omega)]); rw [chk_eA (i := r.1) (by omega)]; (first | rw [getB (by omega)] | rw [getB' (by omega)]); rw [chk_set (i := a) (by omega)]; (first | rw [setB (by omega)] | rw [setB' (by omega)])
    simp only [Ed.enc_0, Ed.enc_1, Ed.enc_2, Ed.re, Int.toNat_natCast, encA_set, swp_eA]
theorem pequ_3 {a : Nat} : ∀ (n i j : Nat) (d : Array Ed), j + 1 - i ≤ n → 1 ≤ i → i ≤ d.size → a < d.size → j < d.size → d.size < 1152921504606846976 →
    ∃ x z, Loop (s_slices_partitionEqualCmpFunc_api_Edge__3L CC a) ((i : Int), (j : Int), eA d) = some ((((partEqLoop ltE a i j d).1 : Nat) : Int), x, z, eA (partEqLoop ltE a i j d).2) := by
  intro n
  induction n with
  | zero =>
    intro i j d hn h1 h2 ha hj hs
    obtain ⟨t3, e3⟩ := pequ_1 (a := a) ha hj hs _ i rfl h2
    have g1 := scanUp_ge (fun x => !ltE d[a]! x) d j i
    have g2 := scanDown_le (fun x => ltE d[a]! x) d (scanUp (fun x => !ltE d[a]! x) d j i) j
    obtain ⟨t4, e4⟩ := pequ_2 (a := a) (i := scanUp (fun x => !ltE d[a]! x) d j i) ha (by omega) hs j hj
    rw [partEqLoop_eq, if_pos (by omega)]
    refine ⟨((scanDown (fun x => ltE d[a]! x) d (scanUp (fun x => !ltE d[a]! x) d j i) j : Nat) : Int), true, Loop_end ?_⟩
    simp only [s_slices_partitionEqualCmpFunc_api_Edge__3L, s_slices_partitionEqualCmpFunc_api_Edge__3, un]
    rw [e3]
    simp only [Option.bind_some, un]
    rw [e4]
    simp (disch := omega) only [Option.bind_some, un, dec_true, cond_true]
  | succ n ih =>
    intro i j d hn h1 h2 ha hj hs
    obtain ⟨t3, e3⟩ := pequ_1 (a := a) ha hj hs _ i rfl h2
    have g1 := scanUp_ge (fun x => !ltE d[a]! x) d j i
    have g2 := scanDown_le (fun x => ltE d[a]! x) d (scanUp (fun x => !ltE d[a]! x) d j i) j
    obtain ⟨t4, e4⟩ := pequ_2 (a := a) (i := scanUp (fun x => !ltE d[a]! x) d j i) ha (by omega) hs j hj
    rw [partEqLoop_eq]
    have f : s_slices_partitionEqualCmpFunc_api_Edge__3L CC a ((i : Int), (j : Int), eA d) = s_slices_partitionEqualCmpFunc_api_Edge__3L CC a ((i : Int), (j : Int), eA d) := rfl
    conv at f => rhs; simp only [s_slices_partitionEqualCmpFunc_api_Edge__3L, s_slices_partitionEqualCmpFunc_api_Edge__3, un]; rw [e3]; simp only [Option.bind_some, un]; rw [e4]; simp only [Option.bind_some, un]
    generalize hi2 : scanUp (fun x => !ltE d[a]! x) d j i = i2 at *
    generalize hj2 : scanDown (fun x => ltE d[a]! x) d i2 j = j2 at *
    by_cases h : i2 > j2
    · rw [if_pos h]
      refine ⟨(j2 : Int), true, Loop_end (f.trans ?_)⟩
      simp (disch := omega) only [Option.bind_some, dec_true, cond_true]
    · rw [if_neg h]
      obtain ⟨x, z, e⟩ := ih (i2 + 1) (j2 - 1) (swp d i2 j2) (by omega) (by omega) (by rw [size_swp]; omega) (by rw [size_swp]; omega) (by rw [size_swp]; omega) (by rw [size_swp]; omega)
      refine ⟨x, z, (Loop_norm (f.trans ?_)).trans e⟩
      simp (disch := omega) only [bif_decide, bif_and, bif_not, if_pos, if_neg, wrap64, succC, addC, Int.toNat_natCast, Option.bind_some, encA_length, encA_get, Ed.enc_0, Ed.enc_1, Ed.enc_2, Ed.re, encA_set, encA_get2, Array.size_setIfInBounds, compareEdges_spec, V.nth_zero, V.toInt_int, cond_true, cond_false, sub1C]
      rfl
theorem pequ_spec {a b pivot : Nat} {d : Array Ed} (hp : pivot < b) (hab : a < b) (hb : b ≤ d.size) (hs : d.size < 1152921504606846976) :
    CC F_slices_partitionEqualCmpFunc_api_Edge_ [.int .i64 (a : Int), .int .i64 (b : Int), .int .i64 (pivot : Int), .list T_api_Edge (eA d)] =
      some [.int .i64 ((partitionEqual ltE d a b pivot).1 : Int), .list T_api_Edge (eA (partitionEqual ltE d a b pivot).2)] := by
  refine f_slices_partitionEqualCmpFunc_api_Edge__of ?_
  unfold f_slices_partitionEqualCmpFunc_api_Edge_
  have z1 : (swp d a pivot).size = d.size := size_swp ..
  obtain ⟨x, z, e⟩ := pequ_3 (a := a) _ (a + 1) (b - 1) (swp d a pivot) (Nat.le_refl _) (by omega) (by omega) (by omega) (by omega) (by omega)
  simp (disch := omega) only [bif_decide, bif_and, if_pos, encA_length, encA_get, Int.toNat_natCast, Option.bind_some, Ed.enc_0, Ed.enc_1, Ed.enc_2, Ed.re, encA_set, encA_get2, Array.size_setIfInBounds, sub1C, succC, wrap64, swp_eA]
  rw [e]
  rfl
theorem pins_1 {a b j : Nat} {d : Array Ed} (hb : b ≤ d.size) (hs : d.size < 1152921504606846976) : ∀ (n i : Nat), b - i = n → 1 ≤ i → i ≤ b →
    ∃ t, Loop (s_slices_partialInsertionSortCmpFunc_api_Edge__1L CC a b j (eA d)) (i : Int) = some (((scanSorted ltE d b i : Nat) : Int), t) := by
  intro n
  induction n with
  | zero =>
    intro i hn h1 hi
    rw [scanSorted_eq, if_neg (by omega)]
    exact ⟨false, Loop_end (by simp (disch := omega) only [s_slices_partialInsertionSortCmpFunc_api_Edge__1L, s_slices_partialInsertionSortCmpFunc_api_Edge__1, bif_decide, if_neg])⟩
  | succ n ih =>
    intro i hn h1 hi
    obtain ⟨t, h⟩ := ih (i + 1) (by omega) (by omega) (by omega)
    rw [scanSorted_eq, if_pos (by omega)]
    have e : s_slices_partialInsertionSortCmpFunc_api_Edge__1L CC a b j (eA d) (i : Int) = if cmpE d[i]! d[i - 1]! < 0 then some (.inr ((i : Int), !decide (cmpE d[i]! d[i - 1]! < 0))) else some (.inl ((i + 1 : Nat) : Int)) := by
      simp (disch := omega) only [s_slices_partialInsertionSortCmpFunc_api_Edge__1L, s_slices_partialInsertionSortCmpFunc_api_Edge__1, sub1C, bif_decide, bif_and, bif_not, if_pos, if_neg, wrap64, succC, addC, Int.toNat_natCast, Option.bind_some, encA_length, encA_get, Ed.enc_0, Ed.enc_1, Ed.enc_2, Ed.re, encA_set, encA_get2, Array.size_setIfInBounds, compareEdges_spec, V.nth_zero, V.toInt_int, cond_true, cond_false]
    by_cases h2 : cmpE d[i]! d[i - 1]! < 0
    · rw [if_pos h2] at e ⊢
      exact ⟨_, Loop_end e⟩
    · rw [if_neg h2] at e ⊢
      exact ⟨t, (Loop_norm e).trans h⟩
theorem shiftDown_size : ∀ (j : Nat) (d : Array Ed), (shiftDown ltE j d).size = d.size
  | 0, _ => rfl
  | j + 1, d => by
    rw [shiftDown_eq']
    split
    · rw [shiftDown_size j, size_swp]
    · rfl
theorem shiftUp_size {b : Nat} : ∀ (n j : Nat) (d : Array Ed), b - j = n → (shiftUp ltE b j d).size = d.size := by
  intro n
  induction n with
  | zero => intro j d h; rw [shiftUp_eq', if_neg (by omega)]
  | succ n ih =>
    intro j d h
    rw [shiftUp_eq', if_pos (by omega)]
    split
    · rw [ih _ _ (by omega), size_swp]
    · rfl
theorem pins_2 {a b i k : Nat} : ∀ (j : Nat) (d : Array Ed), j < d.size → d.size < 1152921504606846976 →
    ∃ t, Loop (s_slices_partialInsertionSortCmpFunc_api_Edge__2L CC a b i k) ((j : Int), eA d) = some (t, eA (shiftDown ltE j d))
  | 0, d, hj, hs => ⟨(0 : Nat), Loop_end (by
      simp (disch := omega) only [s_slices_partialInsertionSortCmpFunc_api_Edge__2L, s_slices_partialInsertionSortCmpFunc_api_Edge__2, un, bif_decide, if_neg]
      rfl)⟩
  | j + 1, d, hj, hs => by
    obtain ⟨t, ih⟩ := pins_2 (a := a) (b := b) (i := i) (k := k) j (swp d (j + 1) j) (by rw [size_swp]; omega) (by rw [size_swp]; omega)
    rw [shiftDown_eq']
    have e : s_slices_partialInsertionSortCmpFunc_api_Edge__2L CC a b i k (((j + 1 : Nat) : Int), eA d) = if cmpE d[j + 1]! d[j]! < 0 then some (.inl ((j : Int), eA (swp d (j + 1) j))) else some (.inr (((j + 1 : Nat) : Int), eA d)) := by
      simp (disch := omega) only [s_slices_partialInsertionSortCmpFunc_api_Edge__2L, s_slices_partialInsertionSortCmpFunc_api_Edge__2, un, bif_decide, bif_and, bif_not, if_pos, if_neg, wrap64, succC, addC, Int.toNat_natCast, Option.bind_some, encA_length, encA_get, Ed.enc_0, Ed.enc_1, Ed.enc_2, Ed.re, encA_set, encA_get2, Array.size_setIfInBounds, compareEdges_spec, V.nth_zero, V.toInt_int, cond_true, cond_false, predC]
      rfl
    by_cases h2 : cmpE d[j + 1]! d[j]! < 0
    · rw [if_pos h2] at e ⊢
      exact ⟨t, (Loop_norm e).trans ih⟩
    · rw [if_neg h2] at e ⊢
      exact ⟨_, Loop_end e⟩
theorem pins_4 {a b i k : Nat} : ∀ (n j : Nat) (d : Array Ed), b - j = n → 1 ≤ j → j ≤ b → b ≤ d.size → d.size < 1152921504606846976 →
    ∃ t, Loop (s_slices_partialInsertionSortCmpFunc_api_Edge__4L CC a b i k) ((j : Int), eA d) = some (t, eA (shiftUp ltE b j d)) := by
  intro n
  induction n with
  | zero =>
    intro j d hn h1 hj hb hs
    rw [shiftUp_eq', if_neg (by omega)]
    exact ⟨(j : Int), Loop_end (by
      simp (disch := omega) only [s_slices_partialInsertionSortCmpFunc_api_Edge__4L, s_slices_partialInsertionSortCmpFunc_api_Edge__4, un, bif_decide, if_neg])⟩
  | succ n ih =>
    intro j d hn h1 hj hb hs
    obtain ⟨t, h⟩ := ih (j + 1) (swp d j (j - 1)) (by omega) (by omega) (by omega) (by rw [size_swp]; omega) (by rw [size_swp]; omega)
    rw [shiftUp_eq', if_pos (by omega)]
    have e : s_slices_partialInsertionSortCmpFunc_api_Edge__4L CC a b i k ((j : Int), eA d) = if cmpE d[j]! d[j - 1]! < 0 then some (.inl (((j + 1 : Nat) : Int), eA (swp d j (j - 1)))) else some (.inr ((j : Int), eA d)) := by
      simp (disch := omega) only [s_slices_partialInsertionSortCmpFunc_api_Edge__4L, s_slices_partialInsertionSortCmpFunc_api_Edge__4, un, sub1C, bif_decide, bif_and, bif_not, if_pos, if_neg, wrap64, succC, addC, Int.toNat_natCast, Option.bind_some, encA_length, encA_get, Ed.enc_0, Ed.enc_1, Ed.enc_2, Ed.re, encA_set, encA_get2, Array.size_setIfInBounds, compareEdges_spec, V.nth_zero, V.toInt_int, cond_true, cond_false]
      rfl
    by_cases h2 : cmpE d[j]! d[j - 1]! < 0
    · rw [if_pos h2] at e ⊢
      exact ⟨t, (Loop_norm e).trans h⟩
    · rw [if_neg h2] at e ⊢
      exact ⟨_, Loop_end e⟩
theorem scanSorted_le {d : Array Ed} {b : Nat} : ∀ (n i : Nat), b - i = n → i ≤ b → i ≤ scanSorted ltE d b i ∧ scanSorted ltE d b i ≤ b := by
  intro n
  induction n with
  | zero => intro i hn hi; rw [scanSorted_eq, if_neg (by omega)]; omega
  | succ n ih =>
    intro i hn hi
    rw [scanSorted_eq, if_pos (by omega)]
    obtain ⟨h1, h2⟩ := ih (i + 1) (by omega) (by omega)
    split <;> omega
theorem pins_loop {a b : Nat} : ∀ (s i : Nat) (d : Array Ed), s ≤ 5 → a < i → i ≤ b → b ≤ d.size → d.size < 1152921504606846976 →
    (Loop (s_slices_partialInsertionSortCmpFunc_api_Edge__5L CC a b) ((i : Int), ((5 - s : Nat) : Int), eA d) = some (.inl ((partialIns ltE a b s i d).2, eA (partialIns ltE a b s i d).1))) ∨
    (∃ x y z, (partialIns ltE a b s i d).2 = false ∧ Loop (s_slices_partialInsertionSortCmpFunc_api_Edge__5L CC a b) ((i : Int), ((5 - s : Nat) : Int), eA d) = some (.inr (x, y, z, eA (partialIns ltE a b s i d).1))) := by
  intro s
  induction s with
  | zero =>
    intro i d hs5 hi hib hb hs
    refine .inr ⟨(i : Int), ((5 : Nat) : Int), false, rfl, Loop_end ?_⟩
    simp (disch := omega) only [s_slices_partialInsertionSortCmpFunc_api_Edge__5L, s_slices_partialInsertionSortCmpFunc_api_Edge__5, un, dec_false, cond_false]
    rfl
  | succ s ih =>
    intro i d hs5 hi hib hb hs
    obtain ⟨t1, e1⟩ := pins_1 (a := a) (j := 5 - (s + 1)) hb hs _ i rfl (by omega) hib
    obtain ⟨q1, q2⟩ := scanSorted_le (d := d) _ i rfl hib
    rw [partialIns_succ]
    have f : s_slices_partialInsertionSortCmpFunc_api_Edge__5L CC a b ((i : Int), ((5 - (s + 1) : Nat) : Int), eA d) = s_slices_partialInsertionSortCmpFunc_api_Edge__5L CC a b ((i : Int), ((5 - (s + 1) : Nat) : Int), eA d) := rfl
    conv at f => rhs; simp only [s_slices_partialInsertionSortCmpFunc_api_Edge__5L, s_slices_partialInsertionSortCmpFunc_api_Edge__5, un]; rw [bif_decide, if_pos (by omega), e1]; simp only [Option.bind_some, un]
    generalize scanSorted ltE d b i = k at *
    by_cases h1 : k = b
    · rw [if_pos h1]
      left
      refine Loop_end (f.trans ?_)
      rw [bif_beq, if_pos (by omega)]
    · rw [if_neg h1]
      by_cases h2 : b - a < 50
      · rw [if_pos h2]
        left
        refine Loop_end (f.trans ?_)
        rw [bif_beq, if_neg (by omega), wrap64 (by omega) (by omega), bif_decide, if_pos (by omega)]
      · rw [if_neg h2]
        have z1 : (swp d k (k - 1)).size = d.size := size_swp ..
        have z2 : (fixDown ltE a k (swp d k (k - 1))).size = d.size := by
          unfold fixDown
          split
          · rw [shiftDown_size, z1]
          · exact z1
        have z3 : (fixUp ltE b k (fixDown ltE a k (swp d k (k - 1)))).size = d.size := by
          unfold fixUp
          split
          · rw [shiftUp_size _ _ _ rfl, z2]
          · exact z2
        obtain ⟨t2, e2⟩ := pins_2 (a := a) (b := b) (i := k) (k := 5 - (s + 1)) (k - 1) (swp d k (k - 1)) (by omega) (by omega)
        obtain ⟨t4, e4⟩ := pins_4 (a := a) (b := b) (i := k) (k := 5 - (s + 1)) _ (k + 1) (fixDown ltE a k (swp d k (k - 1))) rfl (by omega) (by omega) (by omega) (by omega)
        have e5 : s_slices_partialInsertionSortCmpFunc_api_Edge__5L CC a b ((i : Int), ((5 - (s + 1) : Nat) : Int), eA d) = some (.inl ((k : Int), ((5 - s : Nat) : Int), eA (fixUp ltE b k (fixDown ltE a k (swp d k (k - 1)))))) := by
          refine f.trans ?_
          rw [bif_beq, if_neg (by omega), wrap64 (by omega) (by omega), bif_decide, if_neg (by omega)]
          simp (disch := omega) only [bif_decide, bif_and, if_pos, encA_length, encA_get, Int.toNat_natCast, Option.bind_some, Ed.enc_0, Ed.enc_1, Ed.enc_2, Ed.re, encA_set, encA_get2, Array.size_setIfInBounds, sub1C, succC, subC, wrap64, swp_eA, s_slices_partialInsertionSortCmpFunc_api_Edge__3]
          rw [show 5 - (s + 1) + 1 = 5 - s by omega]
          unfold fixDown at e4 ⊢
          unfold fixUp
          have c1 : (((k - a : Nat) : Int) ≥ 2) = (k - a ≥ 2) := propext (by omega)
          have c2 : (((b - k : Nat) : Int) ≥ 2) = (b - k ≥ 2) := propext (by omega)
          simp only [c1, c2]
          by_cases g1 : k - a ≥ 2
          · by_cases g2 : b - k ≥ 2
            · simp only [g1, g2, if_true, e2, Option.bind_some, un] at e4 ⊢
              rw [e4]
              rfl
            · simp only [g1, g2, if_true, if_false, e2, Option.bind_some, un]
          · by_cases g2 : b - k ≥ 2
            · simp only [g1, g2, if_true, if_false] at e4 ⊢
              rw [e4]
              rfl
            · exact absurd (show b - k ≥ 2 by omega) g2
        rw [Loop_norm e5]
        exact ih k _ (by omega) (by omega) (by omega) (by omega) (by omega)
theorem pins_spec {a b : Nat} {d : Array Ed} (hab : a < b) (hb : b ≤ d.size) (hs : d.size < 1152921504606846976) :
    CC F_slices_partialInsertionSortCmpFunc_api_Edge_ [.int .i64 (a : Int), .int .i64 (b : Int), .list T_api_Edge (eA d)] =
      some [.bool (partialInsertionSort ltE d a b).2, .list T_api_Edge (eA (partialInsertionSort ltE d a b).1)] := by
  refine f_slices_partialInsertionSortCmpFunc_api_Edge__of ?_
  unfold f_slices_partialInsertionSortCmpFunc_api_Edge_
  simp (disch := omega) only [succC, wrap64]
  rcases pins_loop (a := a) (b := b) 5 (a + 1) d (Nat.le_refl _) (by omega) (by omega) hb hs with h | ⟨x, y, z, h0, h⟩
  · rw [show ((5 - 5 : Nat) : Int) = 0 from rfl] at h
    rw [h]
    rfl
  · rw [show ((5 - 5 : Nat) : Int) = 0 from rfl] at h
    rw [h]
    unfold partialInsertionSort
    rw [h0]
    rfl
end Go.AM
set_option maxRecDepth 100000
namespace Go.AM
open Go.Proofs
noncomputable abbrev B_slices_choosePivotCmpFunc_api_Edge_ : Code := bodyOf Tryd.prog (ann.fid 77)
noncomputable def s_slices_choosePivotCmpFunc_api_Edge__1 (C : CallF) (data : List V) (i j k' : Int) (t36 : Bool) (swapss : Int) {β : Type} (kr : (Int × Int × Int × Int) → Option β) : Option β :=
  bif t36 then
   (C F_slices_medianAdjacentCmpFunc_api_Edge_ [.list T_api_Edge data, .int .i64 i, .int .i64 swapss]).bind fun r1 =>
   (C F_slices_medianAdjacentCmpFunc_api_Edge_ [.list T_api_Edge data, .int .i64 j, .int .i64 ((V.nth (r1.drop 1) 0).toInt)]).bind fun r2 =>
   (C F_slices_medianAdjacentCmpFunc_api_Edge_ [.list T_api_Edge data, .int .i64 k', .int .i64 ((V.nth (r2.drop 1) 0).toInt)]).bind fun r3 =>
   kr ((V.nth r1 0).toInt, (V.nth r2 0).toInt, (V.nth r3 0).toInt, (V.nth (r3.drop 1) 0).toInt)
  else
   kr (i, j, k', swapss)
noncomputable def s_slices_choosePivotCmpFunc_api_Edge__2 (C : CallF) (data : List V) (l i j k' : Int) (t34 : Bool) (swapss : Int) {β : Type} (kr : (Int × Int) → Option β) : Option β :=
  bif t34 then
   s_slices_choosePivotCmpFunc_api_Edge__1 C data i j k' (decide ((l : Int) ≥ 50)) swapss (un fun (i_4 : Int) => un fun (j_5 : Int) => un fun (k_6 : Int) (swapss_7 : Int) =>
     (C F_slices_medianCmpFunc_api_Edge_ [.list T_api_Edge data, .int .i64 i_4, .int .i64 j_5, .int .i64 k_6, .int .i64 swapss_7]).bind fun r8 =>
     kr ((V.nth r8 0).toInt, (V.nth (r8.drop 1) 0).toInt))
  else
   kr (j, swapss)
noncomputable def LT_slices_choosePivotCmpFunc_api_Edge_ (C : CallF) : LTab := fun β n ds k =>
  bif Nat.beq n 591 then condS S77_591 [[1, 0, 0, 0, 0]] (@s_slices_choosePivotCmpFunc_api_Edge__1 C) ds k else
  bif Nat.beq n 559 then condS S77_559 [[0, 0]] (@s_slices_choosePivotCmpFunc_api_Edge__2 C) ds k else
  none
abbrev TS_slices_choosePivotCmpFunc_api_Edge_ (C : CallF) (b : Bar) : Prop := Tells Tryd.prog ann C (LT_slices_choosePivotCmpFunc_api_Edge_ C) 77 (ntmpsOf Tryd.prog (ann.fid 77)) (ann.sin 77).blks.length b
theorem t_slices_choosePivotCmpFunc_api_Edge__1 (C : CallF) : TS_slices_choosePivotCmpFunc_api_Edge_ C (.cond 36 (codeAt [1, 1, 1, 1, 1, 1, 0, 1, 0, 0, 1, 0] B_slices_choosePivotCmpFunc_api_Edge_) (codeAt [1, 1, 1, 1, 1, 1, 0, 1, 0, 0, 1, 1] B_slices_choosePivotCmpFunc_api_Edge_)) :=
  tc3 S77_591 [[1, 0, 0, 0, 0]] (@s_slices_choosePivotCmpFunc_api_Edge__1 C) (by kernel_rfl) (ltok_of (bs := []) (by kernel_rfl) tells_nil) (ltok_of (bs := []) (by kernel_rfl) tells_nil) (fun ds => by kernel_rfl) (fun i β k => by kernel_rfl) (fun β ds k => by kernel_rfl)
theorem t_slices_choosePivotCmpFunc_api_Edge__2 (C : CallF) : TS_slices_choosePivotCmpFunc_api_Edge_ C (.cond 34 (codeAt [1, 1, 1, 1, 1, 1, 0, 1, 0] B_slices_choosePivotCmpFunc_api_Edge_) (codeAt [1, 1, 1, 1, 1, 1, 0, 1, 1] B_slices_choosePivotCmpFunc_api_Edge_)) :=
  tc3 S77_559 [[0, 0]] (@s_slices_choosePivotCmpFunc_api_Edge__2 C) (by kernel_rfl) (ltok_of (bs := [.cond 36 (codeAt [1, 1, 1, 1, 1, 1, 0, 1, 0, 0, 1, 0] B_slices_choosePivotCmpFunc_api_Edge_) (codeAt [1, 1, 1, 1, 1, 1, 0, 1, 0, 0, 1, 1] B_slices_choosePivotCmpFunc_api_Edge_)]) (by kernel_rfl) (tells_cons (t_slices_choosePivotCmpFunc_api_Edge__1 C) tells_nil)) (ltok_of (bs := []) (by kernel_rfl) tells_nil) (fun ds => by kernel_rfl) (fun i β k => by kernel_rfl) (fun β ds k => by kernel_rfl)
noncomputable def f_slices_choosePivotCmpFunc_api_Edge_ (C : CallF) (data : List V) (a b' : Int) : Option (List V) :=
  s_slices_choosePivotCmpFunc_api_Edge__2 C data (IntKind.wrap .i64 (b' - a)) (IntKind.wrap .i64 (a + (IntKind.wrap .i64 (1 * (IntKind.wrap .i64 (Int.tdiv (IntKind.wrap .i64 (b' - a)) 4)))))) (IntKind.wrap .i64 (a + (IntKind.wrap .i64 (2 * (IntKind.wrap .i64 (Int.tdiv (IntKind.wrap .i64 (b' - a)) 4)))))) (IntKind.wrap .i64 (a + (IntKind.wrap .i64 (3 * (IntKind.wrap .i64 (Int.tdiv (IntKind.wrap .i64 (b' - a)) 4)))))) (decide (((IntKind.wrap .i64 (b' - a)) : Int) ≥ 8)) 0 (un fun (j_9 : Int) (swapss_10 : Int) =>
    bif (swapss_10 : Int) == 0 then
     some [.int .i64 j_9, .int .i64 1]
    else
     bif (swapss_10 : Int) == 12 then
      some [.int .i64 j_9, .int .i64 2]
     else
      some [.int .i64 j_9, .int .i64 0])
theorem f_slices_choosePivotCmpFunc_api_Edge__of {data : List V} {a b' : Int} {r : Option (List V)} (h : f_slices_choosePivotCmpFunc_api_Edge_ CC data a b' = r) : CC F_slices_choosePivotCmpFunc_api_Edge_ [.list T_api_Edge data, .int .i64 a, .int .i64 b'] = r :=
  func_of (key := 77) (L := LT_slices_choosePivotCmpFunc_api_Edge_ CC) (bs := [.cond 34 (codeAt [1, 1, 1, 1, 1, 1, 0, 1, 0] B_slices_choosePivotCmpFunc_api_Edge_) (codeAt [1, 1, 1, 1, 1, 1, 0, 1, 1] B_slices_choosePivotCmpFunc_api_Edge_)]) (by kernel_rfl) (tells_cons (t_slices_choosePivotCmpFunc_api_Edge__2 CC) tells_nil) (Eq.trans (by kernel_rfl) h)
end Go.AM
set_option maxRecDepth 100000
namespace Go.AM
open Go.Proofs
noncomputable def f_slices_medianCmpFunc_api_Edge_ (C : CallF) (data : List V) (a b' c swapss : Int) : Option (List V) :=
  (C F_slices_order2CmpFunc_api_Edge_ [.list T_api_Edge data, .int .i64 a, .int .i64 b', .int .i64 swapss]).bind fun r1 =>
  (C F_slices_order2CmpFunc_api_Edge_ [.list T_api_Edge data, .int .i64 ((V.nth (r1.drop 1) 0).toInt), .int .i64 c, .int .i64 ((V.nth (r1.drop 2) 0).toInt)]).bind fun r2 =>
  (C F_slices_order2CmpFunc_api_Edge_ [.list T_api_Edge data, .int .i64 ((V.nth r1 0).toInt), .int .i64 ((V.nth r2 0).toInt), .int .i64 ((V.nth (r2.drop 2) 0).toInt)]).bind fun r3 =>
  some [.int .i64 ((V.nth (r3.drop 1) 0).toInt), .int .i64 ((V.nth (r3.drop 2) 0).toInt)]
theorem f_slices_medianCmpFunc_api_Edge__of {data : List V} {a b' c swapss : Int} {r : Option (List V)} (h : f_slices_medianCmpFunc_api_Edge_ CC data a b' c swapss = r) : CC F_slices_medianCmpFunc_api_Edge_ [.list T_api_Edge data, .int .i64 a, .int .i64 b', .int .i64 c, .int .i64 swapss] = r :=
  func_of (key := 92) (L := LT0) (bs := []) (by kernel_rfl) tells_nil (Eq.trans (by kernel_rfl) h)
end Go.AM
set_option maxRecDepth 100000
namespace Go.AM
open Go.Proofs
noncomputable def f_slices_order2CmpFunc_api_Edge_ (C : CallF) (data : List V) (a b' swapss : Int) : Option (List V) :=
  (idx data b').bind fun x1 =>
  (idx data a).bind fun x2 =>
  (C F_nfa_compareEdges [.int .i64 ((x1.cell 0).toInt), .int .i64 ((x1.cell 1).toInt), .int .i64 ((x1.cell 2).toInt), .int .i64 ((x2.cell 0).toInt), .int .i64 ((x2.cell 1).toInt), .int .i64 ((x2.cell 2).toInt)]).bind fun r3 =>
  bif decide ((((V.nth r3 0).toInt) : Int) < 0) then
   some [.int .i64 b', .int .i64 a, .int .i64 (IntKind.wrap .i64 (swapss + 1))]
  else
   some [.int .i64 a, .int .i64 b', .int .i64 swapss]
theorem f_slices_order2CmpFunc_api_Edge__of {data : List V} {a b' swapss : Int} {r : Option (List V)} (h : f_slices_order2CmpFunc_api_Edge_ CC data a b' swapss = r) : CC F_slices_order2CmpFunc_api_Edge_ [.list T_api_Edge data, .int .i64 a, .int .i64 b', .int .i64 swapss] = r :=
  func_of (key := 94) (L := LT0) (bs := []) (by kernel_rfl) tells_nil (Eq.trans (by kernel_rfl) h)
end Go.AM
set_option maxRecDepth 100000
namespace Go.AM
open Go.Proofs
noncomputable def f_slices_medianAdjacentCmpFunc_api_Edge_ (C : CallF) (data : List V) (a swapss : Int) : Option (List V) :=
  (C F_slices_medianCmpFunc_api_Edge_ [.list T_api_Edge data, .int .i64 (IntKind.wrap .i64 (a - 1)), .int .i64 a, .int .i64 (IntKind.wrap .i64 (a + 1)), .int .i64 swapss]).bind fun r1 =>
  some [.int .i64 ((V.nth r1 0).toInt), .int .i64 ((V.nth (r1.drop 1) 0).toInt)]
theorem f_slices_medianAdjacentCmpFunc_api_Edge__of {data : List V} {a swapss : Int} {r : Option (List V)} (h : f_slices_medianAdjacentCmpFunc_api_Edge_ CC data a swapss = r) : CC F_slices_medianAdjacentCmpFunc_api_Edge_ [.list T_api_Edge data, .int .i64 a, .int .i64 swapss] = r :=
  func_of (key := 91) (L := LT0) (bs := []) (by kernel_rfl) tells_nil (Eq.trans (by kernel_rfl) h)
end Go.AM
set_option maxRecDepth 100000
namespace Go.AM
open Go.Proofs
noncomputable abbrev B_slices_breakPatternsCmpFunc_api_Edge_ : Code := bodyOf Tryd.prog (ann.fid 76)
noncomputable def s_slices_breakPatternsCmpFunc_api_Edge__1 (C : CallF) (a length modulus idx' other : Int) (t45 : Bool) (datas : List V) (randoms : Int) {β : Type} (kr : (Int) → Option β) : Option β :=
  bif t45 then
   kr (IntKind.wrap .i64 (other - length))
  else
   kr other
noncomputable def s_slices_breakPatternsCmpFunc_api_Edge__2 (C : CallF) (a length modulus idx' : Int) (datas : List V) (randoms : Int) {β : Type} (kn : (Int × (List V) × Int) → Option β) (kr : (Int × Bool × (List V) × Int) → Option β) : Option β :=
  bif decide ((idx' : Int) ≤ (IntKind.wrap .i64 ((IntKind.wrap .i64 (a + (IntKind.wrap .i64 (2 * (IntKind.wrap .i64 (Int.tdiv length 4)))))) + 1))) then
   (C F_slices_xorshift_Next [.int .u64 randoms]).bind fun r2 =>
   s_slices_breakPatternsCmpFunc_api_Edge__1 C a length modulus idx' (IntKind.wrap .i64 (IntKind.wrap .u64 ((BitVec.ofInt (IntKind.bits .u64) ((V.nth r2 0).toInt) &&& BitVec.ofInt (IntKind.bits .u64) (IntKind.wrap .u64 (modulus - 1))).toNat))) (decide (((IntKind.wrap .i64 (IntKind.wrap .u64 ((BitVec.ofInt (IntKind.bits .u64) ((V.nth r2 0).toInt) &&& BitVec.ofInt (IntKind.bits .u64) (IntKind.wrap .u64 (modulus - 1))).toNat))) : Int) ≥ length)) datas ((V.nth (r2.drop 1) 0).toInt) (fun (other_3 : Int) =>
     bif (decide (0 ≤ (IntKind.wrap .i64 (a + other_3)))) && (decide ((IntKind.wrap .i64 (a + other_3)) < (datas.length : Int))) then
      (datas[(IntKind.wrap .i64 (a + other_3) : Int).toNat]?).bind fun x4 =>
      bif (decide (0 ≤ idx')) && (decide (idx' < (datas.length : Int))) then
       (datas[(idx' : Int).toNat]?).bind fun x5 =>
       bif (decide (0 ≤ idx')) && (decide (idx' < (datas.length : Int))) then
        (datas[(idx' : Int).toNat]?).bind fun x6 =>
        bif (decide (0 ≤ (IntKind.wrap .i64 (a + other_3)))) && (decide ((IntKind.wrap .i64 (a + other_3)) < ((datas.set ((idx' : Int).toNat) (.agg [.int .i64 ((x4.cell 0).toInt), .int .i64 ((x4.cell 1).toInt), .int .i64 ((x4.cell 2).toInt)])).length : Int))) then
         ((datas.set ((idx' : Int).toNat) (.agg [.int .i64 ((x4.cell 0).toInt), .int .i64 ((x4.cell 1).toInt), .int .i64 ((x4.cell 2).toInt)]))[(IntKind.wrap .i64 (a + other_3) : Int).toNat]?).bind fun x7 =>
         kn (IntKind.wrap .i64 (idx' + 1), (datas.set ((idx' : Int).toNat) (.agg [.int .i64 ((x4.cell 0).toInt), .int .i64 ((x4.cell 1).toInt), .int .i64 ((x4.cell 2).toInt)])).set ((IntKind.wrap .i64 (a + other_3) : Int).toNat) (.agg [.int .i64 ((x5.cell 0).toInt), .int .i64 ((x5.cell 1).toInt), .int .i64 ((x5.cell 2).toInt)]), (V.nth (r2.drop 1) 0).toInt)
        else none
       else none
      else none
     else none)
  else
   kr (idx', decide ((idx' : Int) ≤ (IntKind.wrap .i64 ((IntKind.wrap .i64 (a + (IntKind.wrap .i64 (2 * (IntKind.wrap .i64 (Int.tdiv length 4)))))) + 1))), datas, randoms)
noncomputable def s_slices_breakPatternsCmpFunc_api_Edge__2L (C : CallF) (a length modulus : Int) : (Int × (List V) × Int) → Option ((Int × (List V) × Int) ⊕ (Int × Bool × (List V) × Int)) := un fun idx' => un fun datas randoms => s_slices_breakPatternsCmpFunc_api_Edge__2 C a length modulus idx' datas randoms (fun y => some (.inl y)) (fun r => some (.inr r))
noncomputable def LT_slices_breakPatternsCmpFunc_api_Edge_ (C : CallF) : LTab := fun β n ds k =>
  bif Nat.beq n 735 then condS S76_735 [[1, 2, 3, 4, 0, 7, 8]] (@s_slices_breakPatternsCmpFunc_api_Edge__1 C) ds k else
  bif Nat.beq n 81 then loopS S76_81 [false, false, false, true, true, true] [[1, 2, 3, 0, 0, 0, 0]] (@s_slices_breakPatternsCmpFunc_api_Edge__2 C) ds k else
  none
abbrev TS_slices_breakPatternsCmpFunc_api_Edge_ (C : CallF) (b : Bar) : Prop := Tells Tryd.prog ann C (LT_slices_breakPatternsCmpFunc_api_Edge_ C) 76 (ntmpsOf Tryd.prog (ann.fid 76)) (ann.sin 76).blks.length b
theorem t_slices_breakPatternsCmpFunc_api_Edge__1 (C : CallF) : TS_slices_breakPatternsCmpFunc_api_Edge_ C (.cond 45 (codeAt [1, 1, 0, 1, 1, 1, 0, 0, 1, 0, 0, 1, 0, 1, 0] B_slices_breakPatternsCmpFunc_api_Edge_) (codeAt [1, 1, 0, 1, 1, 1, 0, 0, 1, 0, 0, 1, 0, 1, 1] B_slices_breakPatternsCmpFunc_api_Edge_)) :=
  tc3 S76_735 [[1, 2, 3, 4, 0, 7, 8]] (@s_slices_breakPatternsCmpFunc_api_Edge__1 C) (by kernel_rfl) (ltok_of (bs := []) (by kernel_rfl) tells_nil) (ltok_of (bs := []) (by kernel_rfl) tells_nil) (fun ds => by kernel_rfl) (fun i β k => by kernel_rfl) (fun β ds k => by kernel_rfl)
theorem t_slices_breakPatternsCmpFunc_api_Edge__2 (C : CallF) : TS_slices_breakPatternsCmpFunc_api_Edge_ C (.loop (codeAt [1, 1, 0, 1, 1, 1, 0, 0] B_slices_breakPatternsCmpFunc_api_Edge_)) :=
  tl3 S76_81 [false, false, false, true, true, true] [[1, 2, 3, 0, 0, 0, 0]] (@s_slices_breakPatternsCmpFunc_api_Edge__2 C) (by kernel_rfl) (ltok_of (bs := [.cond 45 (codeAt [1, 1, 0, 1, 1, 1, 0, 0, 1, 0, 0, 1, 0, 1, 0] B_slices_breakPatternsCmpFunc_api_Edge_) (codeAt [1, 1, 0, 1, 1, 1, 0, 0, 1, 0, 0, 1, 0, 1, 1] B_slices_breakPatternsCmpFunc_api_Edge_)]) (by kernel_rfl) (tells_cons (t_slices_breakPatternsCmpFunc_api_Edge__1 C) tells_nil)) (fun ds => by kernel_rfl) (fun i x => by kernel_rfl) (fun i x β k => by kernel_rfl) (fun β ds k => by kernel_rfl)
noncomputable def f_slices_breakPatternsCmpFunc_api_Edge_ (C : CallF) (a b' : Int) (datas : List V) : Option (List V) :=
  bif decide (((IntKind.wrap .i64 (b' - a)) : Int) ≥ 8) then
   (C F_slices_nextPowerOfTwo [.int .i64 (IntKind.wrap .i64 (b' - a))]).bind fun r1 =>
   (Loop (s_slices_breakPatternsCmpFunc_api_Edge__2L C a (IntKind.wrap .i64 (b' - a)) ((V.nth r1 0).toInt)) (IntKind.wrap .i64 ((IntKind.wrap .i64 (a + (IntKind.wrap .i64 (2 * (IntKind.wrap .i64 (Int.tdiv (IntKind.wrap .i64 (b' - a)) 4)))))) - 1), datas, IntKind.wrap .u64 (IntKind.wrap .i64 (b' - a)))).bind (un fun (idx_8 : Int) => un fun (t_9 : Bool) => un fun (datas_10 : List V) (randoms_11 : Int) =>
     some [.list T_api_Edge datas_10])
  else
   some [.list T_api_Edge datas]
theorem f_slices_breakPatternsCmpFunc_api_Edge__of {a b' : Int} {datas : List V} {r : Option (List V)} (h : f_slices_breakPatternsCmpFunc_api_Edge_ CC a b' datas = r) : CC F_slices_breakPatternsCmpFunc_api_Edge_ [.int .i64 a, .int .i64 b', .list T_api_Edge datas] = r :=
  func_of (key := 76) (L := LT_slices_breakPatternsCmpFunc_api_Edge_ CC) (bs := [.loop (codeAt [1, 1, 0, 1, 1, 1, 0, 0] B_slices_breakPatternsCmpFunc_api_Edge_)]) (by kernel_rfl) (tells_cons (t_slices_breakPatternsCmpFunc_api_Edge__2 CC) tells_nil) (Eq.trans (by kernel_rfl) h)
end Go.AM
set_option maxRecDepth 100000
namespace Go.AM
open Go.Proofs
noncomputable def f_slices_xorshift_Next (C : CallF) (r's : Int) : Option (List V) :=
  some [.int .u64 (IntKind.wrap .u64 ((BitVec.ofInt (IntKind.bits .u64) (IntKind.wrap .u64 ((BitVec.ofInt (IntKind.bits .u64) (IntKind.wrap .u64 ((BitVec.ofInt (IntKind.bits .u64) r's ^^^ BitVec.ofInt (IntKind.bits .u64) (IntKind.wrap .u64 (r's * 2 ^ (min (13 : Int).toNat (IntKind.bits .u64))))).toNat)) ^^^ BitVec.ofInt (IntKind.bits .u64) (Int.fdiv (IntKind.wrap .u64 ((BitVec.ofInt (IntKind.bits .u64) r's ^^^ BitVec.ofInt (IntKind.bits .u64) (IntKind.wrap .u64 (r's * 2 ^ (min (13 : Int).toNat (IntKind.bits .u64))))).toNat)) (2 ^ (min (7 : Int).toNat (IntKind.bits .u64))))).toNat)) ^^^ BitVec.ofInt (IntKind.bits .u64) (IntKind.wrap .u64 ((IntKind.wrap .u64 ((BitVec.ofInt (IntKind.bits .u64) (IntKind.wrap .u64 ((BitVec.ofInt (IntKind.bits .u64) r's ^^^ BitVec.ofInt (IntKind.bits .u64) (IntKind.wrap .u64 (r's * 2 ^ (min (13 : Int).toNat (IntKind.bits .u64))))).toNat)) ^^^ BitVec.ofInt (IntKind.bits .u64) (Int.fdiv (IntKind.wrap .u64 ((BitVec.ofInt (IntKind.bits .u64) r's ^^^ BitVec.ofInt (IntKind.bits .u64) (IntKind.wrap .u64 (r's * 2 ^ (min (13 : Int).toNat (IntKind.bits .u64))))).toNat)) (2 ^ (min (7 : Int).toNat (IntKind.bits .u64))))).toNat)) * 2 ^ (min (17 : Int).toNat (IntKind.bits .u64))))).toNat)), .int .u64 (IntKind.wrap .u64 ((BitVec.ofInt (IntKind.bits .u64) (IntKind.wrap .u64 ((BitVec.ofInt (IntKind.bits .u64) (IntKind.wrap .u64 ((BitVec.ofInt (IntKind.bits .u64) r's ^^^ BitVec.ofInt (IntKind.bits .u64) (IntKind.wrap .u64 (r's * 2 ^ (min (13 : Int).toNat (IntKind.bits .u64))))).toNat)) ^^^ BitVec.ofInt (IntKind.bits .u64) (Int.fdiv (IntKind.wrap .u64 ((BitVec.ofInt (IntKind.bits .u64) r's ^^^ BitVec.ofInt (IntKind.bits .u64) (IntKind.wrap .u64 (r's * 2 ^ (min (13 : Int).toNat (IntKind.bits .u64))))).toNat)) (2 ^ (min (7 : Int).toNat (IntKind.bits .u64))))).toNat)) ^^^ BitVec.ofInt (IntKind.bits .u64) (IntKind.wrap .u64 ((IntKind.wrap .u64 ((BitVec.ofInt (IntKind.bits .u64) (IntKind.wrap .u64 ((BitVec.ofInt (IntKind.bits .u64) r's ^^^ BitVec.ofInt (IntKind.bits .u64) (IntKind.wrap .u64 (r's * 2 ^ (min (13 : Int).toNat (IntKind.bits .u64))))).toNat)) ^^^ BitVec.ofInt (IntKind.bits .u64) (Int.fdiv (IntKind.wrap .u64 ((BitVec.ofInt (IntKind.bits .u64) r's ^^^ BitVec.ofInt (IntKind.bits .u64) (IntKind.wrap .u64 (r's * 2 ^ (min (13 : Int).toNat (IntKind.bits .u64))))).toNat)) (2 ^ (min (7 : Int).toNat (IntKind.bits .u64))))).toNat)) * 2 ^ (min (17 : Int).toNat (IntKind.bits .u64))))).toNat))]
theorem f_slices_xorshift_Next_of {r's : Int} {r : Option (List V)} (h : f_slices_xorshift_Next CC r's = r) : CC F_slices_xorshift_Next [.int .u64 r's] = r :=
  func_of (key := 90) (L := LT0) (bs := []) (by kernel_rfl) tells_nil (Eq.trans (by kernel_rfl) h)
end Go.AM
set_option maxRecDepth 100000
namespace Go.AM
open Go.Proofs
noncomputable def f_slices_nextPowerOfTwo (C : CallF) (length : Int) : Option (List V) :=
  (C F_bits_Len [.int .u64 (IntKind.wrap .u64 length)]).bind fun r1 =>
  bif decide (0 ≤ ((V.nth r1 0).toInt)) then
   some [.int .u64 (IntKind.wrap .u64 (1 * 2 ^ (min ((V.nth r1 0).toInt).toNat (IntKind.bits .u64))))]
  else none
theorem f_slices_nextPowerOfTwo_of {length : Int} {r : Option (List V)} (h : f_slices_nextPowerOfTwo CC length = r) : CC F_slices_nextPowerOfTwo [.int .i64 length] = r :=
  func_of (key := 89) (L := LT0) (bs := []) (by kernel_rfl) tells_nil (Eq.trans (by kernel_rfl) h)
end Go.AM
set_option maxRecDepth 100000
namespace Go.AM
open Go.Proofs
noncomputable def f_bits_Len (C : CallF) (x : Int) : Option (List V) :=
  (C F_bits_Len64 [.int .u64 x]).bind fun r1 =>
  some [.int .i64 ((V.nth r1 0).toInt)]
theorem f_bits_Len_of {x : Int} {r : Option (List V)} (h : f_bits_Len CC x = r) : CC F_bits_Len [.int .u64 x] = r :=
  func_of (key := 64) (L := LT0) (bs := []) (by kernel_rfl) tells_nil (Eq.trans (by kernel_rfl) h)
end Go.AM
set_option maxRecDepth 100000
namespace Go.AM
open Go.Proofs
noncomputable abbrev B_bits_Len64 : Code := bodyOf Tryd.prog (ann.fid 83)
noncomputable def s_bits_Len64_1 (C : CallF) (x n : Int) (t4 : Bool) {β : Type} (kr : (Int × Int) → Option β) : Option β :=
  bif t4 then
   kr (Int.fdiv x (2 ^ (min (32 : Int).toNat (IntKind.bits .u64))), 32)
  else
   kr (x, n)
noncomputable def s_bits_Len64_2 (C : CallF) (x n : Int) (t8 : Bool) {β : Type} (kr : (Int × Int) → Option β) : Option β :=
  bif t8 then
   kr (Int.fdiv x (2 ^ (min (16 : Int).toNat (IntKind.bits .u64))), IntKind.wrap .i64 (n + 16))
  else
   kr (x, n)
noncomputable def LT_bits_Len64 (C : CallF) : LTab := fun β n ds k =>
  bif Nat.beq n 79 then condS S83_79 [[0, 0]] (@s_bits_Len64_1 C) ds k else
  bif Nat.beq n 143 then condS S83_143 [[0, 0]] (@s_bits_Len64_2 C) ds k else
  none
abbrev TS_bits_Len64 (C : CallF) (b : Bar) : Prop := Tells Tryd.prog ann C (LT_bits_Len64 C) 83 (ntmpsOf Tryd.prog (ann.fid 83)) (ann.sin 83).blks.length b
theorem t_bits_Len64_1 (C : CallF) : TS_bits_Len64 C (.cond 4 (codeAt [1, 0, 1, 0] B_bits_Len64) (codeAt [1, 0, 1, 1] B_bits_Len64)) :=
  tc3 S83_79 [[0, 0]] (@s_bits_Len64_1 C) (by kernel_rfl) (ltok_of (bs := []) (by kernel_rfl) tells_nil) (ltok_of (bs := []) (by kernel_rfl) tells_nil) (fun ds => by kernel_rfl) (fun i β k => by kernel_rfl) (fun β ds k => by kernel_rfl)
theorem t_bits_Len64_2 (C : CallF) : TS_bits_Len64 C (.cond 8 (codeAt [1, 1, 0, 1, 0] B_bits_Len64) (codeAt [1, 1, 0, 1, 1] B_bits_Len64)) :=
  tc3 S83_143 [[0, 0]] (@s_bits_Len64_2 C) (by kernel_rfl) (ltok_of (bs := []) (by kernel_rfl) tells_nil) (ltok_of (bs := []) (by kernel_rfl) tells_nil) (fun ds => by kernel_rfl) (fun i β k => by kernel_rfl) (fun β ds k => by kernel_rfl)
noncomputable def f_bits_Len64 (C : CallF) (x : Int) : Option (List V) :=
  s_bits_Len64_1 C x 0 (decide ((x : Int) ≥ 4294967296)) (un fun (x_1 : Int) (n_2 : Int) =>
    s_bits_Len64_2 C x_1 n_2 (decide ((x_1 : Int) ≥ 65536)) (un fun (x_3 : Int) (n_4 : Int) =>
      bif decide ((x_3 : Int) ≥ 256) then
       (bif decide (0 ≤ (IntKind.wrap .u8 (Int.fdiv x_3 (2 ^ (min (8 : Int).toNat (IntKind.bits .u64)))))) then (([0, 1, 2, 2, 3, 3, 3, 3, 4, 4, 4, 4, 4, 4, 4, 4, 5, 5, 5, 5, 5, 5, 5, 5, 5, 5, 5, 5, 5, 5, 5, 5, 6, 6, 6, 6, 6, 6, 6, 6, 6, 6, 6, 6, 6, 6, 6, 6, 6, 6, 6, 6, 6, 6, 6, 6, 6, 6, 6, 6, 6, 6, 6, 6, 7, 7, 7, 7, 7, 7, 7, 7, 7, 7, 7, 7, 7, 7, 7, 7, 7, 7, 7, 7, 7, 7, 7, 7, 7, 7, 7, 7, 7, 7, 7, 7, 7, 7, 7, 7, 7, 7, 7, 7, 7, 7, 7, 7, 7, 7, 7, 7, 7, 7, 7, 7, 7, 7, 7, 7, 7, 7, 7, 7, 7, 7, 7, 7, 8, 8, 8, 8, 8, 8, 8, 8, 8, 8, 8, 8, 8, 8, 8, 8, 8, 8, 8, 8, 8, 8, 8, 8, 8, 8, 8, 8, 8, 8, 8, 8, 8, 8, 8, 8, 8, 8, 8, 8, 8, 8, 8, 8, 8, 8, 8, 8, 8, 8, 8, 8, 8, 8, 8, 8, 8, 8, 8, 8, 8, 8, 8, 8, 8, 8, 8, 8, 8, 8, 8, 8, 8, 8, 8, 8, 8, 8, 8, 8, 8, 8, 8, 8, 8, 8, 8, 8, 8, 8, 8, 8, 8, 8, 8, 8, 8, 8, 8, 8, 8, 8, 8, 8, 8, 8, 8, 8, 8, 8, 8, 8, 8, 8, 8, 8, 8, 8, 8, 8, 8, 8, 8, 8, 8, 8, 8, 8] : List UInt8)[(IntKind.wrap .u8 (Int.fdiv x_3 (2 ^ (min (8 : Int).toNat (IntKind.bits .u64)))) : Int).toNat]?).map fun b => V.int .u8 b.toNat else none).bind fun x5 =>
       some [.int .i64 (IntKind.wrap .i64 ((IntKind.wrap .i64 (n_4 + 8)) + (IntKind.wrap .i64 x5.toInt)))]
      else
       (bif decide (0 ≤ (IntKind.wrap .u8 x_3)) then (([0, 1, 2, 2, 3, 3, 3, 3, 4, 4, 4, 4, 4, 4, 4, 4, 5, 5, 5, 5, 5, 5, 5, 5, 5, 5, 5, 5, 5, 5, 5, 5, 6, 6, 6, 6, 6, 6, 6, 6, 6, 6, 6, 6, 6, 6, 6, 6, 6, 6, 6, 6, 6, 6, 6, 6, 6, 6, 6, 6, 6, 6, 6, 6, 7, 7, 7, 7, 7, 7, 7, 7, 7, 7, 7, 7, 7, 7, 7, 7, 7, 7, 7, 7, 7, 7, 7, 7, 7, 7, 7, 7, 7, 7, 7, 7, 7, 7, 7, 7, 7, 7, 7, 7, 7, 7, 7, 7, 7, 7, 7, 7, 7, 7, 7, 7, 7, 7, 7, 7, 7, 7, 7, 7, 7, 7, 7, 7, 8, 8, 8, 8, 8, 8, 8, 8, 8, 8, 8, 8, 8, 8, 8, 8, 8, 8, 8, 8, 8, 8, 8, 8, 8, 8, 8, 8, 8, 8, 8, 8, 8, 8, 8, 8, 8, 8, 8, 8, 8, 8, 8, 8, 8, 8, 8, 8, 8, 8, 8, 8, 8, 8, 8, 8, 8, 8, 8, 8, 8, 8, 8, 8, 8, 8, 8, 8, 8, 8, 8, 8, 8, 8, 8, 8, 8, 8, 8, 8, 8, 8, 8, 8, 8, 8, 8, 8, 8, 8, 8, 8, 8, 8, 8, 8, 8, 8, 8, 8, 8, 8, 8, 8, 8, 8, 8, 8, 8, 8, 8, 8, 8, 8, 8, 8, 8, 8, 8, 8, 8, 8, 8, 8, 8, 8, 8, 8] : List UInt8)[(IntKind.wrap .u8 x_3 : Int).toNat]?).map fun b => V.int .u8 b.toNat else none).bind fun x6 =>
       some [.int .i64 (IntKind.wrap .i64 (n_4 + (IntKind.wrap .i64 x6.toInt)))]))
theorem f_bits_Len64_of {x : Int} {r : Option (List V)} (h : f_bits_Len64 CC x = r) : CC F_bits_Len64 [.int .u64 x] = r :=
  func_of (key := 83) (L := LT_bits_Len64 CC) (bs := [.cond 4 (codeAt [1, 0, 1, 0] B_bits_Len64) (codeAt [1, 0, 1, 1] B_bits_Len64), .cond 8 (codeAt [1, 1, 0, 1, 0] B_bits_Len64) (codeAt [1, 1, 0, 1, 1] B_bits_Len64)]) (by kernel_rfl) (tells_cons (t_bits_Len64_1 CC) (tells_cons (t_bits_Len64_2 CC) tells_nil)) (Eq.trans (by kernel_rfl) h)
end Go.AM
set_option maxRecDepth 100000
namespace Go.AM
open Go.Proofs
noncomputable abbrev B_slices_pdqsortCmpFunc_api_Edge_ : Code := bodyOf Tryd.prog (ann.fid 63)
noncomputable def s_slices_pdqsortCmpFunc_api_Edge__1 (C : CallF) (a b' limit : Int) (wasBalanced wasPartitioned : Bool) (length : Int) (t39 : Bool) (datas : List V) {β : Type} (kr : (Int × (List V)) → Option β) : Option β :=
  bif t39 then
   (C F_slices_breakPatternsCmpFunc_api_Edge_ [.int .i64 a, .int .i64 b', .list T_api_Edge datas]).bind fun r3 =>
   kr (IntKind.wrap .i64 (limit - 1), (V.nth r3 0).toList)
  else
   kr (limit, datas)
noncomputable def s_slices_pdqsortCmpFunc_api_Edge__2 (C : CallF) (a b' limit : Int) (wasBalanced wasPartitioned : Bool) (length pivot hint : Int) (t56 : Bool) (datas : List V) {β : Type} (kr : (Int × Int × (List V)) → Option β) : Option β :=
  bif t56 then
   (C F_slices_reverseRangeCmpFunc_api_Edge_ [.int .i64 a, .int .i64 b', .list T_api_Edge datas]).bind fun r7 =>
   kr (IntKind.wrap .i64 ((IntKind.wrap .i64 (b' - 1)) - (IntKind.wrap .i64 (pivot - a))), 1, (V.nth r7 0).toList)
  else
   kr (pivot, hint, datas)
noncomputable def s_slices_pdqsortCmpFunc_api_Edge__3 (C : CallF) (a b' limit : Int) (wasBalanced wasPartitioned : Bool) (length pivot : Int) (t75 : Bool) (datas : List V) {β : Type} (kr : ((List V) ⊕ (Bool × (List V))) → Option β) : Option β :=
  bif t75 then
   (C F_slices_partialInsertionSortCmpFunc_api_Edge_ [.int .i64 a, .int .i64 b', .list T_api_Edge datas]).bind fun r11 =>
   bif (V.nth r11 0).toBool then
    kr (.inr ((V.nth r11 0).toBool, (V.nth (r11.drop 1) 0).toList))
   else
    kr (.inl ((V.nth (r11.drop 1) 0).toList))
  else
   kr (.inl datas)
noncomputable def s_slices_pdqsortCmpFunc_api_Edge__4 (C : CallF) (a b' limit : Int) (wasBalanced wasPartitioned : Bool) (datas : List V) {β : Type} (kn : (Int × Int × Int × Bool × Bool × (List V)) → Option β) (kr : (List V) → Option β) : Option β :=
  bif decide (((IntKind.wrap .i64 (b' - a)) : Int) ≤ 12) then
   (C F_slices_insertionSortCmpFunc_api_Edge_ [.int .i64 a, .int .i64 b', .list T_api_Edge datas]).bind fun r1 =>
   kr ((V.nth r1 0).toList)
  else
   bif (limit : Int) == 0 then
    (C F_slices_heapSortCmpFunc_api_Edge_ [.int .i64 a, .int .i64 b', .list T_api_Edge datas]).bind fun r2 =>
    kr ((V.nth r2 0).toList)
   else
    s_slices_pdqsortCmpFunc_api_Edge__1 C a b' limit wasBalanced wasPartitioned (IntKind.wrap .i64 (b' - a)) (!wasBalanced) datas (un fun (limit_4 : Int) (datas_5 : List V) =>
      (C F_slices_choosePivotCmpFunc_api_Edge_ [.list T_api_Edge datas_5, .int .i64 a, .int .i64 b']).bind fun r6 =>
      s_slices_pdqsortCmpFunc_api_Edge__2 C a b' limit_4 wasBalanced wasPartitioned (IntKind.wrap .i64 (b' - a)) ((V.nth r6 0).toInt) ((V.nth (r6.drop 1) 0).toInt) ((((V.nth (r6.drop 1) 0).toInt) : Int) == 2) datas_5 (un fun (pivot_8 : Int) => un fun (hint_9 : Int) (datas_10 : List V) =>
        bif wasBalanced then
         bif wasPartitioned then
          s_slices_pdqsortCmpFunc_api_Edge__3 C a b' limit_4 wasBalanced wasPartitioned (IntKind.wrap .i64 (b' - a)) pivot_8 ((hint_9 : Int) == 1) datas_10 (way2 (fun (datas_12 : List V) =>
            bif decide ((a : Int) > 0) then
             bif (decide (0 ≤ (IntKind.wrap .i64 (a - 1)))) && (decide ((IntKind.wrap .i64 (a - 1)) < (datas_12.length : Int))) then
              (datas_12[(IntKind.wrap .i64 (a - 1) : Int).toNat]?).bind fun x13 =>
              bif (decide (0 ≤ pivot_8)) && (decide (pivot_8 < (datas_12.length : Int))) then
               (datas_12[(pivot_8 : Int).toNat]?).bind fun x14 =>
               (C F_nfa_compareEdges [.int .i64 ((x13.cell 0).toInt), .int .i64 ((x13.cell 1).toInt), .int .i64 ((x13.cell 2).toInt), .int .i64 ((x14.cell 0).toInt), .int .i64 ((x14.cell 1).toInt), .int .i64 ((x14.cell 2).toInt)]).bind fun r15 =>
               bif !(decide ((((V.nth r15 0).toInt) : Int) < 0)) then
                (C F_slices_partitionEqualCmpFunc_api_Edge_ [.int .i64 a, .int .i64 b', .int .i64 pivot_8, .list T_api_Edge datas_12]).bind fun r16 =>
                kn ((V.nth r16 0).toInt, b', limit_4, wasBalanced, wasPartitioned, (V.nth (r16.drop 1) 0).toList)
               else
                (C F_slices_partitionCmpFunc_api_Edge_ [.int .i64 a, .int .i64 b', .int .i64 pivot_8, .list T_api_Edge datas_12]).bind fun r17 =>
                bif decide (((IntKind.wrap .i64 (((V.nth r17 0).toInt) - a)) : Int) < (IntKind.wrap .i64 (b' - ((V.nth r17 0).toInt)))) then
                 (C F_slices_pdqsortCmpFunc_api_Edge_ [.int .i64 a, .int .i64 ((V.nth r17 0).toInt), .int .i64 limit_4, .list T_api_Edge ((V.nth (r17.drop 2) 0).toList)]).bind fun r18 =>
                 kn (IntKind.wrap .i64 (((V.nth r17 0).toInt) + 1), b', limit_4, decide (((IntKind.wrap .i64 (((V.nth r17 0).toInt) - a)) : Int) ≥ (IntKind.wrap .i64 (Int.tdiv (IntKind.wrap .i64 (b' - a)) 8))), (V.nth (r17.drop 1) 0).toBool, (V.nth r18 0).toList)
                else
                 (C F_slices_pdqsortCmpFunc_api_Edge_ [.int .i64 (IntKind.wrap .i64 (((V.nth r17 0).toInt) + 1)), .int .i64 b', .int .i64 limit_4, .list T_api_Edge ((V.nth (r17.drop 2) 0).toList)]).bind fun r19 =>
                 kn (a, (V.nth r17 0).toInt, limit_4, decide (((IntKind.wrap .i64 (b' - ((V.nth r17 0).toInt))) : Int) ≥ (IntKind.wrap .i64 (Int.tdiv (IntKind.wrap .i64 (b' - a)) 8))), (V.nth (r17.drop 1) 0).toBool, (V.nth r19 0).toList)
              else none
             else none
            else
             (C F_slices_partitionCmpFunc_api_Edge_ [.int .i64 a, .int .i64 b', .int .i64 pivot_8, .list T_api_Edge datas_12]).bind fun r20 =>
             bif decide (((IntKind.wrap .i64 (((V.nth r20 0).toInt) - a)) : Int) < (IntKind.wrap .i64 (b' - ((V.nth r20 0).toInt)))) then
              (C F_slices_pdqsortCmpFunc_api_Edge_ [.int .i64 a, .int .i64 ((V.nth r20 0).toInt), .int .i64 limit_4, .list T_api_Edge ((V.nth (r20.drop 2) 0).toList)]).bind fun r21 =>
              kn (IntKind.wrap .i64 (((V.nth r20 0).toInt) + 1), b', limit_4, decide (((IntKind.wrap .i64 (((V.nth r20 0).toInt) - a)) : Int) ≥ (IntKind.wrap .i64 (Int.tdiv (IntKind.wrap .i64 (b' - a)) 8))), (V.nth (r20.drop 1) 0).toBool, (V.nth r21 0).toList)
             else
              (C F_slices_pdqsortCmpFunc_api_Edge_ [.int .i64 (IntKind.wrap .i64 (((V.nth r20 0).toInt) + 1)), .int .i64 b', .int .i64 limit_4, .list T_api_Edge ((V.nth (r20.drop 2) 0).toList)]).bind fun r22 =>
              kn (a, (V.nth r20 0).toInt, limit_4, decide (((IntKind.wrap .i64 (b' - ((V.nth r20 0).toInt))) : Int) ≥ (IntKind.wrap .i64 (Int.tdiv (IntKind.wrap .i64 (b' - a)) 8))), (V.nth (r20.drop 1) 0).toBool, (V.nth r22 0).toList)) (un fun (t_23 : Bool) (datas_24 : List V) =>
            kr datas_24))
         else
          s_slices_pdqsortCmpFunc_api_Edge__3 C a b' limit_4 wasBalanced wasPartitioned (IntKind.wrap .i64 (b' - a)) pivot_8 false datas_10 (way2 (fun (datas_25 : List V) =>
            bif decide ((a : Int) > 0) then
             bif (decide (0 ≤ (IntKind.wrap .i64 (a - 1)))) && (decide ((IntKind.wrap .i64 (a - 1)) < (datas_25.length : Int))) then
              (datas_25[(IntKind.wrap .i64 (a - 1) : Int).toNat]?).bind fun x26 =>
              bif (decide (0 ≤ pivot_8)) && (decide (pivot_8 < (datas_25.length : Int))) then
               (datas_25[(pivot_8 : Int).toNat]?).bind fun x27 =>
               (C F_nfa_compareEdges [.int .i64 ((x26.cell 0).toInt), .int .i64 ((x26.cell 1).toInt), .int .i64 ((x26.cell 2).toInt), .int .i64 ((x27.cell 0).toInt), .int .i64 ((x27.cell 1).toInt), .int .i64 ((x27.cell 2).toInt)]).bind fun r28 =>
               bif !(decide ((((V.nth r28 0).toInt) : Int) < 0)) then
                (C F_slices_partitionEqualCmpFunc_api_Edge_ [.int .i64 a, .int .i64 b', .int .i64 pivot_8, .list T_api_Edge datas_25]).bind fun r29 =>
                kn ((V.nth r29 0).toInt, b', limit_4, wasBalanced, wasPartitioned, (V.nth (r29.drop 1) 0).toList)
               else
                (C F_slices_partitionCmpFunc_api_Edge_ [.int .i64 a, .int .i64 b', .int .i64 pivot_8, .list T_api_Edge datas_25]).bind fun r30 =>
                bif decide (((IntKind.wrap .i64 (((V.nth r30 0).toInt) - a)) : Int) < (IntKind.wrap .i64 (b' - ((V.nth r30 0).toInt)))) then
                 (C F_slices_pdqsortCmpFunc_api_Edge_ [.int .i64 a, .int .i64 ((V.nth r30 0).toInt), .int .i64 limit_4, .list T_api_Edge ((V.nth (r30.drop 2) 0).toList)]).bind fun r31 =>
                 kn (IntKind.wrap .i64 (((V.nth r30 0).toInt) + 1), b', limit_4, decide (((IntKind.wrap .i64 (((V.nth r30 0).toInt) - a)) : Int) ≥ (IntKind.wrap .i64 (Int.tdiv (IntKind.wrap .i64 (b' - a)) 8))), (V.nth (r30.drop 1) 0).toBool, (V.nth r31 0).toList)
                else
                 (C F_slices_pdqsortCmpFunc_api_Edge_ [.int .i64 (IntKind.wrap .i64 (((V.nth r30 0).toInt) + 1)), .int .i64 b', .int .i64 limit_4, .list T_api_Edge ((V.nth (r30.drop 2) 0).toList)]).bind fun r32 =>
                 kn (a, (V.nth r30 0).toInt, limit_4, decide (((IntKind.wrap .i64 (b' - ((V.nth r30 0).toInt))) : Int) ≥ (IntKind.wrap .i64 (Int.tdiv (IntKind.wrap .i64 (b' - a)) 8))), (V.nth (r30.drop 1) 0).toBool, (V.nth r32 0).toList)
              else none
             else none
            else
             (C F_slices_partitionCmpFunc_api_Edge_ [.int .i64 a, .int .i64 b', .int .i64 pivot_8, .list T_api_Edge datas_25]).bind fun r33 =>
             bif decide (((IntKind.wrap .i64 (((V.nth r33 0).toInt) - a)) : Int) < (IntKind.wrap .i64 (b' - ((V.nth r33 0).toInt)))) then
              (C F_slices_pdqsortCmpFunc_api_Edge_ [.int .i64 a, .int .i64 ((V.nth r33 0).toInt), .int .i64 limit_4, .list T_api_Edge ((V.nth (r33.drop 2) 0).toList)]).bind fun r34 =>
              kn (IntKind.wrap .i64 (((V.nth r33 0).toInt) + 1), b', limit_4, decide (((IntKind.wrap .i64 (((V.nth r33 0).toInt) - a)) : Int) ≥ (IntKind.wrap .i64 (Int.tdiv (IntKind.wrap .i64 (b' - a)) 8))), (V.nth (r33.drop 1) 0).toBool, (V.nth r34 0).toList)
             else
              (C F_slices_pdqsortCmpFunc_api_Edge_ [.int .i64 (IntKind.wrap .i64 (((V.nth r33 0).toInt) + 1)), .int .i64 b', .int .i64 limit_4, .list T_api_Edge ((V.nth (r33.drop 2) 0).toList)]).bind fun r35 =>
              kn (a, (V.nth r33 0).toInt, limit_4, decide (((IntKind.wrap .i64 (b' - ((V.nth r33 0).toInt))) : Int) ≥ (IntKind.wrap .i64 (Int.tdiv (IntKind.wrap .i64 (b' - a)) 8))), (V.nth (r33.drop 1) 0).toBool, (V.nth r35 0).toList)) (un fun (t_36 : Bool) (datas_37 : List V) =>
            kr datas_37))
        else
         s_slices_pdqsortCmpFunc_api_Edge__3 C a b' limit_4 wasBalanced wasPartitioned (IntKind.wrap .i64 (b' - a)) pivot_8 false datas_10 (way2 (fun (datas_38 : List V) =>
           bif decide ((a : Int) > 0) then
            bif (decide (0 ≤ (IntKind.wrap .i64 (a - 1)))) && (decide ((IntKind.wrap .i64 (a - 1)) < (datas_38.length : Int))) then
             (datas_38[(IntKind.wrap .i64 (a - 1) : Int).toNat]?).bind fun x39 =>
             bif (decide (0 ≤ pivot_8)) && (decide (pivot_8 < (datas_38.length : Int))) then
              (datas_38[(pivot_8 : Int).toNat]?).bind fun x40 =>
              (C F_nfa_compareEdges [.int .i64 ((x39.cell 0).toInt), .int .i64 ((x39.cell 1).toInt), .int .i64 ((x39.cell 2).toInt), .int .i64 ((x40.cell 0).toInt), .int .i64 ((x40.cell 1).toInt), .int .i64 ((x40.cell 2).toInt)]).bind fun r41 =>
              bif !(decide ((((V.nth r41 0).toInt) : Int) < 0)) then
               (C F_slices_partitionEqualCmpFunc_api_Edge_ [.int .i64 a, .int .i64 b', .int .i64 pivot_8, .list T_api_Edge datas_38]).bind fun r42 =>
               kn ((V.nth r42 0).toInt, b', limit_4, wasBalanced, wasPartitioned, (V.nth (r42.drop 1) 0).toList)
              else
               (C F_slices_partitionCmpFunc_api_Edge_ [.int .i64 a, .int .i64 b', .int .i64 pivot_8, .list T_api_Edge datas_38]).bind fun r43 =>
               bif decide (((IntKind.wrap .i64 (((V.nth r43 0).toInt) - a)) : Int) < (IntKind.wrap .i64 (b' - ((V.nth r43 0).toInt)))) then
                (C F_slices_pdqsortCmpFunc_api_Edge_ [.int .i64 a, .int .i64 ((V.nth r43 0).toInt), .int .i64 limit_4, .list T_api_Edge ((V.nth (r43.drop 2) 0).toList)]).bind fun r44 =>
                kn (IntKind.wrap .i64 (((V.nth r43 0).toInt) + 1), b', limit_4, decide (((IntKind.wrap .i64 (((V.nth r43 0).toInt) - a)) : Int) ≥ (IntKind.wrap .i64 (Int.tdiv (IntKind.wrap .i64 (b' - a)) 8))), (V.nth (r43.drop 1) 0).toBool, (V.nth r44 0).toList)
               else
                (C F_slices_pdqsortCmpFunc_api_Edge_ [.int .i64 (IntKind.wrap .i64 (((V.nth r43 0).toInt) + 1)), .int .i64 b', .int .i64 limit_4, .list T_api_Edge ((V.nth (r43.drop 2) 0).toList)]).bind fun r45 =>
                kn (a, (V.nth r43 0).toInt, limit_4, decide (((IntKind.wrap .i64 (b' - ((V.nth r43 0).toInt))) : Int) ≥ (IntKind.wrap .i64 (Int.tdiv (IntKind.wrap .i64 (b' - a)) 8))), (V.nth (r43.drop 1) 0).toBool, (V.nth r45 0).toList)
             else none
            else none
           else
            (C F_slices_partitionCmpFunc_api_Edge_ [.int .i64 a, .int .i64 b', .int .i64 pivot_8, .list T_api_Edge datas_38]).bind fun r46 =>
            bif decide (((IntKind.wrap .i64 (((V.nth r46 0).toInt) - a)) : Int) < (IntKind.wrap .i64 (b' - ((V.nth r46 0).toInt)))) then
             (C F_slices_pdqsortCmpFunc_api_Edge_ [.int .i64 a, .int .i64 ((V.nth r46 0).toInt), .int .i64 limit_4, .list T_api_Edge ((V.nth (r46.drop 2) 0).toList)]).bind fun r47 =>
             kn (IntKind.wrap .i64 (((V.nth r46 0).toInt) + 1), b', limit_4, decide (((IntKind.wrap .i64 (((V.nth r46 0).toInt) - a)) : Int) ≥ (IntKind.wrap .i64 (Int.tdiv (IntKind.wrap .i64 (b' - a)) 8))), (V.nth (r46.drop 1) 0).toBool, (V.nth r47 0).toList)
            else
             (C F_slices_pdqsortCmpFunc_api_Edge_ [.int .i64 (IntKind.wrap .i64 (((V.nth r46 0).toInt) + 1)), .int .i64 b', .int .i64 limit_4, .list T_api_Edge ((V.nth (r46.drop 2) 0).toList)]).bind fun r48 =>
             kn (a, (V.nth r46 0).toInt, limit_4, decide (((IntKind.wrap .i64 (b' - ((V.nth r46 0).toInt))) : Int) ≥ (IntKind.wrap .i64 (Int.tdiv (IntKind.wrap .i64 (b' - a)) 8))), (V.nth (r46.drop 1) 0).toBool, (V.nth r48 0).toList)) (un fun (t_49 : Bool) (datas_50 : List V) =>
           kr datas_50))))
noncomputable def s_slices_pdqsortCmpFunc_api_Edge__4L (C : CallF) : (Int × Int × Int × Bool × Bool × (List V)) → Option ((Int × Int × Int × Bool × Bool × (List V)) ⊕ (List V)) := un fun a => un fun b' => un fun limit => un fun wasBalanced => un fun wasPartitioned datas => s_slices_pdqsortCmpFunc_api_Edge__4 C a b' limit wasBalanced wasPartitioned datas (fun y => some (.inl y)) (fun r => some (.inr r))
noncomputable def LT_slices_pdqsortCmpFunc_api_Edge_ (C : CallF) : LTab := fun β n ds k =>
  bif Nat.beq n 639 then condS S63_639 [[1, 2, 0, 4, 5, 6, 0]] (@s_slices_pdqsortCmpFunc_api_Edge__1 C) ds k else
  bif Nat.beq n 911 then condS S63_911 [[1, 2, 3, 4, 5, 6, 0, 0, 0]] (@s_slices_pdqsortCmpFunc_api_Edge__2 C) ds k else
  bif Nat.beq n 1215 then condS S63_1215 [[1, 2, 3, 4, 5, 6, 7, 0], [1, 2, 3, 4, 5, 6, 7, 0, 0]] (@s_slices_pdqsortCmpFunc_api_Edge__3 C) ds k else
  bif Nat.beq n 33 then loopS S63_33 [true, true, true, true, true, true] [[0]] (@s_slices_pdqsortCmpFunc_api_Edge__4 C) ds k else
  none
abbrev TS_slices_pdqsortCmpFunc_api_Edge_ (C : CallF) (b : Bar) : Prop := Tells Tryd.prog ann C (LT_slices_pdqsortCmpFunc_api_Edge_ C) 63 (ntmpsOf Tryd.prog (ann.fid 63)) (ann.sin 63).blks.length b
theorem t_slices_pdqsortCmpFunc_api_Edge__1 (C : CallF) : TS_slices_pdqsortCmpFunc_api_Edge_ C (.cond 39 (codeAt [1, 1, 0, 0, 0, 1, 1, 1, 0, 1, 0] B_slices_pdqsortCmpFunc_api_Edge_) (codeAt [1, 1, 0, 0, 0, 1, 1, 1, 0, 1, 1] B_slices_pdqsortCmpFunc_api_Edge_)) :=
  tc3 S63_639 [[1, 2, 0, 4, 5, 6, 0]] (@s_slices_pdqsortCmpFunc_api_Edge__1 C) (by kernel_rfl) (ltok_of (bs := []) (by kernel_rfl) tells_nil) (ltok_of (bs := []) (by kernel_rfl) tells_nil) (fun ds => by kernel_rfl) (fun i β k => by kernel_rfl) (fun β ds k => by kernel_rfl)
theorem t_slices_pdqsortCmpFunc_api_Edge__2 (C : CallF) : TS_slices_pdqsortCmpFunc_api_Edge_ C (.cond 56 (codeAt [1, 1, 0, 0, 0, 1, 1, 1, 1, 1, 0, 1, 0] B_slices_pdqsortCmpFunc_api_Edge_) (codeAt [1, 1, 0, 0, 0, 1, 1, 1, 1, 1, 0, 1, 1] B_slices_pdqsortCmpFunc_api_Edge_)) :=
  tc3 S63_911 [[1, 2, 3, 4, 5, 6, 0, 0, 0]] (@s_slices_pdqsortCmpFunc_api_Edge__2 C) (by kernel_rfl) (ltok_of (bs := []) (by kernel_rfl) tells_nil) (ltok_of (bs := []) (by kernel_rfl) tells_nil) (fun ds => by kernel_rfl) (fun i β k => by kernel_rfl) (fun β ds k => by kernel_rfl)
theorem t_slices_pdqsortCmpFunc_api_Edge__3 (C : CallF) : TS_slices_pdqsortCmpFunc_api_Edge_ C (.cond 75 (codeAt [1, 1, 0, 0, 0, 1, 1, 1, 1, 1, 1, 0, 1, 0] B_slices_pdqsortCmpFunc_api_Edge_) (codeAt [1, 1, 0, 0, 0, 1, 1, 1, 1, 1, 1, 0, 1, 1] B_slices_pdqsortCmpFunc_api_Edge_)) :=
  tc3 S63_1215 [[1, 2, 3, 4, 5, 6, 7, 0], [1, 2, 3, 4, 5, 6, 7, 0, 0]] (@s_slices_pdqsortCmpFunc_api_Edge__3 C) (by kernel_rfl) (ltok_of (bs := []) (by kernel_rfl) tells_nil) (ltok_of (bs := []) (by kernel_rfl) tells_nil) (fun ds => by kernel_rfl) (fun i β k => by kernel_rfl) (fun β ds k => by kernel_rfl)
theorem t_slices_pdqsortCmpFunc_api_Edge__4 (C : CallF) : TS_slices_pdqsortCmpFunc_api_Edge_ C (.loop (codeAt [1, 1, 0, 0] B_slices_pdqsortCmpFunc_api_Edge_)) :=
  tl3 S63_33 [true, true, true, true, true, true] [[0]] (@s_slices_pdqsortCmpFunc_api_Edge__4 C) (by kernel_rfl) (ltok_of (bs := [.cond 39 (codeAt [1, 1, 0, 0, 0, 1, 1, 1, 0, 1, 0] B_slices_pdqsortCmpFunc_api_Edge_) (codeAt [1, 1, 0, 0, 0, 1, 1, 1, 0, 1, 1] B_slices_pdqsortCmpFunc_api_Edge_), .cond 56 (codeAt [1, 1, 0, 0, 0, 1, 1, 1, 1, 1, 0, 1, 0] B_slices_pdqsortCmpFunc_api_Edge_) (codeAt [1, 1, 0, 0, 0, 1, 1, 1, 1, 1, 0, 1, 1] B_slices_pdqsortCmpFunc_api_Edge_), .cond 75 (codeAt [1, 1, 0, 0, 0, 1, 1, 1, 1, 1, 1, 0, 1, 0] B_slices_pdqsortCmpFunc_api_Edge_) (codeAt [1, 1, 0, 0, 0, 1, 1, 1, 1, 1, 1, 0, 1, 1] B_slices_pdqsortCmpFunc_api_Edge_)]) (by kernel_rfl) (tells_cons (t_slices_pdqsortCmpFunc_api_Edge__1 C) (tells_cons (t_slices_pdqsortCmpFunc_api_Edge__2 C) (tells_cons (t_slices_pdqsortCmpFunc_api_Edge__3 C) tells_nil)))) (fun ds => by kernel_rfl) (fun i x => by kernel_rfl) (fun i x β k => by kernel_rfl) (fun β ds k => by kernel_rfl)
noncomputable def f_slices_pdqsortCmpFunc_api_Edge_ (C : CallF) (a b' limit : Int) (datas : List V) : Option (List V) :=
  (Loop (s_slices_pdqsortCmpFunc_api_Edge__4L C) (a, b', limit, true, true, datas)).bind (fun (b_51 : List V) =>
    some [.list T_api_Edge b_51])
theorem f_slices_pdqsortCmpFunc_api_Edge__of {a b' limit : Int} {datas : List V} {r : Option (List V)} (h : f_slices_pdqsortCmpFunc_api_Edge_ CC a b' limit datas = r) : CC F_slices_pdqsortCmpFunc_api_Edge_ [.int .i64 a, .int .i64 b', .int .i64 limit, .list T_api_Edge datas] = r :=
  func_of (key := 63) (L := LT_slices_pdqsortCmpFunc_api_Edge_ CC) (bs := [.loop (codeAt [1, 1, 0, 0] B_slices_pdqsortCmpFunc_api_Edge_)]) (by kernel_rfl) (tells_cons (t_slices_pdqsortCmpFunc_api_Edge__4 CC) tells_nil) (Eq.trans (by kernel_rfl) h)
end Go.AM
set_option maxRecDepth 100000
namespace Go.AM
open Go.Proofs
noncomputable def f_slices_SortFunc___api_Edge_api_Edge_ (C : CallF) (xs : List V) : Option (List V) :=
  (C F_bits_Len [.int .u64 (IntKind.wrap .u64 (xs.length : Int))]).bind fun r1 =>
  (C F_slices_pdqsortCmpFunc_api_Edge_ [.int .i64 0, .int .i64 (xs.length : Int), .int .i64 ((V.nth r1 0).toInt), .list T_api_Edge xs]).bind fun r2 =>
  some [.list T_api_Edge ((V.nth r2 0).toList)]
theorem f_slices_SortFunc___api_Edge_api_Edge__of {xs : List V} {r : Option (List V)} (h : f_slices_SortFunc___api_Edge_api_Edge_ CC xs = r) : CC F_slices_SortFunc___api_Edge_api_Edge_ [.list T_api_Edge xs] = r :=
  func_of (key := 44) (L := LT0) (bs := []) (by kernel_rfl) tells_nil (Eq.trans (by kernel_rfl) h)
end Go.AM
set_option maxRecDepth 100000
set_option linter.unusedSimpArgs false
set_option maxHeartbeats 4000000
namespace Go.AM
open Go.Proofs Go.Sort
theorem ltE_eq (a b : Ed) : (ltE a b = true) = (a.lt b) := by rw [ltE_i, propext (cmpE_neg a b)]
theorem ltE_eqf (a b : Ed) : (ltE a b = false) = ¬ (a.lt b) := by rw [← ltE_eq]; simp
theorem swo_E : SWO ltE where
  irrefl x := by rw [ltE_eqf]; unfold Ed.lt; omega
  trans x y z := by simp only [ltE_eq]; unfold Ed.lt; omega
  ntrans x y z := by simp only [ltE_eqf]; unfold Ed.lt; omega
def lenTab : List UInt8 := ([0, 1, 2, 2, 3, 3, 3, 3, 4, 4, 4, 4, 4, 4, 4, 4, 5, 5, 5, 5, 5, 5, 5, 5, 5, 5, 5, 5, 5, 5, 5, 5, 6, 6, 6, 6, 6, 6, 6, 6, 6, 6, 6, 6, 6, 6, 6, 6, 6, 6, 6, 6, 6, 6, 6, 6, 6, 6, 6, 6, 6, 6, 6, 6, 7, 7, 7, 7, 7, 7, 7, 7, 7, 7, 7, 7, 7, 7, 7, 7, 7, 7, 7, 7, 7, 7, 7, 7, 7, 7, 7, 7, 7, 7, 7, 7, 7, 7, 7, 7, 7, 7, 7, 7, 7, 7, 7, 7, 7, 7, 7, 7, 7, 7, 7, 7, 7, 7, 7, 7, 7, 7, 7, 7, 7, 7, 7, 7, 8, 8, 8, 8, 8, 8, 8, 8, 8, 8, 8, 8, 8, 8, 8, 8, 8, 8, 8, 8, 8, 8, 8, 8, 8, 8, 8, 8, 8, 8, 8, 8, 8, 8, 8, 8, 8, 8, 8, 8, 8, 8, 8, 8, 8, 8, 8, 8, 8, 8, 8, 8, 8, 8, 8, 8, 8, 8, 8, 8, 8, 8, 8, 8, 8, 8, 8, 8, 8, 8, 8, 8, 8, 8, 8, 8, 8, 8, 8, 8, 8, 8, 8, 8, 8, 8, 8, 8, 8, 8, 8, 8, 8, 8, 8, 8, 8, 8, 8, 8, 8, 8, 8, 8, 8, 8, 8, 8, 8, 8, 8, 8, 8, 8, 8, 8, 8, 8, 8, 8, 8, 8, 8, 8, 8, 8, 8, 8] : List UInt8)
theorem lenTab_ok : (List.range 256).all (fun y => match lenTab[y]? with | some b => decide (b.toNat ≤ 8) && (Nat.beq y 0 || (decide (1 ≤ b.toNat) && decide (2 ^ (b.toNat - 1) ≤ y))) | none => false) = true := by decide +kernel
theorem lenTab_get {y : Nat} (h : y < 256) : ∃ b, lenTab[y]? = some b ∧ b.toNat ≤ 8 ∧ (0 < y → 1 ≤ b.toNat ∧ 2 ^ (b.toNat - 1) ≤ y) := by
  have := List.all_eq_true.1 lenTab_ok y (List.mem_range.2 h)
  cases hb : lenTab[y]? with
  | none => rw [hb] at this; cases this
  | some b =>
    rw [hb] at this
    simp only [Bool.and_eq_true, Bool.or_eq_true, decide_eq_true_eq] at this
    refine ⟨b, rfl, this.1, fun hy => ?_⟩
    rcases this.2 with h2 | h2
    · have := Nat.eq_of_beq_eq_true h2; omega
    · exact h2
theorem pow_shift {y t k : Nat} (h : 2 ^ (t - 1) ≤ y / 2 ^ k) (ht : 1 ≤ t) : 2 ^ (t + k - 1) ≤ y := by
  have e : t + k - 1 = (t - 1) + k := by omega
  rw [e, Nat.pow_add]
  exact Nat.le_trans (Nat.mul_le_mul_right _ h) (Nat.div_mul_le_self _ _)
noncomputable def lenLast (y n : Int) : Option (List V) :=
(bif decide ((y : Int) ≥ 256) then
       (bif decide (0 ≤ (IntKind.wrap .u8 (Int.fdiv y (2 ^ (min (8 : Int).toNat (IntKind.bits .u64)))))) then (([0, 1, 2, 2, 3, 3, 3, 3, 4, 4, 4, 4, 4, 4, 4, 4, 5, 5, 5, 5, 5, 5, 5, 5, 5, 5, 5, 5, 5, 5, 5, 5, 6, 6, 6, 6, 6, 6, 6, 6, 6, 6, 6, 6, 6, 6, 6, 6, 6, 6, 6, 6, 6, 6, 6, 6, 6, 6, 6, 6, 6, 6, 6, 6, 7, 7, 7, 7, 7, 7, 7, 7, 7, 7, 7, 7, 7, 7, 7, 7, 7, 7, 7, 7, 7, 7, 7, 7, 7, 7, 7, 7, 7, 7, 7, 7, 7, 7, 7, 7, 7, 7, 7, 7, 7, 7, 7, 7, 7, 7, 7, 7, 7, 7, 7, 7, 7, 7, 7, 7, 7, 7, 7, 7, 7, 7, 7, 7, 8, 8, 8, 8, 8, 8, 8, 8, 8, 8, 8, 8, 8, 8, 8, 8, 8, 8, 8, 8, 8, 8, 8, 8, 8, 8, 8, 8, 8, 8, 8, 8, 8, 8, 8, 8, 8, 8, 8, 8, 8, 8, 8, 8, 8, 8, 8, 8, 8, 8, 8, 8, 8, 8, 8, 8, 8, 8, 8, 8, 8, 8, 8, 8, 8, 8, 8, 8, 8, 8, 8, 8, 8, 8, 8, 8, 8, 8, 8, 8, 8, 8, 8, 8, 8, 8, 8, 8, 8, 8, 8, 8, 8, 8, 8, 8, 8, 8, 8, 8, 8, 8, 8, 8, 8, 8, 8, 8, 8, 8, 8, 8, 8, 8, 8, 8, 8, 8, 8, 8, 8, 8, 8, 8, 8, 8, 8, 8] : List UInt8)[(IntKind.wrap .u8 (Int.fdiv y (2 ^ (min (8 : Int).toNat (IntKind.bits .u64)))) : Int).toNat]?).map fun b => V.int .u8 b.toNat else none).bind fun x5 =>
       some [V.int .i64 (IntKind.wrap .i64 ((IntKind.wrap .i64 (n + 8)) + (IntKind.wrap .i64 x5.toInt)))]
      else
       (bif decide (0 ≤ (IntKind.wrap .u8 y)) then (([0, 1, 2, 2, 3, 3, 3, 3, 4, 4, 4, 4, 4, 4, 4, 4, 5, 5, 5, 5, 5, 5, 5, 5, 5, 5, 5, 5, 5, 5, 5, 5, 6, 6, 6, 6, 6, 6, 6, 6, 6, 6, 6, 6, 6, 6, 6, 6, 6, 6, 6, 6, 6, 6, 6, 6, 6, 6, 6, 6, 6, 6, 6, 6, 7, 7, 7, 7, 7, 7, 7, 7, 7, 7, 7, 7, 7, 7, 7, 7, 7, 7, 7, 7, 7, 7, 7, 7, 7, 7, 7, 7, 7, 7, 7, 7, 7, 7, 7, 7, 7, 7, 7, 7, 7, 7, 7, 7, 7, 7, 7, 7, 7, 7, 7, 7, 7, 7, 7, 7, 7, 7, 7, 7, 7, 7, 7, 7, 8, 8, 8, 8, 8, 8, 8, 8, 8, 8, 8, 8, 8, 8, 8, 8, 8, 8, 8, 8, 8, 8, 8, 8, 8, 8, 8, 8, 8, 8, 8, 8, 8, 8, 8, 8, 8, 8, 8, 8, 8, 8, 8, 8, 8, 8, 8, 8, 8, 8, 8, 8, 8, 8, 8, 8, 8, 8, 8, 8, 8, 8, 8, 8, 8, 8, 8, 8, 8, 8, 8, 8, 8, 8, 8, 8, 8, 8, 8, 8, 8, 8, 8, 8, 8, 8, 8, 8, 8, 8, 8, 8, 8, 8, 8, 8, 8, 8, 8, 8, 8, 8, 8, 8, 8, 8, 8, 8, 8, 8, 8, 8, 8, 8, 8, 8, 8, 8, 8, 8, 8, 8, 8, 8, 8, 8, 8, 8] : List UInt8)[(IntKind.wrap .u8 y : Int).toNat]?).map fun b => V.int .u8 b.toNat else none).bind fun x6 =>
       some [V.int .i64 (IntKind.wrap .i64 (n + (IntKind.wrap .i64 x6.toInt)))])
theorem Len64_spec {x : Nat} (h : x < 2 ^ 64) : ∃ L : Nat, CC F_bits_Len64 [.int .u64 (x : Int)] = some [.int .i64 (L : Int)] ∧ L ≤ 64 ∧ (0 < x → 1 ≤ L ∧ 2 ^ (L - 1) ≤ x) := by
  have last : ∀ y n : Nat, y < 65536 → n ≤ 48 → ∃ t : Nat,
      lenLast (y : Int) (n : Int) = some [V.int .i64 ((n + t : Nat) : Int)] ∧ t ≤ 16 ∧ (0 < y → 1 ≤ t ∧ 2 ^ (t - 1) ≤ y) := by
    intro y n hy hn
    unfold lenLast
    rw [show ([0, 1, 2, 2, 3, 3, 3, 3, 4, 4, 4, 4, 4, 4, 4, 4, 5, 5, 5, 5, 5, 5, 5, 5, 5, 5, 5, 5, 5, 5, 5, 5, 6, 6, 6, 6, 6, 6, 6, 6, 6, 6, 6, 6, 6, 6, 6, 6, 6, 6, 6, 6, 6, 6, 6, 6, 6, 6, 6, 6, 6, 6, 6, 6, 7, 7, 7, 7, 7, 7, 7, 7, 7, 7, 7, 7, 7, 7, 7, 7, 7, 7, 7, 7, 7, 7, 7, 7, 7, 7, 7, 7, 7, 7, 7, 7, 7, 7, 7, 7, 7, 7, 7, 7, 7, 7, 7, 7, 7, 7, 7, 7, 7, 7, 7, 7, 7, 7, 7, 7, 7, 7, 7, 7, 7, 7, 7, 7, 8, 8, 8, 8, 8, 8, 8, 8, 8, 8, 8, 8, 8, 8, 8, 8, 8, 8, 8, 8, 8, 8, 8, 8, 8, 8, 8, 8, 8, 8, 8, 8, 8, 8, 8, 8, 8, 8, 8, 8, 8, 8, 8, 8, 8, 8, 8, 8, 8, 8, 8, 8, 8, 8, 8, 8, 8, 8, 8, 8, 8, 8, 8, 8, 8, 8, 8, 8, 8, 8, 8, 8, 8, 8, 8, 8, 8, 8, 8, 8, 8, 8, 8, 8, 8, 8, 8, 8, 8, 8, 8, 8, 8, 8, 8, 8, 8, 8, 8, 8, 8, 8, 8, 8, 8, 8, 8, 8, 8, 8, 8, 8, 8, 8, 8, 8, 8, 8, 8, 8, 8, 8, 8, 8, 8, 8, 8, 8] : List UInt8) = lenTab from rfl]
    by_cases h1 : y ≥ 256
    · have e : Int.fdiv (y : Int) (2 ^ (min (8 : Int).toNat (IntKind.bits .u64))) = ((y / 2 ^ 8 : Nat) : Int) := u64_shr (m := 8) (by omega)
      obtain ⟨b, hb, b1, b2⟩ := lenTab_get (y := y / 2 ^ 8) (by omega)
      refine ⟨b.toNat + 8, ?_, by omega, fun _ => ?_⟩
      · rw [e, bif_decide, if_pos (by omega), wrap8 (by omega) (by omega), bif_decide, if_pos (by omega), Int.toNat_natCast, hb]
        simp only [Option.map_some, Option.bind_some, V.toInt_int]
        simp (disch := omega) only [wrap64]
        congr 3
        omega
      · obtain ⟨b3, b4⟩ := b2 (by omega)
        exact ⟨by omega, pow_shift b4 b3⟩
    · obtain ⟨b, hb, b1, b2⟩ := lenTab_get (y := y) (by omega)
      refine ⟨b.toNat, ?_, by omega, b2⟩
      rw [bif_decide, if_neg (by omega), wrap8 (by omega) (by omega), bif_decide, if_pos (by omega), Int.toNat_natCast, hb]
      simp (disch := omega) only [Option.map_some, Option.bind_some, V.toInt_int, wrap64]
      congr 3
  have mid : ∀ y n : Nat, y < 4294967296 → n ≤ 32 → ∃ t : Nat, ∀ F : Int → Int → Option (List V),
      (∀ y n : Nat, y < 65536 → n ≤ 48 → ∃ t : Nat, F (y : Int) (n : Int) = some [V.int .i64 ((n + t : Nat) : Int)] ∧ t ≤ 16 ∧ (0 < y → 1 ≤ t ∧ 2 ^ (t - 1) ≤ y)) →
      ∃ t : Nat, s_bits_Len64_2 CC (y : Int) (n : Int) (decide (((y : Int) : Int) ≥ 65536)) (un F) = some [V.int .i64 ((n + t : Nat) : Int)] ∧ t ≤ 32 ∧ (0 < y → 1 ≤ t ∧ 2 ^ (t - 1) ≤ y) := by
    intro y n hy hn
    refine ⟨0, fun F hF => ?_⟩
    unfold s_bits_Len64_2
    by_cases h1 : y ≥ 65536
    · have e : Int.fdiv (y : Int) (2 ^ (min (16 : Int).toNat (IntKind.bits .u64))) = ((y / 2 ^ 16 : Nat) : Int) := u64_shr (m := 16) (by omega)
      rw [bif_decide, if_pos (by omega), e, wrap64 (by omega) (by omega)]
      obtain ⟨t, h2, h3, h4⟩ := hF (y / 2 ^ 16) (n + 16) (by omega) (by omega)
      refine ⟨t + 16, ?_, by omega, fun _ => ?_⟩
      · rw [show ((n : Int) + 16) = ((n + 16 : Nat) : Int) by omega]
        simp only [un]
        rw [h2]
        congr 3
        omega
      · obtain ⟨b3, b4⟩ := h4 (by omega)
        exact ⟨by omega, pow_shift b4 b3⟩
    · rw [bif_decide, if_neg (by omega)]
      obtain ⟨t, h2, h3, h4⟩ := hF y n (by omega) (by omega)
      exact ⟨t, h2, by omega, h4⟩
  by_cases h1 : x ≥ 4294967296
  · have e : Int.fdiv (x : Int) (2 ^ (min (32 : Int).toNat (IntKind.bits .u64))) = ((x / 2 ^ 32 : Nat) : Int) := u64_shr (m := 32) (by omega)
    obtain ⟨_, hm⟩ := mid (x / 2 ^ 32) 32 (by omega) (by omega)
    obtain ⟨t, h2, h3, h4⟩ := hm lenLast last
    refine ⟨32 + t, f_bits_Len64_of ?_, by omega, fun _ => ?_⟩
    · show s_bits_Len64_1 CC (x : Int) 0 (decide (((x : Int) : Int) ≥ 4294967296)) (un fun (x_1 : Int) (n_2 : Int) => s_bits_Len64_2 CC x_1 n_2 (decide ((x_1 : Int) ≥ 65536)) (un lenLast)) = _
      unfold s_bits_Len64_1
      rw [bif_decide, if_pos (by omega), e]
      exact h2
    · obtain ⟨b3, b4⟩ := h4 (by omega)
      rw [Nat.add_comm 32 t]
      exact ⟨by omega, pow_shift b4 b3⟩
  · obtain ⟨_, hm⟩ := mid x 0 (by omega) (by omega)
    obtain ⟨t, h2, h3, h4⟩ := hm lenLast last
    refine ⟨t, f_bits_Len64_of ?_, by omega, h4⟩
    show s_bits_Len64_1 CC (x : Int) 0 (decide (((x : Int) : Int) ≥ 4294967296)) (un fun (x_1 : Int) (n_2 : Int) => s_bits_Len64_2 CC x_1 n_2 (decide ((x_1 : Int) ≥ 65536)) (un lenLast)) = _
    unfold s_bits_Len64_1
    rw [bif_decide, if_neg (by omega)]
    rw [Nat.zero_add] at h2
    exact h2
theorem Len_spec {x : Nat} (h : x < 2 ^ 64) : ∃ L : Nat, CC F_bits_Len [.int .u64 (x : Int)] = some [.int .i64 (L : Int)] ∧ L ≤ 64 ∧ (0 < x → 1 ≤ L ∧ 2 ^ (L - 1) ≤ x) := by
  obtain ⟨L, h1, h2⟩ := Len64_spec h
  refine ⟨L, f_bits_Len_of ?_, h2⟩
  unfold f_bits_Len
  rw [h1]
  rfl
theorem nextPow_spec {x : Nat} (h0 : 0 < x) (h : x < 1152921504606846976) : ∃ M : Nat, CC F_slices_nextPowerOfTwo [.int .i64 (x : Int)] = some [.int .u64 (M : Int)] ∧ 1 ≤ M ∧ M ≤ 2 * x := by
  obtain ⟨L, h1, h2, h3⟩ := Len_spec (x := x) (by omega)
  obtain ⟨h4, h5⟩ := h3 h0
  have e : 2 ^ L = 2 * 2 ^ (L - 1) := by
    obtain ⟨k, rfl⟩ : ∃ k, L = k + 1 := ⟨L - 1, by omega⟩
    rw [Nat.pow_succ]; simp only [Nat.add_sub_cancel]; omega
  have hL : L < 64 := by
    by_cases hx : L < 64
    · exact hx
    · have : 2 ^ 63 ≤ 2 ^ (L - 1) := Nat.pow_le_pow_right (by omega) (by omega)
      omega
  refine ⟨2 ^ L, f_slices_nextPowerOfTwo_of ?_, Nat.pos_of_ne_zero (by simp), by omega⟩
  unfold f_slices_nextPowerOfTwo
  rw [wrapu64 (A := x) (by omega), h1]
  simp only [Option.bind_some, V.nth_zero, V.toInt_int]
  rw [bif_decide, if_pos (by omega), Int.toNat_natCast, u64_bit hL]
theorem Next_spec (r : Int) : ∃ R : Nat, CC F_slices_xorshift_Next [.int .u64 r] = some [.int .u64 (R : Int), .int .u64 (R : Int)] ∧ R < 2 ^ 64 := by
  have h : ∀ n : Int, ∃ R : Nat, IntKind.wrap .u64 n = (R : Int) ∧ R < 2 ^ 64 := fun n => ⟨(IntKind.wrap .u64 n).toNat, by rw [wrap_u64]; omega, by rw [wrap_u64]; omega⟩
  obtain ⟨R, h1, h2⟩ := h _
  exact ⟨R, f_slices_xorshift_Next_of (by unfold f_slices_xorshift_Next; rw [h1]), h2⟩
theorem idx_eA {d : Array Ed} {i : Nat} (h : i < d.size) : idx (eA d) (i : Int) = some (d[i]!).enc := by rw [idx_nat, encA_get h]
theorem order2_spec {d : Array Ed} {a b : Nat} {s : Int} (ha : a < d.size) (hb : b < d.size) : ∃ (x y : Nat) (s' : Int), CC F_slices_order2CmpFunc_api_Edge_ [.list T_api_Edge (eA d), .int .i64 (a : Int), .int .i64 (b : Int), .int .i64 s] = some [.int .i64 (x : Int), .int .i64 (y : Int), .int .i64 s'] ∧ (x = a ∧ y = b ∨ x = b ∧ y = a) := by
  by_cases h : cmpE d[b]! d[a]! < 0
  · refine ⟨b, a, _, f_slices_order2CmpFunc_api_Edge__of (by unfold f_slices_order2CmpFunc_api_Edge_; rw [idx_eA hb, idx_eA ha]; simp only [Option.bind_some, Ed.enc_0, Ed.enc_1, Ed.enc_2, compareEdges_spec, V.nth_zero, V.toInt_int]; rw [bif_decide, if_pos h]), .inr ⟨rfl, rfl⟩⟩
  · refine ⟨a, b, _, f_slices_order2CmpFunc_api_Edge__of (by unfold f_slices_order2CmpFunc_api_Edge_; rw [idx_eA hb, idx_eA ha]; simp only [Option.bind_some, Ed.enc_0, Ed.enc_1, Ed.enc_2, compareEdges_spec, V.nth_zero, V.toInt_int]; rw [bif_decide, if_neg h]), .inl ⟨rfl, rfl⟩⟩
theorem median_spec {d : Array Ed} {a b c : Nat} {s : Int} (ha : a < d.size) (hb : b < d.size) (hc : c < d.size) : ∃ (m : Nat) (s' : Int), CC F_slices_medianCmpFunc_api_Edge_ [.list T_api_Edge (eA d), .int .i64 (a : Int), .int .i64 (b : Int), .int .i64 (c : Int), .int .i64 s] = some [.int .i64 (m : Int), .int .i64 s'] ∧ (m = a ∨ m = b ∨ m = c) := by
  obtain ⟨x1, y1, s1, e1, o1⟩ := order2_spec (s := s) ha hb
  obtain ⟨x2, y2, s2, e2, o2⟩ := order2_spec (d := d) (a := y1) (b := c) (s := s1) (by omega) hc
  obtain ⟨x3, y3, s3, e3, o3⟩ := order2_spec (d := d) (a := x1) (b := x2) (s := s2) (by omega) (by omega)
  refine ⟨y3, s3, f_slices_medianCmpFunc_api_Edge__of ?_, by omega⟩
  unfold f_slices_medianCmpFunc_api_Edge_
  rw [e1]
  simp only [Option.bind_some, V.nth_zero, V.nth_succ, V.toInt_int, List.drop_succ_cons, List.drop_zero]
  rw [e2]
  simp only [Option.bind_some, V.nth_zero, V.nth_succ, V.toInt_int, List.drop_succ_cons, List.drop_zero]
  rw [e3]
  rfl
theorem medAdj_spec {d : Array Ed} {a : Nat} {s : Int} (h1 : 1 ≤ a) (ha : a + 1 < d.size) (hs : d.size < 1152921504606846976) : ∃ (m : Nat) (s' : Int), CC F_slices_medianAdjacentCmpFunc_api_Edge_ [.list T_api_Edge (eA d), .int .i64 (a : Int), .int .i64 s] = some [.int .i64 (m : Int), .int .i64 s'] ∧ a ≤ m + 1 ∧ m ≤ a + 1 := by
  obtain ⟨m, s', e, o⟩ := median_spec (d := d) (a := a - 1) (b := a) (c := a + 1) (s := s) (by omega) (by omega) (by omega)
  refine ⟨m, s', f_slices_medianAdjacentCmpFunc_api_Edge__of ?_, by omega, by omega⟩
  unfold f_slices_medianAdjacentCmpFunc_api_Edge_
  simp (disch := omega) only [sub1C, succC, wrap64]
  rw [e]
  rfl
theorem div4C (n : Nat) : Int.tdiv (n : Int) 4 = ((n / 4 : Nat) : Int) := by
  have := divC n 4
  exact this
theorem mulC (k n : Nat) : ((k : Nat) : Int) * (n : Int) = ((k * n : Nat) : Int) := (Int.natCast_mul k n).symm
theorem choose_spec' {d : Array Ed} {a b : Nat} (hab : a + 12 < b) (hb : b ≤ d.size) (hs : d.size < 1152921504606846976) : ∃ (p : Nat) (h : Int), CC F_slices_choosePivotCmpFunc_api_Edge_ [.list T_api_Edge (eA d), .int .i64 (a : Int), .int .i64 (b : Int)] = some [.int .i64 (p : Int), .int .i64 h] ∧ a ≤ p ∧ p < b := by
  have fin : ∀ (p : Nat) (s : Int), ∃ h : Int, (bif (s : Int) == 0 then some [V.int .i64 (p : Int), V.int .i64 1] else bif (s : Int) == 12 then some [V.int .i64 (p : Int), V.int .i64 2] else some [V.int .i64 (p : Int), V.int .i64 0]) = some [V.int .i64 (p : Int), V.int .i64 h] := by
    intro p s
    rw [bif_beq]
    split
    · exact ⟨1, rfl⟩
    · rw [bif_beq]
      split
      · exact ⟨2, rfl⟩
      · exact ⟨0, rfl⟩
  have e1 : IntKind.wrap .i64 ((b : Int) - (a : Int)) = ((b - a : Nat) : Int) := by rw [subC (by omega), wrap64 (by omega) (by omega)]
  have e2 : IntKind.wrap .i64 (Int.tdiv ((b - a : Nat) : Int) 4) = (((b - a) / 4 : Nat) : Int) := by rw [div4C, wrap64 (by omega) (by omega)]
  have e3 : ∀ k : Nat, k ≤ 3 → IntKind.wrap .i64 ((a : Int) + IntKind.wrap .i64 ((k : Int) * (((b - a) / 4 : Nat) : Int))) = ((a + k * ((b - a) / 4) : Nat) : Int) := by
    intro k hk
    have hk2 : k * ((b - a) / 4) ≤ 3 * ((b - a) / 4) := Nat.mul_le_mul_right _ hk
    simp (disch := omega) only [mulC, wrap64, addC]
  have e31 := e3 1 (by omega)
  have e32 := e3 2 (by omega)
  have e33 := e3 3 (by omega)
  rw [show ((1 : Nat) : Int) = 1 from rfl] at e31
  rw [show ((2 : Nat) : Int) = 2 from rfl] at e32
  rw [show ((3 : Nat) : Int) = 3 from rfl] at e33
  by_cases h50 : b - a ≥ 50
  · obtain ⟨m1, s1, q1, r1⟩ := medAdj_spec (d := d) (a := a + 1 * ((b - a) / 4)) (s := 0) (by omega) (by omega) hs
    obtain ⟨m2, s2, q2, r2⟩ := medAdj_spec (d := d) (a := a + 2 * ((b - a) / 4)) (s := s1) (by omega) (by omega) hs
    obtain ⟨m3, s3, q3, r3⟩ := medAdj_spec (d := d) (a := a + 3 * ((b - a) / 4)) (s := s2) (by omega) (by omega) hs
    obtain ⟨m, s, q, r⟩ := median_spec (d := d) (a := m1) (b := m2) (c := m3) (s := s3) (by omega) (by omega) (by omega)
    obtain ⟨h, hf⟩ := fin m s
    refine ⟨m, h, f_slices_choosePivotCmpFunc_api_Edge__of ?_, by omega, by omega⟩
    unfold f_slices_choosePivotCmpFunc_api_Edge_ s_slices_choosePivotCmpFunc_api_Edge__2 s_slices_choosePivotCmpFunc_api_Edge__1
    rw [e1, e2, e31, e32, e33, dec_true (by omega), cond_true, dec_true (by omega), cond_true, q1]
    simp only [Option.bind_some, V.nth_zero, V.nth_succ, V.toInt_int, List.drop_succ_cons, List.drop_zero]
    rw [q2]
    simp only [Option.bind_some, V.nth_zero, V.nth_succ, V.toInt_int, List.drop_succ_cons, List.drop_zero]
    rw [q3]
    simp only [Option.bind_some, V.nth_zero, V.nth_succ, V.toInt_int, List.drop_succ_cons, List.drop_zero, un]
    rw [q]
    exact hf
  · obtain ⟨m, s, q, r⟩ := median_spec (d := d) (a := a + 1 * ((b - a) / 4)) (b := a + 2 * ((b - a) / 4)) (c := a + 3 * ((b - a) / 4)) (s := 0) (by omega) (by omega) (by omega)
    obtain ⟨h, hf⟩ := fin m s
    refine ⟨m, h, f_slices_choosePivotCmpFunc_api_Edge__of ?_, by omega, by omega⟩
    unfold f_slices_choosePivotCmpFunc_api_Edge_ s_slices_choosePivotCmpFunc_api_Edge__2 s_slices_choosePivotCmpFunc_api_Edge__1
    rw [e1, e2, e31, e32, e33, dec_true (by omega), cond_true, dec_false (by omega), cond_false]
    simp only [un]
    rw [q]
    exact hf
theorem break_loop {a b M : Nat} (hM1 : 1 ≤ M) (hM : M ≤ 2 * (b - a)) (h8 : 8 ≤ b - a) (hB : b < 1152921504606846976) : ∀ (n i : Nat) (d : Array Ed) (r : Int), a + 2 * ((b - a) / 4) + 2 - i = n → a ≤ i → b ≤ d.size → d.size < 1152921504606846976 →
    ∃ x y z R, Loop (s_slices_breakPatternsCmpFunc_api_Edge__2L CC a (b - a : Nat) M) ((i : Int), eA d, r) = some (x, y, eA R, z) ∧ PermIn a b d R := by
  have e2 : IntKind.wrap .i64 (Int.tdiv ((b - a : Nat) : Int) 4) = (((b - a) / 4 : Nat) : Int) := by rw [div4C, wrap64 (by omega) (by omega)]
  have e32 : IntKind.wrap .i64 ((a : Int) + IntKind.wrap .i64 (2 * (((b - a) / 4 : Nat) : Int))) = ((a + 2 * ((b - a) / 4) : Nat) : Int) := by
    have := mulC 2 ((b - a) / 4)
    rw [show ((2 : Nat) : Int) = 2 from rfl] at this
    rw [this]
    simp (disch := omega) only [wrap64, addC]
  intro n
  induction n with
  | zero =>
    intro i d r hn hi hb hs
    refine ⟨(i : Int), false, r, d, Loop_end ?_, permIn_refl _ _ _⟩
    simp only [s_slices_breakPatternsCmpFunc_api_Edge__2L, s_slices_breakPatternsCmpFunc_api_Edge__2, un]
    rw [e2, e32, succC, wrap64 (by omega) (by omega), dec_false (by omega), cond_false]
  | succ n ih =>
    intro i d r hn hi hb hs
    obtain ⟨R1, q1, q2⟩ := Next_spec r
    obtain ⟨o, ho, ho2⟩ : ∃ o : Nat, (o = if R1 &&& (M - 1) ≥ b - a then (R1 &&& (M - 1)) - (b - a) else R1 &&& (M - 1)) ∧ o < b - a := by
      refine ⟨_, rfl, ?_⟩
      have : R1 &&& (M - 1) ≤ M - 1 := Nat.and_le_right
      split <;> omega
    have hand : R1 &&& (M - 1) ≤ M - 1 := Nat.and_le_right
    have hP := swp_permIn (α := Ed) d a b i (a + o) hi (by omega) (by omega) (by omega) hb
    obtain ⟨x, y, z, R, e, hR⟩ := ih (i + 1) (swp d i (a + o)) (R1 : Int) (by omega) (by omega) (by rw [size_swp]; exact hb) (by rw [size_swp]; exact hs)
    refine ⟨x, y, z, R, (Loop_norm ?_).trans e, permIn_trans _ _ _ a b hP hR⟩
    simp only [s_slices_breakPatternsCmpFunc_api_Edge__2L, s_slices_breakPatternsCmpFunc_api_Edge__2, un]
    rw [e2, e32, succC, wrap64 (x := ((a + 2 * ((b - a) / 4) + 1 : Nat) : Int)) (by omega) (by omega), dec_true (by omega), cond_true, q1]
    simp only [Option.bind_some, V.nth_zero, V.nth_succ, V.toInt_int, List.drop_succ_cons, List.drop_zero]
    have e5 : IntKind.wrap .u64 ((M : Int) - 1) = ((M - 1 : Nat) : Int) := by rw [sub1C hM1, wrapu64 (by omega)]
    rw [e5, u64_and q2 (by omega), wrap64 (x := ((R1 &&& (M - 1) : Nat) : Int)) (by omega) (by omega)]
    have fin : ∀ k : Int, k = (o : Int) → (bif (decide (0 ≤ (IntKind.wrap .i64 ((a : Int) + k)))) && (decide ((IntKind.wrap .i64 ((a : Int) + k)) < ((eA d).length : Int))) then
      ((eA d)[(IntKind.wrap .i64 ((a : Int) + k) : Int).toNat]?).bind fun x4 =>
      bif (decide (0 ≤ (i : Int))) && (decide ((i : Int) < ((eA d).length : Int))) then
       ((eA d)[((i : Int) : Int).toNat]?).bind fun x5 =>
       bif (decide (0 ≤ (i : Int))) && (decide ((i : Int) < ((eA d).length : Int))) then
        ((eA d)[((i : Int) : Int).toNat]?).bind fun x6 =>
        bif (decide (0 ≤ (IntKind.wrap .i64 ((a : Int) + k)))) && (decide ((IntKind.wrap .i64 ((a : Int) + k)) < (((eA d).set (((i : Int) : Int).toNat) (.agg [.int .i64 ((x4.cell 0).toInt), .int .i64 ((x4.cell 1).toInt), .int .i64 ((x4.cell 2).toInt)])).length : Int))) then
         (((eA d).set (((i : Int) : Int).toNat) (.agg [.int .i64 ((x4.cell 0).toInt), .int .i64 ((x4.cell 1).toInt), .int .i64 ((x4.cell 2).toInt)]))[(IntKind.wrap .i64 ((a : Int) + k) : Int).toNat]?).bind fun x7 =>
         some (.inl (IntKind.wrap .i64 ((i : Int) + 1), ((eA d).set (((i : Int) : Int).toNat) (.agg [.int .i64 ((x4.cell 0).toInt), .int .i64 ((x4.cell 1).toInt), .int .i64 ((x4.cell 2).toInt)])).set ((IntKind.wrap .i64 ((a : Int) + k) : Int).toNat) (.agg [.int .i64 ((x5.cell 0).toInt), .int .i64 ((x5.cell 1).toInt), .int .i64 ((x5.cell 2).toInt)]), (R1 : Int)))
        else none
       else none
      else none
     else none : Option ((Int × List V × Int) ⊕ (Int × Bool × List V × Int))) = some (.inl (((i + 1 : Nat) : Int), eA (swp d i (a + o)), (R1 : Int))) := by
      intro k hk
      subst hk
      simp (disch := omega) only [bif_decide, bif_and, bif_not, if_pos, if_neg, wrap64, succC, addC, Int.toNat_natCast, Option.bind_some, encA_length, encA_get, Ed.enc_0, Ed.enc_1, Ed.enc_2, Ed.re, encA_set, encA_get2, Array.size_setIfInBounds, compareEdges_spec, V.nth_zero, V.toInt_int, cond_true, cond_false]
      rfl
    unfold s_slices_breakPatternsCmpFunc_api_Edge__1
    by_cases h : R1 &&& (M - 1) ≥ b - a
    · rw [if_pos h] at ho
      rw [dec_true (by omega), cond_true]
      exact fin _ (by rw [subC (by omega), wrap64 (by omega) (by omega)]; omega)
    · rw [if_neg h] at ho
      rw [dec_false (by omega), cond_false]
      exact fin _ (by omega)
theorem break_spec {a b : Nat} {d : Array Ed} (hab : a + 12 < b) (hb : b ≤ d.size) (hs : d.size < 1152921504606846976) : ∃ R, CC F_slices_breakPatternsCmpFunc_api_Edge_ [.int .i64 (a : Int), .int .i64 (b : Int), .list T_api_Edge (eA d)] = some [.list T_api_Edge (eA R)] ∧ PermIn a b d R := by
  obtain ⟨M, q1, q2, q3⟩ := nextPow_spec (x := b - a) (by omega) (by omega)
  have e1 : IntKind.wrap .i64 ((b : Int) - (a : Int)) = ((b - a : Nat) : Int) := by rw [subC (by omega), wrap64 (by omega) (by omega)]
  have e2 : IntKind.wrap .i64 (Int.tdiv ((b - a : Nat) : Int) 4) = (((b - a) / 4 : Nat) : Int) := by rw [div4C, wrap64 (by omega) (by omega)]
  have e32 : IntKind.wrap .i64 ((a : Int) + IntKind.wrap .i64 (2 * (((b - a) / 4 : Nat) : Int))) = ((a + 2 * ((b - a) / 4) : Nat) : Int) := by
    have := mulC 2 ((b - a) / 4)
    rw [show ((2 : Nat) : Int) = 2 from rfl] at this
    rw [this]
    simp (disch := omega) only [wrap64, addC]
  obtain ⟨x, y, z, R, e, hR⟩ := break_loop (a := a) (b := b) (M := M) q2 q3 (by omega) (by omega) _ (a + 2 * ((b - a) / 4) - 1) d (IntKind.wrap .u64 ((b - a : Nat) : Int)) rfl (by omega) hb hs
  refine ⟨R, f_slices_breakPatternsCmpFunc_api_Edge__of ?_, hR⟩
  unfold f_slices_breakPatternsCmpFunc_api_Edge_
  rw [e1, bif_decide, if_pos (by omega), q1]
  simp only [Option.bind_some, V.nth_zero, V.toInt_int]
  rw [e2, e32, sub1C (by omega), wrap64 (x := ((a + 2 * ((b - a) / 4) - 1 : Nat) : Int)) (by omega) (by omega), e]
  rfl
noncomputable def pdqRest (C : CallF) (a b' : Int) (wasBalanced wasPartitioned : Bool) (limit_4 pivot_8 : Int) (datas_12 : List V) {β : Type} (kn : (Int × Int × Int × Bool × Bool × (List V)) → Option β) : Option β :=
            bif decide ((a : Int) > 0) then
             bif (decide (0 ≤ (IntKind.wrap .i64 (a - 1)))) && (decide ((IntKind.wrap .i64 (a - 1)) < (datas_12.length : Int))) then
              (datas_12[(IntKind.wrap .i64 (a - 1) : Int).toNat]?).bind fun x13 =>
              bif (decide (0 ≤ pivot_8)) && (decide (pivot_8 < (datas_12.length : Int))) then
               (datas_12[(pivot_8 : Int).toNat]?).bind fun x14 =>
               (C F_nfa_compareEdges [.int .i64 ((x13.cell 0).toInt), .int .i64 ((x13.cell 1).toInt), .int .i64 ((x13.cell 2).toInt), .int .i64 ((x14.cell 0).toInt), .int .i64 ((x14.cell 1).toInt), .int .i64 ((x14.cell 2).toInt)]).bind fun r15 =>
               bif !(decide ((((V.nth r15 0).toInt) : Int) < 0)) then
                (C F_slices_partitionEqualCmpFunc_api_Edge_ [.int .i64 a, .int .i64 b', .int .i64 pivot_8, .list T_api_Edge datas_12]).bind fun r16 =>
                kn ((V.nth r16 0).toInt, b', limit_4, wasBalanced, wasPartitioned, (V.nth (r16.drop 1) 0).toList)
               else
                (C F_slices_partitionCmpFunc_api_Edge_ [.int .i64 a, .int .i64 b', .int .i64 pivot_8, .list T_api_Edge datas_12]).bind fun r17 =>
                bif decide (((IntKind.wrap .i64 (((V.nth r17 0).toInt) - a)) : Int) < (IntKind.wrap .i64 (b' - ((V.nth r17 0).toInt)))) then
                 (C F_slices_pdqsortCmpFunc_api_Edge_ [.int .i64 a, .int .i64 ((V.nth r17 0).toInt), .int .i64 limit_4, .list T_api_Edge ((V.nth (r17.drop 2) 0).toList)]).bind fun r18 =>
                 kn (IntKind.wrap .i64 (((V.nth r17 0).toInt) + 1), b', limit_4, decide (((IntKind.wrap .i64 (((V.nth r17 0).toInt) - a)) : Int) ≥ (IntKind.wrap .i64 (Int.tdiv (IntKind.wrap .i64 (b' - a)) 8))), (V.nth (r17.drop 1) 0).toBool, (V.nth r18 0).toList)
                else
                 (C F_slices_pdqsortCmpFunc_api_Edge_ [.int .i64 (IntKind.wrap .i64 (((V.nth r17 0).toInt) + 1)), .int .i64 b', .int .i64 limit_4, .list T_api_Edge ((V.nth (r17.drop 2) 0).toList)]).bind fun r19 =>
                 kn (a, (V.nth r17 0).toInt, limit_4, decide (((IntKind.wrap .i64 (b' - ((V.nth r17 0).toInt))) : Int) ≥ (IntKind.wrap .i64 (Int.tdiv (IntKind.wrap .i64 (b' - a)) 8))), (V.nth (r17.drop 1) 0).toBool, (V.nth r19 0).toList)
              else none
             else none
            else
             (C F_slices_partitionCmpFunc_api_Edge_ [.int .i64 a, .int .i64 b', .int .i64 pivot_8, .list T_api_Edge datas_12]).bind fun r20 =>
             bif decide (((IntKind.wrap .i64 (((V.nth r20 0).toInt) - a)) : Int) < (IntKind.wrap .i64 (b' - ((V.nth r20 0).toInt)))) then
              (C F_slices_pdqsortCmpFunc_api_Edge_ [.int .i64 a, .int .i64 ((V.nth r20 0).toInt), .int .i64 limit_4, .list T_api_Edge ((V.nth (r20.drop 2) 0).toList)]).bind fun r21 =>
              kn (IntKind.wrap .i64 (((V.nth r20 0).toInt) + 1), b', limit_4, decide (((IntKind.wrap .i64 (((V.nth r20 0).toInt) - a)) : Int) ≥ (IntKind.wrap .i64 (Int.tdiv (IntKind.wrap .i64 (b' - a)) 8))), (V.nth (r20.drop 1) 0).toBool, (V.nth r21 0).toList)
             else
              (C F_slices_pdqsortCmpFunc_api_Edge_ [.int .i64 (IntKind.wrap .i64 (((V.nth r20 0).toInt) + 1)), .int .i64 b', .int .i64 limit_4, .list T_api_Edge ((V.nth (r20.drop 2) 0).toList)]).bind fun r22 =>
              kn (a, (V.nth r20 0).toInt, limit_4, decide (((IntKind.wrap .i64 (b' - ((V.nth r20 0).toInt))) : Int) ≥ (IntKind.wrap .i64 (Int.tdiv (IntKind.wrap .i64 (b' - a)) 8))), (V.nth (r20.drop 1) 0).toBool, (V.nth r22 0).toList)
theorem pdq4_eq (C : CallF) (a b' limit : Int) (wasBalanced wasPartitioned : Bool) (datas : List V) {β : Type} (kn : (Int × Int × Int × Bool × Bool × (List V)) → Option β) (kr : (List V) → Option β) :
   s_slices_pdqsortCmpFunc_api_Edge__4 C a b' limit wasBalanced wasPartitioned datas kn kr =
  bif decide (((IntKind.wrap .i64 (b' - a)) : Int) ≤ 12) then
   (C F_slices_insertionSortCmpFunc_api_Edge_ [.int .i64 a, .int .i64 b', .list T_api_Edge datas]).bind fun r1 =>
   kr ((V.nth r1 0).toList)
  else
   bif (limit : Int) == 0 then
    (C F_slices_heapSortCmpFunc_api_Edge_ [.int .i64 a, .int .i64 b', .list T_api_Edge datas]).bind fun r2 =>
    kr ((V.nth r2 0).toList)
   else
    s_slices_pdqsortCmpFunc_api_Edge__1 C a b' limit wasBalanced wasPartitioned (IntKind.wrap .i64 (b' - a)) (!wasBalanced) datas (un fun (limit_4 : Int) (datas_5 : List V) =>
      (C F_slices_choosePivotCmpFunc_api_Edge_ [.list T_api_Edge datas_5, .int .i64 a, .int .i64 b']).bind fun r6 =>
      s_slices_pdqsortCmpFunc_api_Edge__2 C a b' limit_4 wasBalanced wasPartitioned (IntKind.wrap .i64 (b' - a)) ((V.nth r6 0).toInt) ((V.nth (r6.drop 1) 0).toInt) ((((V.nth (r6.drop 1) 0).toInt) : Int) == 2) datas_5 (un fun (pivot_8 : Int) => un fun (hint_9 : Int) (datas_10 : List V) =>
        bif wasBalanced then
         bif wasPartitioned then
          s_slices_pdqsortCmpFunc_api_Edge__3 C a b' limit_4 wasBalanced wasPartitioned (IntKind.wrap .i64 (b' - a)) pivot_8 ((hint_9 : Int) == 1) datas_10 (way2 (fun (datas_12 : List V) => pdqRest C a b' wasBalanced wasPartitioned limit_4 pivot_8 datas_12 kn) (un fun (t_23 : Bool) (datas_24 : List V) =>
            kr datas_24))
         else
          s_slices_pdqsortCmpFunc_api_Edge__3 C a b' limit_4 wasBalanced wasPartitioned (IntKind.wrap .i64 (b' - a)) pivot_8 false datas_10 (way2 (fun (datas_25 : List V) => pdqRest C a b' wasBalanced wasPartitioned limit_4 pivot_8 datas_25 kn) (un fun (t_36 : Bool) (datas_37 : List V) =>
            kr datas_37))
        else
         s_slices_pdqsortCmpFunc_api_Edge__3 C a b' limit_4 wasBalanced wasPartitioned (IntKind.wrap .i64 (b' - a)) pivot_8 false datas_10 (way2 (fun (datas_38 : List V) => pdqRest C a b' wasBalanced wasPartitioned limit_4 pivot_8 datas_38 kn) (un fun (t_49 : Bool) (datas_50 : List V) =>
           kr datas_50)))) := rfl
section
variable {a b : Nat} {lim : Int} {wb wp : Bool}
theorem pd_1 {d : Array Ed} (hab : a + 12 < b) (hb : b ≤ d.size) (hs : d.size < 1152921504606846976) (len : Int) (t : Bool) : ∃ (l1 : Int) (d1 : Array Ed), PermIn a b d d1 ∧ ∀ (β : Type) (kr : (Int × List V) → Option β), s_slices_pdqsortCmpFunc_api_Edge__1 CC a b lim wb wp len t (eA d) kr = kr (l1, eA d1) := by
  cases t with
  | true =>
    obtain ⟨R, e, hR⟩ := break_spec hab hb hs
    refine ⟨IntKind.wrap .i64 (lim - 1), R, hR, fun β kr => ?_⟩
    unfold s_slices_pdqsortCmpFunc_api_Edge__1
    rw [cond_true, e]
    rfl
  | false => exact ⟨lim, d, permIn_refl _ _ _, fun β kr => rfl⟩
theorem pd_2 {d : Array Ed} (hab : a + 12 < b) (hb : b ≤ d.size) (hs : d.size < 1152921504606846976) (len h : Int) (t : Bool) {p : Nat} (h1 : a ≤ p) (h2 : p < b) : ∃ (p2 : Nat) (h2 : Int) (d1 : Array Ed), a ≤ p2 ∧ p2 < b ∧ PermIn a b d d1 ∧ ∀ (β : Type) (kr : (Int × Int × List V) → Option β), s_slices_pdqsortCmpFunc_api_Edge__2 CC a b lim wb wp len p h t (eA d) kr = kr ((p2 : Int), h2, eA d1) := by
  cases t with
  | true =>
    refine ⟨b - 1 - (p - a), 1, reverseRange d a b, by omega, by omega, reverseRange_holds d a b (by omega) hb, fun β kr => ?_⟩
    unfold s_slices_pdqsortCmpFunc_api_Edge__2
    rw [cond_true, rev_spec (by omega) hb hs]
    simp (disch := omega) only [Option.bind_some, V.nth_zero, V.toList_list, sub1C, subC, wrap64]
  | false => exact ⟨p, h, d, h1, h2, permIn_refl _ _ _, fun β kr => rfl⟩
theorem pd_3 {d : Array Ed} (hab : a + 12 < b) (hb : b ≤ d.size) (hs : d.size < 1152921504606846976) (hB : Below ltE a b d) (len p : Int) (t : Bool) : ∃ d1 : Array Ed, PermIn a b d d1 ∧
    ((∀ (β : Type) (kr : (List V ⊕ (Bool × List V)) → Option β), s_slices_pdqsortCmpFunc_api_Edge__3 CC a b lim wb wp len p t (eA d) kr = kr (.inl (eA d1))) ∨
    (SortedIn ltE a b d1 ∧ ∀ (β : Type) (kr : (List V ⊕ (Bool × List V)) → Option β), s_slices_pdqsortCmpFunc_api_Edge__3 CC a b lim wb wp len p t (eA d) kr = kr (.inr (true, eA d1)))) := by
  cases t with
  | true =>
    have hp := partialInsertionSort_holds (lt := ltE) swo_E d a b (by omega) hb hB
    refine ⟨_, hp.1, ?_⟩
    cases h : (partialInsertionSort ltE d a b).2 with
    | true =>
      refine .inr ⟨hp.2 h, fun β kr => ?_⟩
      unfold s_slices_pdqsortCmpFunc_api_Edge__3
      rw [cond_true, pins_spec (by omega) hb hs, h]
      rfl
    | false =>
      refine .inl fun β kr => ?_
      unfold s_slices_pdqsortCmpFunc_api_Edge__3
      rw [cond_true, pins_spec (by omega) hb hs, h]
      rfl
  | false => exact ⟨d, permIn_refl _ _ _, .inl fun β kr => rfl⟩
end
def Sorts (a b : Nat) (d : Array Ed) : Prop := ∀ (lim : Int) (wb wp : Bool), ∃ R, Loop (s_slices_pdqsortCmpFunc_api_Edge__4L CC) ((a : Int), (b : Int), lim, wb, wp, eA d) = some (eA R) ∧ PermIn a b d R ∧ SortedIn ltE a b R
theorem Sorts.call {a b : Nat} {d : Array Ed} (h : Sorts a b d) (lim : Int) : ∃ R, CC F_slices_pdqsortCmpFunc_api_Edge_ [.int .i64 (a : Int), .int .i64 (b : Int), .int .i64 lim, .list T_api_Edge (eA d)] = some [.list T_api_Edge (eA R)] ∧ PermIn a b d R ∧ SortedIn ltE a b R := by
  obtain ⟨R, e, h1, h2⟩ := h lim true true
  refine ⟨R, f_slices_pdqsortCmpFunc_api_Edge__of ?_, h1, h2⟩
  unfold f_slices_pdqsortCmpFunc_api_Edge_
  rw [e]
  rfl
theorem rest_spec {a b p : Nat} {d : Array Ed} (hab : a + 12 < b) (hb : b ≤ d.size) (hs : d.size < 1152921504606846976) (hB : Below ltE a b d) (h1 : a ≤ p) (h2 : p < b)
    (ih : ∀ (a2 b2 : Nat) (d2 : Array Ed), b2 - a2 < b - a → a2 ≤ b2 → b2 ≤ d2.size → d2.size < 1152921504606846976 → Below ltE a2 b2 d2 → Sorts a2 b2 d2) (wb wp : Bool) (lim : Int) :
    ∃ (a2 b2 : Nat) (wb2 wp2 : Bool) (d2 : Array Ed), b2 - a2 < b - a ∧ a2 ≤ b2 ∧ b2 ≤ d2.size ∧ d2.size < 1152921504606846976 ∧ Below ltE a2 b2 d2 ∧
      (∀ R, PermIn a2 b2 d2 R → SortedIn ltE a2 b2 R → PermIn a b d R ∧ SortedIn ltE a b R) ∧
      ∀ (β : Type) (kn : (Int × Int × Int × Bool × Bool × (List V)) → Option β), pdqRest CC a b wb wp lim p (eA d) kn = kn ((a2 : Int), (b2 : Int), lim, wb2, wp2, eA d2) := by
  have part : ∃ (a2 b2 : Nat) (wb2 wp2 : Bool) (d2 : Array Ed), b2 - a2 < b - a ∧ a2 ≤ b2 ∧ b2 ≤ d2.size ∧ d2.size < 1152921504606846976 ∧ Below ltE a2 b2 d2 ∧
      (∀ R, PermIn a2 b2 d2 R → SortedIn ltE a2 b2 R → PermIn a b d R ∧ SortedIn ltE a b R) ∧
      ∀ (β : Type) (kn : (Int × Int × Int × Bool × Bool × (List V)) → Option β),
        ((CC F_slices_partitionCmpFunc_api_Edge_ [.int .i64 (a : Int), .int .i64 (b : Int), .int .i64 (p : Int), .list T_api_Edge (eA d)]).bind fun r17 =>
                bif decide (((IntKind.wrap .i64 (((V.nth r17 0).toInt) - (a : Int))) : Int) < (IntKind.wrap .i64 ((b : Int) - ((V.nth r17 0).toInt)))) then
                 (CC F_slices_pdqsortCmpFunc_api_Edge_ [.int .i64 (a : Int), .int .i64 ((V.nth r17 0).toInt), .int .i64 lim, .list T_api_Edge ((V.nth (r17.drop 2) 0).toList)]).bind fun r18 =>
                 kn (IntKind.wrap .i64 (((V.nth r17 0).toInt) + 1), (b : Int), lim, decide (((IntKind.wrap .i64 (((V.nth r17 0).toInt) - (a : Int))) : Int) ≥ (IntKind.wrap .i64 (Int.tdiv (IntKind.wrap .i64 ((b : Int) - (a : Int))) 8))), (V.nth (r17.drop 1) 0).toBool, (V.nth r18 0).toList)
                else
                 (CC F_slices_pdqsortCmpFunc_api_Edge_ [.int .i64 (IntKind.wrap .i64 (((V.nth r17 0).toInt) + 1)), .int .i64 (b : Int), .int .i64 lim, .list T_api_Edge ((V.nth (r17.drop 2) 0).toList)]).bind fun r19 =>
                 kn ((a : Int), (V.nth r17 0).toInt, lim, decide (((IntKind.wrap .i64 ((b : Int) - ((V.nth r17 0).toInt))) : Int) ≥ (IntKind.wrap .i64 (Int.tdiv (IntKind.wrap .i64 ((b : Int) - (a : Int))) 8))), (V.nth (r17.drop 1) 0).toBool, (V.nth r19 0).toList)) = kn ((a2 : Int), (b2 : Int), lim, wb2, wp2, eA d2) := by
    obtain ⟨mid, ap, d4, hx⟩ : ∃ mid ap d4, partition ltE d a b p = (mid, ap, d4) := ⟨_, _, _, rfl⟩
    obtain ⟨g1, g2, hs4, hBa, hBr, hleft, hright⟩ := round_part swo_E (partition_holds ltE) h1 h2 hb hB hx
    have hc := part_spec (a := a) (b := b) (pivot := p) (d := d) h2 (by omega) hb hs
    rw [hx] at hc
    by_cases hl : mid - a < b - mid
    · obtain ⟨L, e, l1, l2⟩ := (ih a mid d4 (by omega) g1 (by rw [hs4]; omega) (by rw [hs4]; exact hs) hBa).call lim
      obtain ⟨hBL, hfin⟩ := hleft _ l1 l2
      refine ⟨mid + 1, b, decide (((IntKind.wrap .i64 ((mid : Int) - (a : Int))) : Int) ≥ (IntKind.wrap .i64 (Int.tdiv (IntKind.wrap .i64 ((b : Int) - (a : Int))) 8))), ap, L, by omega, by omega, by rw [l1.1, hs4]; exact hb, by rw [l1.1, hs4]; exact hs, hBL, hfin, fun β kn => ?_⟩
      · rw [hc]
        simp only [Option.bind_some, V.nth_zero, V.nth_succ, V.toInt_int, V.toBool_bool, V.toList_list, List.drop_succ_cons, List.drop_zero]
        rw [bif_decide, if_pos (by rw [subC g1, subC (by omega), wrap64 (by omega) (by omega), wrap64 (by omega) (by omega)]; omega), e]
        simp only [Option.bind_some, V.nth_zero, V.toList_list]
        rw [succC, wrap64 (x := ((mid + 1 : Nat) : Int)) (by omega) (by omega)]
    · obtain ⟨L, e, l1, l2⟩ := (ih (mid + 1) b d4 (by omega) (by omega) (by rw [hs4]; exact hb) (by rw [hs4]; exact hs) hBr).call lim
      obtain ⟨hBL, hfin⟩ := hright _ l1 l2
      refine ⟨a, mid, decide (((IntKind.wrap .i64 ((b : Int) - (mid : Int))) : Int) ≥ (IntKind.wrap .i64 (Int.tdiv (IntKind.wrap .i64 ((b : Int) - (a : Int))) 8))), ap, L, by omega, by omega, by rw [l1.1, hs4]; omega, by rw [l1.1, hs4]; exact hs, hBL, hfin, fun β kn => ?_⟩
      · rw [hc]
        simp only [Option.bind_some, V.nth_zero, V.nth_succ, V.toInt_int, V.toBool_bool, V.toList_list, List.drop_succ_cons, List.drop_zero]
        rw [bif_decide, if_neg (by rw [subC g1, subC (by omega), wrap64 (by omega) (by omega), wrap64 (by omega) (by omega)]; omega), succC, wrap64 (x := ((mid + 1 : Nat) : Int)) (by omega) (by omega), e]
        simp only [Option.bind_some, V.nth_zero, V.toList_list]
  by_cases ha : 0 < a
  · by_cases hc : cmpE d[a - 1]! d[p]! < 0
    · obtain ⟨a2, b2, wb2, wp2, d2, q1, q2, q3, q4, q5, q6, q7⟩ := part
      refine ⟨a2, b2, wb2, wp2, d2, q1, q2, q3, q4, q5, q6, fun β kn => ?_⟩
      rw [← q7 β kn]
      unfold pdqRest
      rw [bif_decide, if_pos (by omega), sub1C ha, wrap64 (by omega) (by omega), chk_eA (i := a - 1) (by omega), getB (by omega), chk_eA (i := p) (by omega), getB (by omega)]
      simp only [Ed.enc_0, Ed.enc_1, Ed.enc_2, compareEdges_spec, Option.bind_some, V.nth_zero, V.toInt_int]
      rw [bif_not, bif_decide, if_pos hc]
    · obtain ⟨mid, d4, hx⟩ : ∃ mid d4, partitionEqual ltE d a b p = (mid, d4) := ⟨_, _, rfl⟩
      obtain ⟨g1, hm2, hs4, hB4, hfin⟩ := round_eq swo_E (partitionEqual_holds ltE) ha h1 h2 hb hB (by rw [ltE_eqf, ← propext (cmpE_neg _ _)]; exact hc) hx
      have he := pequ_spec (a := a) (b := b) (pivot := p) (d := d) h2 (by omega) hb hs
      rw [hx] at he
      refine ⟨mid, b, wb, wp, d4, by omega, hm2, by rw [hs4]; exact hb, by rw [hs4]; exact hs, hB4, hfin, fun β kn => ?_⟩
      unfold pdqRest
      rw [bif_decide, if_pos (by omega), sub1C ha, wrap64 (by omega) (by omega), chk_eA (i := a - 1) (by omega), getB (by omega), chk_eA (i := p) (by omega), getB (by omega)]
      simp only [Ed.enc_0, Ed.enc_1, Ed.enc_2, compareEdges_spec, Option.bind_some, V.nth_zero, V.toInt_int]
      rw [bif_not, bif_decide, if_neg hc, he]
      rfl
  · obtain ⟨a2, b2, wb2, wp2, d2, q1, q2, q3, q4, q5, q6, q7⟩ := part
    refine ⟨a2, b2, wb2, wp2, d2, q1, q2, q3, q4, q5, q6, fun β kn => ?_⟩
    rw [← q7 β kn]
    unfold pdqRest
    rw [bif_decide, if_neg (by omega)]
theorem pdq_main : ∀ (n a b : Nat) (d : Array Ed), b - a ≤ n → a ≤ b → b ≤ d.size → d.size < 1152921504606846976 → Below ltE a b d → Sorts a b d := by
  intro n
  induction n with
  | zero =>
    intro a b d hn hab hb hs hB lim wb wp
    have hi := insertionSort_holds (lt := ltE) swo_E d a b hab hb
    refine ⟨_, Loop_end ?_, hi⟩
    show s_slices_pdqsortCmpFunc_api_Edge__4 CC a b lim wb wp (eA d) (fun y => some (Sum.inl y)) (fun r => some (Sum.inr r)) = _
    rw [pdq4_eq, bif_decide, if_pos (by rw [subC hab, wrap64 (by omega) (by omega)]; omega), ins_spec hb hs (by omega)]
    rfl
  | succ n ih =>
    intro a b d hn hab hb hs hB lim wb wp
    by_cases h12 : b - a ≤ 12
    · have hi := insertionSort_holds (lt := ltE) swo_E d a b hab hb
      refine ⟨_, Loop_end ?_, hi⟩
      show s_slices_pdqsortCmpFunc_api_Edge__4 CC a b lim wb wp (eA d) (fun y => some (Sum.inl y)) (fun r => some (Sum.inr r)) = _
      rw [pdq4_eq, bif_decide, if_pos (by rw [subC hab, wrap64 (by omega) (by omega)]; omega), ins_spec hb hs (by omega)]
      rfl
    · have hab' : a + 12 < b := by omega
      have e12 : ¬ (((IntKind.wrap .i64 ((b : Int) - (a : Int))) : Int) ≤ 12) := by rw [subC hab, wrap64 (by omega) (by omega)]; omega
      by_cases h0 : lim = 0
      · have hi := heapSort_holds (lt := ltE) swo_E d a b hab hb
        refine ⟨_, Loop_end ?_, hi⟩
        show s_slices_pdqsortCmpFunc_api_Edge__4 CC a b lim wb wp (eA d) (fun y => some (Sum.inl y)) (fun r => some (Sum.inr r)) = _
        rw [pdq4_eq, bif_decide, if_neg e12, bif_beq, if_pos h0, heap_spec (by omega) hb hs]
        rfl
      · obtain ⟨l1, d1, s1, k1⟩ := pd_1 (lim := lim) (wb := wb) (wp := wp) hab' hb hs (IntKind.wrap .i64 ((b : Int) - (a : Int))) (!wb)
        have b1 : b ≤ d1.size := by rw [s1.1]; exact hb
        have z1 : d1.size < 1152921504606846976 := by rw [s1.1]; exact hs
        obtain ⟨p, h, c1, p1, p2⟩ := choose_spec' hab' b1 z1
        obtain ⟨q, h2, d2, q1, q2, s2, k2⟩ := pd_2 (lim := l1) (wb := wb) (wp := wp) hab' b1 z1 (IntKind.wrap .i64 ((b : Int) - (a : Int))) h (h == 2) p1 p2
        have b2 : b ≤ d2.size := by rw [s2.1]; exact b1
        have z2 : d2.size < 1152921504606846976 := by rw [s2.1]; exact z1
        have B2 : Below ltE a b d2 := (hB.perm hb s1).perm b1 s2
        obtain ⟨t, ht⟩ : ∃ t : Bool, t = (bif wb then (bif wp then (h2 == 1) else false) else false) := ⟨_, rfl⟩
        obtain ⟨d3, s3, k3⟩ := pd_3 (lim := l1) (wb := wb) (wp := wp) hab' b2 z2 B2 (IntKind.wrap .i64 ((b : Int) - (a : Int))) (q : Int) t
        have b3 : b ≤ d3.size := by rw [s3.1]; exact b2
        have z3 : d3.size < 1152921504606846976 := by rw [s3.1]; exact z2
        have B3 : Below ltE a b d3 := B2.perm b2 s3
        have P3 : PermIn a b d d3 := permIn_trans _ _ _ a b (permIn_trans _ _ _ a b s1 s2) s3
        have step : ∀ (β : Type) (kn : (Int × Int × Int × Bool × Bool × (List V)) → Option β) (kr : (List V) → Option β), s_slices_pdqsortCmpFunc_api_Edge__4 CC a b lim wb wp (eA d) kn kr =
            s_slices_pdqsortCmpFunc_api_Edge__3 CC a b l1 wb wp (IntKind.wrap .i64 ((b : Int) - (a : Int))) (q : Int) t (eA d2) (way2 (fun (datas_12 : List V) => pdqRest CC a b wb wp l1 q datas_12 kn) (un fun (t_23 : Bool) (datas_24 : List V) => kr datas_24)) := by
          intro β kn kr
          rw [pdq4_eq, bif_decide, if_neg e12, bif_beq, if_neg h0, k1]
          simp only [un]
          rw [c1]
          simp only [Option.bind_some, V.nth_zero, V.nth_succ, V.toInt_int, List.drop_succ_cons, List.drop_zero]
          rw [k2]
          simp only [un]
          rw [ht]
          cases wb
          · rfl
          · cases wp
            · rfl
            · rfl
        rcases k3 with k3 | ⟨k3s, k3⟩
        · obtain ⟨a4, b4, wb4, wp4, d4, r1, r2, r3, r4, r5, r6, r7⟩ := rest_spec hab' b3 z3 B3 q1 q2 (fun a2 b2 d2 hlt h1 h2 h3 h4 => ih a2 b2 d2 (by omega) h1 h2 h3 h4) wb wp l1
          obtain ⟨R, e, e1, e2⟩ := ih a4 b4 d4 (by omega) r2 r3 r4 r5 l1 wb4 wp4
          obtain ⟨f1, f2⟩ := r6 R e1 e2
          refine ⟨R, (Loop_norm ?_).trans e, permIn_trans _ _ _ a b P3 f1, f2⟩
          show s_slices_pdqsortCmpFunc_api_Edge__4 CC a b lim wb wp (eA d) (fun y => some (Sum.inl y)) (fun r => some (Sum.inr r)) = _
          rw [step, k3]
          exact r7 _ (fun y => some (Sum.inl y))
        · refine ⟨d3, Loop_end ?_, P3, k3s⟩
          show s_slices_pdqsortCmpFunc_api_Edge__4 CC a b lim wb wp (eA d) (fun y => some (Sum.inl y)) (fun r => some (Sum.inr r)) = _
          rw [step, k3]
          rfl
theorem sortE_spec (l : List Ed) (hs : l.length < 1152921504606846976) : ∃ R : List Ed, CC F_slices_SortFunc___api_Edge_api_Edge_ [.list T_api_Edge (l.map Ed.enc)] = some [.list T_api_Edge (R.map Ed.enc)] ∧ R.Perm l ∧ R.Pairwise (fun x y => ¬ y.lt x) := by
  obtain ⟨L, e1, _⟩ := Len_spec (x := l.length) (by omega)
  obtain ⟨R, e2, h1, h2⟩ := (pdq_main _ 0 l.toArray.size l.toArray (Nat.le_refl _) (Nat.zero_le _) (Nat.le_refl _) (by simpa using hs) (.inl rfl)).call (L : Int)
  have hsz : R.size = l.length := by rw [h1.1]; simp
  refine ⟨R.toList, f_slices_SortFunc___api_Edge_api_Edge__of ?_, ?_, ?_⟩
  · unfold f_slices_SortFunc___api_Edge_api_Edge_
    rw [List.length_map, wrapu64 (A := l.length) (by omega), e1]
    simp only [Option.bind_some, V.nth_zero, V.toInt_int]
    have e3 : eA l.toArray = l.map Ed.enc := by simp [encA]
    rw [e3, show ((l.toArray.size : Nat) : Int) = (l.length : Int) by simp, show ((0 : Nat) : Int) = 0 from rfl] at e2
    rw [e2]
    rfl
  · have h3 := h1.2.2
    rw [show l.toArray.size = R.size from h1.1.symm, Array.extract_size, h1.1, Array.extract_size] at h3
    exact h3
  · rw [List.pairwise_iff_getElem]
    intro i j hi hj hij
    have h3 := h2 i j (Nat.zero_le _) hij (by simpa [← hsz] using hj)
    rw [ltE_eqf] at h3
    have hi' : i < R.size := by simpa using hi
    have hj' : j < R.size := by simpa using hj
    rw [getElem!_pos R i hi', getElem!_pos R j hj'] at h3
    simpa using h3
end Go.AM
set_option maxRecDepth 100000
namespace Go.AM
open Go.Proofs
noncomputable def f_semigroupref02_Bit (C : CallF) (j : Int) : Option (List V) :=
  bif decide (0 ≤ (IntKind.wrap .u64 j)) then
   some [.int .u64 (IntKind.wrap .u64 (1 * 2 ^ (min (IntKind.wrap .u64 j).toNat (IntKind.bits .u64))))]
  else none
theorem f_semigroupref02_Bit_of {j : Int} {r : Option (List V)} (h : f_semigroupref02_Bit CC j = r) : CC F_semigroupref02_Bit [.int .i64 j] = r :=
  func_of (key := 50) (L := LT0) (bs := []) (by kernel_rfl) tells_nil (Eq.trans (by kernel_rfl) h)
end Go.AM
set_option maxRecDepth 100000
namespace Go.AM
open Go.Proofs
noncomputable def f_semigroupref02_Has (C : CallF) (set' j : Int) : Option (List V) :=
  bif decide (0 ≤ (IntKind.wrap .u64 j)) then
   some [.bool (((IntKind.wrap .u64 ((BitVec.ofInt (IntKind.bits .u64) (Int.fdiv set' (2 ^ (min (IntKind.wrap .u64 j).toNat (IntKind.bits .u64)))) &&& BitVec.ofInt (IntKind.bits .u64) 1).toNat)) : Int) == 1)]
  else none
theorem f_semigroupref02_Has_of {set' j : Int} {r : Option (List V)} (h : f_semigroupref02_Has CC set' j = r) : CC F_semigroupref02_Has [.int .u64 set', .int .i64 j] = r :=
  func_of (key := 49) (L := LT0) (bs := []) (by kernel_rfl) tells_nil (Eq.trans (by kernel_rfl) h)
end Go.AM
set_option maxRecDepth 100000
set_option linter.unusedSimpArgs false
namespace Go.AM
open Go.Proofs
theorem Bit_spec {m : Nat} (h : m < 64) : CC F_semigroupref02_Bit [.int .i64 (m : Int)] = some [.int .u64 ((2 ^ m : Nat) : Int)] := by
  refine f_semigroupref02_Bit_of ?_
  unfold f_semigroupref02_Bit
  have e : IntKind.wrap .u64 (m : Int) = m := by rw [wrap_u64]; omega
  rw [bif_decide, e, if_pos (by omega), Int.toNat_natCast, u64_bit h]
theorem Has_spec {A m : Nat} (hA : A < 2 ^ 64) (h : m < 64) : CC F_semigroupref02_Has [.int .u64 (A : Int), .int .i64 (m : Int)] = some [.bool (A.testBit m)] := by
  refine f_semigroupref02_Has_of ?_
  unfold f_semigroupref02_Has
  have e : IntKind.wrap .u64 (m : Int) = m := by rw [wrap_u64]; omega
  rw [bif_decide, e, if_pos (by omega), Int.toNat_natCast, u64_has hA h]
theorem Ed.In.nat {L S : Int} {e : Ed} (h : e.In L S) (hS : S ≤ 64) : ∃ f t : Nat, e.f = (f : Int) ∧ e.t = (t : Int) ∧ f < 64 ∧ t < 64 ∧ f < S.toNat ∧ t < S.toNat := by
  unfold Ed.In at h
  exact ⟨e.f.toNat, e.t.toNat, by omega, by omega, by omega, by omega, by omega, by omega⟩
theorem getD_mem {E : List Ed} {i : Nat} (h : i < E.length) : E.getD i default = E[i] := by simp [h]
end Go.AM
set_option maxRecDepth 100000
namespace Go.AM
open Go.Proofs
noncomputable abbrev B_semigroupref06_Sorted : Code := bodyOf Tryd.prog (ann.fid 48)
noncomputable def s_semigroupref06_Sorted_1 (C : CallF) (t7 : List V) (t8 t9 : Int) (outs : List V) (es_0 es_1 es_2 k' : Int) {β : Type} (kn : Int → Option β) (kr : (Int × Bool) → Option β) : Option β :=
  bif decide ((k' : Int) > 0) then
   bif (decide (0 ≤ (IntKind.wrap .i64 (k' - 1)))) && (decide ((IntKind.wrap .i64 (k' - 1)) < (outs.length : Int))) then
    (outs[(IntKind.wrap .i64 (k' - 1) : Int).toNat]?).bind fun x2 =>
    (C F_semigroupref06_before [.int .i64 es_0, .int .i64 es_1, .int .i64 es_2, .int .i64 ((x2.cell 0).toInt), .int .i64 ((x2.cell 1).toInt), .int .i64 ((x2.cell 2).toInt)]).bind fun r3 =>
    bif (V.nth r3 0).toBool then
     kn (IntKind.wrap .i64 (k' - 1))
    else
     kr (k', (V.nth r3 0).toBool)
   else none
  else
   kr (k', false)
noncomputable def s_semigroupref06_Sorted_1L (C : CallF) (t7 : List V) (t8 t9 : Int) (outs : List V) (es_0 es_1 es_2 : Int) : (Int) → Option ((Int) ⊕ (Int × Bool)) := fun k' => s_semigroupref06_Sorted_1 C t7 t8 t9 outs es_0 es_1 es_2 k' (fun y => some (.inl y)) (fun r => some (.inr r))
noncomputable def s_semigroupref06_Sorted_2 (C : CallF) (t7 : List V) (t8 t9 : Int) (outs : List V) {β : Type} (kn : (Int × (List V)) → Option β) (kr : (Int × Bool × (List V)) → Option β) : Option β :=
  bif decide ((t9 : Int) < t8) then
   (idx t7 t9).bind fun x1 =>
   (Loop (s_semigroupref06_Sorted_1L C t7 t8 t9 outs ((x1.cell 0).toInt) ((x1.cell 1).toInt) ((x1.cell 2).toInt)) (outs.length : Int)).bind (un fun (k_4 : Int) (t_5 : Bool) =>
     bif (k_4 : Int) == 0 then
      bif (decide (0 ≤ k_4)) && (decide (k_4 ≤ (outs.length : Int))) then
       bif Nat.ble ((([] : List V).length + ((outs.drop 0).take (((k_4 : Int).toNat) - 0)).length) * 24) maxBytes then
        bif Nat.ble (((([] : List V) ++ ((outs.drop 0).take (((k_4 : Int).toNat) - 0))).length + ([.agg [.int .i64 ((x1.cell 0).toInt), .int .i64 ((x1.cell 1).toInt), .int .i64 ((x1.cell 2).toInt)]] : List V).length) * 24) maxBytes then
         bif (decide (0 ≤ k_4)) && (decide (k_4 ≤ (outs.length : Int))) then
          bif Nat.ble ((((([] : List V) ++ ((outs.drop 0).take (((k_4 : Int).toNat) - 0))) ++ ([.agg [.int .i64 ((x1.cell 0).toInt), .int .i64 ((x1.cell 1).toInt), .int .i64 ((x1.cell 2).toInt)]] : List V)).length + ((outs.drop ((k_4 : Int).toNat)).take (outs.length - ((k_4 : Int).toNat))).length) * 24) maxBytes then
           kn (IntKind.wrap .i64 (t9 + 1), ((([] : List V) ++ ((outs.drop 0).take (((k_4 : Int).toNat) - 0))) ++ ([.agg [.int .i64 ((x1.cell 0).toInt), .int .i64 ((x1.cell 1).toInt), .int .i64 ((x1.cell 2).toInt)]] : List V)) ++ ((outs.drop ((k_4 : Int).toNat)).take (outs.length - ((k_4 : Int).toNat))))
          else none
         else none
        else none
       else none
      else none
     else
      bif (decide (0 ≤ (IntKind.wrap .i64 (k_4 - 1)))) && (decide ((IntKind.wrap .i64 (k_4 - 1)) < (outs.length : Int))) then
       (outs[(IntKind.wrap .i64 (k_4 - 1) : Int).toNat]?).bind fun x6 =>
       bif !(((((x6.cell 0).toInt) : Int) == ((x1.cell 0).toInt)) && (((((x6.cell 1).toInt) : Int) == ((x1.cell 1).toInt)) && (((((x6.cell 2).toInt) : Int) == ((x1.cell 2).toInt)) && true))) then
        bif (decide (0 ≤ k_4)) && (decide (k_4 ≤ (outs.length : Int))) then
         bif Nat.ble ((([] : List V).length + ((outs.drop 0).take (((k_4 : Int).toNat) - 0)).length) * 24) maxBytes then
          bif Nat.ble (((([] : List V) ++ ((outs.drop 0).take (((k_4 : Int).toNat) - 0))).length + ([.agg [.int .i64 ((x1.cell 0).toInt), .int .i64 ((x1.cell 1).toInt), .int .i64 ((x1.cell 2).toInt)]] : List V).length) * 24) maxBytes then
           bif (decide (0 ≤ k_4)) && (decide (k_4 ≤ (outs.length : Int))) then
            bif Nat.ble ((((([] : List V) ++ ((outs.drop 0).take (((k_4 : Int).toNat) - 0))) ++ ([.agg [.int .i64 ((x1.cell 0).toInt), .int .i64 ((x1.cell 1).toInt), .int .i64 ((x1.cell 2).toInt)]] : List V)).length + ((outs.drop ((k_4 : Int).toNat)).take (outs.length - ((k_4 : Int).toNat))).length) * 24) maxBytes then
             kn (IntKind.wrap .i64 (t9 + 1), ((([] : List V) ++ ((outs.drop 0).take (((k_4 : Int).toNat) - 0))) ++ ([.agg [.int .i64 ((x1.cell 0).toInt), .int .i64 ((x1.cell 1).toInt), .int .i64 ((x1.cell 2).toInt)]] : List V)) ++ ((outs.drop ((k_4 : Int).toNat)).take (outs.length - ((k_4 : Int).toNat))))
            else none
           else none
          else none
         else none
        else none
       else
        kn (IntKind.wrap .i64 (t9 + 1), outs)
      else none)
  else
   kr (t9, decide ((t9 : Int) < t8), outs)
noncomputable def s_semigroupref06_Sorted_2L (C : CallF) (t7 : List V) (t8 : Int) : (Int × (List V)) → Option ((Int × (List V)) ⊕ (Int × Bool × (List V))) := un fun t9 outs => s_semigroupref06_Sorted_2 C t7 t8 t9 outs (fun y => some (.inl y)) (fun r => some (.inr r))
noncomputable def LT_semigroupref06_Sorted (C : CallF) : LTab := fun β n ds k =>
  bif Nat.beq n 97 then loopS S48_97 [true, false, false, false, false, false, false, false] [[0, 2, 3, 4, 0, 5, 6, 7, 8]] (@s_semigroupref06_Sorted_1 C) ds k else
  bif Nat.beq n 49 then loopS S48_49 [false, false, true, true] [[1, 2, 0, 0, 0]] (@s_semigroupref06_Sorted_2 C) ds k else
  none
abbrev TS_semigroupref06_Sorted (C : CallF) (b : Bar) : Prop := Tells Tryd.prog ann C (LT_semigroupref06_Sorted C) 48 (ntmpsOf Tryd.prog (ann.fid 48)) (ann.sin 48).blks.length b
theorem t_semigroupref06_Sorted_1 (C : CallF) : TS_semigroupref06_Sorted C (.loop (codeAt [1, 1, 0, 1, 0, 0, 1, 1, 0, 0, 1, 1, 0, 0, 0] B_semigroupref06_Sorted)) :=
  tl3 S48_97 [true, false, false, false, false, false, false, false] [[0, 2, 3, 4, 0, 5, 6, 7, 8]] (@s_semigroupref06_Sorted_1 C) (by kernel_rfl) (ltok_of (bs := []) (by kernel_rfl) tells_nil) (fun ds => by kernel_rfl) (fun i x => by kernel_rfl) (fun i x β k => by kernel_rfl) (fun β ds k => by kernel_rfl)
theorem t_semigroupref06_Sorted_2 (C : CallF) : TS_semigroupref06_Sorted C (.loop (codeAt [1, 1, 0, 1, 0, 0] B_semigroupref06_Sorted)) :=
  tl3 S48_49 [false, false, true, true] [[1, 2, 0, 0, 0]] (@s_semigroupref06_Sorted_2 C) (by kernel_rfl) (ltok_of (bs := [.loop (codeAt [1, 1, 0, 1, 0, 0, 1, 1, 0, 0, 1, 1, 0, 0, 0] B_semigroupref06_Sorted)]) (by kernel_rfl) (tells_cons (t_semigroupref06_Sorted_1 C) tells_nil)) (fun ds => by kernel_rfl) (fun i x => by kernel_rfl) (fun i x β k => by kernel_rfl) (fun β ds k => by kernel_rfl)
noncomputable def f_semigroupref06_Sorted (C : CallF) (l : List V) : Option (List V) :=
  (Loop (s_semigroupref06_Sorted_2L C l (l.length : Int)) (0, ([] : List V))).bind (un fun (t_7 : Int) => un fun (t_8 : Bool) (outs_9 : List V) =>
    some [.list T_api_Edge outs_9])
theorem f_semigroupref06_Sorted_of {l : List V} {r : Option (List V)} (h : f_semigroupref06_Sorted CC l = r) : CC F_semigroupref06_Sorted [.list T_api_Edge l] = r :=
  func_of (key := 48) (L := LT_semigroupref06_Sorted CC) (bs := [.loop (codeAt [1, 1, 0, 1, 0, 0] B_semigroupref06_Sorted)]) (by kernel_rfl) (tells_cons (t_semigroupref06_Sorted_2 CC) tells_nil) (Eq.trans (by kernel_rfl) h)
end Go.AM
set_option maxRecDepth 100000
namespace Go.AM
open Go.Proofs
noncomputable abbrev B_semigroupref06_Same : Code := bodyOf Tryd.prog (ann.fid 16)
noncomputable def s_semigroupref06_Same_1 (C : CallF) (t43 as_0 as_1 as_2 as_3 : Int) (as_4 : List V) (b's_0 b's_1 b's_2 b's_3 : Int) (b's_4 : List V) (t44 : Int) {β : Type} (kn : Int → Option β) (kr : ((Bool) ⊕ (Int × Bool)) → Option β) : Option β :=
  bif decide ((t44 : Int) < t43) then
   (idx as_4 t44).bind fun x1 =>
   (idx b's_4 t44).bind fun x2 =>
   bif !(((((x1.cell 0).toInt) : Int) == ((x2.cell 0).toInt)) && (((((x1.cell 1).toInt) : Int) == ((x2.cell 1).toInt)) && (((((x1.cell 2).toInt) : Int) == ((x2.cell 2).toInt)) && true))) then
    kr (.inl false)
   else
    kn (IntKind.wrap .i64 (t44 + 1))
  else
   kr (.inr (t44, decide ((t44 : Int) < t43)))
noncomputable def s_semigroupref06_Same_1L (C : CallF) (t43 as_0 as_1 as_2 as_3 : Int) (as_4 : List V) (b's_0 b's_1 b's_2 b's_3 : Int) (b's_4 : List V) : (Int) → Option ((Int) ⊕ ((Bool) ⊕ (Int × Bool))) := fun t44 => s_semigroupref06_Same_1 C t43 as_0 as_1 as_2 as_3 as_4 b's_0 b's_1 b's_2 b's_3 b's_4 t44 (fun y => some (.inl y)) (fun r => some (.inr r))
noncomputable def LT_semigroupref06_Same (C : CallF) : LTab := fun β n ds k =>
  bif Nat.beq n 65 then loopS S16_65 [false, true, false, false, false, false, false, false, false, false, false, false] [[0], [1, 0, 0, 3, 4, 5, 6, 7, 8, 9, 10, 11, 12]] (@s_semigroupref06_Same_1 C) ds k else
  none
abbrev TS_semigroupref06_Same (C : CallF) (b : Bar) : Prop := Tells Tryd.prog ann C (LT_semigroupref06_Same C) 16 (ntmpsOf Tryd.prog (ann.fid 16)) (ann.sin 16).blks.length b
theorem t_semigroupref06_Same_1 (C : CallF) : TS_semigroupref06_Same C (.loop (codeAt [1, 1, 0, 1, 0, 0] B_semigroupref06_Same)) :=
  tl3 S16_65 [false, true, false, false, false, false, false, false, false, false, false, false] [[0], [1, 0, 0, 3, 4, 5, 6, 7, 8, 9, 10, 11, 12]] (@s_semigroupref06_Same_1 C) (by kernel_rfl) (ltok_of (bs := []) (by kernel_rfl) tells_nil) (fun ds => by kernel_rfl) (fun i x => by kernel_rfl) (fun i x β k => by kernel_rfl) (fun β ds k => by kernel_rfl)
noncomputable def f_semigroupref06_Same (C : CallF) (a_0 a_1 a_2 a_3 : Int) (a_4 : List V) (b'_0 b'_1 b'_2 b'_3 : Int) (b'_4 : List V) : Option (List V) :=
  bif (a_0 : Int) != b'_0 then
   some [.bool false]
  else
   bif (a_1 : Int) != b'_1 then
    some [.bool false]
   else
    bif (a_2 : Int) != b'_2 then
     some [.bool false]
    else
     bif (a_3 : Int) != b'_3 then
      some [.bool false]
     else
      bif ((a_4.length : Int) : Int) != (b'_4.length : Int) then
       some [.bool false]
      else
       (Loop (s_semigroupref06_Same_1L C (a_4.length : Int) a_0 a_1 a_2 a_3 a_4 b'_0 b'_1 b'_2 b'_3 b'_4) 0).bind (way2 (fun (t_3 : Bool) =>
         some [.bool t_3]) (un fun (t_4 : Int) (t_5 : Bool) =>
         some [.bool true]))
theorem f_semigroupref06_Same_of {a_0 a_1 a_2 a_3 : Int} {a_4 : List V} {b'_0 b'_1 b'_2 b'_3 : Int} {b'_4 : List V} {r : Option (List V)} (h : f_semigroupref06_Same CC a_0 a_1 a_2 a_3 a_4 b'_0 b'_1 b'_2 b'_3 b'_4 = r) : CC F_semigroupref06_Same [.int .i64 a_0, .int .i64 a_1, .int .u64 a_2, .int .u64 a_3, .list T_api_Edge a_4, .int .i64 b'_0, .int .i64 b'_1, .int .u64 b'_2, .int .u64 b'_3, .list T_api_Edge b'_4] = r :=
  func_of (key := 16) (L := LT_semigroupref06_Same CC) (bs := [.loop (codeAt [1, 1, 0, 1, 0, 0] B_semigroupref06_Same)]) (by kernel_rfl) (tells_cons (t_semigroupref06_Same_1 CC) tells_nil) (Eq.trans (by kernel_rfl) h)
end Go.AM
set_option maxRecDepth 100000
set_option linter.unusedSimpArgs false
set_option maxHeartbeats 1000000
namespace Go.AM
open Go.Proofs
theorem Ed.lt_irrefl (a : Ed) : ¬ a.lt a := by unfold Ed.lt; omega
theorem Ed.lt_trans {a b c : Ed} : a.lt b → b.lt c → a.lt c := by unfold Ed.lt; omega
theorem Ed.lt_asymm {a b : Ed} : a.lt b → ¬ b.lt a := by unfold Ed.lt; omega
theorem Ed.lt_tri {a b : Ed} (h1 : ¬ a.lt b) (h2 : ¬ b.lt a) : a = b := by
  cases a; cases b
  simp only [Ed.lt, Ed.mk.injEq] at *
  omega
abbrev Srt (E : List Ed) : Prop := E.Pairwise Ed.lt
theorem srt_of_next {E : List Ed} (h : ∀ i, i + 1 < E.length → (E.getD i default).lt (E.getD (i + 1) default)) : Srt E := by
  rw [Srt, List.pairwise_iff_getElem]
  intro i j hi hj hij
  have : ∀ d i, i + d + 1 < E.length → (E.getD i default).lt (E.getD (i + d + 1) default) := by
    intro d
    induction d with
    | zero => intro i hi; exact h i hi
    | succ d ih => intro i hi; exact Ed.lt_trans (ih i (by omega)) (by have := h (i + d + 1) (by omega); exact this)
  have h1 := this (j - i - 1) i (by omega)
  rw [show i + (j - i - 1) + 1 = j by omega] at h1
  simpa [hi, hj] using h1
theorem Nf.srt {n : Nf} (h : n.code = 0) : Srt n.E := by
  unfold Nf.code at h
  split at h
  · omega
  split at h
  · omega
  split at h
  · rename_i h3
    refine srt_of_next fun i hi => ?_
    have := (h3 (i + 1) hi).2 (by omega)
    simpa using this
  · omega
def Ed.key (e : Ed) : Nat := (e.f.toNat * 6 + e.l.toNat) * 64 + e.t.toNat
theorem Ed.key_lt {a b : Ed} {L S : Int} (hL : L ≤ 6) (hS : S ≤ 64) (ha : a.In L S) (hb : b.In L S) (h : a.lt b) : a.key < b.key := by
  unfold Ed.In at ha hb
  unfold Ed.lt at h
  unfold Ed.key
  omega
theorem key_ge {L S : Int} (hL : L ≤ 6) (hS : S ≤ 64) : ∀ (E : List Ed), Srt E → (∀ e ∈ E, e.In L S) → ∀ i (hi : i < E.length), i ≤ E[i].key := by
  intro E h hE i
  induction i with
  | zero => intro hi; omega
  | succ i ih =>
    intro hi
    have h1 := ih (by omega)
    have h2 := (List.pairwise_iff_getElem.1 h) i (i + 1) (by omega) hi (by omega)
    have := Ed.key_lt hL hS (hE _ (List.getElem_mem _)) (hE _ (List.getElem_mem _)) h2
    omega
theorem srt_len {L S : Int} (hL : L ≤ 6) (hS : S ≤ 64) {E : List Ed} (h : Srt E) (hE : ∀ e ∈ E, e.In L S) : E.length ≤ 24576 := by
  by_cases h0 : E.length = 0
  · omega
  · have h1 := key_ge hL hS E h hE (E.length - 1) (by omega)
    have h2 := hE E[E.length - 1] (List.getElem_mem _)
    unfold Ed.In at h2
    unfold Ed.key at h1
    omega
theorem srt_ext : ∀ {A B : List Ed}, Srt A → Srt B → (∀ x, x ∈ A ↔ x ∈ B) → A = B
  | [], [], _, _, _ => rfl
  | [], b :: B, _, _, h => by have := (h b).2 (by simp); cases this
  | a :: A, [], _, _, h => by have := (h a).1 (by simp); cases this
  | a :: A, b :: B, hA, hB, h => by
    have a1 := List.pairwise_cons.1 hA
    have b1 := List.pairwise_cons.1 hB
    have hab : a = b := by
      have ha := (h a).1 (by simp)
      have hb := (h b).2 (by simp)
      rcases List.mem_cons.1 ha with e | e
      · exact e
      · rcases List.mem_cons.1 hb with e' | e'
        · exact e'.symm
        · exact absurd (a1.1 b e') (Ed.lt_asymm (b1.1 a e))
    subst hab
    rw [srt_ext a1.2 b1.2 fun x => ?_]
    constructor
    · intro hx
      rcases List.mem_cons.1 ((h x).1 (by simp [hx])) with e | e
      · subst e; exact absurd (a1.1 x hx) (Ed.lt_irrefl x)
      · exact e
    · intro hx
      rcases List.mem_cons.1 ((h x).2 (by simp [hx])) with e | e
      · subst e; exact absurd (b1.1 x hx) (Ed.lt_irrefl x)
      · exact e
theorem srt_of_sort {R l : List Ed} (hp : R.Perm l) (hn : l.Nodup) (hs : R.Pairwise (fun x y => ¬ y.lt x)) : Srt R := by
  have hn' : R.Nodup := hp.nodup_iff.2 hn
  refine List.Pairwise.imp₂ (fun a b h1 h2 => ?_) hs hn'
  by_cases h : a.lt b
  · exact h
  · exact absurd (Ed.lt_tri h h1) h2
def posE (out : List Ed) (e : Ed) : Nat → Nat
  | 0 => 0
  | k + 1 => if e.lt (out.getD k default) then posE out e k else k + 1
def insE (out : List Ed) (e : Ed) : List Ed :=
  if posE out e out.length = 0 ∨ ¬ out.getD (posE out e out.length - 1) default = e then out.take (posE out e out.length) ++ [e] ++ out.drop (posE out e out.length) else out
def sortedN (l : List Ed) : List Ed := l.foldl insE []
theorem posE_le (out : List Ed) (e : Ed) : ∀ k, posE out e k ≤ k
  | 0 => Nat.le_refl _
  | k + 1 => by unfold posE; split; exact Nat.le_succ_of_le (posE_le out e k); exact Nat.le_refl _
theorem posE_up (out : List Ed) (e : Ed) : ∀ k i, posE out e k ≤ i → i < k → e.lt (out.getD i default)
  | 0, i, _, h => by omega
  | k + 1, i, h1, h2 => by
    unfold posE at h1
    split at h1
    · rename_i h3
      by_cases hi : i = k
      · subst hi; exact h3
      · exact posE_up out e k i h1 (by omega)
    · omega
theorem posE_dn (out : List Ed) (e : Ed) : ∀ k, posE out e k ≠ 0 → ¬ e.lt (out.getD (posE out e k - 1) default)
  | 0, h => by simp [posE] at h
  | k + 1, h => by
    unfold posE at h ⊢
    split
    · rename_i h3
      rw [if_pos h3] at h
      exact posE_dn out e k h
    · rename_i h3
      simpa using h3
theorem insE_mem {out : List Ed} {e x : Ed} (hk : posE out e out.length ≤ out.length) : x ∈ insE out e ↔ x = e ∨ x ∈ out := by
  unfold insE
  split
  · rename_i h
    have := List.take_append_drop (posE out e out.length) out
    constructor
    · intro hx
      simp only [List.append_assoc, List.mem_append, List.mem_singleton] at hx
      rcases hx with hx | hx | hx
      · exact .inr (List.mem_of_mem_take hx)
      · exact .inl hx
      · exact .inr (List.mem_of_mem_drop hx)
    · rintro (rfl | hx)
      · simp
      · rw [← this] at hx
        simp only [List.mem_append] at hx
        simp only [List.append_assoc, List.mem_append, List.mem_singleton]
        rcases hx with hx | hx
        · exact .inl hx
        · exact .inr (.inr hx)
  · rename_i h
    simp only [not_or, Classical.not_not] at h
    constructor
    · exact .inr
    · rintro (rfl | hx)
      · have h1 := h.2
        have h2 : posE out x out.length - 1 < out.length := by omega
        rw [← h1]
        simp [h2]
      · exact hx
theorem insE_srt {out : List Ed} {e : Ed} (h : Srt out) : Srt (insE out e) := by
  have hk := posE_le out e out.length
  have up := posE_up out e out.length
  have dn := posE_dn out e out.length
  unfold insE
  generalize hq : posE out e out.length = k at *
  split
  · rename_i hc
    have g := List.pairwise_iff_getElem.1 h
    have hlo : ∀ x ∈ out.take k, x.lt e := by
      intro x hx
      obtain ⟨i, hi, rfl⟩ := List.getElem_of_mem hx
      have hi' : i < k := by rw [List.length_take] at hi; omega
      have hil : i < out.length := by omega
      rw [List.getElem_take]
      have hk0 : k ≠ 0 := by omega
      have h1 := dn hk0
      have h2 : ¬ out.getD (k - 1) default = e := by
        rcases hc with hc | hc
        · exact absurd hc hk0
        · exact hc
      have hkl : k - 1 < out.length := by omega
      have e1 : out.getD (k - 1) default = out[k - 1] := by simp [hkl]
      rw [e1] at h1 h2
      have h3 : out[k - 1].lt e := by
        by_cases h4 : out[k - 1].lt e
        · exact h4
        · exact absurd (Ed.lt_tri h4 h1) h2
      by_cases hik : i = k - 1
      · subst hik; exact h3
      · exact Ed.lt_trans (g i (k - 1) hil hkl (by omega)) h3
    have hhi : ∀ y ∈ out.drop k, e.lt y := by
      intro y hy
      obtain ⟨i, hi, rfl⟩ := List.getElem_of_mem hy
      rw [List.length_drop] at hi
      rw [List.getElem_drop]
      have := up (k + i) (by omega) (by omega)
      have e1 : out.getD (k + i) default = out[k + i] := by simp [show k + i < out.length by omega]
      rwa [e1] at this
    rw [Srt, List.append_assoc, List.pairwise_append]
    refine ⟨h.sublist (List.take_sublist _ _), ?_, ?_⟩
    · rw [List.singleton_append, List.pairwise_cons]
      exact ⟨hhi, h.sublist (List.drop_sublist _ _)⟩
    · intro x hx y hy
      rw [List.singleton_append, List.mem_cons] at hy
      rcases hy with rfl | hy
      · exact hlo x hx
      · exact Ed.lt_trans (hlo x hx) (hhi y hy)
  · exact h
theorem insFold : ∀ (l out : List Ed), Srt out → Srt (l.foldl insE out) ∧ ∀ x, x ∈ l.foldl insE out ↔ x ∈ l ∨ x ∈ out
  | [], out, h => ⟨h, by simp⟩
  | e :: l, out, h => by
    obtain ⟨h1, h2⟩ := insFold l (insE out e) (insE_srt h)
    refine ⟨h1, fun x => ?_⟩
    rw [List.foldl_cons, h2, insE_mem (posE_le _ _ _)]
    simp only [List.mem_cons]
    constructor
    · rintro (h | h | h)
      · exact .inl (.inr h)
      · exact .inl (.inl h)
      · exact .inr h
    · rintro ((h | h) | h)
      · exact .inr (.inl h)
      · exact .inl h
      · exact .inr (.inr h)
theorem sortedN_srt (l : List Ed) : Srt (sortedN l) := (insFold l [] List.Pairwise.nil).1
theorem sortedN_mem {l : List Ed} {x : Ed} : x ∈ sortedN l ↔ x ∈ l := by
  have := (insFold l [] List.Pairwise.nil).2 x
  simpa [sortedN] using this
theorem insE_len (out : List Ed) (e : Ed) : (insE out e).length ≤ out.length + 1 := by
  unfold insE
  have := posE_le out e out.length
  split
  · simp only [List.length_append, List.length_take, List.length_drop, List.length_cons, List.length_nil]; omega
  · omega
theorem sorted_1 {out : List Ed} {e : Ed} {t7 : List V} {t8 t9 : Int} : ∀ k, k ≤ out.length → out.length < 1152921504606846976 → ∃ t, Loop (s_semigroupref06_Sorted_1L CC t7 t8 t9 (out.map Ed.enc) e.f e.l e.t) (k : Int) = some (((posE out e k : Nat) : Int), t)
  | 0, _, _ => ⟨false, Loop_end (by
      simp (disch := omega) only [s_semigroupref06_Sorted_1L, s_semigroupref06_Sorted_1, bif_decide, if_neg]
      rfl)⟩
  | k + 1, hk, hs => by
    obtain ⟨t, ih⟩ := sorted_1 (out := out) (e := e) (t7 := t7) (t8 := t8) (t9 := t9) k (by omega) hs
    have e1 : s_semigroupref06_Sorted_1L CC t7 t8 t9 (out.map Ed.enc) e.f e.l e.t ((k + 1 : Nat) : Int) = bif decide (e.lt (out.getD k default)) then some (.inl (k : Int)) else some (.inr (((k + 1 : Nat) : Int), decide (e.lt (out.getD k default)))) := by
      simp only [s_semigroupref06_Sorted_1L, s_semigroupref06_Sorted_1]
      rw [bif_decide, if_pos (by omega), predC, wrap64 (by omega) (by omega), bif_and, bif_decide, if_pos (by omega), bif_decide, if_pos (by rw [List.length_map]; omega), Int.toNat_natCast]
      have hg : (out.map Ed.enc)[k]? = some (out.getD k default).enc := by
        rw [List.getElem?_map, List.getElem?_eq_getElem (by omega)]; simp [show k < out.length by omega]
      rw [hg]
      simp only [Option.bind_some, Ed.enc_0, Ed.enc_1, Ed.enc_2, before_spec, V.nth_zero, V.toBool_bool]
    unfold posE
    by_cases h : e.lt (out.getD k default)
    · rw [if_pos h]
      rw [decide_eq_true h, cond_true] at e1
      exact ⟨t, (Loop_norm e1).trans ih⟩
    · rw [if_neg h]
      rw [decide_eq_false h, cond_false] at e1
      exact ⟨_, Loop_end e1⟩
theorem edeq (a b : Ed) : ((a.f == b.f) && ((a.l == b.l) && ((a.t == b.t) && true))) = decide (a = b) := by
  cases a; cases b
  rw [Bool.eq_iff_iff]
  simp
theorem takeDrop (out : List Ed) (k : Nat) (e : Ed) : ((([] : List V) ++ (((out.map Ed.enc).drop 0).take (k - 0))) ++ ([e.enc] : List V)) ++ (((out.map Ed.enc).drop k).take ((out.map Ed.enc).length - k)) = (out.take k ++ [e] ++ out.drop k).map Ed.enc := by
  simp
  rw [List.take_of_length_le (by simp)]
theorem Sorted_spec {l : List Ed} (hl : l.length ≤ 1000000000) : CC F_semigroupref06_Sorted [.list T_api_Edge (l.map Ed.enc)] = some [.list T_api_Edge ((sortedN l).map Ed.enc)] := by
  refine f_semigroupref06_Sorted_of ?_
  unfold f_semigroupref06_Sorted
  have := Loop_foldI (step := s_semigroupref06_Sorted_2L CC (l.map Ed.enc) ((l.map Ed.enc).length : Int)) l (fun i (out : List Ed) => ((i : Int), out.map Ed.enc)) insE (fun out => ((l.length : Int), false, out.map Ed.enc)) (fun i out => out.length ≤ i) ?_ ?_ [] (Nat.le_refl _)
  · rw [show Loop (s_semigroupref06_Sorted_2L CC (l.map Ed.enc) ((l.map Ed.enc).length : Int)) (0, ([] : List V)) = _ from this.1]
    rfl
  · intro i out hi ho
    refine ⟨?_, Nat.le_trans (insE_len _ _) (by omega)⟩
    obtain ⟨t, h1⟩ := sorted_1 (out := out) (e := l[i]) (t7 := l.map Ed.enc) (t8 := ((l.map Ed.enc).length : Int)) (t9 := (i : Int)) out.length (Nat.le_refl _) (by omega)
    have hk := posE_le out l[i] out.length
    simp only [s_semigroupref06_Sorted_2L, s_semigroupref06_Sorted_2, un]
    rw [bif_decide, if_pos (by rw [List.length_map]; omega), idx_ed hi, getD_mem hi]
    simp only [Option.bind_some, Ed.enc_0, Ed.enc_1, Ed.enc_2]
    rw [show ((out.map Ed.enc).length : Int) = ((out.length : Nat) : Int) by simp, h1]
    simp only [Option.bind_some, un, Ed.re]
    unfold insE
    generalize posE out l[i] out.length = k at *
    have hput : ∀ X : Option (((Int × List V)) ⊕ (Int × Bool × List V)), X = some (.inl (IntKind.wrap .i64 ((i : Int) + 1), ((([] : List V) ++ (((out.map Ed.enc).drop 0).take (((k : Int).toNat) - 0))) ++ ([l[i].enc] : List V)) ++ (((out.map Ed.enc).drop ((k : Int).toNat)).take ((out.map Ed.enc).length - ((k : Int).toNat))))) →
        X = some (.inl (((i + 1 : Nat) : Int), (out.take k ++ [l[i]] ++ out.drop k).map Ed.enc)) := by
      intro X hX
      rw [hX, Int.toNat_natCast, takeDrop, succC, wrap64 (by omega) (by omega)]
    have lens : (([] : List V).length + (((out.map Ed.enc).drop 0).take (((k : Int).toNat) - 0)).length) * 24 ≤ maxBytes ∧
        ((([] : List V) ++ (((out.map Ed.enc).drop 0).take (((k : Int).toNat) - 0))).length + ([l[i].enc] : List V).length) * 24 ≤ maxBytes ∧
        (((([] : List V) ++ (((out.map Ed.enc).drop 0).take (((k : Int).toNat) - 0))) ++ ([l[i].enc] : List V)).length + (((out.map Ed.enc).drop ((k : Int).toNat)).take ((out.map Ed.enc).length - ((k : Int).toNat))).length) * 24 ≤ maxBytes := by
      rw [maxB]
      simp only [Int.toNat_natCast, List.length_append, List.length_take, List.length_drop, List.length_map, List.length_nil, List.length_cons]
      omega
    by_cases hk0 : k = 0
    · rw [if_pos (Or.inl hk0), bif_beq, if_pos (by omega)]
      refine hput _ ?_
      rw [bif_and, bif_decide, if_pos (by omega), bif_decide, if_pos (by omega), bif_ble, if_pos lens.1, bif_ble, if_pos lens.2.1, bif_and, bif_decide, if_pos (by omega), bif_decide, if_pos (by omega), bif_ble, if_pos lens.2.2]
    · rw [bif_beq, if_neg (by omega), sub1C (by omega), wrap64 (x := ((k - 1 : Nat) : Int)) (by omega) (by omega), bif_and, bif_decide, if_pos (by omega), bif_decide, if_pos (by omega), Int.toNat_natCast]
      have hg : (out.map Ed.enc)[k - 1]? = some (out.getD (k - 1) default).enc := by
        rw [List.getElem?_map, List.getElem?_eq_getElem (by omega)]; simp [show k - 1 < out.length by omega]
      rw [hg]
      simp only [Option.bind_some, Ed.enc_0, Ed.enc_1, Ed.enc_2, edeq]
      by_cases hc : out.getD (k - 1) default = l[i]
      · rw [if_neg (fun hx => hx.elim hk0 (fun h => h hc)), decide_eq_true hc]
        simp only [Bool.not_true, cond_false]
        rw [succC, wrap64 (by omega) (by omega)]
      · rw [if_pos (Or.inr hc), decide_eq_false hc]
        simp only [Bool.not_false, cond_true]
        refine hput _ ?_
        rw [bif_and, bif_decide, if_pos (by omega), bif_decide, if_pos (by omega), bif_ble, if_pos lens.1, bif_ble, if_pos lens.2.1, bif_and, bif_decide, if_pos (by omega), bif_decide, if_pos (by omega), bif_ble, if_pos lens.2.2]
  · intro out ho
    simp only [s_semigroupref06_Sorted_2L, s_semigroupref06_Sorted_2, un]
    rw [List.length_map, dec_false (by omega), cond_false]
theorem Same_refl (n : Nf) (hl : n.E.length ≤ maxLen) : CC F_semigroupref06_Same (nfA n (nfA n [])) = some [.bool true] := by
  have hm := maxLen_le
  refine f_semigroupref06_Same_of ?_
  unfold f_semigroupref06_Same
  rw [bif_bne, if_pos rfl, bif_bne, if_pos rfl, bif_bne, if_pos rfl, bif_bne, if_pos rfl, bif_bne, if_pos rfl]
  have := Loop_rounds (step := s_semigroupref06_Same_1L CC ((n.E.map Ed.enc).length : Int) n.L n.S n.st n.fin (n.E.map Ed.enc) n.L n.S n.st n.fin (n.E.map Ed.enc)) (fun i => (i : Int)) n.E.length (r := .inr ((n.E.length : Int), false)) ?_ ?_
  · rw [show Loop (s_semigroupref06_Same_1L CC ((n.E.map Ed.enc).length : Int) n.L n.S n.st n.fin (n.E.map Ed.enc) n.L n.S n.st n.fin (n.E.map Ed.enc)) 0 = _ from this]
    rfl
  · intro i hi
    simp only [s_semigroupref06_Same_1L, s_semigroupref06_Same_1]
    rw [bif_decide, if_pos (by rw [List.length_map]; omega), idx_ed hi]
    simp only [Option.bind_some, Ed.enc_0, Ed.enc_1, Ed.enc_2, edeq]
    simp only [decide_true, Bool.not_true, cond_false]
    rw [succC, wrap64 (by omega) (by omega)]
  · simp only [s_semigroupref06_Same_1L, s_semigroupref06_Same_1]
    rw [List.length_map, dec_false (by omega), cond_false]
end Go.AM
set_option maxRecDepth 100000
namespace Go.AM
open Go.Proofs
noncomputable abbrev B_nfa_Position : Code := bodyOf Tryd.prog (ann.fid 14)
noncomputable def s_nfa_Position_1 (C : CallF) (t48 : Bool) (t4s_0 t4s_1 t4s_2 t4s_3 : Int) (letterOfs : List V) (ps ns_0 ns_1 ns_2 ns_3 : Int) (b4_ b5_ b6_ : List V) {β : Type} (kr : (Int) → Option β) : Option β :=
  bif t48 then
   kr (IntKind.wrap .u64 ((BitVec.ofInt (IntKind.bits .u64) ns_3 ||| BitVec.ofInt (IntKind.bits .u64) 1).toNat))
  else
   kr ns_3
noncomputable def s_nfa_Position_2 (C : CallF) (from' t55 t56 t63 t4s_0 t4s_1 t4s_2 t4s_3 : Int) (letterOfs : List V) (ns_0 ns_1 ns_2 ns_3 : Int) (t54s t62s b5_ : List V) (t64 : Int) (b6_ : List V) {β : Type} (kn : (Int × (List V)) → Option β) (kr : (Int × Bool × (List V)) → Option β) : Option β :=
  bif decide ((t64 : Int) < t63) then
   bif (decide (0 ≤ t64)) && (decide (t64 < (t62s.length : Int))) then
    (t62s[(t64 : Int).toNat]?).bind fun x8 =>
    bif (decide (0 ≤ x8.toInt)) && (decide (x8.toInt < (letterOfs.length : Int))) then
     (letterOfs[(x8.toInt : Int).toNat]?).bind fun x9 =>
     bif Nat.ble ((b6_.length + ([.agg [.int .i64 from', .int .i64 x9.toInt, .int .i64 x8.toInt]] : List V).length) * 24) maxBytes then
      kn (IntKind.wrap .i64 (t64 + 1), b6_ ++ ([.agg [.int .i64 from', .int .i64 x9.toInt, .int .i64 x8.toInt]] : List V))
     else none
    else none
   else none
  else
   kr (t64, decide ((t64 : Int) < t63), b6_)
noncomputable def s_nfa_Position_2L (C : CallF) (from' t55 t56 t63 t4s_0 t4s_1 t4s_2 t4s_3 : Int) (letterOfs : List V) (ns_0 ns_1 ns_2 ns_3 : Int) (t54s t62s b5_ : List V) : (Int × (List V)) → Option ((Int × (List V)) ⊕ (Int × Bool × (List V))) := un fun t64 b6_ => s_nfa_Position_2 C from' t55 t56 t63 t4s_0 t4s_1 t4s_2 t4s_3 letterOfs ns_0 ns_1 ns_2 ns_3 t54s t62s b5_ t64 b6_ (fun y => some (.inl y)) (fun r => some (.inr r))
noncomputable def s_nfa_Position_3 (C : CallF) (t55 t4s_0 t4s_1 t4s_2 t4s_3 : Int) (letterOfs : List V) (ns_0 ns_1 ns_2 ns_3 : Int) (t54s b4_ : List V) (t56 : Int) (b5_ : List V) {β : Type} (kn : (Int × (List V)) → Option β) (kr : (Int × Bool × (List V)) → Option β) : Option β :=
  bif decide ((t56 : Int) < t55) then
   bif (decide (0 ≤ t56)) && (decide (t56 < (t54s.length : Int))) then
    (t54s[(t56 : Int).toNat]?).bind fun x6 =>
    (C F_relation_Members [.int .u64 x6.toInt]).bind fun r7 =>
    (Loop (s_nfa_Position_2L C t56 t55 t56 (((V.nth r7 0).toList).length : Int) t4s_0 t4s_1 t4s_2 t4s_3 letterOfs ns_0 ns_1 ns_2 ns_3 t54s ((V.nth r7 0).toList) b4_) (0, b5_)).bind (un fun (t_10 : Int) => un fun (t_11 : Bool) (b_12 : List V) =>
      kn (IntKind.wrap .i64 (t56 + 1), b_12))
   else none
  else
   kr (t56, decide ((t56 : Int) < t55), b5_)
noncomputable def s_nfa_Position_3L (C : CallF) (t55 t4s_0 t4s_1 t4s_2 t4s_3 : Int) (letterOfs : List V) (ns_0 ns_1 ns_2 ns_3 : Int) (t54s b4_ : List V) : (Int × (List V)) → Option ((Int × (List V)) ⊕ (Int × Bool × (List V))) := un fun t56 b5_ => s_nfa_Position_3 C t55 t4s_0 t4s_1 t4s_2 t4s_3 letterOfs ns_0 ns_1 ns_2 ns_3 t54s b4_ t56 b5_ (fun y => some (.inl y)) (fun r => some (.inr r))
noncomputable def LT_nfa_Position (C : CallF) : LTab := fun β n ds k =>
  bif Nat.beq n 783 then condS S14_783 [[2, 3, 4, 5, 6, 7, 8, 9, 10, 0, 12, 13, 14]] (@s_nfa_Position_1 C) ds k else
  bif Nat.beq n 273 then loopS S14_273 [false, false, false, false, true, false, false, false, false, false, false, false, false, false, false, false, false, true] [[1, 2, 3, 4, 0, 0, 6, 7, 8, 9, 10, 11, 12, 13, 14, 15, 16, 17, 0]] (@s_nfa_Position_2 C) ds k else
  bif Nat.beq n 225 then loopS S14_225 [false, true, false, false, false, false, false, false, false, false, false, false, false, true] [[1, 0, 0, 3, 4, 5, 6, 7, 8, 9, 10, 11, 12, 13, 0]] (@s_nfa_Position_3 C) ds k else
  none
abbrev TS_nfa_Position (C : CallF) (b : Bar) : Prop := Tells Tryd.prog ann C (LT_nfa_Position C) 14 (ntmpsOf Tryd.prog (ann.fid 14)) (ann.sin 14).blks.length b
theorem t_nfa_Position_1 (C : CallF) : TS_nfa_Position C (.cond 48 (codeAt [1, 1, 1, 1, 1, 1, 1, 1, 0, 1, 0] B_nfa_Position) (codeAt [1, 1, 1, 1, 1, 1, 1, 1, 0, 1, 1] B_nfa_Position)) :=
  tc3 S14_783 [[2, 3, 4, 5, 6, 7, 8, 9, 10, 0, 12, 13, 14]] (@s_nfa_Position_1 C) (by kernel_rfl) (ltok_of (bs := []) (by kernel_rfl) tells_nil) (ltok_of (bs := []) (by kernel_rfl) tells_nil) (fun ds => by kernel_rfl) (fun i β k => by kernel_rfl) (fun β ds k => by kernel_rfl)
theorem t_nfa_Position_2 (C : CallF) : TS_nfa_Position C (.loop (codeAt [1, 1, 1, 1, 1, 1, 1, 1, 1, 0, 1, 0, 0, 1, 1, 0, 0, 1, 1, 0, 0] B_nfa_Position)) :=
  tl3 S14_273 [false, false, false, false, true, false, false, false, false, false, false, false, false, false, false, false, false, true] [[1, 2, 3, 4, 0, 0, 6, 7, 8, 9, 10, 11, 12, 13, 14, 15, 16, 17, 0]] (@s_nfa_Position_2 C) (by kernel_rfl) (ltok_of (bs := []) (by kernel_rfl) tells_nil) (fun ds => by kernel_rfl) (fun i x => by kernel_rfl) (fun i x β k => by kernel_rfl) (fun β ds k => by kernel_rfl)
theorem t_nfa_Position_3 (C : CallF) : TS_nfa_Position C (.loop (codeAt [1, 1, 1, 1, 1, 1, 1, 1, 1, 0, 1, 0, 0] B_nfa_Position)) :=
  tl3 S14_225 [false, true, false, false, false, false, false, false, false, false, false, false, false, true] [[1, 0, 0, 3, 4, 5, 6, 7, 8, 9, 10, 11, 12, 13, 0]] (@s_nfa_Position_3 C) (by kernel_rfl) (ltok_of (bs := [.loop (codeAt [1, 1, 1, 1, 1, 1, 1, 1, 1, 0, 1, 0, 0, 1, 1, 0, 0, 1, 1, 0, 0] B_nfa_Position)]) (by kernel_rfl) (tells_cons (t_nfa_Position_2 C) tells_nil)) (fun ds => by kernel_rfl) (fun i x => by kernel_rfl) (fun i x β k => by kernel_rfl) (fun β ds k => by kernel_rfl)
noncomputable def f_nfa_Position (C : CallF) (e_0 e_1 : Int) (e_2 : List V) (letters : Int) : Option (List V) :=
  (C F_nfa_plain [.int .i64 e_0, .int .i64 e_1, .list T_api_Expr e_2, .int .i64 letters]).bind fun r1 =>
  bif (((V.nth r1 0).toInt) : Int) != 0 then
   some [.int .i64 0, .int .i64 0, .int .u64 0, .int .u64 0, .int .i64 ((V.nth r1 0).toInt), .list T_api_Edge ([] : List V)]
  else
   (C F_nfa_letterNodes [.int .i64 e_0, .int .i64 e_1, .list T_api_Expr e_2]).bind fun r2 =>
   bif Nat.ble ((([.int .i64 (-1)] : List V).length + ((V.nth r2 0).toList).length) * 8) maxBytes then
    bif decide ((((([.int .i64 (-1)] : List V) ++ ((V.nth r2 0).toList)).length : Int) : Int) > 64) then
     some [.int .i64 0, .int .i64 0, .int .u64 0, .int .u64 0, .int .i64 3, .list T_api_Edge ([] : List V)]
    else
     bif (decide (0 ≤ ((([.int .i64 (-1)] : List V) ++ ((V.nth r2 0).toList)).length : Int))) && ((decide (((([.int .i64 (-1)] : List V) ++ ((V.nth r2 0).toList)).length : Int) ≤ ((([.int .i64 (-1)] : List V) ++ ((V.nth r2 0).toList)).length : Int))) && (Nat.ble (((((([.int .i64 (-1)] : List V) ++ ((V.nth r2 0).toList)).length : Int) : Int).toNat) * 8) maxBytes)) then
      (C F_nfa_positions_visit [.int .i64 e_0, .int .i64 e_1, .list T_api_Expr e_2, .int .i64 0, .list T_uint64 (List.replicate ((((([.int .i64 (-1)] : List V) ++ ((V.nth r2 0).toList)).length : Int) : Int).toNat) (V.int .u64 0))]).bind fun r3 =>
      bif decide (0 < (((V.nth ((r3.drop 3).drop 1) 0).toList).length : Int)) then
       (((V.nth ((r3.drop 3).drop 1) 0).toList)[0]?).bind fun x4 =>
       s_nfa_Position_1 C ((V.nth ((r3.drop 1).drop 1) 0).toBool) 0 0 0 0 (([.int .i64 (-1)] : List V) ++ ((V.nth r2 0).toList)) ((V.nth (r3.drop 3) 0).toInt) letters ((([.int .i64 (-1)] : List V) ++ ((V.nth r2 0).toList)).length : Int) 1 ((V.nth (r3.drop 1) 0).toInt) ([] : List V) (((V.nth ((r3.drop 3).drop 1) 0).toList).set 0 (.int .u64 ((V.nth r3 0).toInt))) ([] : List V) (fun (ns_5 : Int) =>
         (Loop (s_nfa_Position_3L C ((((V.nth ((r3.drop 3).drop 1) 0).toList).set 0 (.int .u64 ((V.nth r3 0).toInt))).length : Int) 0 0 0 0 (([.int .i64 (-1)] : List V) ++ ((V.nth r2 0).toList)) letters ((([.int .i64 (-1)] : List V) ++ ((V.nth r2 0).toList)).length : Int) 1 ns_5 (((V.nth ((r3.drop 3).drop 1) 0).toList).set 0 (.int .u64 ((V.nth r3 0).toInt))) ([] : List V)) (0, ([] : List V))).bind (un fun (t_13 : Int) => un fun (t_14 : Bool) (b_15 : List V) =>
           (C F_slices_SortFunc___api_Edge_api_Edge_ [.list T_api_Edge b_15]).bind fun r16 =>
           some [.int .i64 letters, .int .i64 ((([.int .i64 (-1)] : List V) ++ ((V.nth r2 0).toList)).length : Int), .int .u64 1, .int .u64 ns_5, .int .i64 0, .list T_api_Edge ((V.nth r16 0).toList)]))
      else none
     else none
   else none
theorem f_nfa_Position_of {e_0 e_1 : Int} {e_2 : List V} {letters : Int} {r : Option (List V)} (h : f_nfa_Position CC e_0 e_1 e_2 letters = r) : CC F_nfa_Position [.int .i64 e_0, .int .i64 e_1, .list T_api_Expr e_2, .int .i64 letters] = r :=
  func_of (key := 14) (L := LT_nfa_Position CC) (bs := [.cond 48 (codeAt [1, 1, 1, 1, 1, 1, 1, 1, 0, 1, 0] B_nfa_Position) (codeAt [1, 1, 1, 1, 1, 1, 1, 1, 0, 1, 1] B_nfa_Position), .loop (codeAt [1, 1, 1, 1, 1, 1, 1, 1, 1, 0, 1, 0, 0] B_nfa_Position)]) (by kernel_rfl) (tells_cons (t_nfa_Position_1 CC) (tells_cons (t_nfa_Position_3 CC) tells_nil)) (Eq.trans (by kernel_rfl) h)
end Go.AM
set_option maxRecDepth 100000
namespace Go.AM
open Go.Proofs
noncomputable abbrev B_semigroupref04_Letters : Code := bodyOf Tryd.prog (ann.fid 17)
noncomputable def s_semigroupref04_Letters_1 (C : CallF) (n : Int) (t8 : Bool) (es_0 es_1 : Int) (es_2 : List V) {β : Type} (kr : (Int) → Option β) : Option β :=
  bif t8 then
   kr 1
  else
   kr n
noncomputable def s_semigroupref04_Letters_2 (C : CallF) (t10 : List V) (t11 n t12 : Int) {β : Type} (kn : (Int × Int) → Option β) (kr : (Int × Int × Bool) → Option β) : Option β :=
  bif decide ((t12 : Int) < t11) then
   (idx t10 t12).bind fun x2 =>
   (C F_semigroupref04_Letters [.int .i64 ((x2.cell 0).toInt), .int .i64 ((x2.cell 1).toInt), .list T_api_Expr ((x2.cell 2).toList)]).bind fun r3 =>
   kn (IntKind.wrap .i64 (n + ((V.nth r3 0).toInt)), IntKind.wrap .i64 (t12 + 1))
  else
   kr (n, t12, decide ((t12 : Int) < t11))
noncomputable def s_semigroupref04_Letters_2L (C : CallF) (t10 : List V) (t11 : Int) : (Int × Int) → Option ((Int × Int) ⊕ (Int × Int × Bool)) := un fun n t12 => s_semigroupref04_Letters_2 C t10 t11 n t12 (fun y => some (.inl y)) (fun r => some (.inr r))
noncomputable def LT_semigroupref04_Letters (C : CallF) : LTab := fun β n ds k =>
  bif Nat.beq n 143 then condS S17_143 [[0, 3, 4, 5]] (@s_semigroupref04_Letters_1 C) ds k else
  bif Nat.beq n 81 then loopS S17_81 [true, false, false, true] [[0, 2, 3, 0, 0]] (@s_semigroupref04_Letters_2 C) ds k else
  none
abbrev TS_semigroupref04_Letters (C : CallF) (b : Bar) : Prop := Tells Tryd.prog ann C (LT_semigroupref04_Letters C) 17 (ntmpsOf Tryd.prog (ann.fid 17)) (ann.sin 17).blks.length b
theorem t_semigroupref04_Letters_1 (C : CallF) : TS_semigroupref04_Letters C (.cond 8 (codeAt [1, 1, 0, 1, 0] B_semigroupref04_Letters) (codeAt [1, 1, 0, 1, 1] B_semigroupref04_Letters)) :=
  tc3 S17_143 [[0, 3, 4, 5]] (@s_semigroupref04_Letters_1 C) (by kernel_rfl) (ltok_of (bs := []) (by kernel_rfl) tells_nil) (ltok_of (bs := []) (by kernel_rfl) tells_nil) (fun ds => by kernel_rfl) (fun i β k => by kernel_rfl) (fun β ds k => by kernel_rfl)
theorem t_semigroupref04_Letters_2 (C : CallF) : TS_semigroupref04_Letters C (.loop (codeAt [1, 1, 1, 0, 1, 0, 0] B_semigroupref04_Letters)) :=
  tl3 S17_81 [true, false, false, true] [[0, 2, 3, 0, 0]] (@s_semigroupref04_Letters_2 C) (by kernel_rfl) (ltok_of (bs := []) (by kernel_rfl) tells_nil) (fun ds => by kernel_rfl) (fun i x => by kernel_rfl) (fun i x β k => by kernel_rfl) (fun β ds k => by kernel_rfl)
noncomputable def f_semigroupref04_Letters (C : CallF) (e_0 e_1 : Int) (e_2 : List V) : Option (List V) :=
  s_semigroupref04_Letters_1 C 0 ((e_0 : Int) == 3) e_0 e_1 e_2 (fun (n_1 : Int) =>
    (Loop (s_semigroupref04_Letters_2L C e_2 (e_2.length : Int)) (n_1, 0)).bind (un fun (n_4 : Int) => un fun (t_5 : Int) (t_6 : Bool) =>
      some [.int .i64 n_4]))
theorem f_semigroupref04_Letters_of {e_0 e_1 : Int} {e_2 : List V} {r : Option (List V)} (h : f_semigroupref04_Letters CC e_0 e_1 e_2 = r) : CC F_semigroupref04_Letters [.int .i64 e_0, .int .i64 e_1, .list T_api_Expr e_2] = r :=
  func_of (key := 17) (L := LT_semigroupref04_Letters CC) (bs := [.cond 8 (codeAt [1, 1, 0, 1, 0] B_semigroupref04_Letters) (codeAt [1, 1, 0, 1, 1] B_semigroupref04_Letters), .loop (codeAt [1, 1, 1, 0, 1, 0, 0] B_semigroupref04_Letters)]) (by kernel_rfl) (tells_cons (t_semigroupref04_Letters_1 CC) (tells_cons (t_semigroupref04_Letters_2 CC) tells_nil)) (Eq.trans (by kernel_rfl) h)
end Go.AM
set_option maxRecDepth 100000
set_option linter.unusedSimpArgs false
namespace Go.AM
open Go.Proofs Ex
def edg (c : List Int) (fo : Nat → Nat) (i : Nat) : List Ed := (mem (fo i)).map fun j => ⟨(i : Int), c.getD j 0, (j : Int)⟩
def edgs (c : List Int) (fo : Nat → Nat) (is : List Nat) : List Ed := is.flatMap (edg c fo)
theorem edg_len {c : List Int} {fo : Nat → Nat} {i : Nat} : (edg c fo i).length ≤ 64 := by unfold edg; rw [List.length_map]; exact mem_length _
theorem edgs_len {c : List Int} {fo : Nat → Nat} : ∀ is : List Nat, (edgs c fo is).length ≤ 64 * is.length
  | [] => by simp [edgs]
  | i :: is => by
    have h1 := edgs_len (c := c) (fo := fo) is
    have h2 := edg_len (c := c) (fo := fo) (i := i)
    unfold edgs at *
    rw [List.flatMap_cons, List.length_append, List.length_cons]
    omega
section
variable {N : Nat} {c : List Int} {fo : Nat → Nat}
theorem row_edges {i : Nat} (hc : c.length = N + 1) (hN : N < 64) {l : List Nat} (hl : ∀ j ∈ l, j ≤ N) (hn : l.length ≤ 64) {a1 a2 p0 p1 p2 p3 q0 q1 q2 q3 : Int} {ts b5 : List V} :
    ∀ (suf pre : List Nat) (acc : List Ed), l = pre ++ suf → acc.length + suf.length ≤ 10000 →
    Loop (s_nfa_Position_2L CC (i : Int) a1 a2 ((encI l).length : Int) p0 p1 p2 p3 (iV c) q0 q1 q2 q3 ts (encI l) b5) (((pre.length : Nat) : Int), acc.map Ed.enc) =
      some (((encI l).length : Int), false, (acc ++ suf.map fun j => (⟨(i : Int), c.getD j 0, (j : Int)⟩ : Ed)).map Ed.enc) := by
  have hel : (encI l).length = l.length := by simp [encI]
  intro suf
  induction suf with
  | nil =>
    intro pre acc e _
    rw [List.append_nil] at e
    subst e
    refine Loop_end ?_
    simp only [s_nfa_Position_2L, s_nfa_Position_2, un, hel, List.map_nil, List.append_nil]
    rw [bif_decide, if_neg (by omega), decide_eq_false (by omega)]
  | cons j suf ih =>
    intro pre acc e ha
    rw [List.length_cons] at ha
    have hlt : pre.length < l.length := by rw [e]; simp
    have hj : j ≤ N := hl j (by rw [e]; simp)
    have hg : (encI l)[pre.length]? = some (.int .i64 (j : Int)) := by rw [e]; simp [encI]
    have hjc : j < c.length := by omega
    have hcj : (iV c)[j]? = some (.int .i64 (c.getD j 0)) := by
      simp [iV, hjc]
    have hic : (iV c).length = N + 1 := by simp [iV, hc]
    have hst : s_nfa_Position_2L CC (i : Int) a1 a2 ((encI l).length : Int) p0 p1 p2 p3 (iV c) q0 q1 q2 q3 ts (encI l) b5 (((pre.length : Nat) : Int), acc.map Ed.enc) = some (.inl (((pre.length + 1 : Nat) : Int), (acc ++ ([⟨(i : Int), c.getD j 0, (j : Int)⟩] : List Ed)).map Ed.enc)) := by
      simp only [s_nfa_Position_2L, s_nfa_Position_2, un, hel]
      have t1 : ((pre.length : Nat) : Int) < (l.length : Int) := by omega
      have t2 : (0 : Int) ≤ ((pre.length : Nat) : Int) := by omega
      have t3 : (0 : Int) ≤ (j : Int) := by omega
      have t4 : (j : Int) < ((N + 1 : Nat) : Int) := by omega
      simp only [bif_and, bif_decide, bif_ble, Int.toNat_natCast, hg, Option.bind_some, V.toInt_int, hic, hcj, t1, t2, t3, t4, if_true]
      rw [if_pos (by rw [maxB]; simp only [List.length_map, List.length_singleton]; omega), wrap64 (by omega) (by omega), List.map_append]
      rfl
    rw [Loop_norm hst]
    have := ih (pre ++ [j]) (acc ++ ([⟨(i : Int), c.getD j 0, (j : Int)⟩] : List Ed)) (by simp [e]) (by rw [List.length_append]; simp only [List.length_singleton]; omega)
    simpa using this
theorem all_edges (hc : c.length = N + 1) (hN : N < 64) (hf : FoOk N fo) {p0 p1 p2 p3 q0 q1 q2 q3 : Int} {b4 : List V} :
    ∀ d i (acc : List Ed), i + d = N + 1 → acc.length ≤ 64 * i →
    Loop (s_nfa_Position_3L CC ((N + 1 : Nat) : Int) p0 p1 p2 p3 (iV c) q0 q1 q2 q3 (foV N fo) b4) ((i : Int), acc.map Ed.enc) =
      some (((N + 1 : Nat) : Int), false, (acc ++ edgs c fo (List.range' i d)).map Ed.enc) := by
  intro d
  induction d with
  | zero =>
    intro i acc hi _
    have hi : i = N + 1 := by omega
    subst hi
    refine Loop_end ?_
    simp only [s_nfa_Position_3L, s_nfa_Position_3, un]
    rw [bif_decide, if_neg (by omega), decide_eq_false (by omega)]
    simp [edgs]
  | succ d ih =>
    intro i acc hi ha
    have hiN : i ≤ N := by omega
    have hml := mem_length (fo i)
    have h64 := (hf.b i).lt hN
    have hst : s_nfa_Position_3L CC ((N + 1 : Nat) : Int) p0 p1 p2 p3 (iV c) q0 q1 q2 q3 (foV N fo) b4 ((i : Int), acc.map Ed.enc) = some (.inl (((i + 1 : Nat) : Int), (acc ++ edg c fo i).map Ed.enc)) := by
      simp only [s_nfa_Position_3L, s_nfa_Position_3, un]
      have t1 : (i : Int) < ((N + 1 : Nat) : Int) := by omega
      have t2 : (0 : Int) ≤ (i : Int) := by omega
      simp only [bif_and, bif_decide, Int.toNat_natCast, foV_len, foV_get hiN, Option.bind_some, V.toInt_int, t1, t2, if_true]
      rw [Members_spec h64]
      simp only [Option.bind_some, V.nth_zero, V.toList_list]
      have := row_edges (i := i) (N := N) (c := c) hc hN (l := mem (fo i)) (fun j hj => (hf.b i j ((mem_iff h64).1 hj)).2) hml (a1 := ((N + 1 : Nat) : Int)) (a2 := (i : Int)) (p0 := p0) (p1 := p1) (p2 := p2) (p3 := p3) (q0 := q0) (q1 := q1) (q2 := q2) (q3 := q3) (ts := foV N fo) (b5 := b4) (mem (fo i)) [] acc rfl (by omega)
      refine (congrArg (fun o => Option.bind o _) this).trans ?_
      simp only [Option.bind_some, un]
      rw [wrap64 (by omega) (by omega)]
      rfl
    rw [Loop_norm hst, ih (i + 1) _ (by omega) (by rw [List.length_append]; have := edg_len (c := c) (fo := fo) (i := i); omega)]
    rw [List.range'_succ]
    simp [edgs]
theorem edgs_mem {is : List Nat} (hN : N < 64) (hf : FoOk N fo) {x : Ed} : x ∈ edgs c fo is ↔ ∃ i j : Nat, i ∈ is ∧ (fo i).testBit j = true ∧ x = ⟨(i : Int), c.getD j 0, (j : Int)⟩ := by
  unfold edgs edg
  rw [List.mem_flatMap]
  constructor
  · rintro ⟨i, h1, h2⟩
    obtain ⟨j, h3, rfl⟩ := List.mem_map.1 h2
    exact ⟨i, j, h1, (mem_iff ((hf.b i).lt hN)).1 h3, rfl⟩
  · rintro ⟨i, j, h1, h2, rfl⟩
    exact ⟨i, h1, List.mem_map.2 ⟨j, (mem_iff ((hf.b i).lt hN)).2 h2, rfl⟩⟩
theorem mem_nodup (s : Nat) : (mem s).Nodup := List.Pairwise.filter _ List.nodup_range
theorem edg_nodup {i : Nat} : (edg c fo i).Nodup := by
  unfold edg
  refine List.Pairwise.map _ (fun a b h e => h ?_) (mem_nodup (fo i))
  have := congrArg Ed.t e
  have this : (a : Int) = (b : Int) := this
  omega
theorem edgs_nodup : ∀ is : List Nat, is.Nodup → (edgs c fo is).Nodup
  | [], _ => by simp [edgs]
  | i :: is, h => by
    have h1 := edgs_nodup is (List.nodup_cons.1 h).2
    unfold edgs at h1 ⊢
    rw [List.flatMap_cons, List.nodup_append]
    refine ⟨edg_nodup, h1, fun a ha b hb e => ?_⟩
    subst e
    unfold edg at ha
    obtain ⟨j, _, rfl⟩ := List.mem_map.1 ha
    obtain ⟨i', h2, h3⟩ := List.mem_flatMap.1 hb
    unfold edg at h3
    obtain ⟨j', _, h4⟩ := List.mem_map.1 h3
    have h5 := congrArg Ed.f h4
    have h5 : (i' : Int) = (i : Int) := h5
    have h6 : i' = i := by omega
    subst h6
    exact (List.nodup_cons.1 h).1 h2
end
def gl0 (e : Ex) : Gl := glu e 0 fun _ => 0
def folG (e : Ex) : Nat → Nat := upd1 (gl0 e).fo 0 (gl0 e).a
def finG (e : Ex) : Nat := if (gl0 e).n = true then (gl0 e).z ||| 1 else (gl0 e).z
theorem gl0_ok {letters : Int} {e : Ex} (h : Pl letters e) : GSt 0 0 (gl0 e) ∧ (gl0 e).ps = (ltrs e).length := by
  have := glu_ok e h 0 (fun _ => 0) ⟨fun _ => .zero, fun _ _ => rfl⟩
  exact ⟨this.1, this.2.trans (by omega)⟩
theorem folG_ok {letters : Int} {e : Ex} (h : Pl letters e) : FoOk (ltrs e).length (folG e) := by
  obtain ⟨h1, h2⟩ := gl0_ok h
  have hf := h1.fo
  have ha := h1.a
  rw [h2] at hf ha
  refine ⟨fun i => ?_, fun i hi => ?_⟩
  · unfold folG upd1; split
    · exact ha
    · exact hf.b i
  · unfold folG upd1
    rw [if_neg (by omega)]
    exact hf.s i hi
theorem getD_ne {a b : Int} {c : List Int} {j : Nat} (h : 0 < j) : (a :: c).getD j 0 = (b :: c).getD j 0 := by
  cases j with
  | zero => omega
  | succ j => simp
def EdgOk (e : Ex) (R : List Ed) : Prop := ∀ x : Ed, x ∈ R ↔ ∃ i j : Nat, (folG e i).testBit j = true ∧ x = ⟨(i : Int), (0 :: ltrs e).getD j 0, (j : Int)⟩
theorem plain_good {e : Ex} {letters : Int} (h : plainCode e letters = 0) : 1 ≤ letters ∧ letters ≤ 6 ∧ e.size ≤ 400 ∧ Pl letters e := by
  unfold plainCode at h
  split at h
  · rename_i h1; exact absurd h h1
  · rename_i h1
    have h1 := Classical.not_not.1 h1
    split at h
    · omega
    · rename_i h2
      unfold Ex.val at h1
      split at h1
      · rename_i h3
        split at h1
        · rename_i h4
          split at h1
          · rename_i h5
            exact ⟨h3.1, h3.2, h4.2, h5, by simpa using h2⟩
          · omega
        · omega
      · omega
theorem Position_spec (e : Ex) (h : e.Ok) (letters : Int) :
    (plainCode e letters ≠ 0 → CC F_nfa_Position (exA e [.int .i64 letters]) = some [.int .i64 0, .int .i64 0, .int .u64 0, .int .u64 0, .int .i64 (plainCode e letters), .list T_api_Edge []]) ∧
    (plainCode e letters = 0 → (ltrs e).length + 1 > 64 → CC F_nfa_Position (exA e [.int .i64 letters]) = some [.int .i64 0, .int .i64 0, .int .u64 0, .int .u64 0, .int .i64 3, .list T_api_Edge []]) ∧
    (plainCode e letters = 0 → (ltrs e).length + 1 ≤ 64 → ∃ R, CC F_nfa_Position (exA e [.int .i64 letters]) = some [.int .i64 letters, .int .i64 (((ltrs e).length + 1 : Nat) : Int), .int .u64 1, .int .u64 ((finG e : Nat) : Int), .int .i64 0, .list T_api_Edge (R.map Ed.enc)] ∧ Srt R ∧ EdgOk e R) := by
  refine ⟨fun h1 => ?_, fun h1 h2 => ?_, fun h1 h2 => ?_⟩
  · refine f_nfa_Position_of ?_
    unfold f_nfa_Position
    refine (congrArg (fun o => Option.bind o _) (plain_spec e h letters)).trans ?_
    simp only [Option.bind_some, V.nth_zero, V.toInt_int, bif_bne]
    rw [if_neg h1]
  · obtain ⟨g1, g2, g3, g4⟩ := plain_good h1
    have hls := ltrs_size e
    refine f_nfa_Position_of ?_
    unfold f_nfa_Position
    refine (congrArg (fun o => Option.bind o _) (plain_spec e h letters)).trans ?_
    simp only [Option.bind_some, V.nth_zero, V.toInt_int, bif_bne]
    rw [if_pos h1]
    refine (congrArg (fun o => Option.bind o _) (letterNodes_spec e h g3)).trans ?_
    have hil : (iV (ltrs e)).length = (ltrs e).length := by simp [iV]
    simp only [Option.bind_some, V.nth_zero, V.toList_list, bif_ble, bif_decide, List.length_append, List.length_singleton, hil]
    rw [if_pos (by rw [maxB]; omega), if_pos (by omega)]
  · obtain ⟨g1, g2, g3, g4⟩ := plain_good h1
    have hls := ltrs_size e
    obtain ⟨s1, s2⟩ := gl0_ok g4
    have hfo := folG_ok g4
    have hN : (ltrs e).length < 64 := by omega
    have hv := visit_spec (N := (ltrs e).length) hN e h g4 0 (fun _ => 0) ⟨fun _ => .zero, fun _ _ => rfl⟩ (by omega)
    have hc : (-1 :: ltrs e).length = (ltrs e).length + 1 := by simp
    have hall := all_edges (c := -1 :: ltrs e) hc hN hfo (p0 := 0) (p1 := 0) (p2 := 0) (p3 := 0) (q0 := letters) (q1 := (((ltrs e).length + 1 : Nat) : Int)) (q2 := 1) (q3 := ((finG e : Nat) : Int)) (b4 := []) ((ltrs e).length + 1) 0 [] (by omega) (by simp)
    have hel := edgs_len (c := -1 :: ltrs e) (fo := folG e) (List.range' 0 ((ltrs e).length + 1))
    rw [List.length_range'] at hel
    obtain ⟨R, cs, hp, hs⟩ := sortE_spec (edgs (-1 :: ltrs e) (folG e) (List.range' 0 ((ltrs e).length + 1))) (by omega)
    refine ⟨R, f_nfa_Position_of ?_, srt_of_sort hp (edgs_nodup _ List.nodup_range') hs, fun x => ?_⟩
    · unfold f_nfa_Position
      refine (congrArg (fun o => Option.bind o _) (plain_spec e h letters)).trans ?_
      simp only [Option.bind_some, V.nth_zero, V.toInt_int, bif_bne]
      rw [if_pos h1]
      refine (congrArg (fun o => Option.bind o _) (letterNodes_spec e h g3)).trans ?_
      have hil : (iV (ltrs e)).length = (ltrs e).length := by simp [iV]
      have e1 : ([.int .i64 (-1)] : List V) ++ iV (ltrs e) = iV (-1 :: ltrs e) := by simp [iV]
      have hil2 : (iV (-1 :: ltrs e)).length = (ltrs e).length + 1 := by simp [iV]
      simp only [Option.bind_some, V.nth_zero, V.toList_list, bif_ble, bif_decide, bif_and, e1, hil2, hil, List.length_singleton, Int.toNat_natCast]
      rw [if_pos (by rw [maxB]; omega), if_neg (by omega), if_pos (by omega), if_pos (by omega), if_pos (by rw [maxB]; omega)]
      have e2 : List.replicate ((ltrs e).length + 1) (V.int .u64 0) = foV (ltrs e).length (fun _ => 0) := by
        apply List.ext_getElem?
        intro i
        by_cases hi : i < (ltrs e).length + 1
        · rw [foV_get (by omega), List.getElem?_replicate, if_pos hi]; rfl
        · rw [List.getElem?_eq_none (by simp; omega), List.getElem?_eq_none (by rw [foV_len]; omega)]
      rw [e2]
      refine (congrArg (fun o => Option.bind o _) hv).trans ?_
      unfold gV
      simp only [Option.bind_some, List.drop_succ_cons, List.drop_zero, V.nth_zero, V.toInt_int, V.toBool_bool, V.toList_list]
      have hz := (s1.z.mono (Nat.le_refl _) (show (gl0 e).ps ≤ (ltrs e).length by omega)).lt hN
      have e3 : (foV (ltrs e).length (gl0 e).fo).set 0 (.int .u64 ((gl0 e).a : Int)) = foV (ltrs e).length (folG e) := foV_set
      have e4 : glu e 0 (fun _ => 0) = gl0 e := rfl
      simp only [e4, e3, foV_len, foV_get (Nat.zero_le _), Option.bind_some]
      rw [if_pos (by omega)]
      unfold s_nfa_Position_1
      have hw := u64_or (A := (gl0 e).z) (B := 1) hz (by omega)
      rw [show ((1 : Nat) : Int) = 1 from rfl] at hw
      have hcs := cs
      cases hn : (gl0 e).n with
      | true =>
        have ef : finG e = (gl0 e).z ||| 1 := by unfold finG; rw [if_pos hn]
        rw [cond_true, hw, ← ef]
        refine (congrArg (fun o => Option.bind o _) hall).trans ?_
        simp only [Option.bind_some, un, List.nil_append]
        refine (congrArg (fun o => Option.bind o _) hcs).trans ?_
        simp only [Option.bind_some, V.nth_zero, V.toList_list]
      | false =>
        have ef : finG e = (gl0 e).z := by unfold finG; rw [if_neg (by simp [hn])]
        rw [cond_false, ← ef]
        refine (congrArg (fun o => Option.bind o _) hall).trans ?_
        simp only [Option.bind_some, un, List.nil_append]
        refine (congrArg (fun o => Option.bind o _) hcs).trans ?_
        simp only [Option.bind_some, V.nth_zero, V.toList_list]
    · rw [hp.mem_iff, edgs_mem hN hfo]
      constructor
      · rintro ⟨i, j, _, h4, rfl⟩
        exact ⟨i, j, h4, by rw [getD_ne (a := -1) (b := 0) ((hfo.b i j h4).1)]⟩
      · rintro ⟨i, j, h4, rfl⟩
        have hi : i ≤ (ltrs e).length := by
          refine Nat.le_of_not_lt fun hi => ?_
          rw [hfo.s i hi] at h4
          simp at h4
        exact ⟨i, j, by rw [List.mem_range']; exact ⟨i, by omega, by omega⟩, h4, by rw [getD_ne (a := -1) (b := 0) ((hfo.b i j h4).1)]⟩
end Go.AM
set_option maxRecDepth 100000
namespace Go.AM
open Go.Proofs
noncomputable def f_semigroupref06_plain (C : CallF) (e_0 e_1 : Int) (e_2 : List V) (letters : Int) : Option (List V) :=
  (C F_semigroupref04_Validate [.int .i64 e_0, .int .i64 e_1, .list T_api_Expr e_2, .int .i64 letters]).bind fun r1 =>
  bif (((V.nth r1 0).toInt) : Int) != 0 then
   some [.int .i64 ((V.nth r1 0).toInt)]
  else
   (C F_semigroupref04_Uses [.int .i64 e_0, .int .i64 e_1, .list T_api_Expr e_2, .int .i64 6]).bind fun r2 =>
   bif (V.nth r2 0).toBool then
    some [.int .i64 4]
   else
    (C F_semigroupref04_Uses [.int .i64 e_0, .int .i64 e_1, .list T_api_Expr e_2, .int .i64 8]).bind fun r3 =>
    bif (V.nth r3 0).toBool then
     some [.int .i64 4]
    else
     some [.int .i64 0]
theorem f_semigroupref06_plain_of {e_0 e_1 : Int} {e_2 : List V} {letters : Int} {r : Option (List V)} (h : f_semigroupref06_plain CC e_0 e_1 e_2 letters = r) : CC F_semigroupref06_plain [.int .i64 e_0, .int .i64 e_1, .list T_api_Expr e_2, .int .i64 letters] = r :=
  func_of (key := 45) (L := LT0) (bs := []) (by kernel_rfl) tells_nil (Eq.trans (by kernel_rfl) h)
end Go.AM
set_option maxRecDepth 100000
namespace Go.AM
open Go.Proofs
noncomputable abbrev B_semigroupref06_positions_link : Code := bodyOf Tryd.prog (ann.fid 47)
noncomputable def s_semigroupref06_positions_link_1 (C : CallF) (to a t12 t13 t19 : Int) (t11s t18s b5_ : List V) (t20 : Int) (b6_ : List V) {β : Type} (kn : (Int × (List V)) → Option β) (kr : (Int × Bool × (List V)) → Option β) : Option β :=
  bif decide ((t20 : Int) < t19) then
   bif (decide (0 ≤ t20)) && (decide (t20 < (t18s.length : Int))) then
    (t18s[(t20 : Int).toNat]?).bind fun x4 =>
    bif (decide (0 ≤ x4.toInt)) && (decide (x4.toInt < (b5_.length : Int))) then
     (b5_[(x4.toInt : Int).toNat]?).bind fun x5 =>
     bif Nat.ble ((b6_.length + ([.agg [.int .i64 a, .int .i64 x5.toInt, .int .i64 x4.toInt]] : List V).length) * 24) maxBytes then
      kn (IntKind.wrap .i64 (t20 + 1), b6_ ++ ([.agg [.int .i64 a, .int .i64 x5.toInt, .int .i64 x4.toInt]] : List V))
     else none
    else none
   else none
  else
   kr (t20, decide ((t20 : Int) < t19), b6_)
noncomputable def s_semigroupref06_positions_link_1L (C : CallF) (to a t12 t13 t19 : Int) (t11s t18s b5_ : List V) : (Int × (List V)) → Option ((Int × (List V)) ⊕ (Int × Bool × (List V))) := un fun t20 b6_ => s_semigroupref06_positions_link_1 C to a t12 t13 t19 t11s t18s b5_ t20 b6_ (fun y => some (.inl y)) (fun r => some (.inr r))
noncomputable def s_semigroupref06_positions_link_2 (C : CallF) (to t12 : Int) (t11s b4_ : List V) (t13 : Int) (b5_ : List V) {β : Type} (kn : (Int × (List V)) → Option β) (kr : (Int × Bool × (List V)) → Option β) : Option β :=
  bif decide ((t13 : Int) < t12) then
   bif (decide (0 ≤ t13)) && (decide (t13 < (t11s.length : Int))) then
    (t11s[(t13 : Int).toNat]?).bind fun x2 =>
    (C F_semigroupref02_Members [.int .u64 to]).bind fun r3 =>
    (Loop (s_semigroupref06_positions_link_1L C to x2.toInt t12 t13 (((V.nth r3 0).toList).length : Int) t11s ((V.nth r3 0).toList) b4_) (0, b5_)).bind (un fun (t_6 : Int) => un fun (t_7 : Bool) (b_8 : List V) =>
      kn (IntKind.wrap .i64 (t13 + 1), b_8))
   else none
  else
   kr (t13, decide ((t13 : Int) < t12), b5_)
noncomputable def s_semigroupref06_positions_link_2L (C : CallF) (to t12 : Int) (t11s b4_ : List V) : (Int × (List V)) → Option ((Int × (List V)) ⊕ (Int × Bool × (List V))) := un fun t13 b5_ => s_semigroupref06_positions_link_2 C to t12 t11s b4_ t13 b5_ (fun y => some (.inl y)) (fun r => some (.inr r))
noncomputable def LT_semigroupref06_positions_link (C : CallF) : LTab := fun β n ds k =>
  bif Nat.beq n 65 then loopS S47_65 [false, false, false, false, false, true, false, false, false, true] [[1, 2, 3, 4, 5, 0, 0, 7, 8, 9, 0]] (@s_semigroupref06_positions_link_1 C) ds k else
  bif Nat.beq n 17 then loopS S47_17 [false, false, true, false, false, true] [[1, 2, 0, 0, 4, 5, 0]] (@s_semigroupref06_positions_link_2 C) ds k else
  none
abbrev TS_semigroupref06_positions_link (C : CallF) (b : Bar) : Prop := Tells Tryd.prog ann C (LT_semigroupref06_positions_link C) 47 (ntmpsOf Tryd.prog (ann.fid 47)) (ann.sin 47).blks.length b
theorem t_semigroupref06_positions_link_1 (C : CallF) : TS_semigroupref06_positions_link C (.loop (codeAt [1, 0, 0, 1, 1, 0, 0, 1, 1, 0, 0] B_semigroupref06_positions_link)) :=
  tl3 S47_65 [false, false, false, false, false, true, false, false, false, true] [[1, 2, 3, 4, 5, 0, 0, 7, 8, 9, 0]] (@s_semigroupref06_positions_link_1 C) (by kernel_rfl) (ltok_of (bs := []) (by kernel_rfl) tells_nil) (fun ds => by kernel_rfl) (fun i x => by kernel_rfl) (fun i x β k => by kernel_rfl) (fun β ds k => by kernel_rfl)
theorem t_semigroupref06_positions_link_2 (C : CallF) : TS_semigroupref06_positions_link C (.loop (codeAt [1, 0, 0] B_semigroupref06_positions_link)) :=
  tl3 S47_17 [false, false, true, false, false, true] [[1, 2, 0, 0, 4, 5, 0]] (@s_semigroupref06_positions_link_2 C) (by kernel_rfl) (ltok_of (bs := [.loop (codeAt [1, 0, 0, 1, 1, 0, 0, 1, 1, 0, 0] B_semigroupref06_positions_link)]) (by kernel_rfl) (tells_cons (t_semigroupref06_positions_link_1 C) tells_nil)) (fun ds => by kernel_rfl) (fun i x => by kernel_rfl) (fun i x β k => by kernel_rfl) (fun β ds k => by kernel_rfl)
noncomputable def f_semigroupref06_positions_link (C : CallF) (from' to : Int) (b1_ b2_ : List V) : Option (List V) :=
  (C F_semigroupref02_Members [.int .u64 from']).bind fun r1 =>
  (Loop (s_semigroupref06_positions_link_2L C to (((V.nth r1 0).toList).length : Int) ((V.nth r1 0).toList) b1_) (0, b2_)).bind (un fun (t_9 : Int) => un fun (t_10 : Bool) (b_11 : List V) =>
    some [.list T_int b1_, .list T_api_Edge b_11])
theorem f_semigroupref06_positions_link_of {from' to : Int} {b1_ b2_ : List V} {r : Option (List V)} (h : f_semigroupref06_positions_link CC from' to b1_ b2_ = r) : CC F_semigroupref06_positions_link [.int .u64 from', .int .u64 to, .list T_int b1_, .list T_api_Edge b2_] = r :=
  func_of (key := 47) (L := LT_semigroupref06_positions_link CC) (bs := [.loop (codeAt [1, 0, 0] B_semigroupref06_positions_link)]) (by kernel_rfl) (tells_cons (t_semigroupref06_positions_link_2 CC) tells_nil) (Eq.trans (by kernel_rfl) h)
end Go.AM
set_option maxRecDepth 100000
namespace Go.AM
open Go.Proofs
noncomputable abbrev B_semigroupref06_positions_walk : Code := bodyOf Tryd.prog (ann.fid 46)
noncomputable def s_semigroupref06_positions_walk_1 (C : CallF) (t47 : List V) (t48 t4s_0 t4s_1 : Int) (t4s_2 : Bool) (t49 outs_0 outs_1 : Int) (outs_2 : Bool) (b5_ b6_ : List V) {β : Type} (kn : (Int × Int × Int × Bool × (List V) × (List V)) → Option β) (kr : (Int × Bool × Int × Int × Bool × (List V) × (List V)) → Option β) : Option β :=
  bif decide ((t49 : Int) < t48) then
   (idx t47 t49).bind fun x2 =>
   (C F_semigroupref06_positions_walk [.int .i64 ((x2.cell 0).toInt), .int .i64 ((x2.cell 1).toInt), .list T_api_Expr ((x2.cell 2).toList), .list T_int b5_, .list T_api_Edge b6_]).bind fun r3 =>
   bif outs_2 then
    kn (IntKind.wrap .i64 (t49 + 1), IntKind.wrap .u64 ((BitVec.ofInt (IntKind.bits .u64) outs_0 ||| BitVec.ofInt (IntKind.bits .u64) ((V.nth r3 0).toInt)).toNat), IntKind.wrap .u64 ((BitVec.ofInt (IntKind.bits .u64) outs_1 ||| BitVec.ofInt (IntKind.bits .u64) ((V.nth (r3.drop 1) 0).toInt)).toNat), true, (V.nth (r3.drop 3) 0).toList, (V.nth ((r3.drop 3).drop 1) 0).toList)
   else
    kn (IntKind.wrap .i64 (t49 + 1), IntKind.wrap .u64 ((BitVec.ofInt (IntKind.bits .u64) outs_0 ||| BitVec.ofInt (IntKind.bits .u64) ((V.nth r3 0).toInt)).toNat), IntKind.wrap .u64 ((BitVec.ofInt (IntKind.bits .u64) outs_1 ||| BitVec.ofInt (IntKind.bits .u64) ((V.nth (r3.drop 1) 0).toInt)).toNat), (V.nth ((r3.drop 1).drop 1) 0).toBool, (V.nth (r3.drop 3) 0).toList, (V.nth ((r3.drop 3).drop 1) 0).toList)
  else
   kr (t49, decide ((t49 : Int) < t48), outs_0, outs_1, outs_2, b5_, b6_)
noncomputable def s_semigroupref06_positions_walk_1L (C : CallF) (t47 : List V) (t48 t4s_0 t4s_1 : Int) (t4s_2 : Bool) : (Int × Int × Int × Bool × (List V) × (List V)) → Option ((Int × Int × Int × Bool × (List V) × (List V)) ⊕ (Int × Bool × Int × Int × Bool × (List V) × (List V))) := un fun t49 => un fun outs_0 => un fun outs_1 => un fun outs_2 => un fun b5_ b6_ => s_semigroupref06_positions_walk_1 C t47 t48 t4s_0 t4s_1 t4s_2 t49 outs_0 outs_1 outs_2 b5_ b6_ (fun y => some (.inl y)) (fun r => some (.inr r))
noncomputable def s_semigroupref06_positions_walk_2 (C : CallF) (t98 : List V) (t99 t100 : Int) (t114 : Bool) (t4s_0 t4s_1 : Int) (t4s_2 : Bool) (outs_0 outs_1 : Int) (outs_2 : Bool) (xs_0 xs_1 : Int) (xs_2 : Bool) (b6_ b7_ : List V) {β : Type} (kr : (Int) → Option β) : Option β :=
  bif t114 then
   kr (IntKind.wrap .u64 ((BitVec.ofInt (IntKind.bits .u64) outs_0 ||| BitVec.ofInt (IntKind.bits .u64) xs_0).toNat))
  else
   kr outs_0
noncomputable def s_semigroupref06_positions_walk_3 (C : CallF) (t98 : List V) (t99 t100 : Int) (t122 : Bool) (t4s_0 t4s_1 : Int) (t4s_2 : Bool) (outs_0 outs_1 : Int) (outs_2 : Bool) (xs_0 xs_1 : Int) (xs_2 : Bool) (b6_ b7_ : List V) {β : Type} (kr : (Int) → Option β) : Option β :=
  bif t122 then
   kr (IntKind.wrap .u64 ((BitVec.ofInt (IntKind.bits .u64) outs_1 ||| BitVec.ofInt (IntKind.bits .u64) xs_1).toNat))
  else
   kr xs_1
noncomputable def s_semigroupref06_positions_walk_4 (C : CallF) (t98 : List V) (t99 t4s_0 t4s_1 : Int) (t4s_2 : Bool) (t100 outs_0 outs_1 : Int) (outs_2 : Bool) (b5_ b6_ : List V) {β : Type} (kn : (Int × Int × Int × Bool × (List V) × (List V)) → Option β) (kr : (Int × Bool × Int × Int × Bool × (List V) × (List V)) → Option β) : Option β :=
  bif decide ((t100 : Int) < t99) then
   (idx t98 t100).bind fun x14 =>
   (C F_semigroupref06_positions_walk [.int .i64 ((x14.cell 0).toInt), .int .i64 ((x14.cell 1).toInt), .list T_api_Expr ((x14.cell 2).toList), .list T_int b5_, .list T_api_Edge b6_]).bind fun r15 =>
   (C F_semigroupref06_positions_link [.int .u64 outs_1, .int .u64 ((V.nth r15 0).toInt), .list T_int ((V.nth (r15.drop 3) 0).toList), .list T_api_Edge ((V.nth ((r15.drop 3).drop 1) 0).toList)]).bind fun r16 =>
   s_semigroupref06_positions_walk_2 C t98 t99 t100 outs_2 t4s_0 t4s_1 t4s_2 outs_0 outs_1 outs_2 ((V.nth r15 0).toInt) ((V.nth (r15.drop 1) 0).toInt) ((V.nth ((r15.drop 1).drop 1) 0).toBool) ((V.nth r16 0).toList) ((V.nth (r16.drop 1) 0).toList) (fun (outs_17 : Int) =>
     s_semigroupref06_positions_walk_3 C t98 t99 t100 ((V.nth ((r15.drop 1).drop 1) 0).toBool) t4s_0 t4s_1 t4s_2 outs_17 outs_1 outs_2 ((V.nth r15 0).toInt) ((V.nth (r15.drop 1) 0).toInt) ((V.nth ((r15.drop 1).drop 1) 0).toBool) ((V.nth r16 0).toList) ((V.nth (r16.drop 1) 0).toList) (fun (outs_18 : Int) =>
       bif outs_2 then
        kn (IntKind.wrap .i64 (t100 + 1), outs_17, outs_18, (V.nth ((r15.drop 1).drop 1) 0).toBool, (V.nth r16 0).toList, (V.nth (r16.drop 1) 0).toList)
       else
        kn (IntKind.wrap .i64 (t100 + 1), outs_17, outs_18, false, (V.nth r16 0).toList, (V.nth (r16.drop 1) 0).toList)))
  else
   kr (t100, decide ((t100 : Int) < t99), outs_0, outs_1, outs_2, b5_, b6_)
noncomputable def s_semigroupref06_positions_walk_4L (C : CallF) (t98 : List V) (t99 t4s_0 t4s_1 : Int) (t4s_2 : Bool) : (Int × Int × Int × Bool × (List V) × (List V)) → Option ((Int × Int × Int × Bool × (List V) × (List V)) ⊕ (Int × Bool × Int × Int × Bool × (List V) × (List V))) := un fun t100 => un fun outs_0 => un fun outs_1 => un fun outs_2 => un fun b5_ b6_ => s_semigroupref06_positions_walk_4 C t98 t99 t4s_0 t4s_1 t4s_2 t100 outs_0 outs_1 outs_2 b5_ b6_ (fun y => some (.inl y)) (fun r => some (.inr r))
noncomputable def LT_semigroupref06_positions_walk (C : CallF) : LTab := fun β n ds k =>
  bif Nat.beq n 177 then loopS S46_177 [false, false, true, false, false, false, true, true, true, true, true] [[1, 2, 0, 0, 4, 5, 6, 0, 0, 0, 0, 0]] (@s_semigroupref06_positions_walk_1 C) ds k else
  bif Nat.beq n 1839 then condS S46_1839 [[1, 2, 3, 5, 6, 7, 0, 9, 10, 11, 12, 13, 14, 15]] (@s_semigroupref06_positions_walk_2 C) ds k else
  bif Nat.beq n 1967 then condS S46_1967 [[1, 2, 3, 5, 6, 7, 8, 0, 10, 11, 12, 13, 14, 15]] (@s_semigroupref06_positions_walk_3 C) ds k else
  bif Nat.beq n 385 then loopS S46_385 [false, false, true, false, false, false, true, true, true, true, true] [[1, 2, 0, 0, 4, 5, 6, 0, 0, 0, 0, 0]] (@s_semigroupref06_positions_walk_4 C) ds k else
  none
abbrev TS_semigroupref06_positions_walk (C : CallF) (b : Bar) : Prop := Tells Tryd.prog ann C (LT_semigroupref06_positions_walk C) 46 (ntmpsOf Tryd.prog (ann.fid 46)) (ann.sin 46).blks.length b
theorem t_semigroupref06_positions_walk_1 (C : CallF) : TS_semigroupref06_positions_walk C (.loop (codeAt [1, 0, 1, 0, 1, 1, 1, 1, 1, 0, 1, 0, 1, 0, 0] B_semigroupref06_positions_walk)) :=
  tl3 S46_177 [false, false, true, false, false, false, true, true, true, true, true] [[1, 2, 0, 0, 4, 5, 6, 0, 0, 0, 0, 0]] (@s_semigroupref06_positions_walk_1 C) (by kernel_rfl) (ltok_of (bs := []) (by kernel_rfl) tells_nil) (fun ds => by kernel_rfl) (fun i x => by kernel_rfl) (fun i x β k => by kernel_rfl) (fun β ds k => by kernel_rfl)
theorem t_semigroupref06_positions_walk_2 (C : CallF) : TS_semigroupref06_positions_walk C (.cond 114 (codeAt [1, 0, 1, 0, 1, 1, 1, 1, 1, 1, 1, 1, 1, 0, 1, 0, 1, 0, 0, 1, 1, 0, 0, 1, 1, 1, 0, 1, 0] B_semigroupref06_positions_walk) (codeAt [1, 0, 1, 0, 1, 1, 1, 1, 1, 1, 1, 1, 1, 0, 1, 0, 1, 0, 0, 1, 1, 0, 0, 1, 1, 1, 0, 1, 1] B_semigroupref06_positions_walk)) :=
  tc3 S46_1839 [[1, 2, 3, 5, 6, 7, 0, 9, 10, 11, 12, 13, 14, 15]] (@s_semigroupref06_positions_walk_2 C) (by kernel_rfl) (ltok_of (bs := []) (by kernel_rfl) tells_nil) (ltok_of (bs := []) (by kernel_rfl) tells_nil) (fun ds => by kernel_rfl) (fun i β k => by kernel_rfl) (fun β ds k => by kernel_rfl)
theorem t_semigroupref06_positions_walk_3 (C : CallF) : TS_semigroupref06_positions_walk C (.cond 122 (codeAt [1, 0, 1, 0, 1, 1, 1, 1, 1, 1, 1, 1, 1, 0, 1, 0, 1, 0, 0, 1, 1, 0, 0, 1, 1, 1, 1, 0, 1, 0] B_semigroupref06_positions_walk) (codeAt [1, 0, 1, 0, 1, 1, 1, 1, 1, 1, 1, 1, 1, 0, 1, 0, 1, 0, 0, 1, 1, 0, 0, 1, 1, 1, 1, 0, 1, 1] B_semigroupref06_positions_walk)) :=
  tc3 S46_1967 [[1, 2, 3, 5, 6, 7, 8, 0, 10, 11, 12, 13, 14, 15]] (@s_semigroupref06_positions_walk_3 C) (by kernel_rfl) (ltok_of (bs := []) (by kernel_rfl) tells_nil) (ltok_of (bs := []) (by kernel_rfl) tells_nil) (fun ds => by kernel_rfl) (fun i β k => by kernel_rfl) (fun β ds k => by kernel_rfl)
theorem t_semigroupref06_positions_walk_4 (C : CallF) : TS_semigroupref06_positions_walk C (.loop (codeAt [1, 0, 1, 0, 1, 1, 1, 1, 1, 1, 1, 1, 1, 0, 1, 0, 1, 0, 0] B_semigroupref06_positions_walk)) :=
  tl3 S46_385 [false, false, true, false, false, false, true, true, true, true, true] [[1, 2, 0, 0, 4, 5, 6, 0, 0, 0, 0, 0]] (@s_semigroupref06_positions_walk_4 C) (by kernel_rfl) (ltok_of (bs := [.cond 114 (codeAt [1, 0, 1, 0, 1, 1, 1, 1, 1, 1, 1, 1, 1, 0, 1, 0, 1, 0, 0, 1, 1, 0, 0, 1, 1, 1, 0, 1, 0] B_semigroupref06_positions_walk) (codeAt [1, 0, 1, 0, 1, 1, 1, 1, 1, 1, 1, 1, 1, 0, 1, 0, 1, 0, 0, 1, 1, 0, 0, 1, 1, 1, 0, 1, 1] B_semigroupref06_positions_walk), .cond 122 (codeAt [1, 0, 1, 0, 1, 1, 1, 1, 1, 1, 1, 1, 1, 0, 1, 0, 1, 0, 0, 1, 1, 0, 0, 1, 1, 1, 1, 0, 1, 0] B_semigroupref06_positions_walk) (codeAt [1, 0, 1, 0, 1, 1, 1, 1, 1, 1, 1, 1, 1, 0, 1, 0, 1, 0, 0, 1, 1, 0, 0, 1, 1, 1, 1, 0, 1, 1] B_semigroupref06_positions_walk)]) (by kernel_rfl) (tells_cons (t_semigroupref06_positions_walk_2 C) (tells_cons (t_semigroupref06_positions_walk_3 C) tells_nil))) (fun ds => by kernel_rfl) (fun i x => by kernel_rfl) (fun i x β k => by kernel_rfl) (fun β ds k => by kernel_rfl)
noncomputable def f_semigroupref06_positions_walk (C : CallF) (e_0 e_1 : Int) (e_2 b1_ b2_ : List V) : Option (List V) :=
  bif (e_0 : Int) == 2 then
   some [.int .u64 0, .int .u64 0, .bool true, .list T_int b1_, .list T_api_Edge b2_]
  else
   bif (e_0 : Int) == 3 then
    bif Nat.ble ((b1_.length + ([.int .i64 e_1] : List V).length) * 8) maxBytes then
     (C F_semigroupref02_Bit [.int .i64 (IntKind.wrap .i64 (((b1_ ++ ([.int .i64 e_1] : List V)).length : Int) - 1))]).bind fun r1 =>
     some [.int .u64 ((V.nth r1 0).toInt), .int .u64 ((V.nth r1 0).toInt), .bool false, .list T_int (b1_ ++ ([.int .i64 e_1] : List V)), .list T_api_Edge b2_]
    else none
   else
    bif (e_0 : Int) == 4 then
     (Loop (s_semigroupref06_positions_walk_1L C e_2 (e_2.length : Int) 0 0 false) (0, 0, 0, false, b1_, b2_)).bind (un fun (t_4 : Int) => un fun (t_5 : Bool) => un fun (outs_6 : Int) => un fun (outs_7 : Int) => un fun (outs_8 : Bool) => un fun (b_9 : List V) (b_10 : List V) =>
       some [.int .u64 outs_6, .int .u64 outs_7, .bool outs_8, .list T_int b_9, .list T_api_Edge b_10])
    else
     bif (e_0 : Int) == 7 then
      (e_2[0]?).bind fun x11 =>
      (C F_semigroupref06_positions_walk [.int .i64 ((x11.cell 0).toInt), .int .i64 ((x11.cell 1).toInt), .list T_api_Expr ((x11.cell 2).toList), .list T_int b1_, .list T_api_Edge b2_]).bind fun r12 =>
      (C F_semigroupref06_positions_link [.int .u64 ((V.nth (r12.drop 1) 0).toInt), .int .u64 ((V.nth r12 0).toInt), .list T_int ((V.nth (r12.drop 3) 0).toList), .list T_api_Edge ((V.nth ((r12.drop 3).drop 1) 0).toList)]).bind fun r13 =>
      some [.int .u64 ((V.nth r12 0).toInt), .int .u64 ((V.nth (r12.drop 1) 0).toInt), .bool true, .list T_int ((V.nth r13 0).toList), .list T_api_Edge ((V.nth (r13.drop 1) 0).toList)]
     else
      bif (e_0 : Int) == 5 then
       (Loop (s_semigroupref06_positions_walk_4L C e_2 (e_2.length : Int) 0 0 false) (0, 0, 0, true, b1_, b2_)).bind (un fun (t_19 : Int) => un fun (t_20 : Bool) => un fun (outs_21 : Int) => un fun (outs_22 : Int) => un fun (outs_23 : Bool) => un fun (b_24 : List V) (b_25 : List V) =>
         some [.int .u64 outs_21, .int .u64 outs_22, .bool outs_23, .list T_int b_24, .list T_api_Edge b_25])
      else
       some [.int .u64 0, .int .u64 0, .bool false, .list T_int b1_, .list T_api_Edge b2_]
theorem f_semigroupref06_positions_walk_of {e_0 e_1 : Int} {e_2 b1_ b2_ : List V} {r : Option (List V)} (h : f_semigroupref06_positions_walk CC e_0 e_1 e_2 b1_ b2_ = r) : CC F_semigroupref06_positions_walk [.int .i64 e_0, .int .i64 e_1, .list T_api_Expr e_2, .list T_int b1_, .list T_api_Edge b2_] = r :=
  func_of (key := 46) (L := LT_semigroupref06_positions_walk CC) (bs := [.loop (codeAt [1, 0, 1, 0, 1, 1, 1, 1, 1, 0, 1, 0, 1, 0, 0] B_semigroupref06_positions_walk), .loop (codeAt [1, 0, 1, 0, 1, 1, 1, 1, 1, 1, 1, 1, 1, 0, 1, 0, 1, 0, 0] B_semigroupref06_positions_walk)]) (by kernel_rfl) (tells_cons (t_semigroupref06_positions_walk_1 CC) (tells_cons (t_semigroupref06_positions_walk_4 CC) tells_nil)) (Eq.trans (by kernel_rfl) h)
end Go.AM
set_option maxRecDepth 100000
namespace Go.AM
open Go.Proofs
noncomputable def f_semigroupref06_Position (C : CallF) (e_0 e_1 : Int) (e_2 : List V) (letters : Int) : Option (List V) :=
  (C F_semigroupref06_plain [.int .i64 e_0, .int .i64 e_1, .list T_api_Expr e_2, .int .i64 letters]).bind fun r1 =>
  bif (((V.nth r1 0).toInt) : Int) != 0 then
   some [.int .i64 0, .int .i64 0, .int .u64 0, .int .u64 0, .int .i64 ((V.nth r1 0).toInt), .list T_api_Edge ([] : List V)]
  else
   (C F_semigroupref04_Letters [.int .i64 e_0, .int .i64 e_1, .list T_api_Expr e_2]).bind fun r2 =>
   bif decide (((IntKind.wrap .i64 (((V.nth r2 0).toInt) + 1)) : Int) > 64) then
    some [.int .i64 0, .int .i64 0, .int .u64 0, .int .u64 0, .int .i64 3, .list T_api_Edge ([] : List V)]
   else
    (C F_semigroupref06_positions_walk [.int .i64 e_0, .int .i64 e_1, .list T_api_Expr e_2, .list T_int ([.int .i64 0] : List V), .list T_api_Edge ([] : List V)]).bind fun r3 =>
    (C F_semigroupref06_positions_link [.int .u64 1, .int .u64 ((V.nth r3 0).toInt), .list T_int ((V.nth (r3.drop 3) 0).toList), .list T_api_Edge ((V.nth ((r3.drop 3).drop 1) 0).toList)]).bind fun r4 =>
    (C F_semigroupref06_Sorted [.list T_api_Edge ((V.nth (r4.drop 1) 0).toList)]).bind fun r5 =>
    bif (V.nth ((r3.drop 1).drop 1) 0).toBool then
     some [.int .i64 letters, .int .i64 (((V.nth r4 0).toList).length : Int), .int .u64 1, .int .u64 (IntKind.wrap .u64 ((BitVec.ofInt (IntKind.bits .u64) ((V.nth (r3.drop 1) 0).toInt) ||| BitVec.ofInt (IntKind.bits .u64) 1).toNat)), .int .i64 0, .list T_api_Edge ((V.nth r5 0).toList)]
    else
     some [.int .i64 letters, .int .i64 (((V.nth r4 0).toList).length : Int), .int .u64 1, .int .u64 ((V.nth (r3.drop 1) 0).toInt), .int .i64 0, .list T_api_Edge ((V.nth r5 0).toList)]
theorem f_semigroupref06_Position_of {e_0 e_1 : Int} {e_2 : List V} {letters : Int} {r : Option (List V)} (h : f_semigroupref06_Position CC e_0 e_1 e_2 letters = r) : CC F_semigroupref06_Position [.int .i64 e_0, .int .i64 e_1, .list T_api_Expr e_2, .int .i64 letters] = r :=
  func_of (key := 15) (L := LT0) (bs := []) (by kernel_rfl) tells_nil (Eq.trans (by kernel_rfl) h)
end Go.AM
set_option maxRecDepth 100000
namespace Go.AM
open Go.Proofs
noncomputable abbrev B_semigroupref02_Members : Code := bodyOf Tryd.prog (ann.fid 67)
noncomputable def s_semigroupref02_Members_1 (C : CallF) (set' j : Int) (ls : List V) {β : Type} (kn : (Int × (List V)) → Option β) (kr : (Int × Bool × (List V)) → Option β) : Option β :=
  bif decide ((j : Int) < 64) then
   (C F_semigroupref02_Has [.int .u64 set', .int .i64 j]).bind fun r1 =>
   bif (V.nth r1 0).toBool then
    bif Nat.ble ((ls.length + ([.int .i64 j] : List V).length) * 8) maxBytes then
     kn (IntKind.wrap .i64 (j + 1), ls ++ ([.int .i64 j] : List V))
    else none
   else
    kn (IntKind.wrap .i64 (j + 1), ls)
  else
   kr (j, decide ((j : Int) < 64), ls)
noncomputable def s_semigroupref02_Members_1L (C : CallF) (set' : Int) : (Int × (List V)) → Option ((Int × (List V)) ⊕ (Int × Bool × (List V))) := un fun j ls => s_semigroupref02_Members_1 C set' j ls (fun y => some (.inl y)) (fun r => some (.inr r))
noncomputable def LT_semigroupref02_Members (C : CallF) : LTab := fun β n ds k =>
  bif Nat.beq n 49 then loopS S67_49 [false, true, true] [[1, 0, 0, 0]] (@s_semigroupref02_Members_1 C) ds k else
  none
abbrev TS_semigroupref02_Members (C : CallF) (b : Bar) : Prop := Tells Tryd.prog ann C (LT_semigroupref02_Members C) 67 (ntmpsOf Tryd.prog (ann.fid 67)) (ann.sin 67).blks.length b
theorem t_semigroupref02_Members_1 (C : CallF) : TS_semigroupref02_Members C (.loop (codeAt [1, 1, 0, 1, 0, 0] B_semigroupref02_Members)) :=
  tl3 S67_49 [false, true, true] [[1, 0, 0, 0]] (@s_semigroupref02_Members_1 C) (by kernel_rfl) (ltok_of (bs := []) (by kernel_rfl) tells_nil) (fun ds => by kernel_rfl) (fun i x => by kernel_rfl) (fun i x β k => by kernel_rfl) (fun β ds k => by kernel_rfl)
noncomputable def f_semigroupref02_Members (C : CallF) (set' : Int) : Option (List V) :=
  (Loop (s_semigroupref02_Members_1L C set') (0, ([] : List V))).bind (un fun (j_2 : Int) => un fun (t_3 : Bool) (ls_4 : List V) =>
    some [.list T_int ls_4])
theorem f_semigroupref02_Members_of {set' : Int} {r : Option (List V)} (h : f_semigroupref02_Members CC set' = r) : CC F_semigroupref02_Members [.int .u64 set'] = r :=
  func_of (key := 67) (L := LT_semigroupref02_Members CC) (bs := [.loop (codeAt [1, 1, 0, 1, 0, 0] B_semigroupref02_Members)]) (by kernel_rfl) (tells_cons (t_semigroupref02_Members_1 CC) tells_nil) (Eq.trans (by kernel_rfl) h)
end Go.AM
