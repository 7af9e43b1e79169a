/-
  Functions of the program, lifted to plain data.
-/
import Derived.Test.YtjdpkmoloccebaaDoorP4
set_option linter.unusedVariables false
set_option linter.unusedSimpArgs false
set_option maxRecDepth 100000
set_option linter.unusedSimpArgs false
set_option maxHeartbeats 4000000
namespace Go.AM
open Go.Proofs Go.Sort
theorem scanUp_eq (p : Ed → Bool) (d : Array Ed) (j i : Nat) : scanUp p d j i = if i ≤ j then (if p d[i]! = true then scanUp p d j (i + 1) else i) else i := by
  conv => lhs; rw [scanUp]
  by_cases h : i ≤ j
  · rw [if_pos h]; simp only [h, decide_true, Bool.true_and]
  · rw [if_neg h, if_neg (by simp [h])]
theorem scanDown_eq (p : Ed → Bool) (d : Array Ed) (i j : Nat) : scanDown p d i (j + 1) = if i ≤ j + 1 then (if p d[j + 1]! = true then scanDown p d i j else j + 1) else j + 1 := by
  conv => lhs; rw [scanDown]
  by_cases h : i ≤ j + 1
  · rw [if_pos h]; simp only [h, decide_true, Bool.true_and]
  · rw [if_neg h, if_neg (by simp [h])]
theorem scanSorted_eq (d : Array Ed) (b i : Nat) : scanSorted ltE d b i = if i < b then (if cmpE d[i]! d[i - 1]! < 0 then i else scanSorted ltE d b (i + 1)) else i := by
  conv => lhs; rw [scanSorted]
  by_cases h : i < b
  · rw [if_pos h]; simp only [h, decide_true, Bool.true_and, ltE_n]
    by_cases h2 : cmpE d[i]! d[i - 1]! < 0
    · rw [if_neg (not_not_intro h2), if_pos h2]
    · rw [if_pos h2, if_neg h2]
  · rw [if_neg h, if_neg (by simp [h])]
theorem shiftDown_eq' (j : Nat) (d : Array Ed) : shiftDown ltE (j + 1) d = if cmpE d[j + 1]! d[j]! < 0 then shiftDown ltE j (swp d (j + 1) j) else d := by
  conv => lhs; rw [shiftDown]
  simp only [ltE_n]
  by_cases h2 : cmpE d[j + 1]! d[j]! < 0
  · rw [if_neg (not_not_intro h2), if_pos h2]
  · rw [if_pos h2, if_neg h2]
theorem shiftUp_eq' (b j : Nat) (d : Array Ed) : shiftUp ltE b j d = if j < b then (if cmpE d[j]! d[j - 1]! < 0 then shiftUp ltE b (j + 1) (swp d j (j - 1)) else d) else d := by
  conv => lhs; rw [shiftUp]
  simp only [ltE_n]
  by_cases h : j < b
  · rw [if_pos h, if_pos h]
    by_cases h2 : cmpE d[j]! d[j - 1]! < 0
    · rw [if_neg (not_not_intro h2), if_pos h2]
    · rw [if_pos h2, if_neg h2]
  · rw [if_neg h, if_neg h]
theorem part_size {a : Nat} : ∀ (n i j : Nat) (d : Array Ed), j + 1 - i ≤ n → (partLoop ltE a i j d).2.size = d.size ∧ (partLoop ltE a i j d).1 ≤ j := by
  intro n
  induction n with
  | zero =>
    intro i j d hn
    have h1 := scanUp_ge (fun x => ltE x d[a]!) d j i
    have h2 := scanDown_le (fun x => !ltE x d[a]!) d (scanUp (fun x => ltE x d[a]!) d j i) j
    rw [partLoop_eq, if_pos (by omega)]
    exact ⟨rfl, h2⟩
  | succ n ih =>
    intro i j d hn
    rw [partLoop_eq]
    have h1 := scanUp_ge (fun x => ltE x d[a]!) d j i
    have h2 := scanDown_le (fun x => !ltE x d[a]!) d (scanUp (fun x => ltE x d[a]!) d j i) j
    split
    · exact ⟨rfl, h2⟩
    · obtain ⟨h3, h4⟩ := ih (scanUp (fun x => ltE x d[a]!) d j i + 1) (scanDown (fun x => !ltE x d[a]!) d (scanUp (fun x => ltE x d[a]!) d j i) j - 1) (swp d (scanUp (fun x => ltE x d[a]!) d j i) (scanDown (fun x => !ltE x d[a]!) d (scanUp (fun x => ltE x d[a]!) d j i) j)) (by omega)
      exact ⟨by rw [h3, size_swp], by omega⟩
theorem chk_eA {β : Type} {d : Array Ed} {i : Nat} {x y : Option β} (h : i < d.size) : (bif (decide (0 ≤ (i : Int))) && (decide ((i : Int) < ((eA d).length : Int))) then x else y) = x := by
  rw [encA_length, bif_and, bif_decide, if_pos (by omega), bif_decide, if_pos (by omega)]
theorem chk_set {β : Type} {d : Array Ed} {i k : Nat} {v : V} {x y : Option β} (h : i < d.size) : (bif (decide (0 ≤ (i : Int))) && (decide ((i : Int) < (((eA d).set k v).length : Int))) then x else y) = x := by
  rw [List.length_set, encA_length, bif_and, bif_decide, if_pos (by omega), bif_decide, if_pos (by omega)]
theorem getB {β : Type} {d : Array Ed} {i : Nat} {f : V → Option β} (h : i < d.size) : ((eA d)[(i : Int).toNat]?).bind f = f (d[i]!).enc := by
  rw [Int.toNat_natCast, encA_get h]; rfl
theorem setB {β : Type} {d : Array Ed} {i k : Nat} {v : V} {x : Option β} (h : i < d.size) : (((eA d).set k v)[(i : Int).toNat]?).bind (fun _ => x) = x := by
  rw [Int.toNat_natCast, List.getElem?_eq_getElem (by rw [List.length_set, encA_length]; exact h)]; rfl
theorem getB' {β : Type} {d : Array Ed} {i : Nat} {f : V → Option β} (h : i < d.size) : ((eA d)[i]?).bind f = f (d[i]!).enc := by
  rw [encA_get h]; rfl
theorem setB' {β : Type} {d : Array Ed} {i k : Nat} {v : V} {x : Option β} (h : i < d.size) : (((eA d).set k v)[i]?).bind (fun _ => x) = x := by
  rw [List.getElem?_eq_getElem (by rw [List.length_set, encA_length]; exact h)]; rfl
theorem part_1 {a j : Nat} {d : Array Ed} (ha : a < d.size) (hj : j < d.size) (hs : d.size < 1152921504606846976) : ∀ (n i : Nat), j + 1 - i = n → i ≤ d.size →
    ∃ t, Loop (s_slices_partitionCmpFunc_api_Edge__1L CC a j (eA d)) (i : Int) = some (((scanUp (fun x => ltE x d[a]!) d j i : Nat) : Int), t) := by
  intro n
  induction n with
  | zero =>
    intro i hn hi
    rw [scanUp_eq, if_neg (by omega)]
    exact ⟨false, Loop_end (by simp (disch := omega) only [s_slices_partitionCmpFunc_api_Edge__1L, s_slices_partitionCmpFunc_api_Edge__1, bif_decide, if_neg])⟩
  | succ n ih =>
    intro i hn hi
    obtain ⟨t, h⟩ := ih (i + 1) (by omega) (by omega)
    rw [scanUp_eq, if_pos (by omega)]
    have e : s_slices_partitionCmpFunc_api_Edge__1L CC a j (eA d) (i : Int) = if cmpE d[i]! d[a]! < 0 then some (.inl ((i + 1 : Nat) : Int)) else some (.inr ((i : Int), decide (cmpE d[i]! d[a]! < 0))) := by
      simp (disch := omega) only [s_slices_partitionCmpFunc_api_Edge__1L, s_slices_partitionCmpFunc_api_Edge__1, bif_decide, bif_and, bif_not, if_pos, if_neg, wrap64, succC, addC, Int.toNat_natCast, Option.bind_some, encA_length, encA_get, Ed.enc_0, Ed.enc_1, Ed.enc_2, Ed.re, encA_set, encA_get2, Array.size_setIfInBounds, compareEdges_spec, V.nth_zero, V.toInt_int, cond_true, cond_false]
    simp only [ltE_i]
    by_cases h2 : cmpE d[i]! d[a]! < 0
    · rw [if_pos h2] at e
      rw [if_pos h2]
      exact ⟨t, (Loop_norm e).trans h⟩
    · rw [if_neg h2] at e
      rw [if_neg h2]
      exact ⟨_, Loop_end e⟩
theorem part_3 {a j : Nat} {d : Array Ed} (ha : a < d.size) (hj : j < d.size) (hs : d.size < 1152921504606846976) : ∀ (n i : Nat), j + 1 - i = n → i ≤ d.size →
    ∃ t, Loop (s_slices_partitionCmpFunc_api_Edge__3L CC a j (eA d)) (i : Int) = some (((scanUp (fun x => ltE x d[a]!) d j i : Nat) : Int), t) := by
  intro n
  induction n with
  | zero =>
    intro i hn hi
    rw [scanUp_eq, if_neg (by omega)]
    exact ⟨false, Loop_end (by simp (disch := omega) only [s_slices_partitionCmpFunc_api_Edge__3L, s_slices_partitionCmpFunc_api_Edge__3, bif_decide, if_neg])⟩
  | succ n ih =>
    intro i hn hi
    obtain ⟨t, h⟩ := ih (i + 1) (by omega) (by omega)
    rw [scanUp_eq, if_pos (by omega)]
    have e : s_slices_partitionCmpFunc_api_Edge__3L CC a j (eA d) (i : Int) = if cmpE d[i]! d[a]! < 0 then some (.inl ((i + 1 : Nat) : Int)) else some (.inr ((i : Int), decide (cmpE d[i]! d[a]! < 0))) := by
      simp (disch := omega) only [s_slices_partitionCmpFunc_api_Edge__3L, s_slices_partitionCmpFunc_api_Edge__3, bif_decide, bif_and, bif_not, if_pos, if_neg, wrap64, succC, addC, Int.toNat_natCast, Option.bind_some, encA_length, encA_get, Ed.enc_0, Ed.enc_1, Ed.enc_2, Ed.re, encA_set, encA_get2, Array.size_setIfInBounds, compareEdges_spec, V.nth_zero, V.toInt_int, cond_true, cond_false]
    simp only [ltE_i]
    by_cases h2 : cmpE d[i]! d[a]! < 0
    · rw [if_pos h2] at e
      rw [if_pos h2]
      exact ⟨t, (Loop_norm e).trans h⟩
    · rw [if_neg h2] at e
      rw [if_neg h2]
      exact ⟨_, Loop_end e⟩
theorem part_2 {a i : Nat} {d : Array Ed} (ha : a < d.size) (hi : 1 ≤ i) (hs : d.size < 1152921504606846976) : ∀ (j : Nat), j < d.size →
    ∃ t, Loop (s_slices_partitionCmpFunc_api_Edge__2L CC a i (eA d)) (j : Int) = some (((scanDown (fun x => !ltE x d[a]!) d i j : Nat) : Int), t)
  | 0, hj => ⟨false, Loop_end (by simp (disch := omega) only [s_slices_partitionCmpFunc_api_Edge__2L, s_slices_partitionCmpFunc_api_Edge__2, bif_decide, if_neg]; rfl)⟩
  | j + 1, hj => by
    obtain ⟨t, h⟩ := part_2 ha hi hs j (by omega)
    rw [scanDown_eq]
    by_cases h1 : i ≤ j + 1
    · rw [if_pos h1]
      have e : s_slices_partitionCmpFunc_api_Edge__2L CC a i (eA d) ((j + 1 : Nat) : Int) = if cmpE d[j + 1]! d[a]! < 0 then some (.inr (((j + 1 : Nat) : Int), !decide (cmpE d[j + 1]! d[a]! < 0))) else some (.inl (j : Int)) := by
        simp (disch := omega) only [s_slices_partitionCmpFunc_api_Edge__2L, s_slices_partitionCmpFunc_api_Edge__2, bif_decide, bif_and, bif_not, if_pos, if_neg, wrap64, succC, addC, Int.toNat_natCast, Option.bind_some, encA_length, encA_get, Ed.enc_0, Ed.enc_1, Ed.enc_2, Ed.re, encA_set, encA_get2, Array.size_setIfInBounds, compareEdges_spec, V.nth_zero, V.toInt_int, cond_true, cond_false, predC]
      simp only [ltE_n]
      by_cases h2 : cmpE d[j + 1]! d[a]! < 0
      · rw [if_pos h2] at e
        rw [if_neg (not_not_intro h2)]
        exact ⟨_, Loop_end e⟩
      · rw [if_neg h2] at e
        rw [if_pos h2]
        exact ⟨t, (Loop_norm e).trans h⟩
    · rw [if_neg h1]
      exact ⟨false, Loop_end (by simp (disch := omega) only [s_slices_partitionCmpFunc_api_Edge__2L, s_slices_partitionCmpFunc_api_Edge__2, bif_decide, if_neg])⟩
theorem part_4 {a i : Nat} {d : Array Ed} (ha : a < d.size) (hi : 1 ≤ i) (hs : d.size < 1152921504606846976) : ∀ (j : Nat), j < d.size →
    ∃ t, Loop (s_slices_partitionCmpFunc_api_Edge__4L CC a i (eA d)) (j : Int) = some (((scanDown (fun x => !ltE x d[a]!) d i j : Nat) : Int), t)
  | 0, hj => ⟨false, Loop_end (by simp (disch := omega) only [s_slices_partitionCmpFunc_api_Edge__4L, s_slices_partitionCmpFunc_api_Edge__4, bif_decide, if_neg]; rfl)⟩
  | j + 1, hj => by
    obtain ⟨t, h⟩ := part_4 ha hi hs j (by omega)
    rw [scanDown_eq]
    by_cases h1 : i ≤ j + 1
    · rw [if_pos h1]
      have e : s_slices_partitionCmpFunc_api_Edge__4L CC a i (eA d) ((j + 1 : Nat) : Int) = if cmpE d[j + 1]! d[a]! < 0 then some (.inr (((j + 1 : Nat) : Int), !decide (cmpE d[j + 1]! d[a]! < 0))) else some (.inl (j : Int)) := by
        simp (disch := omega) only [s_slices_partitionCmpFunc_api_Edge__4L, s_slices_partitionCmpFunc_api_Edge__4, bif_decide, bif_and, bif_not, if_pos, if_neg, wrap64, succC, addC, Int.toNat_natCast, Option.bind_some, encA_length, encA_get, Ed.enc_0, Ed.enc_1, Ed.enc_2, Ed.re, encA_set, encA_get2, Array.size_setIfInBounds, compareEdges_spec, V.nth_zero, V.toInt_int, cond_true, cond_false, predC]
      simp only [ltE_n]
      by_cases h2 : cmpE d[j + 1]! d[a]! < 0
      · rw [if_pos h2] at e
        rw [if_neg (not_not_intro h2)]
        exact ⟨_, Loop_end e⟩
      · rw [if_neg h2] at e
        rw [if_pos h2]
        exact ⟨t, (Loop_norm e).trans h⟩
    · rw [if_neg h1]
      exact ⟨false, Loop_end (by simp (disch := omega) only [s_slices_partitionCmpFunc_api_Edge__4L, s_slices_partitionCmpFunc_api_Edge__4, bif_decide, if_neg])⟩
theorem pequ_1 {a j : Nat} {d : Array Ed} (ha : a < d.size) (hj : j < d.size) (hs : d.size < 1152921504606846976) : ∀ (n i : Nat), j + 1 - i = n → i ≤ d.size →
    ∃ t, Loop (s_slices_partitionEqualCmpFunc_api_Edge__1L CC a j (eA d)) (i : Int) = some (((scanUp (fun x => !ltE d[a]! x) d j i : Nat) : Int), t) := by
  intro n
  induction n with
  | zero =>
    intro i hn hi
    rw [scanUp_eq, if_neg (by omega)]
    exact ⟨false, Loop_end (by simp (disch := omega) only [s_slices_partitionEqualCmpFunc_api_Edge__1L, s_slices_partitionEqualCmpFunc_api_Edge__1, bif_decide, if_neg])⟩
  | succ n ih =>
    intro i hn hi
    obtain ⟨t, h⟩ := ih (i + 1) (by omega) (by omega)
    rw [scanUp_eq, if_pos (by omega)]
    have e : s_slices_partitionEqualCmpFunc_api_Edge__1L CC a j (eA d) (i : Int) = if cmpE d[a]! d[i]! < 0 then some (.inr ((i : Int), !decide (cmpE d[a]! d[i]! < 0))) else some (.inl ((i + 1 : Nat) : Int)) := by
      simp (disch := omega) only [s_slices_partitionEqualCmpFunc_api_Edge__1L, s_slices_partitionEqualCmpFunc_api_Edge__1, bif_decide, bif_and, bif_not, if_pos, if_neg, wrap64, succC, addC, Int.toNat_natCast, Option.bind_some, encA_length, encA_get, Ed.enc_0, Ed.enc_1, Ed.enc_2, Ed.re, encA_set, encA_get2, Array.size_setIfInBounds, compareEdges_spec, V.nth_zero, V.toInt_int, cond_true, cond_false]
    simp only [ltE_n]
    by_cases h2 : cmpE d[a]! d[i]! < 0
    · rw [if_pos h2] at e
      rw [if_neg (not_not_intro h2)]
      exact ⟨_, Loop_end e⟩
    · rw [if_neg h2] at e
      rw [if_pos h2]
      exact ⟨t, (Loop_norm e).trans h⟩
theorem pequ_2 {a i : Nat} {d : Array Ed} (ha : a < d.size) (hi : 1 ≤ i) (hs : d.size < 1152921504606846976) : ∀ (j : Nat), j < d.size →
    ∃ t, Loop (s_slices_partitionEqualCmpFunc_api_Edge__2L CC a i (eA d)) (j : Int) = some (((scanDown (fun x => ltE d[a]! x) d i j : Nat) : Int), t)
  | 0, hj => ⟨false, Loop_end (by simp (disch := omega) only [s_slices_partitionEqualCmpFunc_api_Edge__2L, s_slices_partitionEqualCmpFunc_api_Edge__2, bif_decide, if_neg]; rfl)⟩
  | j + 1, hj => by
    obtain ⟨t, h⟩ := pequ_2 ha hi hs j (by omega)
    rw [scanDown_eq]
    by_cases h1 : i ≤ j + 1
    · rw [if_pos h1]
      have e : s_slices_partitionEqualCmpFunc_api_Edge__2L CC a i (eA d) ((j + 1 : Nat) : Int) = if cmpE d[a]! d[j + 1]! < 0 then some (.inl (j : Int)) else some (.inr (((j + 1 : Nat) : Int), decide (cmpE d[a]! d[j + 1]! < 0))) := by
        simp (disch := omega) only [s_slices_partitionEqualCmpFunc_api_Edge__2L, s_slices_partitionEqualCmpFunc_api_Edge__2, bif_decide, bif_and, bif_not, if_pos, if_neg, wrap64, succC, addC, Int.toNat_natCast, Option.bind_some, encA_length, encA_get, Ed.enc_0, Ed.enc_1, Ed.enc_2, Ed.re, encA_set, encA_get2, Array.size_setIfInBounds, compareEdges_spec, V.nth_zero, V.toInt_int, cond_true, cond_false, predC]
      simp only [ltE_i]
      by_cases h2 : cmpE d[a]! d[j + 1]! < 0
      · rw [if_pos h2] at e
        rw [if_pos h2]
        exact ⟨t, (Loop_norm e).trans h⟩
      · rw [if_neg h2] at e
        rw [if_neg h2]
        exact ⟨_, Loop_end e⟩
    · rw [if_neg h1]
      exact ⟨false, Loop_end (by simp (disch := omega) only [s_slices_partitionEqualCmpFunc_api_Edge__2L, s_slices_partitionEqualCmpFunc_api_Edge__2, bif_decide, if_neg])⟩
theorem part_5 {a : Nat} : ∀ (n i j : Nat) (d : Array Ed), j + 1 - i ≤ n → 1 ≤ i → i ≤ d.size → a < d.size → j < d.size → d.size < 1152921504606846976 →
    ∃ x z, Loop (s_slices_partitionCmpFunc_api_Edge__5L CC a) ((i : Int), (j : Int), eA d) = some (x, (((partLoop ltE a i j d).1 : Nat) : Int), z, eA (partLoop ltE a i j d).2) := by
  intro n
  induction n with
  | zero =>
    intro i j d hn h1 h2 ha hj hs
    obtain ⟨t3, e3⟩ := part_3 (a := a) ha hj hs _ i rfl h2
    have g1 := scanUp_ge (fun x => ltE x d[a]!) d j i
    have g2 := scanDown_le (fun x => !ltE x d[a]!) d (scanUp (fun x => ltE x d[a]!) d j i) j
    obtain ⟨t4, e4⟩ := part_4 (a := a) (i := scanUp (fun x => ltE x d[a]!) d j i) ha (by omega) hs j hj
    rw [partLoop_eq, if_pos (by omega)]
    refine ⟨((scanUp (fun x => ltE x d[a]!) d j i : Nat) : Int), true, Loop_end ?_⟩
    simp only [s_slices_partitionCmpFunc_api_Edge__5L, s_slices_partitionCmpFunc_api_Edge__5, un]
    rw [e3]
    simp only [Option.bind_some, un]
    rw [e4]
    simp (disch := omega) only [Option.bind_some, un, dec_true, cond_true]
  | succ n ih =>
    intro i j d hn h1 h2 ha hj hs
    obtain ⟨t3, e3⟩ := part_3 (a := a) ha hj hs _ i rfl h2
    have g1 := scanUp_ge (fun x => ltE x d[a]!) d j i
    have g2 := scanDown_le (fun x => !ltE x d[a]!) d (scanUp (fun x => ltE x d[a]!) d j i) j
    obtain ⟨t4, e4⟩ := part_4 (a := a) (i := scanUp (fun x => ltE x d[a]!) d j i) ha (by omega) hs j hj
    rw [partLoop_eq]
    have f : s_slices_partitionCmpFunc_api_Edge__5L CC a ((i : Int), (j : Int), eA d) = s_slices_partitionCmpFunc_api_Edge__5L CC a ((i : Int), (j : Int), eA d) := rfl
    conv at f => rhs; simp only [s_slices_partitionCmpFunc_api_Edge__5L, s_slices_partitionCmpFunc_api_Edge__5, un]; rw [e3]; simp only [Option.bind_some, un]; rw [e4]; simp only [Option.bind_some, un]
    generalize hi2 : scanUp (fun x => ltE x d[a]!) d j i = i2 at *
    generalize hj2 : scanDown (fun x => !ltE x d[a]!) d i2 j = j2 at *
    by_cases h : i2 > j2
    · rw [if_pos h]
      refine ⟨(i2 : Int), true, Loop_end (f.trans ?_)⟩
      simp (disch := omega) only [Option.bind_some, dec_true, cond_true]
    · rw [if_neg h]
      obtain ⟨x, z, e⟩ := ih (i2 + 1) (j2 - 1) (swp d i2 j2) (by omega) (by omega) (by rw [size_swp]; omega) (by rw [size_swp]; omega) (by rw [size_swp]; omega) (by rw [size_swp]; omega)
      refine ⟨x, z, (Loop_norm (f.trans ?_)).trans e⟩
      simp (disch := omega) only [bif_decide, bif_and, bif_not, if_pos, if_neg, wrap64, succC, addC, Int.toNat_natCast, Option.bind_some, encA_length, encA_get, Ed.enc_0, Ed.enc_1, Ed.enc_2, Ed.re, encA_set, encA_get2, Array.size_setIfInBounds, compareEdges_spec, V.nth_zero, V.toInt_int, cond_true, cond_false, sub1C]
      rfl
theorem part_eq' (d : Array Ed) (a b pivot : Nat) : partition ltE d a b pivot =
    if scanUp (fun x => ltE x (swp d a pivot)[a]!) (swp d a pivot) (b - 1) (a + 1) > scanDown (fun x => !ltE x (swp d a pivot)[a]!) (swp d a pivot) (scanUp (fun x => ltE x (swp d a pivot)[a]!) (swp d a pivot) (b - 1) (a + 1)) (b - 1) then
      (scanDown (fun x => !ltE x (swp d a pivot)[a]!) (swp d a pivot) (scanUp (fun x => ltE x (swp d a pivot)[a]!) (swp d a pivot) (b - 1) (a + 1)) (b - 1), true, swp (swp d a pivot) (scanDown (fun x => !ltE x (swp d a pivot)[a]!) (swp d a pivot) (scanUp (fun x => ltE x (swp d a pivot)[a]!) (swp d a pivot) (b - 1) (a + 1)) (b - 1)) a)
    else
      ((partLoop ltE a (scanUp (fun x => ltE x (swp d a pivot)[a]!) (swp d a pivot) (b - 1) (a + 1) + 1) (scanDown (fun x => !ltE x (swp d a pivot)[a]!) (swp d a pivot) (scanUp (fun x => ltE x (swp d a pivot)[a]!) (swp d a pivot) (b - 1) (a + 1)) (b - 1) - 1) (swp (swp d a pivot) (scanUp (fun x => ltE x (swp d a pivot)[a]!) (swp d a pivot) (b - 1) (a + 1)) (scanDown (fun x => !ltE x (swp d a pivot)[a]!) (swp d a pivot) (scanUp (fun x => ltE x (swp d a pivot)[a]!) (swp d a pivot) (b - 1) (a + 1)) (b - 1)))).1, false,
       swp (partLoop ltE a (scanUp (fun x => ltE x (swp d a pivot)[a]!) (swp d a pivot) (b - 1) (a + 1) + 1) (scanDown (fun x => !ltE x (swp d a pivot)[a]!) (swp d a pivot) (scanUp (fun x => ltE x (swp d a pivot)[a]!) (swp d a pivot) (b - 1) (a + 1)) (b - 1) - 1) (swp (swp d a pivot) (scanUp (fun x => ltE x (swp d a pivot)[a]!) (swp d a pivot) (b - 1) (a + 1)) (scanDown (fun x => !ltE x (swp d a pivot)[a]!) (swp d a pivot) (scanUp (fun x => ltE x (swp d a pivot)[a]!) (swp d a pivot) (b - 1) (a + 1)) (b - 1)))).2
        (partLoop ltE a (scanUp (fun x => ltE x (swp d a pivot)[a]!) (swp d a pivot) (b - 1) (a + 1) + 1) (scanDown (fun x => !ltE x (swp d a pivot)[a]!) (swp d a pivot) (scanUp (fun x => ltE x (swp d a pivot)[a]!) (swp d a pivot) (b - 1) (a + 1)) (b - 1) - 1) (swp (swp d a pivot) (scanUp (fun x => ltE x (swp d a pivot)[a]!) (swp d a pivot) (b - 1) (a + 1)) (scanDown (fun x => !ltE x (swp d a pivot)[a]!) (swp d a pivot) (scanUp (fun x => ltE x (swp d a pivot)[a]!) (swp d a pivot) (b - 1) (a + 1)) (b - 1)))).1 a) := rfl
theorem swp_eA (d : Array Ed) (i j : Nat) : eA ((d.setIfInBounds i d[j]!).setIfInBounds j d[i]!) = eA (swp d i j) := rfl
theorem part_spec {a b pivot : Nat} {d : Array Ed} (hp : pivot < b) (hab : a < b) (hb : b ≤ d.size) (hs : d.size < 1152921504606846976) :
    CC F_slices_partitionCmpFunc_api_Edge_ [.int .i64 (a : Int), .int .i64 (b : Int), .int .i64 (pivot : Int), .list T_api_Edge (eA d)] =
      some [.int .i64 ((partition ltE d a b pivot).1 : Int), .bool (partition ltE d a b pivot).2.1, .list T_api_Edge (eA (partition ltE d a b pivot).2.2)] := by
  refine f_slices_partitionCmpFunc_api_Edge__of ?_
  unfold f_slices_partitionCmpFunc_api_Edge_
  have z1 : (swp d a pivot).size = d.size := size_swp ..
  obtain ⟨t1, e1⟩ := part_1 (a := a) (j := b - 1) (d := swp d a pivot) (by omega) (by omega) (by omega) _ (a + 1) rfl (by omega)
  have g1 := scanUp_ge (fun x => ltE x (swp d a pivot)[a]!) (swp d a pivot) (b - 1) (a + 1)
  have g2 := scanDown_le (fun x => !ltE x (swp d a pivot)[a]!) (swp d a pivot) (scanUp (fun x => ltE x (swp d a pivot)[a]!) (swp d a pivot) (b - 1) (a + 1)) (b - 1)
  obtain ⟨t2, e2⟩ := part_2 (a := a) (i := scanUp (fun x => ltE x (swp d a pivot)[a]!) (swp d a pivot) (b - 1) (a + 1)) (d := swp d a pivot) (by omega) (by omega) (by omega) (b - 1) (by omega)
  have e0 := part_eq' d a b pivot
  rw [chk_eA (i := pivot) (by omega), getB (by omega), chk_eA (i := a) (by omega), getB (by omega), chk_eA (i := a) (by omega), getB (by omega), chk_set (i := pivot) (by omega), setB (by omega)]
  simp only [Ed.enc_0, Ed.enc_1, Ed.enc_2, Ed.re, Int.toNat_natCast, encA_set, swp_eA]
  simp (disch := omega) only [sub1C, succC, wrap64]
  rw [e1]
  simp only [Option.bind_some, un]
  rw [e2]
  simp only [Option.bind_some, un]
  generalize hi2 : scanUp (fun x => ltE x (swp d a pivot)[a]!) (swp d a pivot) (b - 1) (a + 1) = i2 at *
  generalize hj2 : scanDown (fun x => !ltE x (swp d a pivot)[a]!) (swp d a pivot) i2 (b - 1) = j2 at *
  generalize swp d a pivot = d1 at *
  by_cases h : i2 > j2
  · rw [if_pos h] at e0
    rw [e0, bif_decide, if_pos (by omega)]
    rw [chk_eA (i := a) (by omega)]; (first | rw [getB (by omega)] | rw [getB' (by omega)]); rw [chk_eA (i := j2) (by omega)]; (first | rw [getB (by omega)] | rw [getB' (by omega)]); rw [chk_eA (i := j2) (by omega)]; (first | rw [getB (by omega)] | rw [getB' (by omega)]); rw [chk_set (i := a) (by omega)]; (first | rw [setB (by omega)] | rw [setB' (by omega)])
    simp only [Ed.enc_0, Ed.enc_1, Ed.enc_2, Ed.re, Int.toNat_natCast, encA_set, swp_eA]
  · rw [if_neg h] at e0
    rw [e0, bif_decide, if_neg (by omega)]
    have z2 : (swp d1 i2 j2).size = d1.size := size_swp ..
    obtain ⟨x, z, e5⟩ := part_5 (a := a) _ (i2 + 1) (j2 - 1) (swp d1 i2 j2) (Nat.le_refl _) (by omega) (by omega) (by omega) (by omega) (by omega)
    obtain ⟨q1, q2⟩ := part_size (a := a) _ (i2 + 1) (j2 - 1) (swp d1 i2 j2) (Nat.le_refl _)
    rw [chk_eA (i := j2) (by omega)]; (first | rw [getB (by omega)] | rw [getB' (by omega)]); rw [chk_eA (i := i2) (by omega)]; (first | rw [getB (by omega)] | rw [getB' (by omega)]); rw [chk_eA (i := i2) (by omega)]; (first | rw [getB (by omega)] | rw [getB' (by omega)]); rw [chk_set (i := j2) (by omega)]; (first | rw [setB (by omega)] | rw [setB' (by omega)])
    simp only [Ed.enc_0, Ed.enc_1, Ed.enc_2, Ed.re, Int.toNat_natCast, encA_set, swp_eA]
    simp (disch := omega) only [sub1C, succC, wrap64]
    rw [e5]
    generalize partLoop ltE a (i2 + 1) (j2 - 1) (swp d1 i2 j2) = r at *
    simp only [Option.bind_some, un]
    rw [chk_eA (i := a) (by omega)]; (first | rw [getB (by omega)] | rw [getB' (by omega)]); rw [chk_eA (i := r.1) (by omega)]; (first | rw [getB (by omega)] | rw [getB' (by omega)]); rw [chk_eA (i := r.1) (by omega)]; (first | rw [getB (by omega)] | rw [getB' (by omega)]); rw [chk_set (i := a) (by omega)]; (first | rw [setB (by omega)] | rw [setB' (by omega)])
    simp only [Ed.enc_0, Ed.enc_1, Ed.enc_2, Ed.re, Int.toNat_natCast, encA_set, swp_eA]
theorem pequ_3 {a : Nat} : ∀ (n i j : Nat) (d : Array Ed), j + 1 - i ≤ n → 1 ≤ i → i ≤ d.size → a < d.size → j < d.size → d.size < 1152921504606846976 →
    ∃ x z, Loop (s_slices_partitionEqualCmpFunc_api_Edge__3L CC a) ((i : Int), (j : Int), eA d) = some ((((partEqLoop ltE a i j d).1 : Nat) : Int), x, z, eA (partEqLoop ltE a i j d).2) := by
  intro n
  induction n with
  | zero =>
    intro i j d hn h1 h2 ha hj hs
    obtain ⟨t3, e3⟩ := pequ_1 (a := a) ha hj hs _ i rfl h2
    have g1 := scanUp_ge (fun x => !ltE d[a]! x) d j i
    have g2 := scanDown_le (fun x => ltE d[a]! x) d (scanUp (fun x => !ltE d[a]! x) d j i) j
    obtain ⟨t4, e4⟩ := pequ_2 (a := a) (i := scanUp (fun x => !ltE d[a]! x) d j i) ha (by omega) hs j hj
    rw [partEqLoop_eq, if_pos (by omega)]
    refine ⟨((scanDown (fun x => ltE d[a]! x) d (scanUp (fun x => !ltE d[a]! x) d j i) j : Nat) : Int), true, Loop_end ?_⟩
    simp only [s_slices_partitionEqualCmpFunc_api_Edge__3L, s_slices_partitionEqualCmpFunc_api_Edge__3, un]
    rw [e3]
    simp only [Option.bind_some, un]
    rw [e4]
    simp (disch := omega) only [Option.bind_some, un, dec_true, cond_true]
  | succ n ih =>
    intro i j d hn h1 h2 ha hj hs
    obtain ⟨t3, e3⟩ := pequ_1 (a := a) ha hj hs _ i rfl h2
    have g1 := scanUp_ge (fun x => !ltE d[a]! x) d j i
    have g2 := scanDown_le (fun x => ltE d[a]! x) d (scanUp (fun x => !ltE d[a]! x) d j i) j
    obtain ⟨t4, e4⟩ := pequ_2 (a := a) (i := scanUp (fun x => !ltE d[a]! x) d j i) ha (by omega) hs j hj
    rw [partEqLoop_eq]
    have f : s_slices_partitionEqualCmpFunc_api_Edge__3L CC a ((i : Int), (j : Int), eA d) = s_slices_partitionEqualCmpFunc_api_Edge__3L CC a ((i : Int), (j : Int), eA d) := rfl
    conv at f => rhs; simp only [s_slices_partitionEqualCmpFunc_api_Edge__3L, s_slices_partitionEqualCmpFunc_api_Edge__3, un]; rw [e3]; simp only [Option.bind_some, un]; rw [e4]; simp only [Option.bind_some, un]
    generalize hi2 : scanUp (fun x => !ltE d[a]! x) d j i = i2 at *
    generalize hj2 : scanDown (fun x => ltE d[a]! x) d i2 j = j2 at *
    by_cases h : i2 > j2
    · rw [if_pos h]
      refine ⟨(j2 : Int), true, Loop_end (f.trans ?_)⟩
      simp (disch := omega) only [Option.bind_some, dec_true, cond_true]
    · rw [if_neg h]
      obtain ⟨x, z, e⟩ := ih (i2 + 1) (j2 - 1) (swp d i2 j2) (by omega) (by omega) (by rw [size_swp]; omega) (by rw [size_swp]; omega) (by rw [size_swp]; omega) (by rw [size_swp]; omega)
      refine ⟨x, z, (Loop_norm (f.trans ?_)).trans e⟩
      simp (disch := omega) only [bif_decide, bif_and, bif_not, if_pos, if_neg, wrap64, succC, addC, Int.toNat_natCast, Option.bind_some, encA_length, encA_get, Ed.enc_0, Ed.enc_1, Ed.enc_2, Ed.re, encA_set, encA_get2, Array.size_setIfInBounds, compareEdges_spec, V.nth_zero, V.toInt_int, cond_true, cond_false, sub1C]
      rfl
theorem pequ_spec {a b pivot : Nat} {d : Array Ed} (hp : pivot < b) (hab : a < b) (hb : b ≤ d.size) (hs : d.size < 1152921504606846976) :
    CC F_slices_partitionEqualCmpFunc_api_Edge_ [.int .i64 (a : Int), .int .i64 (b : Int), .int .i64 (pivot : Int), .list T_api_Edge (eA d)] =
      some [.int .i64 ((partitionEqual ltE d a b pivot).1 : Int), .list T_api_Edge (eA (partitionEqual ltE d a b pivot).2)] := by
  refine f_slices_partitionEqualCmpFunc_api_Edge__of ?_
  unfold f_slices_partitionEqualCmpFunc_api_Edge_
  have z1 : (swp d a pivot).size = d.size := size_swp ..
  obtain ⟨x, z, e⟩ := pequ_3 (a := a) _ (a + 1) (b - 1) (swp d a pivot) (Nat.le_refl _) (by omega) (by omega) (by omega) (by omega) (by omega)
  simp (disch := omega) only [bif_decide, bif_and, if_pos, encA_length, encA_get, Int.toNat_natCast, Option.bind_some, Ed.enc_0, Ed.enc_1, Ed.enc_2, Ed.re, encA_set, encA_get2, Array.size_setIfInBounds, sub1C, succC, wrap64, swp_eA]
  rw [e]
  rfl
theorem pins_1 {a b j : Nat} {d : Array Ed} (hb : b ≤ d.size) (hs : d.size < 1152921504606846976) : ∀ (n i : Nat), b - i = n → 1 ≤ i → i ≤ b →
    ∃ t, Loop (s_slices_partialInsertionSortCmpFunc_api_Edge__1L CC a b j (eA d)) (i : Int) = some (((scanSorted ltE d b i : Nat) : Int), t) := by
  intro n
  induction n with
  | zero =>
    intro i hn h1 hi
    rw [scanSorted_eq, if_neg (by omega)]
    exact ⟨false, Loop_end (by simp (disch := omega) only [s_slices_partialInsertionSortCmpFunc_api_Edge__1L, s_slices_partialInsertionSortCmpFunc_api_Edge__1, bif_decide, if_neg])⟩
  | succ n ih =>
    intro i hn h1 hi
    obtain ⟨t, h⟩ := ih (i + 1) (by omega) (by omega) (by omega)
    rw [scanSorted_eq, if_pos (by omega)]
    have e : s_slices_partialInsertionSortCmpFunc_api_Edge__1L CC a b j (eA d) (i : Int) = if cmpE d[i]! d[i - 1]! < 0 then some (.inr ((i : Int), !decide (cmpE d[i]! d[i - 1]! < 0))) else some (.inl ((i + 1 : Nat) : Int)) := by
      simp (disch := omega) only [s_slices_partialInsertionSortCmpFunc_api_Edge__1L, s_slices_partialInsertionSortCmpFunc_api_Edge__1, sub1C, bif_decide, bif_and, bif_not, if_pos, if_neg, wrap64, succC, addC, Int.toNat_natCast, Option.bind_some, encA_length, encA_get, Ed.enc_0, Ed.enc_1, Ed.enc_2, Ed.re, encA_set, encA_get2, Array.size_setIfInBounds, compareEdges_spec, V.nth_zero, V.toInt_int, cond_true, cond_false]
    by_cases h2 : cmpE d[i]! d[i - 1]! < 0
    · rw [if_pos h2] at e ⊢
      exact ⟨_, Loop_end e⟩
    · rw [if_neg h2] at e ⊢
      exact ⟨t, (Loop_norm e).trans h⟩
theorem shiftDown_size : ∀ (j : Nat) (d : Array Ed), (shiftDown ltE j d).size = d.size
  | 0, _ => rfl
  | j + 1, d => by
    rw [shiftDown_eq']
    split
    · rw [shiftDown_size j, size_swp]
    · rfl
theorem shiftUp_size {b : Nat} : ∀ (n j : Nat) (d : Array Ed), b - j = n → (shiftUp ltE b j d).size = d.size := by
  intro n
  induction n with
  | zero => intro j d h; rw [shiftUp_eq', if_neg (by omega)]
  | succ n ih =>
    intro j d h
    rw [shiftUp_eq', if_pos (by omega)]
    split
    · rw [ih _ _ (by omega), size_swp]
    · rfl
theorem pins_2 {a b i k : Nat} : ∀ (j : Nat) (d : Array Ed), j < d.size → d.size < 1152921504606846976 →
    ∃ t, Loop (s_slices_partialInsertionSortCmpFunc_api_Edge__2L CC a b i k) ((j : Int), eA d) = some (t, eA (shiftDown ltE j d))
  | 0, d, hj, hs => ⟨(0 : Nat), Loop_end (by
      simp (disch := omega) only [s_slices_partialInsertionSortCmpFunc_api_Edge__2L, s_slices_partialInsertionSortCmpFunc_api_Edge__2, un, bif_decide, if_neg]
      rfl)⟩
  | j + 1, d, hj, hs => by
    obtain ⟨t, ih⟩ := pins_2 (a := a) (b := b) (i := i) (k := k) j (swp d (j + 1) j) (by rw [size_swp]; omega) (by rw [size_swp]; omega)
    rw [shiftDown_eq']
    have e : s_slices_partialInsertionSortCmpFunc_api_Edge__2L CC a b i k (((j + 1 : Nat) : Int), eA d) = if cmpE d[j + 1]! d[j]! < 0 then some (.inl ((j : Int), eA (swp d (j + 1) j))) else some (.inr (((j + 1 : Nat) : Int), eA d)) := by
      simp (disch := omega) only [s_slices_partialInsertionSortCmpFunc_api_Edge__2L, s_slices_partialInsertionSortCmpFunc_api_Edge__2, un, bif_decide, bif_and, bif_not, if_pos, if_neg, wrap64, succC, addC, Int.toNat_natCast, Option.bind_some, encA_length, encA_get, Ed.enc_0, Ed.enc_1, Ed.enc_2, Ed.re, encA_set, encA_get2, Array.size_setIfInBounds, compareEdges_spec, V.nth_zero, V.toInt_int, cond_true, cond_false, predC]
      rfl
    by_cases h2 : cmpE d[j + 1]! d[j]! < 0
    · rw [if_pos h2] at e ⊢
      exact ⟨t, (Loop_norm e).trans ih⟩
    · rw [if_neg h2] at e ⊢
      exact ⟨_, Loop_end e⟩
theorem pins_4 {a b i k : Nat} : ∀ (n j : Nat) (d : Array Ed), b - j = n → 1 ≤ j → j ≤ b → b ≤ d.size → d.size < 1152921504606846976 →
    ∃ t, Loop (s_slices_partialInsertionSortCmpFunc_api_Edge__4L CC a b i k) ((j : Int), eA d) = some (t, eA (shiftUp ltE b j d)) := by
  intro n
  induction n with
  | zero =>
    intro j d hn h1 hj hb hs
    rw [shiftUp_eq', if_neg (by omega)]
    exact ⟨(j : Int), Loop_end (by
      simp (disch := omega) only [s_slices_partialInsertionSortCmpFunc_api_Edge__4L, s_slices_partialInsertionSortCmpFunc_api_Edge__4, un, bif_decide, if_neg])⟩
  | succ n ih =>
    intro j d hn h1 hj hb hs
    obtain ⟨t, h⟩ := ih (j + 1) (swp d j (j - 1)) (by omega) (by omega) (by omega) (by rw [size_swp]; omega) (by rw [size_swp]; omega)
    rw [shiftUp_eq', if_pos (by omega)]
    have e : s_slices_partialInsertionSortCmpFunc_api_Edge__4L CC a b i k ((j : Int), eA d) = if cmpE d[j]! d[j - 1]! < 0 then some (.inl (((j + 1 : Nat) : Int), eA (swp d j (j - 1)))) else some (.inr ((j : Int), eA d)) := by
      simp (disch := omega) only [s_slices_partialInsertionSortCmpFunc_api_Edge__4L, s_slices_partialInsertionSortCmpFunc_api_Edge__4, un, sub1C, bif_decide, bif_and, bif_not, if_pos, if_neg, wrap64, succC, addC, Int.toNat_natCast, Option.bind_some, encA_length, encA_get, Ed.enc_0, Ed.enc_1, Ed.enc_2, Ed.re, encA_set, encA_get2, Array.size_setIfInBounds, compareEdges_spec, V.nth_zero, V.toInt_int, cond_true, cond_false]
      rfl
    by_cases h2 : cmpE d[j]! d[j - 1]! < 0
    · rw [if_pos h2] at e ⊢
      exact ⟨t, (Loop_norm e).trans h⟩
    · rw [if_neg h2] at e ⊢
      exact ⟨_, Loop_end e⟩
theorem scanSorted_le {d : Array Ed} {b : Nat} : ∀ (n i : Nat), b - i = n → i ≤ b → i ≤ scanSorted ltE d b i ∧ scanSorted ltE d b i ≤ b := by
  intro n
  induction n with
  | zero => intro i hn hi; rw [scanSorted_eq, if_neg (by omega)]; omega
  | succ n ih =>
    intro i hn hi
    rw [scanSorted_eq, if_pos (by omega)]
    obtain ⟨h1, h2⟩ := ih (i + 1) (by omega) (by omega)
    split <;> omega
theorem pins_loop {a b : Nat} : ∀ (s i : Nat) (d : Array Ed), s ≤ 5 → a < i → i ≤ b → b ≤ d.size → d.size < 1152921504606846976 →
    (Loop (s_slices_partialInsertionSortCmpFunc_api_Edge__5L CC a b) ((i : Int), ((5 - s : Nat) : Int), eA d) = some (.inl ((partialIns ltE a b s i d).2, eA (partialIns ltE a b s i d).1))) ∨
    (∃ x y z, (partialIns ltE a b s i d).2 = false ∧ Loop (s_slices_partialInsertionSortCmpFunc_api_Edge__5L CC a b) ((i : Int), ((5 - s : Nat) : Int), eA d) = some (.inr (x, y, z, eA (partialIns ltE a b s i d).1))) := by
  intro s
  induction s with
  | zero =>
    intro i d hs5 hi hib hb hs
    refine .inr ⟨(i : Int), ((5 : Nat) : Int), false, rfl, Loop_end ?_⟩
    simp (disch := omega) only [s_slices_partialInsertionSortCmpFunc_api_Edge__5L, s_slices_partialInsertionSortCmpFunc_api_Edge__5, un, dec_false, cond_false]
    rfl
  | succ s ih =>
    intro i d hs5 hi hib hb hs
    obtain ⟨t1, e1⟩ := pins_1 (a := a) (j := 5 - (s + 1)) hb hs _ i rfl (by omega) hib
    obtain ⟨q1, q2⟩ := scanSorted_le (d := d) _ i rfl hib
    rw [partialIns_succ]
    have f : s_slices_partialInsertionSortCmpFunc_api_Edge__5L CC a b ((i : Int), ((5 - (s + 1) : Nat) : Int), eA d) = s_slices_partialInsertionSortCmpFunc_api_Edge__5L CC a b ((i : Int), ((5 - (s + 1) : Nat) : Int), eA d) := rfl
    conv at f => rhs; simp only [s_slices_partialInsertionSortCmpFunc_api_Edge__5L, s_slices_partialInsertionSortCmpFunc_api_Edge__5, un]; rw [bif_decide, if_pos (by omega), e1]; simp only [Option.bind_some, un]
    generalize scanSorted ltE d b i = k at *
    by_cases h1 : k = b
    · rw [if_pos h1]
      left
      refine Loop_end (f.trans ?_)
      rw [bif_beq, if_pos (by omega)]
    · rw [if_neg h1]
      by_cases h2 : b - a < 50
      · rw [if_pos h2]
        left
        refine Loop_end (f.trans ?_)
        rw [bif_beq, if_neg (by omega), wrap64 (by omega) (by omega), bif_decide, if_pos (by omega)]
      · rw [if_neg h2]
        have z1 : (swp d k (k - 1)).size = d.size := size_swp ..
        have z2 : (fixDown ltE a k (swp d k (k - 1))).size = d.size := by
          unfold fixDown
          split
          · rw [shiftDown_size, z1]
          · exact z1
        have z3 : (fixUp ltE b k (fixDown ltE a k (swp d k (k - 1)))).size = d.size := by
          unfold fixUp
          split
          · rw [shiftUp_size _ _ _ rfl, z2]
          · exact z2
        obtain ⟨t2, e2⟩ := pins_2 (a := a) (b := b) (i := k) (k := 5 - (s + 1)) (k - 1) (swp d k (k - 1)) (by omega) (by omega)
        obtain ⟨t4, e4⟩ := pins_4 (a := a) (b := b) (i := k) (k := 5 - (s + 1)) _ (k + 1) (fixDown ltE a k (swp d k (k - 1))) rfl (by omega) (by omega) (by omega) (by omega)
        have e5 : s_slices_partialInsertionSortCmpFunc_api_Edge__5L CC a b ((i : Int), ((5 - (s + 1) : Nat) : Int), eA d) = some (.inl ((k : Int), ((5 - s : Nat) : Int), eA (fixUp ltE b k (fixDown ltE a k (swp d k (k - 1)))))) := by
          refine f.trans ?_
          rw [bif_beq, if_neg (by omega), wrap64 (by omega) (by omega), bif_decide, if_neg (by omega)]
          simp (disch := omega) only [bif_decide, bif_and, if_pos, encA_length, encA_get, Int.toNat_natCast, Option.bind_some, Ed.enc_0, Ed.enc_1, Ed.enc_2, Ed.re, encA_set, encA_get2, Array.size_setIfInBounds, sub1C, succC, subC, wrap64, swp_eA, s_slices_partialInsertionSortCmpFunc_api_Edge__3]
          rw [show 5 - (s + 1) + 1 = 5 - s by omega]
          unfold fixDown at e4 ⊢
          unfold fixUp
          have c1 : (((k - a : Nat) : Int) ≥ 2) = (k - a ≥ 2) := propext (by omega)
          have c2 : (((b - k : Nat) : Int) ≥ 2) = (b - k ≥ 2) := propext (by omega)
          simp only [c1, c2]
          by_cases g1 : k - a ≥ 2
          · by_cases g2 : b - k ≥ 2
            · simp only [g1, g2, if_true, e2, Option.bind_some, un] at e4 ⊢
              rw [e4]
              rfl
            · simp only [g1, g2, if_true, if_false, e2, Option.bind_some, un]
          · by_cases g2 : b - k ≥ 2
            · simp only [g1, g2, if_true, if_false] at e4 ⊢
              rw [e4]
              rfl
            · exact absurd (show b - k ≥ 2 by omega) g2
        rw [Loop_norm e5]
        exact ih k _ (by omega) (by omega) (by omega) (by omega) (by omega)
theorem pins_spec {a b : Nat} {d : Array Ed} (hab : a < b) (hb : b ≤ d.size) (hs : d.size < 1152921504606846976) :
    CC F_slices_partialInsertionSortCmpFunc_api_Edge_ [.int .i64 (a : Int), .int .i64 (b : Int), .list T_api_Edge (eA d)] =
      some [.bool (partialInsertionSort ltE d a b).2, .list T_api_Edge (eA (partialInsertionSort ltE d a b).1)] := by
  refine f_slices_partialInsertionSortCmpFunc_api_Edge__of ?_
  unfold f_slices_partialInsertionSortCmpFunc_api_Edge_
  simp (disch := omega) only [succC, wrap64]
  rcases pins_loop (a := a) (b := b) 5 (a + 1) d (Nat.le_refl _) (by omega) (by omega) hb hs with h | ⟨x, y, z, h0, h⟩
  · rw [show ((5 - 5 : Nat) : Int) = 0 from rfl] at h
    rw [h]
    rfl
  · rw [show ((5 - 5 : Nat) : Int) = 0 from rfl] at h
    rw [h]
    unfold partialInsertionSort
    rw [h0]
    rfl
end Go.AM
set_option maxRecDepth 100000
namespace Go.AM
open Go.Proofs
noncomputable abbrev B_slices_choosePivotCmpFunc_api_Edge_ : Code := bodyOf Tryd.prog (ann.fid 77)
noncomputable def s_slices_choosePivotCmpFunc_api_Edge__1 (C : CallF) (data : List V) (i j k' : Int) (t36 : Bool) (swapss : Int) {β : Type} (kr : (Int × Int × Int × Int) → Option β) : Option β :=
  bif t36 then
   (C F_slices_medianAdjacentCmpFunc_api_Edge_ [.list T_api_Edge data, .int .i64 i, .int .i64 swapss]).bind fun r1 =>
   (C F_slices_medianAdjacentCmpFunc_api_Edge_ [.list T_api_Edge data, .int .i64 j, .int .i64 ((V.nth (r1.drop 1) 0).toInt)]).bind fun r2 =>
   (C F_slices_medianAdjacentCmpFunc_api_Edge_ [.list T_api_Edge data, .int .i64 k', .int .i64 ((V.nth (r2.drop 1) 0).toInt)]).bind fun r3 =>
   kr ((V.nth r1 0).toInt, (V.nth r2 0).toInt, (V.nth r3 0).toInt, (V.nth (r3.drop 1) 0).toInt)
  else
   kr (i, j, k', swapss)
noncomputable def s_slices_choosePivotCmpFunc_api_Edge__2 (C : CallF) (data : List V) (l i j k' : Int) (t34 : Bool) (swapss : Int) {β : Type} (kr : (Int × Int) → Option β) : Option β :=
  bif t34 then
   s_slices_choosePivotCmpFunc_api_Edge__1 C data i j k' (decide ((l : Int) ≥ 50)) swapss (un fun (i_4 : Int) => un fun (j_5 : Int) => un fun (k_6 : Int) (swapss_7 : Int) =>
     (C F_slices_medianCmpFunc_api_Edge_ [.list T_api_Edge data, .int .i64 i_4, .int .i64 j_5, .int .i64 k_6, .int .i64 swapss_7]).bind fun r8 =>
     kr ((V.nth r8 0).toInt, (V.nth (r8.drop 1) 0).toInt))
  else
   kr (j, swapss)
noncomputable def LT_slices_choosePivotCmpFunc_api_Edge_ (C : CallF) : LTab := fun β n ds k =>
  bif Nat.beq n 591 then condS S77_591 [[1, 0, 0, 0, 0]] (@s_slices_choosePivotCmpFunc_api_Edge__1 C) ds k else
  bif Nat.beq n 559 then condS S77_559 [[0, 0]] (@s_slices_choosePivotCmpFunc_api_Edge__2 C) ds k else
  none
abbrev TS_slices_choosePivotCmpFunc_api_Edge_ (C : CallF) (b : Bar) : Prop := Tells Tryd.prog ann C (LT_slices_choosePivotCmpFunc_api_Edge_ C) 77 (ntmpsOf Tryd.prog (ann.fid 77)) (ann.sin 77).blks.length b
theorem t_slices_choosePivotCmpFunc_api_Edge__1 (C : CallF) : TS_slices_choosePivotCmpFunc_api_Edge_ C (.cond 36 (codeAt [1, 1, 1, 1, 1, 1, 0, 1, 0, 0, 1, 0] B_slices_choosePivotCmpFunc_api_Edge_) (codeAt [1, 1, 1, 1, 1, 1, 0, 1, 0, 0, 1, 1] B_slices_choosePivotCmpFunc_api_Edge_)) :=
  tc3 S77_591 [[1, 0, 0, 0, 0]] (@s_slices_choosePivotCmpFunc_api_Edge__1 C) (by kernel_rfl) (ltok_of (bs := []) (by kernel_rfl) tells_nil) (ltok_of (bs := []) (by kernel_rfl) tells_nil) (fun ds => by kernel_rfl) (fun i β k => by kernel_rfl) (fun β ds k => by kernel_rfl)
theorem t_slices_choosePivotCmpFunc_api_Edge__2 (C : CallF) : TS_slices_choosePivotCmpFunc_api_Edge_ C (.cond 34 (codeAt [1, 1, 1, 1, 1, 1, 0, 1, 0] B_slices_choosePivotCmpFunc_api_Edge_) (codeAt [1, 1, 1, 1, 1, 1, 0, 1, 1] B_slices_choosePivotCmpFunc_api_Edge_)) :=
  tc3 S77_559 [[0, 0]] (@s_slices_choosePivotCmpFunc_api_Edge__2 C) (by kernel_rfl) (ltok_of (bs := [.cond 36 (codeAt [1, 1, 1, 1, 1, 1, 0, 1, 0, 0, 1, 0] B_slices_choosePivotCmpFunc_api_Edge_) (codeAt [1, 1, 1, 1, 1, 1, 0, 1, 0, 0, 1, 1] B_slices_choosePivotCmpFunc_api_Edge_)]) (by kernel_rfl) (tells_cons (t_slices_choosePivotCmpFunc_api_Edge__1 C) tells_nil)) (ltok_of (bs := []) (by kernel_rfl) tells_nil) (fun ds => by kernel_rfl) (fun i β k => by kernel_rfl) (fun β ds k => by kernel_rfl)
noncomputable def f_slices_choosePivotCmpFunc_api_Edge_ (C : CallF) (data : List V) (a b' : Int) : Option (List V) :=
  s_slices_choosePivotCmpFunc_api_Edge__2 C data (IntKind.wrap .i64 (b' - a)) (IntKind.wrap .i64 (a + (IntKind.wrap .i64 (1 * (IntKind.wrap .i64 (Int.tdiv (IntKind.wrap .i64 (b' - a)) 4)))))) (IntKind.wrap .i64 (a + (IntKind.wrap .i64 (2 * (IntKind.wrap .i64 (Int.tdiv (IntKind.wrap .i64 (b' - a)) 4)))))) (IntKind.wrap .i64 (a + (IntKind.wrap .i64 (3 * (IntKind.wrap .i64 (Int.tdiv (IntKind.wrap .i64 (b' - a)) 4)))))) (decide (((IntKind.wrap .i64 (b' - a)) : Int) ≥ 8)) 0 (un fun (j_9 : Int) (swapss_10 : Int) =>
    bif (swapss_10 : Int) == 0 then
     some [.int .i64 j_9, .int .i64 1]
    else
     bif (swapss_10 : Int) == 12 then
      some [.int .i64 j_9, .int .i64 2]
     else
      some [.int .i64 j_9, .int .i64 0])
theorem f_slices_choosePivotCmpFunc_api_Edge__of {data : List V} {a b' : Int} {r : Option (List V)} (h : f_slices_choosePivotCmpFunc_api_Edge_ CC data a b' = r) : CC F_slices_choosePivotCmpFunc_api_Edge_ [.list T_api_Edge data, .int .i64 a, .int .i64 b'] = r :=
  func_of (key := 77) (L := LT_slices_choosePivotCmpFunc_api_Edge_ CC) (bs := [.cond 34 (codeAt [1, 1, 1, 1, 1, 1, 0, 1, 0] B_slices_choosePivotCmpFunc_api_Edge_) (codeAt [1, 1, 1, 1, 1, 1, 0, 1, 1] B_slices_choosePivotCmpFunc_api_Edge_)]) (by kernel_rfl) (tells_cons (t_slices_choosePivotCmpFunc_api_Edge__2 CC) tells_nil) (Eq.trans (by kernel_rfl) h)
end Go.AM
set_option maxRecDepth 100000
namespace Go.AM
open Go.Proofs
noncomputable def f_slices_medianCmpFunc_api_Edge_ (C : CallF) (data : List V) (a b' c swapss : Int) : Option (List V) :=
  (C F_slices_order2CmpFunc_api_Edge_ [.list T_api_Edge data, .int .i64 a, .int .i64 b', .int .i64 swapss]).bind fun r1 =>
  (C F_slices_order2CmpFunc_api_Edge_ [.list T_api_Edge data, .int .i64 ((V.nth (r1.drop 1) 0).toInt), .int .i64 c, .int .i64 ((V.nth (r1.drop 2) 0).toInt)]).bind fun r2 =>
  (C F_slices_order2CmpFunc_api_Edge_ [.list T_api_Edge data, .int .i64 ((V.nth r1 0).toInt), .int .i64 ((V.nth r2 0).toInt), .int .i64 ((V.nth (r2.drop 2) 0).toInt)]).bind fun r3 =>
  some [.int .i64 ((V.nth (r3.drop 1) 0).toInt), .int .i64 ((V.nth (r3.drop 2) 0).toInt)]
theorem f_slices_medianCmpFunc_api_Edge__of {data : List V} {a b' c swapss : Int} {r : Option (List V)} (h : f_slices_medianCmpFunc_api_Edge_ CC data a b' c swapss = r) : CC F_slices_medianCmpFunc_api_Edge_ [.list T_api_Edge data, .int .i64 a, .int .i64 b', .int .i64 c, .int .i64 swapss] = r :=
  func_of (key := 92) (L := LT0) (bs := []) (by kernel_rfl) tells_nil (Eq.trans (by kernel_rfl) h)
end Go.AM
set_option maxRecDepth 100000
namespace Go.AM
open Go.Proofs
noncomputable def f_slices_order2CmpFunc_api_Edge_ (C : CallF) (data : List V) (a b' swapss : Int) : Option (List V) :=
  (idx data b').bind fun x1 =>
  (idx data a).bind fun x2 =>
  (C F_nfa_compareEdges [.int .i64 ((x1.cell 0).toInt), .int .i64 ((x1.cell 1).toInt), .int .i64 ((x1.cell 2).toInt), .int .i64 ((x2.cell 0).toInt), .int .i64 ((x2.cell 1).toInt), .int .i64 ((x2.cell 2).toInt)]).bind fun r3 =>
  bif decide ((((V.nth r3 0).toInt) : Int) < 0) then
   some [.int .i64 b', .int .i64 a, .int .i64 (IntKind.wrap .i64 (swapss + 1))]
  else
   some [.int .i64 a, .int .i64 b', .int .i64 swapss]
theorem f_slices_order2CmpFunc_api_Edge__of {data : List V} {a b' swapss : Int} {r : Option (List V)} (h : f_slices_order2CmpFunc_api_Edge_ CC data a b' swapss = r) : CC F_slices_order2CmpFunc_api_Edge_ [.list T_api_Edge data, .int .i64 a, .int .i64 b', .int .i64 swapss] = r :=
  func_of (key := 94) (L := LT0) (bs := []) (by kernel_rfl) tells_nil (Eq.trans (by kernel_rfl) h)
end Go.AM
set_option maxRecDepth 100000
namespace Go.AM
open Go.Proofs
noncomputable def f_slices_medianAdjacentCmpFunc_api_Edge_ (C : CallF) (data : List V) (a swapss : Int) : Option (List V) :=
  (C F_slices_medianCmpFunc_api_Edge_ [.list T_api_Edge data, .int .i64 (IntKind.wrap .i64 (a - 1)), .int .i64 a, .int .i64 (IntKind.wrap .i64 (a + 1)), .int .i64 swapss]).bind fun r1 =>
  some [.int .i64 ((V.nth r1 0).toInt), .int .i64 ((V.nth (r1.drop 1) 0).toInt)]
theorem f_slices_medianAdjacentCmpFunc_api_Edge__of {data : List V} {a swapss : Int} {r : Option (List V)} (h : f_slices_medianAdjacentCmpFunc_api_Edge_ CC data a swapss = r) : CC F_slices_medianAdjacentCmpFunc_api_Edge_ [.list T_api_Edge data, .int .i64 a, .int .i64 swapss] = r :=
  func_of (key := 91) (L := LT0) (bs := []) (by kernel_rfl) tells_nil (Eq.trans (by kernel_rfl) h)
end Go.AM
set_option maxRecDepth 100000
namespace Go.AM
open Go.Proofs
noncomputable abbrev B_slices_breakPatternsCmpFunc_api_Edge_ : Code := bodyOf Tryd.prog (ann.fid 76)
noncomputable def s_slices_breakPatternsCmpFunc_api_Edge__1 (C : CallF) (a length modulus idx' other : Int) (t45 : Bool) (datas : List V) (randoms : Int) {β : Type} (kr : (Int) → Option β) : Option β :=
  bif t45 then
   kr (IntKind.wrap .i64 (other - length))
  else
   kr other
noncomputable def s_slices_breakPatternsCmpFunc_api_Edge__2 (C : CallF) (a length modulus idx' : Int) (datas : List V) (randoms : Int) {β : Type} (kn : (Int × (List V) × Int) → Option β) (kr : (Int × Bool × (List V) × Int) → Option β) : Option β :=
  bif decide ((idx' : Int) ≤ (IntKind.wrap .i64 ((IntKind.wrap .i64 (a + (IntKind.wrap .i64 (2 * (IntKind.wrap .i64 (Int.tdiv length 4)))))) + 1))) then
   (C F_slices_xorshift_Next [.int .u64 randoms]).bind fun r2 =>
   s_slices_breakPatternsCmpFunc_api_Edge__1 C a length modulus idx' (IntKind.wrap .i64 (IntKind.wrap .u64 ((BitVec.ofInt (IntKind.bits .u64) ((V.nth r2 0).toInt) &&& BitVec.ofInt (IntKind.bits .u64) (IntKind.wrap .u64 (modulus - 1))).toNat))) (decide (((IntKind.wrap .i64 (IntKind.wrap .u64 ((BitVec.ofInt (IntKind.bits .u64) ((V.nth r2 0).toInt) &&& BitVec.ofInt (IntKind.bits .u64) (IntKind.wrap .u64 (modulus - 1))).toNat))) : Int) ≥ length)) datas ((V.nth (r2.drop 1) 0).toInt) (fun (other_3 : Int) =>
     bif (decide (0 ≤ (IntKind.wrap .i64 (a + other_3)))) && (decide ((IntKind.wrap .i64 (a + other_3)) < (datas.length : Int))) then
      (datas[(IntKind.wrap .i64 (a + other_3) : Int).toNat]?).bind fun x4 =>
      bif (decide (0 ≤ idx')) && (decide (idx' < (datas.length : Int))) then
       (datas[(idx' : Int).toNat]?).bind fun x5 =>
       bif (decide (0 ≤ idx')) && (decide (idx' < (datas.length : Int))) then
        (datas[(idx' : Int).toNat]?).bind fun x6 =>
        bif (decide (0 ≤ (IntKind.wrap .i64 (a + other_3)))) && (decide ((IntKind.wrap .i64 (a + other_3)) < ((datas.set ((idx' : Int).toNat) (.agg [.int .i64 ((x4.cell 0).toInt), .int .i64 ((x4.cell 1).toInt), .int .i64 ((x4.cell 2).toInt)])).length : Int))) then
         ((datas.set ((idx' : Int).toNat) (.agg [.int .i64 ((x4.cell 0).toInt), .int .i64 ((x4.cell 1).toInt), .int .i64 ((x4.cell 2).toInt)]))[(IntKind.wrap .i64 (a + other_3) : Int).toNat]?).bind fun x7 =>
         kn (IntKind.wrap .i64 (idx' + 1), (datas.set ((idx' : Int).toNat) (.agg [.int .i64 ((x4.cell 0).toInt), .int .i64 ((x4.cell 1).toInt), .int .i64 ((x4.cell 2).toInt)])).set ((IntKind.wrap .i64 (a + other_3) : Int).toNat) (.agg [.int .i64 ((x5.cell 0).toInt), .int .i64 ((x5.cell 1).toInt), .int .i64 ((x5.cell 2).toInt)]), (V.nth (r2.drop 1) 0).toInt)
        else none
       else none
      else none
     else none)
  else
   kr (idx', decide ((idx' : Int) ≤ (IntKind.wrap .i64 ((IntKind.wrap .i64 (a + (IntKind.wrap .i64 (2 * (IntKind.wrap .i64 (Int.tdiv length 4)))))) + 1))), datas, randoms)
noncomputable def s_slices_breakPatternsCmpFunc_api_Edge__2L (C : CallF) (a length modulus : Int) : (Int × (List V) × Int) → Option ((Int × (List V) × Int) ⊕ (Int × Bool × (List V) × Int)) := un fun idx' => un fun datas randoms => s_slices_breakPatternsCmpFunc_api_Edge__2 C a length modulus idx' datas randoms (fun y => some (.inl y)) (fun r => some (.inr r))
noncomputable def LT_slices_breakPatternsCmpFunc_api_Edge_ (C : CallF) : LTab := fun β n ds k =>
  bif Nat.beq n 735 then condS S76_735 [[1, 2, 3, 4, 0, 7, 8]] (@s_slices_breakPatternsCmpFunc_api_Edge__1 C) ds k else
  bif Nat.beq n 81 then loopS S76_81 [false, false, false, true, true, true] [[1, 2, 3, 0, 0, 0, 0]] (@s_slices_breakPatternsCmpFunc_api_Edge__2 C) ds k else
  none
abbrev TS_slices_breakPatternsCmpFunc_api_Edge_ (C : CallF) (b : Bar) : Prop := Tells Tryd.prog ann C (LT_slices_breakPatternsCmpFunc_api_Edge_ C) 76 (ntmpsOf Tryd.prog (ann.fid 76)) (ann.sin 76).blks.length b
theorem t_slices_breakPatternsCmpFunc_api_Edge__1 (C : CallF) : TS_slices_breakPatternsCmpFunc_api_Edge_ C (.cond 45 (codeAt [1, 1, 0, 1, 1, 1, 0, 0, 1, 0, 0, 1, 0, 1, 0] B_slices_breakPatternsCmpFunc_api_Edge_) (codeAt [1, 1, 0, 1, 1, 1, 0, 0, 1, 0, 0, 1, 0, 1, 1] B_slices_breakPatternsCmpFunc_api_Edge_)) :=
  tc3 S76_735 [[1, 2, 3, 4, 0, 7, 8]] (@s_slices_breakPatternsCmpFunc_api_Edge__1 C) (by kernel_rfl) (ltok_of (bs := []) (by kernel_rfl) tells_nil) (ltok_of (bs := []) (by kernel_rfl) tells_nil) (fun ds => by kernel_rfl) (fun i β k => by kernel_rfl) (fun β ds k => by kernel_rfl)
theorem t_slices_breakPatternsCmpFunc_api_Edge__2 (C : CallF) : TS_slices_breakPatternsCmpFunc_api_Edge_ C (.loop (codeAt [1, 1, 0, 1, 1, 1, 0, 0] B_slices_breakPatternsCmpFunc_api_Edge_)) :=
  tl3 S76_81 [false, false, false, true, true, true] [[1, 2, 3, 0, 0, 0, 0]] (@s_slices_breakPatternsCmpFunc_api_Edge__2 C) (by kernel_rfl) (ltok_of (bs := [.cond 45 (codeAt [1, 1, 0, 1, 1, 1, 0, 0, 1, 0, 0, 1, 0, 1, 0] B_slices_breakPatternsCmpFunc_api_Edge_) (codeAt [1, 1, 0, 1, 1, 1, 0, 0, 1, 0, 0, 1, 0, 1, 1] B_slices_breakPatternsCmpFunc_api_Edge_)]) (by kernel_rfl) (tells_cons (t_slices_breakPatternsCmpFunc_api_Edge__1 C) tells_nil)) (fun ds => by kernel_rfl) (fun i x => by kernel_rfl) (fun i x β k => by kernel_rfl) (fun β ds k => by kernel_rfl)
noncomputable def f_slices_breakPatternsCmpFunc_api_Edge_ (C : CallF) (a b' : Int) (datas : List V) : Option (List V) :=
  bif decide (((IntKind.wrap .i64 (b' - a)) : Int) ≥ 8) then
   (C F_slices_nextPowerOfTwo [.int .i64 (IntKind.wrap .i64 (b' - a))]).bind fun r1 =>
   (Loop (s_slices_breakPatternsCmpFunc_api_Edge__2L C a (IntKind.wrap .i64 (b' - a)) ((V.nth r1 0).toInt)) (IntKind.wrap .i64 ((IntKind.wrap .i64 (a + (IntKind.wrap .i64 (2 * (IntKind.wrap .i64 (Int.tdiv (IntKind.wrap .i64 (b' - a)) 4)))))) - 1), datas, IntKind.wrap .u64 (IntKind.wrap .i64 (b' - a)))).bind (un fun (idx_8 : Int) => un fun (t_9 : Bool) => un fun (datas_10 : List V) (randoms_11 : Int) =>
     some [.list T_api_Edge datas_10])
  else
   some [.list T_api_Edge datas]
theorem f_slices_breakPatternsCmpFunc_api_Edge__of {a b' : Int} {datas : List V} {r : Option (List V)} (h : f_slices_breakPatternsCmpFunc_api_Edge_ CC a b' datas = r) : CC F_slices_breakPatternsCmpFunc_api_Edge_ [.int .i64 a, .int .i64 b', .list T_api_Edge datas] = r :=
  func_of (key := 76) (L := LT_slices_breakPatternsCmpFunc_api_Edge_ CC) (bs := [.loop (codeAt [1, 1, 0, 1, 1, 1, 0, 0] B_slices_breakPatternsCmpFunc_api_Edge_)]) (by kernel_rfl) (tells_cons (t_slices_breakPatternsCmpFunc_api_Edge__2 CC) tells_nil) (Eq.trans (by kernel_rfl) h)
end Go.AM
set_option maxRecDepth 100000
namespace Go.AM
open Go.Proofs
noncomputable def f_slices_xorshift_Next (C : CallF) (r's : Int) : Option (List V) :=
  some [.int .u64 (IntKind.wrap .u64 ((BitVec.ofInt (IntKind.bits .u64) (IntKind.wrap .u64 ((BitVec.ofInt (IntKind.bits .u64) (IntKind.wrap .u64 ((BitVec.ofInt (IntKind.bits .u64) r's ^^^ BitVec.ofInt (IntKind.bits .u64) (IntKind.wrap .u64 (r's * 2 ^ (min (13 : Int).toNat (IntKind.bits .u64))))).toNat)) ^^^ BitVec.ofInt (IntKind.bits .u64) (Int.fdiv (IntKind.wrap .u64 ((BitVec.ofInt (IntKind.bits .u64) r's ^^^ BitVec.ofInt (IntKind.bits .u64) (IntKind.wrap .u64 (r's * 2 ^ (min (13 : Int).toNat (IntKind.bits .u64))))).toNat)) (2 ^ (min (7 : Int).toNat (IntKind.bits .u64))))).toNat)) ^^^ BitVec.ofInt (IntKind.bits .u64) (IntKind.wrap .u64 ((IntKind.wrap .u64 ((BitVec.ofInt (IntKind.bits .u64) (IntKind.wrap .u64 ((BitVec.ofInt (IntKind.bits .u64) r's ^^^ BitVec.ofInt (IntKind.bits .u64) (IntKind.wrap .u64 (r's * 2 ^ (min (13 : Int).toNat (IntKind.bits .u64))))).toNat)) ^^^ BitVec.ofInt (IntKind.bits .u64) (Int.fdiv (IntKind.wrap .u64 ((BitVec.ofInt (IntKind.bits .u64) r's ^^^ BitVec.ofInt (IntKind.bits .u64) (IntKind.wrap .u64 (r's * 2 ^ (min (13 : Int).toNat (IntKind.bits .u64))))).toNat)) (2 ^ (min (7 : Int).toNat (IntKind.bits .u64))))).toNat)) * 2 ^ (min (17 : Int).toNat (IntKind.bits .u64))))).toNat)), .int .u64 (IntKind.wrap .u64 ((BitVec.ofInt (IntKind.bits .u64) (IntKind.wrap .u64 ((BitVec.ofInt (IntKind.bits .u64) (IntKind.wrap .u64 ((BitVec.ofInt (IntKind.bits .u64) r's ^^^ BitVec.ofInt (IntKind.bits .u64) (IntKind.wrap .u64 (r's * 2 ^ (min (13 : Int).toNat (IntKind.bits .u64))))).toNat)) ^^^ BitVec.ofInt (IntKind.bits .u64) (Int.fdiv (IntKind.wrap .u64 ((BitVec.ofInt (IntKind.bits .u64) r's ^^^ BitVec.ofInt (IntKind.bits .u64) (IntKind.wrap .u64 (r's * 2 ^ (min (13 : Int).toNat (IntKind.bits .u64))))).toNat)) (2 ^ (min (7 : Int).toNat (IntKind.bits .u64))))).toNat)) ^^^ BitVec.ofInt (IntKind.bits .u64) (IntKind.wrap .u64 ((IntKind.wrap .u64 ((BitVec.ofInt (IntKind.bits .u64) (IntKind.wrap .u64 ((BitVec.ofInt (IntKind.bits .u64) r's ^^^ BitVec.ofInt (IntKind.bits .u64) (IntKind.wrap .u64 (r's * 2 ^ (min (13 : Int).toNat (IntKind.bits .u64))))).toNat)) ^^^ BitVec.ofInt (IntKind.bits .u64) (Int.fdiv (IntKind.wrap .u64 ((BitVec.ofInt (IntKind.bits .u64) r's ^^^ BitVec.ofInt (IntKind.bits .u64) (IntKind.wrap .u64 (r's * 2 ^ (min (13 : Int).toNat (IntKind.bits .u64))))).toNat)) (2 ^ (min (7 : Int).toNat (IntKind.bits .u64))))).toNat)) * 2 ^ (min (17 : Int).toNat (IntKind.bits .u64))))).toNat))]
theorem f_slices_xorshift_Next_of {r's : Int} {r : Option (List V)} (h : f_slices_xorshift_Next CC r's = r) : CC F_slices_xorshift_Next [.int .u64 r's] = r :=
  func_of (key := 90) (L := LT0) (bs := []) (by kernel_rfl) tells_nil (Eq.trans (by kernel_rfl) h)
end Go.AM
set_option maxRecDepth 100000
namespace Go.AM
open Go.Proofs
noncomputable def f_slices_nextPowerOfTwo (C : CallF) (length : Int) : Option (List V) :=
  (C F_bits_Len [.int .u64 (IntKind.wrap .u64 length)]).bind fun r1 =>
  bif decide (0 ≤ ((V.nth r1 0).toInt)) then
   some [.int .u64 (IntKind.wrap .u64 (1 * 2 ^ (min ((V.nth r1 0).toInt).toNat (IntKind.bits .u64))))]
  else none
theorem f_slices_nextPowerOfTwo_of {length : Int} {r : Option (List V)} (h : f_slices_nextPowerOfTwo CC length = r) : CC F_slices_nextPowerOfTwo [.int .i64 length] = r :=
  func_of (key := 89) (L := LT0) (bs := []) (by kernel_rfl) tells_nil (Eq.trans (by kernel_rfl) h)
end Go.AM
set_option maxRecDepth 100000
namespace Go.AM
open Go.Proofs
noncomputable def f_bits_Len (C : CallF) (x : Int) : Option (List V) :=
  (C F_bits_Len64 [.int .u64 x]).bind fun r1 =>
  some [.int .i64 ((V.nth r1 0).toInt)]
theorem f_bits_Len_of {x : Int} {r : Option (List V)} (h : f_bits_Len CC x = r) : CC F_bits_Len [.int .u64 x] = r :=
  func_of (key := 64) (L := LT0) (bs := []) (by kernel_rfl) tells_nil (Eq.trans (by kernel_rfl) h)
end Go.AM
set_option maxRecDepth 100000
namespace Go.AM
open Go.Proofs
noncomputable abbrev B_bits_Len64 : Code := bodyOf Tryd.prog (ann.fid 83)
noncomputable def s_bits_Len64_1 (C : CallF) (x n : Int) (t4 : Bool) {β : Type} (kr : (Int × Int) → Option β) : Option β :=
  bif t4 then
   kr (Int.fdiv x (2 ^ (min (32 : Int).toNat (IntKind.bits .u64))), 32)
  else
   kr (x, n)
noncomputable def s_bits_Len64_2 (C : CallF) (x n : Int) (t8 : Bool) {β : Type} (kr : (Int × Int) → Option β) : Option β :=
  bif t8 then
   kr (Int.fdiv x (2 ^ (min (16 : Int).toNat (IntKind.bits .u64))), IntKind.wrap .i64 (n + 16))
  else
   kr (x, n)
noncomputable def LT_bits_Len64 (C : CallF) : LTab := fun β n ds k =>
  bif Nat.beq n 79 then condS S83_79 [[0, 0]] (@s_bits_Len64_1 C) ds k else
  bif Nat.beq n 143 then condS S83_143 [[0, 0]] (@s_bits_Len64_2 C) ds k else
  none
abbrev TS_bits_Len64 (C : CallF) (b : Bar) : Prop := Tells Tryd.prog ann C (LT_bits_Len64 C) 83 (ntmpsOf Tryd.prog (ann.fid 83)) (ann.sin 83).blks.length b
theorem t_bits_Len64_1 (C : CallF) : TS_bits_Len64 C (.cond 4 (codeAt [1, 0, 1, 0] B_bits_Len64) (codeAt [1, 0, 1, 1] B_bits_Len64)) :=
  tc3 S83_79 [[0, 0]] (@s_bits_Len64_1 C) (by kernel_rfl) (ltok_of (bs := []) (by kernel_rfl) tells_nil) (ltok_of (bs := []) (by kernel_rfl) tells_nil) (fun ds => by kernel_rfl) (fun i β k => by kernel_rfl) (fun β ds k => by kernel_rfl)
theorem t_bits_Len64_2 (C : CallF) : TS_bits_Len64 C (.cond 8 (codeAt [1, 1, 0, 1, 0] B_bits_Len64) (codeAt [1, 1, 0, 1, 1] B_bits_Len64)) :=
  tc3 S83_143 [[0, 0]] (@s_bits_Len64_2 C) (by kernel_rfl) (ltok_of (bs := []) (by kernel_rfl) tells_nil) (ltok_of (bs := []) (by kernel_rfl) tells_nil) (fun ds => by kernel_rfl) (fun i β k => by kernel_rfl) (fun β ds k => by kernel_rfl)
noncomputable def f_bits_Len64 (C : CallF) (x : Int) : Option (List V) :=
  s_bits_Len64_1 C x 0 (decide ((x : Int) ≥ 4294967296)) (un fun (x_1 : Int) (n_2 : Int) =>
    s_bits_Len64_2 C x_1 n_2 (decide ((x_1 : Int) ≥ 65536)) (un fun (x_3 : Int) (n_4 : Int) =>
      bif decide ((x_3 : Int) ≥ 256) then
       (bif decide (0 ≤ (IntKind.wrap .u8 (Int.fdiv x_3 (2 ^ (min (8 : Int).toNat (IntKind.bits .u64)))))) then (([0, 1, 2, 2, 3, 3, 3, 3, 4, 4, 4, 4, 4, 4, 4, 4, 5, 5, 5, 5, 5, 5, 5, 5, 5, 5, 5, 5, 5, 5, 5, 5, 6, 6, 6, 6, 6, 6, 6, 6, 6, 6, 6, 6, 6, 6, 6, 6, 6, 6, 6, 6, 6, 6, 6, 6, 6, 6, 6, 6, 6, 6, 6, 6, 7, 7, 7, 7, 7, 7, 7, 7, 7, 7, 7, 7, 7, 7, 7, 7, 7, 7, 7, 7, 7, 7, 7, 7, 7, 7, 7, 7, 7, 7, 7, 7, 7, 7, 7, 7, 7, 7, 7, 7, 7, 7, 7, 7, 7, 7, 7, 7, 7, 7, 7, 7, 7, 7, 7, 7, 7, 7, 7, 7, 7, 7, 7, 7, 8, 8, 8, 8, 8, 8, 8, 8, 8, 8, 8, 8, 8, 8, 8, 8, 8, 8, 8, 8, 8, 8, 8, 8, 8, 8, 8, 8, 8, 8, 8, 8, 8, 8, 8, 8, 8, 8, 8, 8, 8, 8, 8, 8, 8, 8, 8, 8, 8, 8, 8, 8, 8, 8, 8, 8, 8, 8, 8, 8, 8, 8, 8, 8, 8, 8, 8, 8, 8, 8, 8, 8, 8, 8, 8, 8, 8, 8, 8, 8, 8, 8, 8, 8, 8, 8, 8, 8, 8, 8, 8, 8, 8, 8, 8, 8, 8, 8, 8, 8, 8, 8, 8, 8, 8, 8, 8, 8, 8, 8, 8, 8, 8, 8, 8, 8, 8, 8, 8, 8, 8, 8, 8, 8, 8, 8, 8, 8] : List UInt8)[(IntKind.wrap .u8 (Int.fdiv x_3 (2 ^ (min (8 : Int).toNat (IntKind.bits .u64)))) : Int).toNat]?).map fun b => V.int .u8 b.toNat else none).bind fun x5 =>
       some [.int .i64 (IntKind.wrap .i64 ((IntKind.wrap .i64 (n_4 + 8)) + (IntKind.wrap .i64 x5.toInt)))]
      else
       (bif decide (0 ≤ (IntKind.wrap .u8 x_3)) then (([0, 1, 2, 2, 3, 3, 3, 3, 4, 4, 4, 4, 4, 4, 4, 4, 5, 5, 5, 5, 5, 5, 5, 5, 5, 5, 5, 5, 5, 5, 5, 5, 6, 6, 6, 6, 6, 6, 6, 6, 6, 6, 6, 6, 6, 6, 6, 6, 6, 6, 6, 6, 6, 6, 6, 6, 6, 6, 6, 6, 6, 6, 6, 6, 7, 7, 7, 7, 7, 7, 7, 7, 7, 7, 7, 7, 7, 7, 7, 7, 7, 7, 7, 7, 7, 7, 7, 7, 7, 7, 7, 7, 7, 7, 7, 7, 7, 7, 7, 7, 7, 7, 7, 7, 7, 7, 7, 7, 7, 7, 7, 7, 7, 7, 7, 7, 7, 7, 7, 7, 7, 7, 7, 7, 7, 7, 7, 7, 8, 8, 8, 8, 8, 8, 8, 8, 8, 8, 8, 8, 8, 8, 8, 8, 8, 8, 8, 8, 8, 8, 8, 8, 8, 8, 8, 8, 8, 8, 8, 8, 8, 8, 8, 8, 8, 8, 8, 8, 8, 8, 8, 8, 8, 8, 8, 8, 8, 8, 8, 8, 8, 8, 8, 8, 8, 8, 8, 8, 8, 8, 8, 8, 8, 8, 8, 8, 8, 8, 8, 8, 8, 8, 8, 8, 8, 8, 8, 8, 8, 8, 8, 8, 8, 8, 8, 8, 8, 8, 8, 8, 8, 8, 8, 8, 8, 8, 8, 8, 8, 8, 8, 8, 8, 8, 8, 8, 8, 8, 8, 8, 8, 8, 8, 8, 8, 8, 8, 8, 8, 8, 8, 8, 8, 8, 8, 8] : List UInt8)[(IntKind.wrap .u8 x_3 : Int).toNat]?).map fun b => V.int .u8 b.toNat else none).bind fun x6 =>
       some [.int .i64 (IntKind.wrap .i64 (n_4 + (IntKind.wrap .i64 x6.toInt)))]))
theorem f_bits_Len64_of {x : Int} {r : Option (List V)} (h : f_bits_Len64 CC x = r) : CC F_bits_Len64 [.int .u64 x] = r :=
  func_of (key := 83) (L := LT_bits_Len64 CC) (bs := [.cond 4 (codeAt [1, 0, 1, 0] B_bits_Len64) (codeAt [1, 0, 1, 1] B_bits_Len64), .cond 8 (codeAt [1, 1, 0, 1, 0] B_bits_Len64) (codeAt [1, 1, 0, 1, 1] B_bits_Len64)]) (by kernel_rfl) (tells_cons (t_bits_Len64_1 CC) (tells_cons (t_bits_Len64_2 CC) tells_nil)) (Eq.trans (by kernel_rfl) h)
end Go.AM
set_option maxRecDepth 100000
namespace Go.AM
open Go.Proofs
noncomputable abbrev B_slices_pdqsortCmpFunc_api_Edge_ : Code := bodyOf Tryd.prog (ann.fid 63)
noncomputable def s_slices_pdqsortCmpFunc_api_Edge__1 (C : CallF) (a b' limit : Int) (wasBalanced wasPartitioned : Bool) (length : Int) (t39 : Bool) (datas : List V) {β : Type} (kr : (Int × (List V)) → Option β) : Option β :=
  bif t39 then
   (C F_slices_breakPatternsCmpFunc_api_Edge_ [.int .i64 a, .int .i64 b', .list T_api_Edge datas]).bind fun r3 =>
   kr (IntKind.wrap .i64 (limit - 1), (V.nth r3 0).toList)
  else
   kr (limit, datas)
noncomputable def s_slices_pdqsortCmpFunc_api_Edge__2 (C : CallF) (a b' limit : Int) (wasBalanced wasPartitioned : Bool) (length pivot hint : Int) (t56 : Bool) (datas : List V) {β : Type} (kr : (Int × Int × (List V)) → Option β) : Option β :=
  bif t56 then
   (C F_slices_reverseRangeCmpFunc_api_Edge_ [.int .i64 a, .int .i64 b', .list T_api_Edge datas]).bind fun r7 =>
   kr (IntKind.wrap .i64 ((IntKind.wrap .i64 (b' - 1)) - (IntKind.wrap .i64 (pivot - a))), 1, (V.nth r7 0).toList)
  else
   kr (pivot, hint, datas)
noncomputable def s_slices_pdqsortCmpFunc_api_Edge__3 (C : CallF) (a b' limit : Int) (wasBalanced wasPartitioned : Bool) (length pivot : Int) (t75 : Bool) (datas : List V) {β : Type} (kr : ((List V) ⊕ (Bool × (List V))) → Option β) : Option β :=
  bif t75 then
   (C F_slices_partialInsertionSortCmpFunc_api_Edge_ [.int .i64 a, .int .i64 b', .list T_api_Edge datas]).bind fun r11 =>
   bif (V.nth r11 0).toBool then
    kr (.inr ((V.nth r11 0).toBool, (V.nth (r11.drop 1) 0).toList))
   else
    kr (.inl ((V.nth (r11.drop 1) 0).toList))
  else
   kr (.inl datas)
noncomputable def s_slices_pdqsortCmpFunc_api_Edge__4 (C : CallF) (a b' limit : Int) (wasBalanced wasPartitioned : Bool) (datas : List V) {β : Type} (kn : (Int × Int × Int × Bool × Bool × (List V)) → Option β) (kr : (List V) → Option β) : Option β :=
  bif decide (((IntKind.wrap .i64 (b' - a)) : Int) ≤ 12) then
   (C F_slices_insertionSortCmpFunc_api_Edge_ [.int .i64 a, .int .i64 b', .list T_api_Edge datas]).bind fun r1 =>
   kr ((V.nth r1 0).toList)
  else
   bif (limit : Int) == 0 then
    (C F_slices_heapSortCmpFunc_api_Edge_ [.int .i64 a, .int .i64 b', .list T_api_Edge datas]).bind fun r2 =>
    kr ((V.nth r2 0).toList)
   else
    s_slices_pdqsortCmpFunc_api_Edge__1 C a b' limit wasBalanced wasPartitioned (IntKind.wrap .i64 (b' - a)) (!wasBalanced) datas (un fun (limit_4 : Int) (datas_5 : List V) =>
      (C F_slices_choosePivotCmpFunc_api_Edge_ [.list T_api_Edge datas_5, .int .i64 a, .int .i64 b']).bind fun r6 =>
      s_slices_pdqsortCmpFunc_api_Edge__2 C a b' limit_4 wasBalanced wasPartitioned (IntKind.wrap .i64 (b' - a)) ((V.nth r6 0).toInt) ((V.nth (r6.drop 1) 0).toInt) ((((V.nth (r6.drop 1) 0).toInt) : Int) == 2) datas_5 (un fun (pivot_8 : Int) => un fun (hint_9 : Int) (datas_10 : List V) =>
        bif wasBalanced then
         bif wasPartitioned then
          s_slices_pdqsortCmpFunc_api_Edge__3 C a b' limit_4 wasBalanced wasPartitioned (IntKind.wrap .i64 (b' - a)) pivot_8 ((hint_9 : Int) == 1) datas_10 (way2 (fun (datas_12 : List V) =>
            bif decide ((a : Int) > 0) then
             bif (decide (0 ≤ (IntKind.wrap .i64 (a - 1)))) && (decide ((IntKind.wrap .i64 (a - 1)) < (datas_12.length : Int))) then
              (datas_12[(IntKind.wrap .i64 (a - 1) : Int).toNat]?).bind fun x13 =>
              bif (decide (0 ≤ pivot_8)) && (decide (pivot_8 < (datas_12.length : Int))) then
               (datas_12[(pivot_8 : Int).toNat]?).bind fun x14 =>
               (C F_nfa_compareEdges [.int .i64 ((x13.cell 0).toInt), .int .i64 ((x13.cell 1).toInt), .int .i64 ((x13.cell 2).toInt), .int .i64 ((x14.cell 0).toInt), .int .i64 ((x14.cell 1).toInt), .int .i64 ((x14.cell 2).toInt)]).bind fun r15 =>
               bif !(decide ((((V.nth r15 0).toInt) : Int) < 0)) then
                (C F_slices_partitionEqualCmpFunc_api_Edge_ [.int .i64 a, .int .i64 b', .int .i64 pivot_8, .list T_api_Edge datas_12]).bind fun r16 =>
                kn ((V.nth r16 0).toInt, b', limit_4, wasBalanced, wasPartitioned, (V.nth (r16.drop 1) 0).toList)
               else
                (C F_slices_partitionCmpFunc_api_Edge_ [.int .i64 a, .int .i64 b', .int .i64 pivot_8, .list T_api_Edge datas_12]).bind fun r17 =>
                bif decide (((IntKind.wrap .i64 (((V.nth r17 0).toInt) - a)) : Int) < (IntKind.wrap .i64 (b' - ((V.nth r17 0).toInt)))) then
                 (C F_slices_pdqsortCmpFunc_api_Edge_ [.int .i64 a, .int .i64 ((V.nth r17 0).toInt), .int .i64 limit_4, .list T_api_Edge ((V.nth (r17.drop 2) 0).toList)]).bind fun r18 =>
                 kn (IntKind.wrap .i64 (((V.nth r17 0).toInt) + 1), b', limit_4, decide (((IntKind.wrap .i64 (((V.nth r17 0).toInt) - a)) : Int) ≥ (IntKind.wrap .i64 (Int.tdiv (IntKind.wrap .i64 (b' - a)) 8))), (V.nth (r17.drop 1) 0).toBool, (V.nth r18 0).toList)
                else
                 (C F_slices_pdqsortCmpFunc_api_Edge_ [.int .i64 (IntKind.wrap .i64 (((V.nth r17 0).toInt) + 1)), .int .i64 b', .int .i64 limit_4, .list T_api_Edge ((V.nth (r17.drop 2) 0).toList)]).bind fun r19 =>
                 kn (a, (V.nth r17 0).toInt, limit_4, decide (((IntKind.wrap .i64 (b' - ((V.nth r17 0).toInt))) : Int) ≥ (IntKind.wrap .i64 (Int.tdiv (IntKind.wrap .i64 (b' - a)) 8))), (V.nth (r17.drop 1) 0).toBool, (V.nth r19 0).toList)
              else none
             else none
            else
             (C F_slices_partitionCmpFunc_api_Edge_ [.int .i64 a, .int .i64 b', .int .i64 pivot_8, .list T_api_Edge datas_12]).bind fun r20 =>
             bif decide (((IntKind.wrap .i64 (((V.nth r20 0).toInt) - a)) : Int) < (IntKind.wrap .i64 (b' - ((V.nth r20 0).toInt)))) then
              (C F_slices_pdqsortCmpFunc_api_Edge_ [.int .i64 a, .int .i64 ((V.nth r20 0).toInt), .int .i64 limit_4, .list T_api_Edge ((V.nth (r20.drop 2) 0).toList)]).bind fun r21 =>
              kn (IntKind.wrap .i64 (((V.nth r20 0).toInt) + 1), b', limit_4, decide (((IntKind.wrap .i64 (((V.nth r20 0).toInt) - a)) : Int) ≥ (IntKind.wrap .i64 (Int.tdiv (IntKind.wrap .i64 (b' - a)) 8))), (V.nth (r20.drop 1) 0).toBool, (V.nth r21 0).toList)
             else
              (C F_slices_pdqsortCmpFunc_api_Edge_ [.int .i64 (IntKind.wrap .i64 (((V.nth r20 0).toInt) + 1)), .int .i64 b', .int .i64 limit_4, .list T_api_Edge ((V.nth (r20.drop 2) 0).toList)]).bind fun r22 =>
              kn (a, (V.nth r20 0).toInt, limit_4, decide (((IntKind.wrap .i64 (b' - ((V.nth r20 0).toInt))) : Int) ≥ (IntKind.wrap .i64 (Int.tdiv (IntKind.wrap .i64 (b' - a)) 8))), (V.nth (r20.drop 1) 0).toBool, (V.nth r22 0).toList)) (un fun (t_23 : Bool) (datas_24 : List V) =>
            kr datas_24))
         else
          s_slices_pdqsortCmpFunc_api_Edge__3 C a b' limit_4 wasBalanced wasPartitioned (IntKind.wrap .i64 (b' - a)) pivot_8 false datas_10 (way2 (fun (datas_25 : List V) =>
            bif decide ((a : Int) > 0) then
             bif (decide (0 ≤ (IntKind.wrap .i64 (a - 1)))) && (decide ((IntKind.wrap .i64 (a - 1)) < (datas_25.length : Int))) then
              (datas_25[(IntKind.wrap .i64 (a - 1) : Int).toNat]?).bind fun x26 =>
              bif (decide (0 ≤ pivot_8)) && (decide (pivot_8 < (datas_25.length : Int))) then
               (datas_25[(pivot_8 : Int).toNat]?).bind fun x27 =>
               (C F_nfa_compareEdges [.int .i64 ((x26.cell 0).toInt), .int .i64 ((x26.cell 1).toInt), .int .i64 ((x26.cell 2).toInt), .int .i64 ((x27.cell 0).toInt), .int .i64 ((x27.cell 1).toInt), .int .i64 ((x27.cell 2).toInt)]).bind fun r28 =>
               bif !(decide ((((V.nth r28 0).toInt) : Int) < 0)) then
                (C F_slices_partitionEqualCmpFunc_api_Edge_ [.int .i64 a, .int .i64 b', .int .i64 pivot_8, .list T_api_Edge datas_25]).bind fun r29 =>
                kn ((V.nth r29 0).toInt, b', limit_4, wasBalanced, wasPartitioned, (V.nth (r29.drop 1) 0).toList)
               else
                (C F_slices_partitionCmpFunc_api_Edge_ [.int .i64 a, .int .i64 b', .int .i64 pivot_8, .list T_api_Edge datas_25]).bind fun r30 =>
                bif decide (((IntKind.wrap .i64 (((V.nth r30 0).toInt) - a)) : Int) < (IntKind.wrap .i64 (b' - ((V.nth r30 0).toInt)))) then
                 (C F_slices_pdqsortCmpFunc_api_Edge_ [.int .i64 a, .int .i64 ((V.nth r30 0).toInt), .int .i64 limit_4, .list T_api_Edge ((V.nth (r30.drop 2) 0).toList)]).bind fun r31 =>
                 kn (IntKind.wrap .i64 (((V.nth r30 0).toInt) + 1), b', limit_4, decide (((IntKind.wrap .i64 (((V.nth r30 0).toInt) - a)) : Int) ≥ (IntKind.wrap .i64 (Int.tdiv (IntKind.wrap .i64 (b' - a)) 8))), (V.nth (r30.drop 1) 0).toBool, (V.nth r31 0).toList)
                else
                 (C F_slices_pdqsortCmpFunc_api_Edge_ [.int .i64 (IntKind.wrap .i64 (((V.nth r30 0).toInt) + 1)), .int .i64 b', .int .i64 limit_4, .list T_api_Edge ((V.nth (r30.drop 2) 0).toList)]).bind fun r32 =>
                 kn (a, (V.nth r30 0).toInt, limit_4, decide (((IntKind.wrap .i64 (b' - ((V.nth r30 0).toInt))) : Int) ≥ (IntKind.wrap .i64 (Int.tdiv (IntKind.wrap .i64 (b' - a)) 8))), (V.nth (r30.drop 1) 0).toBool, (V.nth r32 0).toList)
              else none
             else none
            else
             (C F_slices_partitionCmpFunc_api_Edge_ [.int .i64 a, .int .i64 b', .int .i64 pivot_8, .list T_api_Edge datas_25]).bind fun r33 =>
             bif decide (((IntKind.wrap .i64 (((V.nth r33 0).toInt) - a)) : Int) < (IntKind.wrap .i64 (b' - ((V.nth r33 0).toInt)))) then
              (C F_slices_pdqsortCmpFunc_api_Edge_ [.int .i64 a, .int .i64 ((V.nth r33 0).toInt), .int .i64 limit_4, .list T_api_Edge ((V.nth (r33.drop 2) 0).toList)]).bind fun r34 =>
              kn (IntKind.wrap .i64 (((V.nth r33 0).toInt) + 1), b', limit_4, decide (((IntKind.wrap .i64 (((V.nth r33 0).toInt) - a)) : Int) ≥ (IntKind.wrap .i64 (Int.tdiv (IntKind.wrap .i64 (b' - a)) 8))), (V.nth (r33.drop 1) 0).toBool, (V.nth r34 0).toList)
             else
              (C F_slices_pdqsortCmpFunc_api_Edge_ [.int .i64 (IntKind.wrap .i64 (((V.nth r33 0).toInt) + 1)), .int .i64 b', .int .i64 limit_4, .list T_api_Edge ((V.nth (r33.drop 2) 0).toList)]).bind fun r35 =>
              kn (a, (V.nth r33 0).toInt, limit_4, decide (((IntKind.wrap .i64 (b' - ((V.nth r33 0).toInt))) : Int) ≥ (IntKind.wrap .i64 (Int.tdiv (IntKind.wrap .i64 (b' - a)) 8))), (V.nth (r33.drop 1) 0).toBool, (V.nth r35 0).toList)) (un fun (t_36 : Bool) (datas_37 : List V) =>
            kr datas_37))
        else
         s_slices_pdqsortCmpFunc_api_Edge__3 C a b' limit_4 wasBalanced wasPartitioned (IntKind.wrap .i64 (b' - a)) pivot_8 false datas_10 (way2 (fun (datas_38 : List V) =>
           bif decide ((a : Int) > 0) then
            bif (decide (0 ≤ (IntKind.wrap .i64 (a - 1)))) && (decide ((IntKind.wrap .i64 (a - 1)) < (datas_38.length : Int))) then
             (datas_38[(IntKind.wrap .i64 (a - 1) : Int).toNat]?).bind fun x39 =>
             bif (decide (0 ≤ pivot_8)) && (decide (pivot_8 < (datas_38.length : Int))) then
              (datas_38[(pivot_8 : Int).toNat]?).bind fun x40 =>
              (C F_nfa_compareEdges [.int .i64 ((x39.cell 0).toInt), .int .i64 ((x39.cell 1).toInt), .int .i64 ((x39.cell 2).toInt), .int .i64 ((x40.cell 0).toInt), .int .i64 ((x40.cell 1).toInt), .int .i64 ((x40.cell 2).toInt)]).bind fun r41 =>
              bif !(decide ((((V.nth r41 0).toInt) : Int) < 0)) then
               (C F_slices_partitionEqualCmpFunc_api_Edge_ [.int .i64 a, .int .i64 b', .int .i64 pivot_8, .list T_api_Edge datas_38]).bind fun r42 =>
               kn ((V.nth r42 0).toInt, b', limit_4, wasBalanced, wasPartitioned, (V.nth (r42.drop 1) 0).toList)
              else
               (C F_slices_partitionCmpFunc_api_Edge_ [.int .i64 a, .int .i64 b', .int .i64 pivot_8, .list T_api_Edge datas_38]).bind fun r43 =>
               bif decide (((IntKind.wrap .i64 (((V.nth r43 0).toInt) - a)) : Int) < (IntKind.wrap .i64 (b' - ((V.nth r43 0).toInt)))) then
                (C F_slices_pdqsortCmpFunc_api_Edge_ [.int .i64 a, .int .i64 ((V.nth r43 0).toInt), .int .i64 limit_4, .list T_api_Edge ((V.nth (r43.drop 2) 0).toList)]).bind fun r44 =>
                kn (IntKind.wrap .i64 (((V.nth r43 0).toInt) + 1), b', limit_4, decide (((IntKind.wrap .i64 (((V.nth r43 0).toInt) - a)) : Int) ≥ (IntKind.wrap .i64 (Int.tdiv (IntKind.wrap .i64 (b' - a)) 8))), (V.nth (r43.drop 1) 0).toBool, (V.nth r44 0).toList)
               else
                (C F_slices_pdqsortCmpFunc_api_Edge_ [.int .i64 (IntKind.wrap .i64 (((V.nth r43 0).toInt) + 1)), .int .i64 b', .int .i64 limit_4, .list T_api_Edge ((V.nth (r43.drop 2) 0).toList)]).bind fun r45 =>
                kn (a, (V.nth r43 0).toInt, limit_4, decide (((IntKind.wrap .i64 (b' - ((V.nth r43 0).toInt))) : Int) ≥ (IntKind.wrap .i64 (Int.tdiv (IntKind.wrap .i64 (b' - a)) 8))), (V.nth (r43.drop 1) 0).toBool, (V.nth r45 0).toList)
             else none
            else none
           else
            (C F_slices_partitionCmpFunc_api_Edge_ [.int .i64 a, .int .i64 b', .int .i64 pivot_8, .list T_api_Edge datas_38]).bind fun r46 =>
            bif decide (((IntKind.wrap .i64 (((V.nth r46 0).toInt) - a)) : Int) < (IntKind.wrap .i64 (b' - ((V.nth r46 0).toInt)))) then
             (C F_slices_pdqsortCmpFunc_api_Edge_ [.int .i64 a, .int .i64 ((V.nth r46 0).toInt), .int .i64 limit_4, .list T_api_Edge ((V.nth (r46.drop 2) 0).toList)]).bind fun r47 =>
             kn (IntKind.wrap .i64 (((V.nth r46 0).toInt) + 1), b', limit_4, decide (((IntKind.wrap .i64 (((V.nth r46 0).toInt) - a)) : Int) ≥ (IntKind.wrap .i64 (Int.tdiv (IntKind.wrap .i64 (b' - a)) 8))), (V.nth (r46.drop 1) 0).toBool, (V.nth r47 0).toList)
            else
             (C F_slices_pdqsortCmpFunc_api_Edge_ [.int .i64 (IntKind.wrap .i64 (((V.nth r46 0).toInt) + 1)), .int .i64 b', .int .i64 limit_4, .list T_api_Edge ((V.nth (r46.drop 2) 0).toList)]).bind fun r48 =>
             kn (a, (V.nth r46 0).toInt, limit_4, decide (((IntKind.wrap .i64 (b' - ((V.nth r46 0).toInt))) : Int) ≥ (IntKind.wrap .i64 (Int.tdiv (IntKind.wrap .i64 (b' - a)) 8))), (V.nth (r46.drop 1) 0).toBool, (V.nth r48 0).toList)) (un fun (t_49 : Bool) (datas_50 : List V) =>
           kr datas_50))))
noncomputable def s_slices_pdqsortCmpFunc_api_Edge__4L (C : CallF) : (Int × Int × Int × Bool × Bool × (List V)) → Option ((Int × Int × Int × Bool × Bool × (List V)) ⊕ (List V)) := un fun a => un fun b' => un fun limit => un fun wasBalanced => un fun wasPartitioned datas => s_slices_pdqsortCmpFunc_api_Edge__4 C a b' limit wasBalanced wasPartitioned datas (fun y => some (.inl y)) (fun r => some (.inr r))
noncomputable def LT_slices_pdqsortCmpFunc_api_Edge_ (C : CallF) : LTab := fun β n ds k =>
  bif Nat.beq n 639 then condS S63_639 [[1, 2, 0, 4, 5, 6, 0]] (@s_slices_pdqsortCmpFunc_api_Edge__1 C) ds k else
  bif Nat.beq n 911 then condS S63_911 [[1, 2, 3, 4, 5, 6, 0, 0, 0]] (@s_slices_pdqsortCmpFunc_api_Edge__2 C) ds k else
  bif Nat.beq n 1215 then condS S63_1215 [[1, 2, 3, 4, 5, 6, 7, 0], [1, 2, 3, 4, 5, 6, 7, 0, 0]] (@s_slices_pdqsortCmpFunc_api_Edge__3 C) ds k else
  bif Nat.beq n 33 then loopS S63_33 [true, true, true, true, true, true] [[0]] (@s_slices_pdqsortCmpFunc_api_Edge__4 C) ds k else
  none
abbrev TS_slices_pdqsortCmpFunc_api_Edge_ (C : CallF) (b : Bar) : Prop := Tells Tryd.prog ann C (LT_slices_pdqsortCmpFunc_api_Edge_ C) 63 (ntmpsOf Tryd.prog (ann.fid 63)) (ann.sin 63).blks.length b
theorem t_slices_pdqsortCmpFunc_api_Edge__1 (C : CallF) : TS_slices_pdqsortCmpFunc_api_Edge_ C (.cond 39 (codeAt [1, 1, 0, 0, 0, 1, 1, 1, 0, 1, 0] B_slices_pdqsortCmpFunc_api_Edge_) (codeAt [1, 1, 0, 0, 0, 1, 1, 1, 0, 1, 1] B_slices_pdqsortCmpFunc_api_Edge_)) :=
  tc3 S63_639 [[1, 2, 0, 4, 5, 6, 0]] (@s_slices_pdqsortCmpFunc_api_Edge__1 C) (by kernel_rfl) (ltok_of (bs := []) (by kernel_rfl) tells_nil) (ltok_of (bs := []) (by kernel_rfl) tells_nil) (fun ds => by kernel_rfl) (fun i β k => by kernel_rfl) (fun β ds k => by kernel_rfl)
theorem t_slices_pdqsortCmpFunc_api_Edge__2 (C : CallF) : TS_slices_pdqsortCmpFunc_api_Edge_ C (.cond 56 (codeAt [1, 1, 0, 0, 0, 1, 1, 1, 1, 1, 0, 1, 0] B_slices_pdqsortCmpFunc_api_Edge_) (codeAt [1, 1, 0, 0, 0, 1, 1, 1, 1, 1, 0, 1, 1] B_slices_pdqsortCmpFunc_api_Edge_)) :=
  tc3 S63_911 [[1, 2, 3, 4, 5, 6, 0, 0, 0]] (@s_slices_pdqsortCmpFunc_api_Edge__2 C) (by kernel_rfl) (ltok_of (bs := []) (by kernel_rfl) tells_nil) (ltok_of (bs := []) (by kernel_rfl) tells_nil) (fun ds => by kernel_rfl) (fun i β k => by kernel_rfl) (fun β ds k => by kernel_rfl)
theorem t_slices_pdqsortCmpFunc_api_Edge__3 (C : CallF) : TS_slices_pdqsortCmpFunc_api_Edge_ C (.cond 75 (codeAt [1, 1, 0, 0, 0, 1, 1, 1, 1, 1, 1, 0, 1, 0] B_slices_pdqsortCmpFunc_api_Edge_) (codeAt [1, 1, 0, 0, 0, 1, 1, 1, 1, 1, 1, 0, 1, 1] B_slices_pdqsortCmpFunc_api_Edge_)) :=
  tc3 S63_1215 [[1, 2, 3, 4, 5, 6, 7, 0], [1, 2, 3, 4, 5, 6, 7, 0, 0]] (@s_slices_pdqsortCmpFunc_api_Edge__3 C) (by kernel_rfl) (ltok_of (bs := []) (by kernel_rfl) tells_nil) (ltok_of (bs := []) (by kernel_rfl) tells_nil) (fun ds => by kernel_rfl) (fun i β k => by kernel_rfl) (fun β ds k => by kernel_rfl)
theorem t_slices_pdqsortCmpFunc_api_Edge__4 (C : CallF) : TS_slices_pdqsortCmpFunc_api_Edge_ C (.loop (codeAt [1, 1, 0, 0] B_slices_pdqsortCmpFunc_api_Edge_)) :=
  tl3 S63_33 [true, true, true, true, true, true] [[0]] (@s_slices_pdqsortCmpFunc_api_Edge__4 C) (by kernel_rfl) (ltok_of (bs := [.cond 39 (codeAt [1, 1, 0, 0, 0, 1, 1, 1, 0, 1, 0] B_slices_pdqsortCmpFunc_api_Edge_) (codeAt [1, 1, 0, 0, 0, 1, 1, 1, 0, 1, 1] B_slices_pdqsortCmpFunc_api_Edge_), .cond 56 (codeAt [1, 1, 0, 0, 0, 1, 1, 1, 1, 1, 0, 1, 0] B_slices_pdqsortCmpFunc_api_Edge_) (codeAt [1, 1, 0, 0, 0, 1, 1, 1, 1, 1, 0, 1, 1] B_slices_pdqsortCmpFunc_api_Edge_), .cond 75 (codeAt [1, 1, 0, 0, 0, 1, 1, 1, 1, 1, 1, 0, 1, 0] B_slices_pdqsortCmpFunc_api_Edge_) (codeAt [1, 1, 0, 0, 0, 1, 1, 1, 1, 1, 1, 0, 1, 1] B_slices_pdqsortCmpFunc_api_Edge_)]) (by kernel_rfl) (tells_cons (t_slices_pdqsortCmpFunc_api_Edge__1 C) (tells_cons (t_slices_pdqsortCmpFunc_api_Edge__2 C) (tells_cons (t_slices_pdqsortCmpFunc_api_Edge__3 C) tells_nil)))) (fun ds => by kernel_rfl) (fun i x => by kernel_rfl) (fun i x β k => by kernel_rfl) (fun β ds k => by kernel_rfl)
noncomputable def f_slices_pdqsortCmpFunc_api_Edge_ (C : CallF) (a b' limit : Int) (datas : List V) : Option (List V) :=
  (Loop (s_slices_pdqsortCmpFunc_api_Edge__4L C) (a, b', limit, true, true, datas)).bind (fun (b_51 : List V) =>
    some [.list T_api_Edge b_51])
theorem f_slices_pdqsortCmpFunc_api_Edge__of {a b' limit : Int} {datas : List V} {r : Option (List V)} (h : f_slices_pdqsortCmpFunc_api_Edge_ CC a b' limit datas = r) : CC F_slices_pdqsortCmpFunc_api_Edge_ [.int .i64 a, .int .i64 b', .int .i64 limit, .list T_api_Edge datas] = r :=
  func_of (key := 63) (L := LT_slices_pdqsortCmpFunc_api_Edge_ CC) (bs := [.loop (codeAt [1, 1, 0, 0] B_slices_pdqsortCmpFunc_api_Edge_)]) (by kernel_rfl) (tells_cons (t_slices_pdqsortCmpFunc_api_Edge__4 CC) tells_nil) (Eq.trans (by kernel_rfl) h)
end Go.AM
set_option maxRecDepth 100000
namespace Go.AM
open Go.Proofs
noncomputable def f_slices_SortFunc___api_Edge_api_Edge_ (C : CallF) (xs : List V) : Option (List V) :=
  (C F_bits_Len [.int .u64 (IntKind.wrap .u64 (xs.length : Int))]).bind fun r1 =>
  (C F_slices_pdqsortCmpFunc_api_Edge_ [.int .i64 0, .int .i64 (xs.length : Int), .int .i64 ((V.nth r1 0).toInt), .list T_api_Edge xs]).bind fun r2 =>
  some [.list T_api_Edge ((V.nth r2 0).toList)]
theorem f_slices_SortFunc___api_Edge_api_Edge__of {xs : List V} {r : Option (List V)} (h : f_slices_SortFunc___api_Edge_api_Edge_ CC xs = r) : CC F_slices_SortFunc___api_Edge_api_Edge_ [.list T_api_Edge xs] = r :=
  func_of (key := 44) (L := LT0) (bs := []) (by kernel_rfl) tells_nil (Eq.trans (by kernel_rfl) h)
end Go.AM
set_option maxRecDepth 100000
set_option linter.unusedSimpArgs false
set_option maxHeartbeats 4000000
namespace Go.AM
open Go.Proofs Go.Sort
theorem ltE_eq (a b : Ed) : (ltE a b = true) = (a.lt b) := by rw [ltE_i, propext (cmpE_neg a b)]
theorem ltE_eqf (a b : Ed) : (ltE a b = false) = ¬ (a.lt b) := by rw [← ltE_eq]; simp
theorem swo_E : SWO ltE where
  irrefl x := by rw [ltE_eqf]; unfold Ed.lt; omega
  trans x y z := by simp only [ltE_eq]; unfold Ed.lt; omega
  ntrans x y z := by simp only [ltE_eqf]; unfold Ed.lt; omega
def lenTab : List UInt8 := ([0, 1, 2, 2, 3, 3, 3, 3, 4, 4, 4, 4, 4, 4, 4, 4, 5, 5, 5, 5, 5, 5, 5, 5, 5, 5, 5, 5, 5, 5, 5, 5, 6, 6, 6, 6, 6, 6, 6, 6, 6, 6, 6, 6, 6, 6, 6, 6, 6, 6, 6, 6, 6, 6, 6, 6, 6, 6, 6, 6, 6, 6, 6, 6, 7, 7, 7, 7, 7, 7, 7, 7, 7, 7, 7, 7, 7, 7, 7, 7, 7, 7, 7, 7, 7, 7, 7, 7, 7, 7, 7, 7, 7, 7, 7, 7, 7, 7, 7, 7, 7, 7, 7, 7, 7, 7, 7, 7, 7, 7, 7, 7, 7, 7, 7, 7, 7, 7, 7, 7, 7, 7, 7, 7, 7, 7, 7, 7, 8, 8, 8, 8, 8, 8, 8, 8, 8, 8, 8, 8, 8, 8, 8, 8, 8, 8, 8, 8, 8, 8, 8, 8, 8, 8, 8, 8, 8, 8, 8, 8, 8, 8, 8, 8, 8, 8, 8, 8, 8, 8, 8, 8, 8, 8, 8, 8, 8, 8, 8, 8, 8, 8, 8, 8, 8, 8, 8, 8, 8, 8, 8, 8, 8, 8, 8, 8, 8, 8, 8, 8, 8, 8, 8, 8, 8, 8, 8, 8, 8, 8, 8, 8, 8, 8, 8, 8, 8, 8, 8, 8, 8, 8, 8, 8, 8, 8, 8, 8, 8, 8, 8, 8, 8, 8, 8, 8, 8, 8, 8, 8, 8, 8, 8, 8, 8, 8, 8, 8, 8, 8, 8, 8, 8, 8, 8, 8] : List UInt8)
theorem lenTab_ok : (List.range 256).all (fun y => match lenTab[y]? with | some b => decide (b.toNat ≤ 8) && (Nat.beq y 0 || (decide (1 ≤ b.toNat) && decide (2 ^ (b.toNat - 1) ≤ y))) | none => false) = true := by decide +kernel
theorem lenTab_get {y : Nat} (h : y < 256) : ∃ b, lenTab[y]? = some b ∧ b.toNat ≤ 8 ∧ (0 < y → 1 ≤ b.toNat ∧ 2 ^ (b.toNat - 1) ≤ y) := by
  have := List.all_eq_true.1 lenTab_ok y (List.mem_range.2 h)
  cases hb : lenTab[y]? with
  | none => rw [hb] at this; cases this
  | some b =>
    rw [hb] at this
    simp only [Bool.and_eq_true, Bool.or_eq_true, decide_eq_true_eq] at this
    refine ⟨b, rfl, this.1, fun hy => ?_⟩
    rcases this.2 with h2 | h2
    · have := Nat.eq_of_beq_eq_true h2; omega
    · exact h2
theorem pow_shift {y t k : Nat} (h : 2 ^ (t - 1) ≤ y / 2 ^ k) (ht : 1 ≤ t) : 2 ^ (t + k - 1) ≤ y := by
  have e : t + k - 1 = (t - 1) + k := by omega
  rw [e, Nat.pow_add]
  exact Nat.le_trans (Nat.mul_le_mul_right _ h) (Nat.div_mul_le_self _ _)
noncomputable def lenLast (y n : Int) : Option (List V) :=
(bif decide ((y : Int) ≥ 256) then
       (bif decide (0 ≤ (IntKind.wrap .u8 (Int.fdiv y (2 ^ (min (8 : Int).toNat (IntKind.bits .u64)))))) then (([0, 1, 2, 2, 3, 3, 3, 3, 4, 4, 4, 4, 4, 4, 4, 4, 5, 5, 5, 5, 5, 5, 5, 5, 5, 5, 5, 5, 5, 5, 5, 5, 6, 6, 6, 6, 6, 6, 6, 6, 6, 6, 6, 6, 6, 6, 6, 6, 6, 6, 6, 6, 6, 6, 6, 6, 6, 6, 6, 6, 6, 6, 6, 6, 7, 7, 7, 7, 7, 7, 7, 7, 7, 7, 7, 7, 7, 7, 7, 7, 7, 7, 7, 7, 7, 7, 7, 7, 7, 7, 7, 7, 7, 7, 7, 7, 7, 7, 7, 7, 7, 7, 7, 7, 7, 7, 7, 7, 7, 7, 7, 7, 7, 7, 7, 7, 7, 7, 7, 7, 7, 7, 7, 7, 7, 7, 7, 7, 8, 8, 8, 8, 8, 8, 8, 8, 8, 8, 8, 8, 8, 8, 8, 8, 8, 8, 8, 8, 8, 8, 8, 8, 8, 8, 8, 8, 8, 8, 8, 8, 8, 8, 8, 8, 8, 8, 8, 8, 8, 8, 8, 8, 8, 8, 8, 8, 8, 8, 8, 8, 8, 8, 8, 8, 8, 8, 8, 8, 8, 8, 8, 8, 8, 8, 8, 8, 8, 8, 8, 8, 8, 8, 8, 8, 8, 8, 8, 8, 8, 8, 8, 8, 8, 8, 8, 8, 8, 8, 8, 8, 8, 8, 8, 8, 8, 8, 8, 8, 8, 8, 8, 8, 8, 8, 8, 8, 8, 8, 8, 8, 8, 8, 8, 8, 8, 8, 8, 8, 8, 8, 8, 8, 8, 8, 8, 8] : List UInt8)[(IntKind.wrap .u8 (Int.fdiv y (2 ^ (min (8 : Int).toNat (IntKind.bits .u64)))) : Int).toNat]?).map fun b => V.int .u8 b.toNat else none).bind fun x5 =>
       some [V.int .i64 (IntKind.wrap .i64 ((IntKind.wrap .i64 (n + 8)) + (IntKind.wrap .i64 x5.toInt)))]
      else
       (bif decide (0 ≤ (IntKind.wrap .u8 y)) then (([0, 1, 2, 2, 3, 3, 3, 3, 4, 4, 4, 4, 4, 4, 4, 4, 5, 5, 5, 5, 5, 5, 5, 5, 5, 5, 5, 5, 5, 5, 5, 5, 6, 6, 6, 6, 6, 6, 6, 6, 6, 6, 6, 6, 6, 6, 6, 6, 6, 6, 6, 6, 6, 6, 6, 6, 6, 6, 6, 6, 6, 6, 6, 6, 7, 7, 7, 7, 7, 7, 7, 7, 7, 7, 7, 7, 7, 7, 7, 7, 7, 7, 7, 7, 7, 7, 7, 7, 7, 7, 7, 7, 7, 7, 7, 7, 7, 7, 7, 7, 7, 7, 7, 7, 7, 7, 7, 7, 7, 7, 7, 7, 7, 7, 7, 7, 7, 7, 7, 7, 7, 7, 7, 7, 7, 7, 7, 7, 8, 8, 8, 8, 8, 8, 8, 8, 8, 8, 8, 8, 8, 8, 8, 8, 8, 8, 8, 8, 8, 8, 8, 8, 8, 8, 8, 8, 8, 8, 8, 8, 8, 8, 8, 8, 8, 8, 8, 8, 8, 8, 8, 8, 8, 8, 8, 8, 8, 8, 8, 8, 8, 8, 8, 8, 8, 8, 8, 8, 8, 8, 8, 8, 8, 8, 8, 8, 8, 8, 8, 8, 8, 8, 8, 8, 8, 8, 8, 8, 8, 8, 8, 8, 8, 8, 8, 8, 8, 8, 8, 8, 8, 8, 8, 8, 8, 8, 8, 8, 8, 8, 8, 8, 8, 8, 8, 8, 8, 8, 8, 8, 8, 8, 8, 8, 8, 8, 8, 8, 8, 8, 8, 8, 8, 8, 8, 8] : List UInt8)[(IntKind.wrap .u8 y : Int).toNat]?).map fun b => V.int .u8 b.toNat else none).bind fun x6 =>
       some [V.int .i64 (IntKind.wrap .i64 (n + (IntKind.wrap .i64 x6.toInt)))])
theorem Len64_spec {x : Nat} (h : x < 2 ^ 64) : ∃ L : Nat, CC F_bits_Len64 [.int .u64 (x : Int)] = some [.int .i64 (L : Int)] ∧ L ≤ 64 ∧ (0 < x → 1 ≤ L ∧ 2 ^ (L - 1) ≤ x) := by
  have last : ∀ y n : Nat, y < 65536 → n ≤ 48 → ∃ t : Nat,
      lenLast (y : Int) (n : Int) = some [V.int .i64 ((n + t : Nat) : Int)] ∧ t ≤ 16 ∧ (0 < y → 1 ≤ t ∧ 2 ^ (t - 1) ≤ y) := by
    intro y n hy hn
    unfold lenLast
    rw [show ([0, 1, 2, 2, 3, 3, 3, 3, 4, 4, 4, 4, 4, 4, 4, 4, 5, 5, 5, 5, 5, 5, 5, 5, 5, 5, 5, 5, 5, 5, 5, 5, 6, 6, 6, 6, 6, 6, 6, 6, 6, 6, 6, 6, 6, 6, 6, 6, 6, 6, 6, 6, 6, 6, 6, 6, 6, 6, 6, 6, 6, 6, 6, 6, 7, 7, 7, 7, 7, 7, 7, 7, 7, 7, 7, 7, 7, 7, 7, 7, 7, 7, 7, 7, 7, 7, 7, 7, 7, 7, 7, 7, 7, 7, 7, 7, 7, 7, 7, 7, 7, 7, 7, 7, 7, 7, 7, 7, 7, 7, 7, 7, 7, 7, 7, 7, 7, 7, 7, 7, 7, 7, 7, 7, 7, 7, 7, 7, 8, 8, 8, 8, 8, 8, 8, 8, 8, 8, 8, 8, 8, 8, 8, 8, 8, 8, 8, 8, 8, 8, 8, 8, 8, 8, 8, 8, 8, 8, 8, 8, 8, 8, 8, 8, 8, 8, 8, 8, 8, 8, 8, 8, 8, 8, 8, 8, 8, 8, 8, 8, 8, 8, 8, 8, 8, 8, 8, 8, 8, 8, 8, 8, 8, 8, 8, 8, 8, 8, 8, 8, 8, 8, 8, 8, 8, 8, 8, 8, 8, 8, 8, 8, 8, 8, 8, 8, 8, 8, 8, 8, 8, 8, 8, 8, 8, 8, 8, 8, 8, 8, 8, 8, 8, 8, 8, 8, 8, 8, 8, 8, 8, 8, 8, 8, 8, 8, 8, 8, 8, 8, 8, 8, 8, 8, 8, 8] : List UInt8) = lenTab from rfl]
    by_cases h1 : y ≥ 256
    · have e : Int.fdiv (y : Int) (2 ^ (min (8 : Int).toNat (IntKind.bits .u64))) = ((y / 2 ^ 8 : Nat) : Int) := u64_shr (m := 8) (by omega)
      obtain ⟨b, hb, b1, b2⟩ := lenTab_get (y := y / 2 ^ 8) (by omega)
      refine ⟨b.toNat + 8, ?_, by omega, fun _ => ?_⟩
      · rw [e, bif_decide, if_pos (by omega), wrap8 (by omega) (by omega), bif_decide, if_pos (by omega), Int.toNat_natCast, hb]
        simp only [Option.map_some, Option.bind_some, V.toInt_int]
        simp (disch := omega) only [wrap64]
        congr 3
        omega
      · obtain ⟨b3, b4⟩ := b2 (by omega)
        exact ⟨by omega, pow_shift b4 b3⟩
    · obtain ⟨b, hb, b1, b2⟩ := lenTab_get (y := y) (by omega)
      refine ⟨b.toNat, ?_, by omega, b2⟩
      rw [bif_decide, if_neg (by omega), wrap8 (by omega) (by omega), bif_decide, if_pos (by omega), Int.toNat_natCast, hb]
      simp (disch := omega) only [Option.map_some, Option.bind_some, V.toInt_int, wrap64]
      congr 3
  have mid : ∀ y n : Nat, y < 4294967296 → n ≤ 32 → ∃ t : Nat, ∀ F : Int → Int → Option (List V),
      (∀ y n : Nat, y < 65536 → n ≤ 48 → ∃ t : Nat, F (y : Int) (n : Int) = some [V.int .i64 ((n + t : Nat) : Int)] ∧ t ≤ 16 ∧ (0 < y → 1 ≤ t ∧ 2 ^ (t - 1) ≤ y)) →
      ∃ t : Nat, s_bits_Len64_2 CC (y : Int) (n : Int) (decide (((y : Int) : Int) ≥ 65536)) (un F) = some [V.int .i64 ((n + t : Nat) : Int)] ∧ t ≤ 32 ∧ (0 < y → 1 ≤ t ∧ 2 ^ (t - 1) ≤ y) := by
    intro y n hy hn
    refine ⟨0, fun F hF => ?_⟩
    unfold s_bits_Len64_2
    by_cases h1 : y ≥ 65536
    · have e : Int.fdiv (y : Int) (2 ^ (min (16 : Int).toNat (IntKind.bits .u64))) = ((y / 2 ^ 16 : Nat) : Int) := u64_shr (m := 16) (by omega)
      rw [bif_decide, if_pos (by omega), e, wrap64 (by omega) (by omega)]
      obtain ⟨t, h2, h3, h4⟩ := hF (y / 2 ^ 16) (n + 16) (by omega) (by omega)
      refine ⟨t + 16, ?_, by omega, fun _ => ?_⟩
      · rw [show ((n : Int) + 16) = ((n + 16 : Nat) : Int) by omega]
        simp only [un]
        rw [h2]
        congr 3
        omega
      · obtain ⟨b3, b4⟩ := h4 (by omega)
        exact ⟨by omega, pow_shift b4 b3⟩
    · rw [bif_decide, if_neg (by omega)]
      obtain ⟨t, h2, h3, h4⟩ := hF y n (by omega) (by omega)
      exact ⟨t, h2, by omega, h4⟩
  by_cases h1 : x ≥ 4294967296
  · have e : Int.fdiv (x : Int) (2 ^ (min (32 : Int).toNat (IntKind.bits .u64))) = ((x / 2 ^ 32 : Nat) : Int) := u64_shr (m := 32) (by omega)
    obtain ⟨_, hm⟩ := mid (x / 2 ^ 32) 32 (by omega) (by omega)
    obtain ⟨t, h2, h3, h4⟩ := hm lenLast last
    refine ⟨32 + t, f_bits_Len64_of ?_, by omega, fun _ => ?_⟩
    · show s_bits_Len64_1 CC (x : Int) 0 (decide (((x : Int) : Int) ≥ 4294967296)) (un fun (x_1 : Int) (n_2 : Int) => s_bits_Len64_2 CC x_1 n_2 (decide ((x_1 : Int) ≥ 65536)) (un lenLast)) = _
      unfold s_bits_Len64_1
      rw [bif_decide, if_pos (by omega), e]
      exact h2
    · obtain ⟨b3, b4⟩ := h4 (by omega)
      rw [Nat.add_comm 32 t]
      exact ⟨by omega, pow_shift b4 b3⟩
  · obtain ⟨_, hm⟩ := mid x 0 (by omega) (by omega)
    obtain ⟨t, h2, h3, h4⟩ := hm lenLast last
    refine ⟨t, f_bits_Len64_of ?_, by omega, h4⟩
    show s_bits_Len64_1 CC (x : Int) 0 (decide (((x : Int) : Int) ≥ 4294967296)) (un fun (x_1 : Int) (n_2 : Int) => s_bits_Len64_2 CC x_1 n_2 (decide ((x_1 : Int) ≥ 65536)) (un lenLast)) = _
    unfold s_bits_Len64_1
    rw [bif_decide, if_neg (by omega)]
    rw [Nat.zero_add] at h2
    exact h2
theorem Len_spec {x : Nat} (h : x < 2 ^ 64) : ∃ L : Nat, CC F_bits_Len [.int .u64 (x : Int)] = some [.int .i64 (L : Int)] ∧ L ≤ 64 ∧ (0 < x → 1 ≤ L ∧ 2 ^ (L - 1) ≤ x) := by
  obtain ⟨L, h1, h2⟩ := Len64_spec h
  refine ⟨L, f_bits_Len_of ?_, h2⟩
  unfold f_bits_Len
  rw [h1]
  rfl
theorem nextPow_spec {x : Nat} (h0 : 0 < x) (h : x < 1152921504606846976) : ∃ M : Nat, CC F_slices_nextPowerOfTwo [.int .i64 (x : Int)] = some [.int .u64 (M : Int)] ∧ 1 ≤ M ∧ M ≤ 2 * x := by
  obtain ⟨L, h1, h2, h3⟩ := Len_spec (x := x) (by omega)
  obtain ⟨h4, h5⟩ := h3 h0
  have e : 2 ^ L = 2 * 2 ^ (L - 1) := by
    obtain ⟨k, rfl⟩ : ∃ k, L = k + 1 := ⟨L - 1, by omega⟩
    rw [Nat.pow_succ]; simp only [Nat.add_sub_cancel]; omega
  have hL : L < 64 := by
    by_cases hx : L < 64
    · exact hx
    · have : 2 ^ 63 ≤ 2 ^ (L - 1) := Nat.pow_le_pow_right (by omega) (by omega)
      omega
  refine ⟨2 ^ L, f_slices_nextPowerOfTwo_of ?_, Nat.pos_of_ne_zero (by simp), by omega⟩
  unfold f_slices_nextPowerOfTwo
  rw [wrapu64 (A := x) (by omega), h1]
  simp only [Option.bind_some, V.nth_zero, V.toInt_int]
  rw [bif_decide, if_pos (by omega), Int.toNat_natCast, u64_bit hL]
theorem Next_spec (r : Int) : ∃ R : Nat, CC F_slices_xorshift_Next [.int .u64 r] = some [.int .u64 (R : Int), .int .u64 (R : Int)] ∧ R < 2 ^ 64 := by
  have h : ∀ n : Int, ∃ R : Nat, IntKind.wrap .u64 n = (R : Int) ∧ R < 2 ^ 64 := fun n => ⟨(IntKind.wrap .u64 n).toNat, by rw [wrap_u64]; omega, by rw [wrap_u64]; omega⟩
  obtain ⟨R, h1, h2⟩ := h _
  exact ⟨R, f_slices_xorshift_Next_of (by unfold f_slices_xorshift_Next; rw [h1]), h2⟩
theorem idx_eA {d : Array Ed} {i : Nat} (h : i < d.size) : idx (eA d) (i : Int) = some (d[i]!).enc := by rw [idx_nat, encA_get h]
theorem order2_spec {d : Array Ed} {a b : Nat} {s : Int} (ha : a < d.size) (hb : b < d.size) : ∃ (x y : Nat) (s' : Int), CC F_slices_order2CmpFunc_api_Edge_ [.list T_api_Edge (eA d), .int .i64 (a : Int), .int .i64 (b : Int), .int .i64 s] = some [.int .i64 (x : Int), .int .i64 (y : Int), .int .i64 s'] ∧ (x = a ∧ y = b ∨ x = b ∧ y = a) := by
  by_cases h : cmpE d[b]! d[a]! < 0
  · refine ⟨b, a, _, f_slices_order2CmpFunc_api_Edge__of (by unfold f_slices_order2CmpFunc_api_Edge_; rw [idx_eA hb, idx_eA ha]; simp only [Option.bind_some, Ed.enc_0, Ed.enc_1, Ed.enc_2, compareEdges_spec, V.nth_zero, V.toInt_int]; rw [bif_decide, if_pos h]), .inr ⟨rfl, rfl⟩⟩
  · refine ⟨a, b, _, f_slices_order2CmpFunc_api_Edge__of (by unfold f_slices_order2CmpFunc_api_Edge_; rw [idx_eA hb, idx_eA ha]; simp only [Option.bind_some, Ed.enc_0, Ed.enc_1, Ed.enc_2, compareEdges_spec, V.nth_zero, V.toInt_int]; rw [bif_decide, if_neg h]), .inl ⟨rfl, rfl⟩⟩
theorem median_spec {d : Array Ed} {a b c : Nat} {s : Int} (ha : a < d.size) (hb : b < d.size) (hc : c < d.size) : ∃ (m : Nat) (s' : Int), CC F_slices_medianCmpFunc_api_Edge_ [.list T_api_Edge (eA d), .int .i64 (a : Int), .int .i64 (b : Int), .int .i64 (c : Int), .int .i64 s] = some [.int .i64 (m : Int), .int .i64 s'] ∧ (m = a ∨ m = b ∨ m = c) := by
  obtain ⟨x1, y1, s1, e1, o1⟩ := order2_spec (s := s) ha hb
  obtain ⟨x2, y2, s2, e2, o2⟩ := order2_spec (d := d) (a := y1) (b := c) (s := s1) (by omega) hc
  obtain ⟨x3, y3, s3, e3, o3⟩ := order2_spec (d := d) (a := x1) (b := x2) (s := s2) (by omega) (by omega)
  refine ⟨y3, s3, f_slices_medianCmpFunc_api_Edge__of ?_, by omega⟩
  unfold f_slices_medianCmpFunc_api_Edge_
  rw [e1]
  simp only [Option.bind_some, V.nth_zero, V.nth_succ, V.toInt_int, List.drop_succ_cons, List.drop_zero]
  rw [e2]
  simp only [Option.bind_some, V.nth_zero, V.nth_succ, V.toInt_int, List.drop_succ_cons, List.drop_zero]
  rw [e3]
  rfl
theorem medAdj_spec {d : Array Ed} {a : Nat} {s : Int} (h1 : 1 ≤ a) (ha : a + 1 < d.size) (hs : d.size < 1152921504606846976) : ∃ (m : Nat) (s' : Int), CC F_slices_medianAdjacentCmpFunc_api_Edge_ [.list T_api_Edge (eA d), .int .i64 (a : Int), .int .i64 s] = some [.int .i64 (m : Int), .int .i64 s'] ∧ a ≤ m + 1 ∧ m ≤ a + 1 := by
  obtain ⟨m, s', e, o⟩ := median_spec (d := d) (a := a - 1) (b := a) (c := a + 1) (s := s) (by omega) (by omega) (by omega)
  refine ⟨m, s', f_slices_medianAdjacentCmpFunc_api_Edge__of ?_, by omega, by omega⟩
  unfold f_slices_medianAdjacentCmpFunc_api_Edge_
  simp (disch := omega) only [sub1C, succC, wrap64]
  rw [e]
  rfl
theorem div4C (n : Nat) : Int.tdiv (n : Int) 4 = ((n / 4 : Nat) : Int) := by
  have := divC n 4
  exact this
theorem mulC (k n : Nat) : ((k : Nat) : Int) * (n : Int) = ((k * n : Nat) : Int) := (Int.natCast_mul k n).symm
theorem choose_spec' {d : Array Ed} {a b : Nat} (hab : a + 12 < b) (hb : b ≤ d.size) (hs : d.size < 1152921504606846976) : ∃ (p : Nat) (h : Int), CC F_slices_choosePivotCmpFunc_api_Edge_ [.list T_api_Edge (eA d), .int .i64 (a : Int), .int .i64 (b : Int)] = some [.int .i64 (p : Int), .int .i64 h] ∧ a ≤ p ∧ p < b := by
  have fin : ∀ (p : Nat) (s : Int), ∃ h : Int, (bif (s : Int) == 0 then some [V.int .i64 (p : Int), V.int .i64 1] else bif (s : Int) == 12 then some [V.int .i64 (p : Int), V.int .i64 2] else some [V.int .i64 (p : Int), V.int .i64 0]) = some [V.int .i64 (p : Int), V.int .i64 h] := by
    intro p s
    rw [bif_beq]
    split
    · exact ⟨1, rfl⟩
    · rw [bif_beq]
      split
      · exact ⟨2, rfl⟩
      · exact ⟨0, rfl⟩
  have e1 : IntKind.wrap .i64 ((b : Int) - (a : Int)) = ((b - a : Nat) : Int) := by rw [subC (by omega), wrap64 (by omega) (by omega)]
  have e2 : IntKind.wrap .i64 (Int.tdiv ((b - a : Nat) : Int) 4) = (((b - a) / 4 : Nat) : Int) := by rw [div4C, wrap64 (by omega) (by omega)]
  have e3 : ∀ k : Nat, k ≤ 3 → IntKind.wrap .i64 ((a : Int) + IntKind.wrap .i64 ((k : Int) * (((b - a) / 4 : Nat) : Int))) = ((a + k * ((b - a) / 4) : Nat) : Int) := by
    intro k hk
    have hk2 : k * ((b - a) / 4) ≤ 3 * ((b - a) / 4) := Nat.mul_le_mul_right _ hk
    simp (disch := omega) only [mulC, wrap64, addC]
  have e31 := e3 1 (by omega)
  have e32 := e3 2 (by omega)
  have e33 := e3 3 (by omega)
  rw [show ((1 : Nat) : Int) = 1 from rfl] at e31
  rw [show ((2 : Nat) : Int) = 2 from rfl] at e32
  rw [show ((3 : Nat) : Int) = 3 from rfl] at e33
  by_cases h50 : b - a ≥ 50
  · obtain ⟨m1, s1, q1, r1⟩ := medAdj_spec (d := d) (a := a + 1 * ((b - a) / 4)) (s := 0) (by omega) (by omega) hs
    obtain ⟨m2, s2, q2, r2⟩ := medAdj_spec (d := d) (a := a + 2 * ((b - a) / 4)) (s := s1) (by omega) (by omega) hs
    obtain ⟨m3, s3, q3, r3⟩ := medAdj_spec (d := d) (a := a + 3 * ((b - a) / 4)) (s := s2) (by omega) (by omega) hs
    obtain ⟨m, s, q, r⟩ := median_spec (d := d) (a := m1) (b := m2) (c := m3) (s := s3) (by omega) (by omega) (by omega)
    obtain ⟨h, hf⟩ := fin m s
    refine ⟨m, h, f_slices_choosePivotCmpFunc_api_Edge__of ?_, by omega, by omega⟩
    unfold f_slices_choosePivotCmpFunc_api_Edge_ s_slices_choosePivotCmpFunc_api_Edge__2 s_slices_choosePivotCmpFunc_api_Edge__1
    rw [e1, e2, e31, e32, e33, dec_true (by omega), cond_true, dec_true (by omega), cond_true, q1]
    simp only [Option.bind_some, V.nth_zero, V.nth_succ, V.toInt_int, List.drop_succ_cons, List.drop_zero]
    rw [q2]
    simp only [Option.bind_some, V.nth_zero, V.nth_succ, V.toInt_int, List.drop_succ_cons, List.drop_zero]
    rw [q3]
    simp only [Option.bind_some, V.nth_zero, V.nth_succ, V.toInt_int, List.drop_succ_cons, List.drop_zero, un]
    rw [q]
    exact hf
  · obtain ⟨m, s, q, r⟩ := median_spec (d := d) (a := a + 1 * ((b - a) / 4)) (b := a + 2 * ((b - a) / 4)) (c := a + 3 * ((b - a) / 4)) (s := 0) (by omega) (by omega) (by omega)
    obtain ⟨h, hf⟩ := fin m s
    refine ⟨m, h, f_slices_choosePivotCmpFunc_api_Edge__of ?_, by omega, by omega⟩
    unfold f_slices_choosePivotCmpFunc_api_Edge_ s_slices_choosePivotCmpFunc_api_Edge__2 s_slices_choosePivotCmpFunc_api_Edge__1
    rw [e1, e2, e31, e32, e33, dec_true (by omega), cond_true, dec_false (by omega), cond_false]
    simp only [un]
    rw [q]
    exact hf
theorem break_loop {a b M : Nat} (hM1 : 1 ≤ M) (hM : M ≤ 2 * (b - a)) (h8 : 8 ≤ b - a) (hB : b < 1152921504606846976) : ∀ (n i : Nat) (d : Array Ed) (r : Int), a + 2 * ((b - a) / 4) + 2 - i = n → a ≤ i → b ≤ d.size → d.size < 1152921504606846976 →
    ∃ x y z R, Loop (s_slices_breakPatternsCmpFunc_api_Edge__2L CC a (b - a : Nat) M) ((i : Int), eA d, r) = some (x, y, eA R, z) ∧ PermIn a b d R := by
  have e2 : IntKind.wrap .i64 (Int.tdiv ((b - a : Nat) : Int) 4) = (((b - a) / 4 : Nat) : Int) := by rw [div4C, wrap64 (by omega) (by omega)]
  have e32 : IntKind.wrap .i64 ((a : Int) + IntKind.wrap .i64 (2 * (((b - a) / 4 : Nat) : Int))) = ((a + 2 * ((b - a) / 4) : Nat) : Int) := by
    have := mulC 2 ((b - a) / 4)
    rw [show ((2 : Nat) : Int) = 2 from rfl] at this
    rw [this]
    simp (disch := omega) only [wrap64, addC]
  intro n
  induction n with
  | zero =>
    intro i d r hn hi hb hs
    refine ⟨(i : Int), false, r, d, Loop_end ?_, permIn_refl _ _ _⟩
    simp only [s_slices_breakPatternsCmpFunc_api_Edge__2L, s_slices_breakPatternsCmpFunc_api_Edge__2, un]
    rw [e2, e32, succC, wrap64 (by omega) (by omega), dec_false (by omega), cond_false]
  | succ n ih =>
    intro i d r hn hi hb hs
    obtain ⟨R1, q1, q2⟩ := Next_spec r
    obtain ⟨o, ho, ho2⟩ : ∃ o : Nat, (o = if R1 &&& (M - 1) ≥ b - a then (R1 &&& (M - 1)) - (b - a) else R1 &&& (M - 1)) ∧ o < b - a := by
      refine ⟨_, rfl, ?_⟩
      have : R1 &&& (M - 1) ≤ M - 1 := Nat.and_le_right
      split <;> omega
    have hand : R1 &&& (M - 1) ≤ M - 1 := Nat.and_le_right
    have hP := swp_permIn (α := Ed) d a b i (a + o) hi (by omega) (by omega) (by omega) hb
    obtain ⟨x, y, z, R, e, hR⟩ := ih (i + 1) (swp d i (a + o)) (R1 : Int) (by omega) (by omega) (by rw [size_swp]; exact hb) (by rw [size_swp]; exact hs)
    refine ⟨x, y, z, R, (Loop_norm ?_).trans e, permIn_trans _ _ _ a b hP hR⟩
    simp only [s_slices_breakPatternsCmpFunc_api_Edge__2L, s_slices_breakPatternsCmpFunc_api_Edge__2, un]
    rw [e2, e32, succC, wrap64 (x := ((a + 2 * ((b - a) / 4) + 1 : Nat) : Int)) (by omega) (by omega), dec_true (by omega), cond_true, q1]
    simp only [Option.bind_some, V.nth_zero, V.nth_succ, V.toInt_int, List.drop_succ_cons, List.drop_zero]
    have e5 : IntKind.wrap .u64 ((M : Int) - 1) = ((M - 1 : Nat) : Int) := by rw [sub1C hM1, wrapu64 (by omega)]
    rw [e5, u64_and q2 (by omega), wrap64 (x := ((R1 &&& (M - 1) : Nat) : Int)) (by omega) (by omega)]
    have fin : ∀ k : Int, k = (o : Int) → (bif (decide (0 ≤ (IntKind.wrap .i64 ((a : Int) + k)))) && (decide ((IntKind.wrap .i64 ((a : Int) + k)) < ((eA d).length : Int))) then
      ((eA d)[(IntKind.wrap .i64 ((a : Int) + k) : Int).toNat]?).bind fun x4 =>
      bif (decide (0 ≤ (i : Int))) && (decide ((i : Int) < ((eA d).length : Int))) then
       ((eA d)[((i : Int) : Int).toNat]?).bind fun x5 =>
       bif (decide (0 ≤ (i : Int))) && (decide ((i : Int) < ((eA d).length : Int))) then
        ((eA d)[((i : Int) : Int).toNat]?).bind fun x6 =>
        bif (decide (0 ≤ (IntKind.wrap .i64 ((a : Int) + k)))) && (decide ((IntKind.wrap .i64 ((a : Int) + k)) < (((eA d).set (((i : Int) : Int).toNat) (.agg [.int .i64 ((x4.cell 0).toInt), .int .i64 ((x4.cell 1).toInt), .int .i64 ((x4.cell 2).toInt)])).length : Int))) then
         (((eA d).set (((i : Int) : Int).toNat) (.agg [.int .i64 ((x4.cell 0).toInt), .int .i64 ((x4.cell 1).toInt), .int .i64 ((x4.cell 2).toInt)]))[(IntKind.wrap .i64 ((a : Int) + k) : Int).toNat]?).bind fun x7 =>
         some (.inl (IntKind.wrap .i64 ((i : Int) + 1), ((eA d).set (((i : Int) : Int).toNat) (.agg [.int .i64 ((x4.cell 0).toInt), .int .i64 ((x4.cell 1).toInt), .int .i64 ((x4.cell 2).toInt)])).set ((IntKind.wrap .i64 ((a : Int) + k) : Int).toNat) (.agg [.int .i64 ((x5.cell 0).toInt), .int .i64 ((x5.cell 1).toInt), .int .i64 ((x5.cell 2).toInt)]), (R1 : Int)))
        else none
       else none
      else none
     else none : Option ((Int × List V × Int) ⊕ (Int × Bool × List V × Int))) = some (.inl (((i + 1 : Nat) : Int), eA (swp d i (a + o)), (R1 : Int))) := by
      intro k hk
      subst hk
      simp (disch := omega) only [bif_decide, bif_and, bif_not, if_pos, if_neg, wrap64, succC, addC, Int.toNat_natCast, Option.bind_some, encA_length, encA_get, Ed.enc_0, Ed.enc_1, Ed.enc_2, Ed.re, encA_set, encA_get2, Array.size_setIfInBounds, compareEdges_spec, V.nth_zero, V.toInt_int, cond_true, cond_false]
      rfl
    unfold s_slices_breakPatternsCmpFunc_api_Edge__1
    by_cases h : R1 &&& (M - 1) ≥ b - a
    · rw [if_pos h] at ho
      rw [dec_true (by omega), cond_true]
      exact fin _ (by rw [subC (by omega), wrap64 (by omega) (by omega)]; omega)
    · rw [if_neg h] at ho
      rw [dec_false (by omega), cond_false]
      exact fin _ (by omega)
theorem break_spec {a b : Nat} {d : Array Ed} (hab : a + 12 < b) (hb : b ≤ d.size) (hs : d.size < 1152921504606846976) : ∃ R, CC F_slices_breakPatternsCmpFunc_api_Edge_ [.int .i64 (a : Int), .int .i64 (b : Int), .list T_api_Edge (eA d)] = some [.list T_api_Edge (eA R)] ∧ PermIn a b d R := by
  obtain ⟨M, q1, q2, q3⟩ := nextPow_spec (x := b - a) (by omega) (by omega)
  have e1 : IntKind.wrap .i64 ((b : Int) - (a : Int)) = ((b - a : Nat) : Int) := by rw [subC (by omega), wrap64 (by omega) (by omega)]
  have e2 : IntKind.wrap .i64 (Int.tdiv ((b - a : Nat) : Int) 4) = (((b - a) / 4 : Nat) : Int) := by rw [div4C, wrap64 (by omega) (by omega)]
  have e32 : IntKind.wrap .i64 ((a : Int) + IntKind.wrap .i64 (2 * (((b - a) / 4 : Nat) : Int))) = ((a + 2 * ((b - a) / 4) : Nat) : Int) := by
    have := mulC 2 ((b - a) / 4)
    rw [show ((2 : Nat) : Int) = 2 from rfl] at this
    rw [this]
    simp (disch := omega) only [wrap64, addC]
  obtain ⟨x, y, z, R, e, hR⟩ := break_loop (a := a) (b := b) (M := M) q2 q3 (by omega) (by omega) _ (a + 2 * ((b - a) / 4) - 1) d (IntKind.wrap .u64 ((b - a : Nat) : Int)) rfl (by omega) hb hs
  refine ⟨R, f_slices_breakPatternsCmpFunc_api_Edge__of ?_, hR⟩
  unfold f_slices_breakPatternsCmpFunc_api_Edge_
  rw [e1, bif_decide, if_pos (by omega), q1]
  simp only [Option.bind_some, V.nth_zero, V.toInt_int]
  rw [e2, e32, sub1C (by omega), wrap64 (x := ((a + 2 * ((b - a) / 4) - 1 : Nat) : Int)) (by omega) (by omega), e]
  rfl
noncomputable def pdqRest (C : CallF) (a b' : Int) (wasBalanced wasPartitioned : Bool) (limit_4 pivot_8 : Int) (datas_12 : List V) {β : Type} (kn : (Int × Int × Int × Bool × Bool × (List V)) → Option β) : Option β :=
            bif decide ((a : Int) > 0) then
             bif (decide (0 ≤ (IntKind.wrap .i64 (a - 1)))) && (decide ((IntKind.wrap .i64 (a - 1)) < (datas_12.length : Int))) then
              (datas_12[(IntKind.wrap .i64 (a - 1) : Int).toNat]?).bind fun x13 =>
              bif (decide (0 ≤ pivot_8)) && (decide (pivot_8 < (datas_12.length : Int))) then
               (datas_12[(pivot_8 : Int).toNat]?).bind fun x14 =>
               (C F_nfa_compareEdges [.int .i64 ((x13.cell 0).toInt), .int .i64 ((x13.cell 1).toInt), .int .i64 ((x13.cell 2).toInt), .int .i64 ((x14.cell 0).toInt), .int .i64 ((x14.cell 1).toInt), .int .i64 ((x14.cell 2).toInt)]).bind fun r15 =>
               bif !(decide ((((V.nth r15 0).toInt) : Int) < 0)) then
                (C F_slices_partitionEqualCmpFunc_api_Edge_ [.int .i64 a, .int .i64 b', .int .i64 pivot_8, .list T_api_Edge datas_12]).bind fun r16 =>
                kn ((V.nth r16 0).toInt, b', limit_4, wasBalanced, wasPartitioned, (V.nth (r16.drop 1) 0).toList)
               else
                (C F_slices_partitionCmpFunc_api_Edge_ [.int .i64 a, .int .i64 b', .int .i64 pivot_8, .list T_api_Edge datas_12]).bind fun r17 =>
                bif decide (((IntKind.wrap .i64 (((V.nth r17 0).toInt) - a)) : Int) < (IntKind.wrap .i64 (b' - ((V.nth r17 0).toInt)))) then
                 (C F_slices_pdqsortCmpFunc_api_Edge_ [.int .i64 a, .int .i64 ((V.nth r17 0).toInt), .int .i64 limit_4, .list T_api_Edge ((V.nth (r17.drop 2) 0).toList)]).bind fun r18 =>
                 kn (IntKind.wrap .i64 (((V.nth r17 0).toInt) + 1), b', limit_4, decide (((IntKind.wrap .i64 (((V.nth r17 0).toInt) - a)) : Int) ≥ (IntKind.wrap .i64 (Int.tdiv (IntKind.wrap .i64 (b' - a)) 8))), (V.nth (r17.drop 1) 0).toBool, (V.nth r18 0).toList)
                else
                 (C F_slices_pdqsortCmpFunc_api_Edge_ [.int .i64 (IntKind.wrap .i64 (((V.nth r17 0).toInt) + 1)), .int .i64 b', .int .i64 limit_4, .list T_api_Edge ((V.nth (r17.drop 2) 0).toList)]).bind fun r19 =>
                 kn (a, (V.nth r17 0).toInt, limit_4, decide (((IntKind.wrap .i64 (b' - ((V.nth r17 0).toInt))) : Int) ≥ (IntKind.wrap .i64 (Int.tdiv (IntKind.wrap .i64 (b' - a)) 8))), (V.nth (r17.drop 1) 0).toBool, (V.nth r19 0).toList)
              else none
             else none
            else
             (C F_slices_partitionCmpFunc_api_Edge_ [.int .i64 a, .int .i64 b', .int .i64 pivot_8, .list T_api_Edge datas_12]).bind fun r20 =>
             bif decide (((IntKind.wrap .i64 (((V.nth r20 0).toInt) - a)) : Int) < (IntKind.wrap .i64 (b' - ((V.nth r20 0).toInt)))) then
              (C F_slices_pdqsortCmpFunc_api_Edge_ [.int .i64 a, .int .i64 ((V.nth r20 0).toInt), .int .i64 limit_4, .list T_api_Edge ((V.nth (r20.drop 2) 0).toList)]).bind fun r21 =>
              kn (IntKind.wrap .i64 (((V.nth r20 0).toInt) + 1), b', limit_4, decide (((IntKind.wrap .i64 (((V.nth r20 0).toInt) - a)) : Int) ≥ (IntKind.wrap .i64 (Int.tdiv (IntKind.wrap .i64 (b' - a)) 8))), (V.nth (r20.drop 1) 0).toBool, (V.nth r21 0).toList)
             else
              (C F_slices_pdqsortCmpFunc_api_Edge_ [.int .i64 (IntKind.wrap .i64 (((V.nth r20 0).toInt) + 1)), .int .i64 b', .int .i64 limit_4, .list T_api_Edge ((V.nth (r20.drop 2) 0).toList)]).bind fun r22 =>
              kn (a, (V.nth r20 0).toInt, limit_4, decide (((IntKind.wrap .i64 (b' - ((V.nth r20 0).toInt))) : Int) ≥ (IntKind.wrap .i64 (Int.tdiv (IntKind.wrap .i64 (b' - a)) 8))), (V.nth (r20.drop 1) 0).toBool, (V.nth r22 0).toList)
theorem pdq4_eq (C : CallF) (a b' limit : Int) (wasBalanced wasPartitioned : Bool) (datas : List V) {β : Type} (kn : (Int × Int × Int × Bool × Bool × (List V)) → Option β) (kr : (List V) → Option β) :
   s_slices_pdqsortCmpFunc_api_Edge__4 C a b' limit wasBalanced wasPartitioned datas kn kr =
  bif decide (((IntKind.wrap .i64 (b' - a)) : Int) ≤ 12) then
   (C F_slices_insertionSortCmpFunc_api_Edge_ [.int .i64 a, .int .i64 b', .list T_api_Edge datas]).bind fun r1 =>
   kr ((V.nth r1 0).toList)
  else
   bif (limit : Int) == 0 then
    (C F_slices_heapSortCmpFunc_api_Edge_ [.int .i64 a, .int .i64 b', .list T_api_Edge datas]).bind fun r2 =>
    kr ((V.nth r2 0).toList)
   else
    s_slices_pdqsortCmpFunc_api_Edge__1 C a b' limit wasBalanced wasPartitioned (IntKind.wrap .i64 (b' - a)) (!wasBalanced) datas (un fun (limit_4 : Int) (datas_5 : List V) =>
      (C F_slices_choosePivotCmpFunc_api_Edge_ [.list T_api_Edge datas_5, .int .i64 a, .int .i64 b']).bind fun r6 =>
      s_slices_pdqsortCmpFunc_api_Edge__2 C a b' limit_4 wasBalanced wasPartitioned (IntKind.wrap .i64 (b' - a)) ((V.nth r6 0).toInt) ((V.nth (r6.drop 1) 0).toInt) ((((V.nth (r6.drop 1) 0).toInt) : Int) == 2) datas_5 (un fun (pivot_8 : Int) => un fun (hint_9 : Int) (datas_10 : List V) =>
        bif wasBalanced then
         bif wasPartitioned then
          s_slices_pdqsortCmpFunc_api_Edge__3 C a b' limit_4 wasBalanced wasPartitioned (IntKind.wrap .i64 (b' - a)) pivot_8 ((hint_9 : Int) == 1) datas_10 (way2 (fun (datas_12 : List V) => pdqRest C a b' wasBalanced wasPartitioned limit_4 pivot_8 datas_12 kn) (un fun (t_23 : Bool) (datas_24 : List V) =>
            kr datas_24))
         else
          s_slices_pdqsortCmpFunc_api_Edge__3 C a b' limit_4 wasBalanced wasPartitioned (IntKind.wrap .i64 (b' - a)) pivot_8 false datas_10 (way2 (fun (datas_25 : List V) => pdqRest C a b' wasBalanced wasPartitioned limit_4 pivot_8 datas_25 kn) (un fun (t_36 : Bool) (datas_37 : List V) =>
            kr datas_37))
        else
         s_slices_pdqsortCmpFunc_api_Edge__3 C a b' limit_4 wasBalanced wasPartitioned (IntKind.wrap .i64 (b' - a)) pivot_8 false datas_10 (way2 (fun (datas_38 : List V) => pdqRest C a b' wasBalanced wasPartitioned limit_4 pivot_8 datas_38 kn) (un fun (t_49 : Bool) (datas_50 : List V) =>
           kr datas_50)))) := rfl
section
variable {a b : Nat} {lim : Int} {wb wp : Bool}
theorem pd_1 {d : Array Ed} (hab : a + 12 < b) (hb : b ≤ d.size) (hs : d.size < 1152921504606846976) (len : Int) (t : Bool) : ∃ (l1 : Int) (d1 : Array Ed), PermIn a b d d1 ∧ ∀ (β : Type) (kr : (Int × List V) → Option β), s_slices_pdqsortCmpFunc_api_Edge__1 CC a b lim wb wp len t (eA d) kr = kr (l1, eA d1) := by
  cases t with
  | true =>
    obtain ⟨R, e, hR⟩ := break_spec hab hb hs
    refine ⟨IntKind.wrap .i64 (lim - 1), R, hR, fun β kr => ?_⟩
    unfold s_slices_pdqsortCmpFunc_api_Edge__1
    rw [cond_true, e]
    rfl
  | false => exact ⟨lim, d, permIn_refl _ _ _, fun β kr => rfl⟩
theorem pd_2 {d : Array Ed} (hab : a + 12 < b) (hb : b ≤ d.size) (hs : d.size < 1152921504606846976) (len h : Int) (t : Bool) {p : Nat} (h1 : a ≤ p) (h2 : p < b) : ∃ (p2 : Nat) (h2 : Int) (d1 : Array Ed), a ≤ p2 ∧ p2 < b ∧ PermIn a b d d1 ∧ ∀ (β : Type) (kr : (Int × Int × List V) → Option β), s_slices_pdqsortCmpFunc_api_Edge__2 CC a b lim wb wp len p h t (eA d) kr = kr ((p2 : Int), h2, eA d1) := by
  cases t with
  | true =>
    refine ⟨b - 1 - (p - a), 1, reverseRange d a b, by omega, by omega, reverseRange_holds d a b (by omega) hb, fun β kr => ?_⟩
    unfold s_slices_pdqsortCmpFunc_api_Edge__2
    rw [cond_true, rev_spec (by omega) hb hs]
    simp (disch := omega) only [Option.bind_some, V.nth_zero, V.toList_list, sub1C, subC, wrap64]
  | false => exact ⟨p, h, d, h1, h2, permIn_refl _ _ _, fun β kr => rfl⟩
theorem pd_3 {d : Array Ed} (hab : a + 12 < b) (hb : b ≤ d.size) (hs : d.size < 1152921504606846976) (hB : Below ltE a b d) (len p : Int) (t : Bool) : ∃ d1 : Array Ed, PermIn a b d d1 ∧
    ((∀ (β : Type) (kr : (List V ⊕ (Bool × List V)) → Option β), s_slices_pdqsortCmpFunc_api_Edge__3 CC a b lim wb wp len p t (eA d) kr = kr (.inl (eA d1))) ∨
    (SortedIn ltE a b d1 ∧ ∀ (β : Type) (kr : (List V ⊕ (Bool × List V)) → Option β), s_slices_pdqsortCmpFunc_api_Edge__3 CC a b lim wb wp len p t (eA d) kr = kr (.inr (true, eA d1)))) := by
  cases t with
  | true =>
    have hp := partialInsertionSort_holds (lt := ltE) swo_E d a b (by omega) hb hB
    refine ⟨_, hp.1, ?_⟩
    cases h : (partialInsertionSort ltE d a b).2 with
    | true =>
      refine .inr ⟨hp.2 h, fun β kr => ?_⟩
      unfold s_slices_pdqsortCmpFunc_api_Edge__3
      rw [cond_true, pins_spec (by omega) hb hs, h]
      rfl
    | false =>
      refine .inl fun β kr => ?_
      unfold s_slices_pdqsortCmpFunc_api_Edge__3
      rw [cond_true, pins_spec (by omega) hb hs, h]
      rfl
  | false => exact ⟨d, permIn_refl _ _ _, .inl fun β kr => rfl⟩
end
def Sorts (a b : Nat) (d : Array Ed) : Prop := ∀ (lim : Int) (wb wp : Bool), ∃ R, Loop (s_slices_pdqsortCmpFunc_api_Edge__4L CC) ((a : Int), (b : Int), lim, wb, wp, eA d) = some (eA R) ∧ PermIn a b d R ∧ SortedIn ltE a b R
theorem Sorts.call {a b : Nat} {d : Array Ed} (h : Sorts a b d) (lim : Int) : ∃ R, CC F_slices_pdqsortCmpFunc_api_Edge_ [.int .i64 (a : Int), .int .i64 (b : Int), .int .i64 lim, .list T_api_Edge (eA d)] = some [.list T_api_Edge (eA R)] ∧ PermIn a b d R ∧ SortedIn ltE a b R := by
  obtain ⟨R, e, h1, h2⟩ := h lim true true
  refine ⟨R, f_slices_pdqsortCmpFunc_api_Edge__of ?_, h1, h2⟩
  unfold f_slices_pdqsortCmpFunc_api_Edge_
  rw [e]
  rfl
theorem rest_spec {a b p : Nat} {d : Array Ed} (hab : a + 12 < b) (hb : b ≤ d.size) (hs : d.size < 1152921504606846976) (hB : Below ltE a b d) (h1 : a ≤ p) (h2 : p < b)
    (ih : ∀ (a2 b2 : Nat) (d2 : Array Ed), b2 - a2 < b - a → a2 ≤ b2 → b2 ≤ d2.size → d2.size < 1152921504606846976 → Below ltE a2 b2 d2 → Sorts a2 b2 d2) (wb wp : Bool) (lim : Int) :
    ∃ (a2 b2 : Nat) (wb2 wp2 : Bool) (d2 : Array Ed), b2 - a2 < b - a ∧ a2 ≤ b2 ∧ b2 ≤ d2.size ∧ d2.size < 1152921504606846976 ∧ Below ltE a2 b2 d2 ∧
      (∀ R, PermIn a2 b2 d2 R → SortedIn ltE a2 b2 R → PermIn a b d R ∧ SortedIn ltE a b R) ∧
      ∀ (β : Type) (kn : (Int × Int × Int × Bool × Bool × (List V)) → Option β), pdqRest CC a b wb wp lim p (eA d) kn = kn ((a2 : Int), (b2 : Int), lim, wb2, wp2, eA d2) := by
  have part : ∃ (a2 b2 : Nat) (wb2 wp2 : Bool) (d2 : Array Ed), b2 - a2 < b - a ∧ a2 ≤ b2 ∧ b2 ≤ d2.size ∧ d2.size < 1152921504606846976 ∧ Below ltE a2 b2 d2 ∧
      (∀ R, PermIn a2 b2 d2 R → SortedIn ltE a2 b2 R → PermIn a b d R ∧ SortedIn ltE a b R) ∧
      ∀ (β : Type) (kn : (Int × Int × Int × Bool × Bool × (List V)) → Option β),
        ((CC F_slices_partitionCmpFunc_api_Edge_ [.int .i64 (a : Int), .int .i64 (b : Int), .int .i64 (p : Int), .list T_api_Edge (eA d)]).bind fun r17 =>
                bif decide (((IntKind.wrap .i64 (((V.nth r17 0).toInt) - (a : Int))) : Int) < (IntKind.wrap .i64 ((b : Int) - ((V.nth r17 0).toInt)))) then
                 (CC F_slices_pdqsortCmpFunc_api_Edge_ [.int .i64 (a : Int), .int .i64 ((V.nth r17 0).toInt), .int .i64 lim, .list T_api_Edge ((V.nth (r17.drop 2) 0).toList)]).bind fun r18 =>
                 kn (IntKind.wrap .i64 (((V.nth r17 0).toInt) + 1), (b : Int), lim, decide (((IntKind.wrap .i64 (((V.nth r17 0).toInt) - (a : Int))) : Int) ≥ (IntKind.wrap .i64 (Int.tdiv (IntKind.wrap .i64 ((b : Int) - (a : Int))) 8))), (V.nth (r17.drop 1) 0).toBool, (V.nth r18 0).toList)
                else
                 (CC F_slices_pdqsortCmpFunc_api_Edge_ [.int .i64 (IntKind.wrap .i64 (((V.nth r17 0).toInt) + 1)), .int .i64 (b : Int), .int .i64 lim, .list T_api_Edge ((V.nth (r17.drop 2) 0).toList)]).bind fun r19 =>
                 kn ((a : Int), (V.nth r17 0).toInt, lim, decide (((IntKind.wrap .i64 ((b : Int) - ((V.nth r17 0).toInt))) : Int) ≥ (IntKind.wrap .i64 (Int.tdiv (IntKind.wrap .i64 ((b : Int) - (a : Int))) 8))), (V.nth (r17.drop 1) 0).toBool, (V.nth r19 0).toList)) = kn ((a2 : Int), (b2 : Int), lim, wb2, wp2, eA d2) := by
    obtain ⟨mid, ap, d4, hx⟩ : ∃ mid ap d4, partition ltE d a b p = (mid, ap, d4) := ⟨_, _, _, rfl⟩
    obtain ⟨g1, g2, hs4, hBa, hBr, hleft, hright⟩ := round_part swo_E (partition_holds ltE) h1 h2 hb hB hx
    have hc := part_spec (a := a) (b := b) (pivot := p) (d := d) h2 (by omega) hb hs
    rw [hx] at hc
    by_cases hl : mid - a < b - mid
    · obtain ⟨L, e, l1, l2⟩ := (ih a mid d4 (by omega) g1 (by rw [hs4]; omega) (by rw [hs4]; exact hs) hBa).call lim
      obtain ⟨hBL, hfin⟩ := hleft _ l1 l2
      refine ⟨mid + 1, b, decide (((IntKind.wrap .i64 ((mid : Int) - (a : Int))) : Int) ≥ (IntKind.wrap .i64 (Int.tdiv (IntKind.wrap .i64 ((b : Int) - (a : Int))) 8))), ap, L, by omega, by omega, by rw [l1.1, hs4]; exact hb, by rw [l1.1, hs4]; exact hs, hBL, hfin, fun β kn => ?_⟩
      · rw [hc]
        simp only [Option.bind_some, V.nth_zero, V.nth_succ, V.toInt_int, V.toBool_bool, V.toList_list, List.drop_succ_cons, List.drop_zero]
        rw [bif_decide, if_pos (by rw [subC g1, subC (by omega), wrap64 (by omega) (by omega), wrap64 (by omega) (by omega)]; omega), e]
        simp only [Option.bind_some, V.nth_zero, V.toList_list]
        rw [succC, wrap64 (x := ((mid + 1 : Nat) : Int)) (by omega) (by omega)]
    · obtain ⟨L, e, l1, l2⟩ := (ih (mid + 1) b d4 (by omega) (by omega) (by rw [hs4]; exact hb) (by rw [hs4]; exact hs) hBr).call lim
      obtain ⟨hBL, hfin⟩ := hright _ l1 l2
      refine ⟨a, mid, decide (((IntKind.wrap .i64 ((b : Int) - (mid : Int))) : Int) ≥ (IntKind.wrap .i64 (Int.tdiv (IntKind.wrap .i64 ((b : Int) - (a : Int))) 8))), ap, L, by omega, by omega, by rw [l1.1, hs4]; omega, by rw [l1.1, hs4]; exact hs, hBL, hfin, fun β kn => ?_⟩
      · rw [hc]
        simp only [Option.bind_some, V.nth_zero, V.nth_succ, V.toInt_int, V.toBool_bool, V.toList_list, List.drop_succ_cons, List.drop_zero]
        rw [bif_decide, if_neg (by rw [subC g1, subC (by omega), wrap64 (by omega) (by omega), wrap64 (by omega) (by omega)]; omega), succC, wrap64 (x := ((mid + 1 : Nat) : Int)) (by omega) (by omega), e]
        simp only [Option.bind_some, V.nth_zero, V.toList_list]
  by_cases ha : 0 < a
  · by_cases hc : cmpE d[a - 1]! d[p]! < 0
    · obtain ⟨a2, b2, wb2, wp2, d2, q1, q2, q3, q4, q5, q6, q7⟩ := part
      refine ⟨a2, b2, wb2, wp2, d2, q1, q2, q3, q4, q5, q6, fun β kn => ?_⟩
      rw [← q7 β kn]
      unfold pdqRest
      rw [bif_decide, if_pos (by omega), sub1C ha, wrap64 (by omega) (by omega), chk_eA (i := a - 1) (by omega), getB (by omega), chk_eA (i := p) (by omega), getB (by omega)]
      simp only [Ed.enc_0, Ed.enc_1, Ed.enc_2, compareEdges_spec, Option.bind_some, V.nth_zero, V.toInt_int]
      rw [bif_not, bif_decide, if_pos hc]
    · obtain ⟨mid, d4, hx⟩ : ∃ mid d4, partitionEqual ltE d a b p = (mid, d4) := ⟨_, _, rfl⟩
      obtain ⟨g1, hm2, hs4, hB4, hfin⟩ := round_eq swo_E (partitionEqual_holds ltE) ha h1 h2 hb hB (by rw [ltE_eqf, ← propext (cmpE_neg _ _)]; exact hc) hx
      have he := pequ_spec (a := a) (b := b) (pivot := p) (d := d) h2 (by omega) hb hs
      rw [hx] at he
      refine ⟨mid, b, wb, wp, d4, by omega, hm2, by rw [hs4]; exact hb, by rw [hs4]; exact hs, hB4, hfin, fun β kn => ?_⟩
      unfold pdqRest
      rw [bif_decide, if_pos (by omega), sub1C ha, wrap64 (by omega) (by omega), chk_eA (i := a - 1) (by omega), getB (by omega), chk_eA (i := p) (by omega), getB (by omega)]
      simp only [Ed.enc_0, Ed.enc_1, Ed.enc_2, compareEdges_spec, Option.bind_some, V.nth_zero, V.toInt_int]
      rw [bif_not, bif_decide, if_neg hc, he]
      rfl
  · obtain ⟨a2, b2, wb2, wp2, d2, q1, q2, q3, q4, q5, q6, q7⟩ := part
    refine ⟨a2, b2, wb2, wp2, d2, q1, q2, q3, q4, q5, q6, fun β kn => ?_⟩
    rw [← q7 β kn]
    unfold pdqRest
    rw [bif_decide, if_neg (by omega)]
theorem pdq_main : ∀ (n a b : Nat) (d : Array Ed), b - a ≤ n → a ≤ b → b ≤ d.size → d.size < 1152921504606846976 → Below ltE a b d → Sorts a b d := by
  intro n
  induction n with
  | zero =>
    intro a b d hn hab hb hs hB lim wb wp
    have hi := insertionSort_holds (lt := ltE) swo_E d a b hab hb
    refine ⟨_, Loop_end ?_, hi⟩
    show s_slices_pdqsortCmpFunc_api_Edge__4 CC a b lim wb wp (eA d) (fun y => some (Sum.inl y)) (fun r => some (Sum.inr r)) = _
    rw [pdq4_eq, bif_decide, if_pos (by rw [subC hab, wrap64 (by omega) (by omega)]; omega), ins_spec hb hs (by omega)]
    rfl
  | succ n ih =>
    intro a b d hn hab hb hs hB lim wb wp
    by_cases h12 : b - a ≤ 12
    · have hi := insertionSort_holds (lt := ltE) swo_E d a b hab hb
      refine ⟨_, Loop_end ?_, hi⟩
      show s_slices_pdqsortCmpFunc_api_Edge__4 CC a b lim wb wp (eA d) (fun y => some (Sum.inl y)) (fun r => some (Sum.inr r)) = _
      rw [pdq4_eq, bif_decide, if_pos (by rw [subC hab, wrap64 (by omega) (by omega)]; omega), ins_spec hb hs (by omega)]
      rfl
    · have hab' : a + 12 < b := by omega
      have e12 : ¬ (((IntKind.wrap .i64 ((b : Int) - (a : Int))) : Int) ≤ 12) := by rw [subC hab, wrap64 (by omega) (by omega)]; omega
      by_cases h0 : lim = 0
      · have hi := heapSort_holds (lt := ltE) swo_E d a b hab hb
        refine ⟨_, Loop_end ?_, hi⟩
        show s_slices_pdqsortCmpFunc_api_Edge__4 CC a b lim wb wp (eA d) (fun y => some (Sum.inl y)) (fun r => some (Sum.inr r)) = _
        rw [pdq4_eq, bif_decide, if_neg e12, bif_beq, if_pos h0, heap_spec (by omega) hb hs]
        rfl
      · obtain ⟨l1, d1, s1, k1⟩ := pd_1 (lim := lim) (wb := wb) (wp := wp) hab' hb hs (IntKind.wrap .i64 ((b : Int) - (a : Int))) (!wb)
        have b1 : b ≤ d1.size := by rw [s1.1]; exact hb
        have z1 : d1.size < 1152921504606846976 := by rw [s1.1]; exact hs
        obtain ⟨p, h, c1, p1, p2⟩ := choose_spec' hab' b1 z1
        obtain ⟨q, h2, d2, q1, q2, s2, k2⟩ := pd_2 (lim := l1) (wb := wb) (wp := wp) hab' b1 z1 (IntKind.wrap .i64 ((b : Int) - (a : Int))) h (h == 2) p1 p2
        have b2 : b ≤ d2.size := by rw [s2.1]; exact b1
        have z2 : d2.size < 1152921504606846976 := by rw [s2.1]; exact z1
        have B2 : Below ltE a b d2 := (hB.perm hb s1).perm b1 s2
        obtain ⟨t, ht⟩ : ∃ t : Bool, t = (bif wb then (bif wp then (h2 == 1) else false) else false) := ⟨_, rfl⟩
        obtain ⟨d3, s3, k3⟩ := pd_3 (lim := l1) (wb := wb) (wp := wp) hab' b2 z2 B2 (IntKind.wrap .i64 ((b : Int) - (a : Int))) (q : Int) t
        have b3 : b ≤ d3.size := by rw [s3.1]; exact b2
        have z3 : d3.size < 1152921504606846976 := by rw [s3.1]; exact z2
        have B3 : Below ltE a b d3 := B2.perm b2 s3
        have P3 : PermIn a b d d3 := permIn_trans _ _ _ a b (permIn_trans _ _ _ a b s1 s2) s3
        have step : ∀ (β : Type) (kn : (Int × Int × Int × Bool × Bool × (List V)) → Option β) (kr : (List V) → Option β), s_slices_pdqsortCmpFunc_api_Edge__4 CC a b lim wb wp (eA d) kn kr =
            s_slices_pdqsortCmpFunc_api_Edge__3 CC a b l1 wb wp (IntKind.wrap .i64 ((b : Int) - (a : Int))) (q : Int) t (eA d2) (way2 (fun (datas_12 : List V) => pdqRest CC a b wb wp l1 q datas_12 kn) (un fun (t_23 : Bool) (datas_24 : List V) => kr datas_24)) := by
          intro β kn kr
          rw [pdq4_eq, bif_decide, if_neg e12, bif_beq, if_neg h0, k1]
          simp only [un]
          rw [c1]
          simp only [Option.bind_some, V.nth_zero, V.nth_succ, V.toInt_int, List.drop_succ_cons, List.drop_zero]
          rw [k2]
          simp only [un]
          rw [ht]
          cases wb
          · rfl
          · cases wp
            · rfl
            · rfl
        rcases k3 with k3 | ⟨k3s, k3⟩
        · obtain ⟨a4, b4, wb4, wp4, d4, r1, r2, r3, r4, r5, r6, r7⟩ := rest_spec hab' b3 z3 B3 q1 q2 (fun a2 b2 d2 hlt h1 h2 h3 h4 => ih a2 b2 d2 (by omega) h1 h2 h3 h4) wb wp l1
          obtain ⟨R, e, e1, e2⟩ := ih a4 b4 d4 (by omega) r2 r3 r4 r5 l1 wb4 wp4
          obtain ⟨f1, f2⟩ := r6 R e1 e2
          refine ⟨R, (Loop_norm ?_).trans e, permIn_trans _ _ _ a b P3 f1, f2⟩
          show s_slices_pdqsortCmpFunc_api_Edge__4 CC a b lim wb wp (eA d) (fun y => some (Sum.inl y)) (fun r => some (Sum.inr r)) = _
          rw [step, k3]
          exact r7 _ (fun y => some (Sum.inl y))
        · refine ⟨d3, Loop_end ?_, P3, k3s⟩
          show s_slices_pdqsortCmpFunc_api_Edge__4 CC a b lim wb wp (eA d) (fun y => some (Sum.inl y)) (fun r => some (Sum.inr r)) = _
          rw [step, k3]
          rfl
theorem sortE_spec (l : List Ed) (hs : l.length < 1152921504606846976) : ∃ R : List Ed, CC F_slices_SortFunc___api_Edge_api_Edge_ [.list T_api_Edge (l.map Ed.enc)] = some [.list T_api_Edge (R.map Ed.enc)] ∧ R.Perm l ∧ R.Pairwise (fun x y => ¬ y.lt x) := by
  obtain ⟨L, e1, _⟩ := Len_spec (x := l.length) (by omega)
  obtain ⟨R, e2, h1, h2⟩ := (pdq_main _ 0 l.toArray.size l.toArray (Nat.le_refl _) (Nat.zero_le _) (Nat.le_refl _) (by simpa using hs) (.inl rfl)).call (L : Int)
  have hsz : R.size = l.length := by rw [h1.1]; simp
  refine ⟨R.toList, f_slices_SortFunc___api_Edge_api_Edge__of ?_, ?_, ?_⟩
  · unfold f_slices_SortFunc___api_Edge_api_Edge_
    rw [List.length_map, wrapu64 (A := l.length) (by omega), e1]
    simp only [Option.bind_some, V.nth_zero, V.toInt_int]
    have e3 : eA l.toArray = l.map Ed.enc := by simp [encA]
    rw [e3, show ((l.toArray.size : Nat) : Int) = (l.length : Int) by simp, show ((0 : Nat) : Int) = 0 from rfl] at e2
    rw [e2]
    rfl
  · have h3 := h1.2.2
    rw [show l.toArray.size = R.size from h1.1.symm, Array.extract_size, h1.1, Array.extract_size] at h3
    exact h3
  · rw [List.pairwise_iff_getElem]
    intro i j hi hj hij
    have h3 := h2 i j (Nat.zero_le _) hij (by simpa [← hsz] using hj)
    rw [ltE_eqf] at h3
    have hi' : i < R.size := by simpa using hi
    have hj' : j < R.size := by simpa using hj
    rw [getElem!_pos R i hi', getElem!_pos R j hj'] at h3
    simpa using h3
end Go.AM
set_option maxRecDepth 100000
namespace Go.AM
open Go.Proofs
noncomputable abbrev B_semigroupref06_Sorted : Code := bodyOf Tryd.prog (ann.fid 48)
noncomputable def s_semigroupref06_Sorted_1 (C : CallF) (t7 : List V) (t8 t9 : Int) (outs : List V) (es_0 es_1 es_2 k' : Int) {β : Type} (kn : Int → Option β) (kr : (Int × Bool) → Option β) : Option β :=
  bif decide ((k' : Int) > 0) then
   bif (decide (0 ≤ (IntKind.wrap .i64 (k' - 1)))) && (decide ((IntKind.wrap .i64 (k' - 1)) < (outs.length : Int))) then
    (outs[(IntKind.wrap .i64 (k' - 1) : Int).toNat]?).bind fun x2 =>
    (C F_semigroupref06_before [.int .i64 es_0, .int .i64 es_1, .int .i64 es_2, .int .i64 ((x2.cell 0).toInt), .int .i64 ((x2.cell 1).toInt), .int .i64 ((x2.cell 2).toInt)]).bind fun r3 =>
    bif (V.nth r3 0).toBool then
     kn (IntKind.wrap .i64 (k' - 1))
    else
     kr (k', (V.nth r3 0).toBool)
   else none
  else
   kr (k', false)
noncomputable def s_semigroupref06_Sorted_1L (C : CallF) (t7 : List V) (t8 t9 : Int) (outs : List V) (es_0 es_1 es_2 : Int) : (Int) → Option ((Int) ⊕ (Int × Bool)) := fun k' => s_semigroupref06_Sorted_1 C t7 t8 t9 outs es_0 es_1 es_2 k' (fun y => some (.inl y)) (fun r => some (.inr r))
noncomputable def s_semigroupref06_Sorted_2 (C : CallF) (t7 : List V) (t8 t9 : Int) (outs : List V) {β : Type} (kn : (Int × (List V)) → Option β) (kr : (Int × Bool × (List V)) → Option β) : Option β :=
  bif decide ((t9 : Int) < t8) then
   (idx t7 t9).bind fun x1 =>
   (Loop (s_semigroupref06_Sorted_1L C t7 t8 t9 outs ((x1.cell 0).toInt) ((x1.cell 1).toInt) ((x1.cell 2).toInt)) (outs.length : Int)).bind (un fun (k_4 : Int) (t_5 : Bool) =>
     bif (k_4 : Int) == 0 then
      bif (decide (0 ≤ k_4)) && (decide (k_4 ≤ (outs.length : Int))) then
       bif Nat.ble ((([] : List V).length + ((outs.drop 0).take (((k_4 : Int).toNat) - 0)).length) * 24) maxBytes then
        bif Nat.ble (((([] : List V) ++ ((outs.drop 0).take (((k_4 : Int).toNat) - 0))).length + ([.agg [.int .i64 ((x1.cell 0).toInt), .int .i64 ((x1.cell 1).toInt), .int .i64 ((x1.cell 2).toInt)]] : List V).length) * 24) maxBytes then
         bif (decide (0 ≤ k_4)) && (decide (k_4 ≤ (outs.length : Int))) then
          bif Nat.ble ((((([] : List V) ++ ((outs.drop 0).take (((k_4 : Int).toNat) - 0))) ++ ([.agg [.int .i64 ((x1.cell 0).toInt), .int .i64 ((x1.cell 1).toInt), .int .i64 ((x1.cell 2).toInt)]] : List V)).length + ((outs.drop ((k_4 : Int).toNat)).take (outs.length - ((k_4 : Int).toNat))).length) * 24) maxBytes then
           kn (IntKind.wrap .i64 (t9 + 1), ((([] : List V) ++ ((outs.drop 0).take (((k_4 : Int).toNat) - 0))) ++ ([.agg [.int .i64 ((x1.cell 0).toInt), .int .i64 ((x1.cell 1).toInt), .int .i64 ((x1.cell 2).toInt)]] : List V)) ++ ((outs.drop ((k_4 : Int).toNat)).take (outs.length - ((k_4 : Int).toNat))))
          else none
         else none
        else none
       else none
      else none
     else
      bif (decide (0 ≤ (IntKind.wrap .i64 (k_4 - 1)))) && (decide ((IntKind.wrap .i64 (k_4 - 1)) < (outs.length : Int))) then
       (outs[(IntKind.wrap .i64 (k_4 - 1) : Int).toNat]?).bind fun x6 =>
       bif !(((((x6.cell 0).toInt) : Int) == ((x1.cell 0).toInt)) && (((((x6.cell 1).toInt) : Int) == ((x1.cell 1).toInt)) && (((((x6.cell 2).toInt) : Int) == ((x1.cell 2).toInt)) && true))) then
        bif (decide (0 ≤ k_4)) && (decide (k_4 ≤ (outs.length : Int))) then
         bif Nat.ble ((([] : List V).length + ((outs.drop 0).take (((k_4 : Int).toNat) - 0)).length) * 24) maxBytes then
          bif Nat.ble (((([] : List V) ++ ((outs.drop 0).take (((k_4 : Int).toNat) - 0))).length + ([.agg [.int .i64 ((x1.cell 0).toInt), .int .i64 ((x1.cell 1).toInt), .int .i64 ((x1.cell 2).toInt)]] : List V).length) * 24) maxBytes then
           bif (decide (0 ≤ k_4)) && (decide (k_4 ≤ (outs.length : Int))) then
            bif Nat.ble ((((([] : List V) ++ ((outs.drop 0).take (((k_4 : Int).toNat) - 0))) ++ ([.agg [.int .i64 ((x1.cell 0).toInt), .int .i64 ((x1.cell 1).toInt), .int .i64 ((x1.cell 2).toInt)]] : List V)).length + ((outs.drop ((k_4 : Int).toNat)).take (outs.length - ((k_4 : Int).toNat))).length) * 24) maxBytes then
             kn (IntKind.wrap .i64 (t9 + 1), ((([] : List V) ++ ((outs.drop 0).take (((k_4 : Int).toNat) - 0))) ++ ([.agg [.int .i64 ((x1.cell 0).toInt), .int .i64 ((x1.cell 1).toInt), .int .i64 ((x1.cell 2).toInt)]] : List V)) ++ ((outs.drop ((k_4 : Int).toNat)).take (outs.length - ((k_4 : Int).toNat))))
            else none
           else none
          else none
         else none
        else none
       else
        kn (IntKind.wrap .i64 (t9 + 1), outs)
      else none)
  else
   kr (t9, decide ((t9 : Int) < t8), outs)
noncomputable def s_semigroupref06_Sorted_2L (C : CallF) (t7 : List V) (t8 : Int) : (Int × (List V)) → Option ((Int × (List V)) ⊕ (Int × Bool × (List V))) := un fun t9 outs => s_semigroupref06_Sorted_2 C t7 t8 t9 outs (fun y => some (.inl y)) (fun r => some (.inr r))
noncomputable def LT_semigroupref06_Sorted (C : CallF) : LTab := fun β n ds k =>
  bif Nat.beq n 97 then loopS S48_97 [true, false, false, false, false, false, false, false] [[0, 2, 3, 4, 0, 5, 6, 7, 8]] (@s_semigroupref06_Sorted_1 C) ds k else
  bif Nat.beq n 49 then loopS S48_49 [false, false, true, true] [[1, 2, 0, 0, 0]] (@s_semigroupref06_Sorted_2 C) ds k else
  none
abbrev TS_semigroupref06_Sorted (C : CallF) (b : Bar) : Prop := Tells Tryd.prog ann C (LT_semigroupref06_Sorted C) 48 (ntmpsOf Tryd.prog (ann.fid 48)) (ann.sin 48).blks.length b
theorem t_semigroupref06_Sorted_1 (C : CallF) : TS_semigroupref06_Sorted C (.loop (codeAt [1, 1, 0, 1, 0, 0, 1, 1, 0, 0, 1, 1, 0, 0, 0] B_semigroupref06_Sorted)) :=
  tl3 S48_97 [true, false, false, false, false, false, false, false] [[0, 2, 3, 4, 0, 5, 6, 7, 8]] (@s_semigroupref06_Sorted_1 C) (by kernel_rfl) (ltok_of (bs := []) (by kernel_rfl) tells_nil) (fun ds => by kernel_rfl) (fun i x => by kernel_rfl) (fun i x β k => by kernel_rfl) (fun β ds k => by kernel_rfl)
theorem t_semigroupref06_Sorted_2 (C : CallF) : TS_semigroupref06_Sorted C (.loop (codeAt [1, 1, 0, 1, 0, 0] B_semigroupref06_Sorted)) :=
  tl3 S48_49 [false, false, true, true] [[1, 2, 0, 0, 0]] (@s_semigroupref06_Sorted_2 C) (by kernel_rfl) (ltok_of (bs := [.loop (codeAt [1, 1, 0, 1, 0, 0, 1, 1, 0, 0, 1, 1, 0, 0, 0] B_semigroupref06_Sorted)]) (by kernel_rfl) (tells_cons (t_semigroupref06_Sorted_1 C) tells_nil)) (fun ds => by kernel_rfl) (fun i x => by kernel_rfl) (fun i x β k => by kernel_rfl) (fun β ds k => by kernel_rfl)
noncomputable def f_semigroupref06_Sorted (C : CallF) (l : List V) : Option (List V) :=
  (Loop (s_semigroupref06_Sorted_2L C l (l.length : Int)) (0, ([] : List V))).bind (un fun (t_7 : Int) => un fun (t_8 : Bool) (outs_9 : List V) =>
    some [.list T_api_Edge outs_9])
theorem f_semigroupref06_Sorted_of {l : List V} {r : Option (List V)} (h : f_semigroupref06_Sorted CC l = r) : CC F_semigroupref06_Sorted [.list T_api_Edge l] = r :=
  func_of (key := 48) (L := LT_semigroupref06_Sorted CC) (bs := [.loop (codeAt [1, 1, 0, 1, 0, 0] B_semigroupref06_Sorted)]) (by kernel_rfl) (tells_cons (t_semigroupref06_Sorted_2 CC) tells_nil) (Eq.trans (by kernel_rfl) h)
end Go.AM
set_option maxRecDepth 100000
set_option linter.unusedSimpArgs false
set_option maxHeartbeats 1000000
namespace Go.AM
open Go.Proofs
theorem Ed.lt_irrefl (a : Ed) : ¬ a.lt a := by unfold Ed.lt; omega
theorem Ed.lt_trans {a b c : Ed} : a.lt b → b.lt c → a.lt c := by unfold Ed.lt; omega
theorem Ed.lt_asymm {a b : Ed} : a.lt b → ¬ b.lt a := by unfold Ed.lt; omega
theorem Ed.lt_tri {a b : Ed} (h1 : ¬ a.lt b) (h2 : ¬ b.lt a) : a = b := by
  cases a; cases b
  simp only [Ed.lt, Ed.mk.injEq] at *
  omega
abbrev Srt (E : List Ed) : Prop := E.Pairwise Ed.lt
theorem srt_of_next {E : List Ed} (h : ∀ i, i + 1 < E.length → (E.getD i default).lt (E.getD (i + 1) default)) : Srt E := by
  rw [Srt, List.pairwise_iff_getElem]
  intro i j hi hj hij
  have : ∀ d i, i + d + 1 < E.length → (E.getD i default).lt (E.getD (i + d + 1) default) := by
    intro d
    induction d with
    | zero => intro i hi; exact h i hi
    | succ d ih => intro i hi; exact Ed.lt_trans (ih i (by omega)) (by have := h (i + d + 1) (by omega); exact this)
  have h1 := this (j - i - 1) i (by omega)
  rw [show i + (j - i - 1) + 1 = j by omega] at h1
  simpa [hi, hj] using h1
theorem Nf.srt {n : Nf} (h : n.code = 0) : Srt n.E := by
  unfold Nf.code at h
  split at h
  · omega
  split at h
  · omega
  split at h
  · rename_i h3
    refine srt_of_next fun i hi => ?_
    have := (h3 (i + 1) hi).2 (by omega)
    simpa using this
  · omega
def Ed.key (e : Ed) : Nat := (e.f.toNat * 6 + e.l.toNat) * 64 + e.t.toNat
theorem Ed.key_lt {a b : Ed} {L S : Int} (hL : L ≤ 6) (hS : S ≤ 64) (ha : a.In L S) (hb : b.In L S) (h : a.lt b) : a.key < b.key := by
  unfold Ed.In at ha hb
  unfold Ed.lt at h
  unfold Ed.key
  omega
theorem key_ge {L S : Int} (hL : L ≤ 6) (hS : S ≤ 64) : ∀ (E : List Ed), Srt E → (∀ e ∈ E, e.In L S) → ∀ i (hi : i < E.length), i ≤ E[i].key := by
  intro E h hE i
  induction i with
  | zero => intro hi; omega
  | succ i ih =>
    intro hi
    have h1 := ih (by omega)
    have h2 := (List.pairwise_iff_getElem.1 h) i (i + 1) (by omega) hi (by omega)
    have := Ed.key_lt hL hS (hE _ (List.getElem_mem _)) (hE _ (List.getElem_mem _)) h2
    omega
theorem srt_len {L S : Int} (hL : L ≤ 6) (hS : S ≤ 64) {E : List Ed} (h : Srt E) (hE : ∀ e ∈ E, e.In L S) : E.length ≤ 24576 := by
  by_cases h0 : E.length = 0
  · omega
  · have h1 := key_ge hL hS E h hE (E.length - 1) (by omega)
    have h2 := hE E[E.length - 1] (List.getElem_mem _)
    unfold Ed.In at h2
    unfold Ed.key at h1
    omega
theorem srt_ext : ∀ {A B : List Ed}, Srt A → Srt B → (∀ x, x ∈ A ↔ x ∈ B) → A = B
  | [], [], _, _, _ => rfl
  | [], b :: B, _, _, h => by have := (h b).2 (by simp); cases this
  | a :: A, [], _, _, h => by have := (h a).1 (by simp); cases this
  | a :: A, b :: B, hA, hB, h => by
    have a1 := List.pairwise_cons.1 hA
    have b1 := List.pairwise_cons.1 hB
    have hab : a = b := by
      have ha := (h a).1 (by simp)
      have hb := (h b).2 (by simp)
      rcases List.mem_cons.1 ha with e | e
      · exact e
      · rcases List.mem_cons.1 hb with e' | e'
        · exact e'.symm
        · exact absurd (a1.1 b e') (Ed.lt_asymm (b1.1 a e))
    subst hab
    rw [srt_ext a1.2 b1.2 fun x => ?_]
    constructor
    · intro hx
      rcases List.mem_cons.1 ((h x).1 (by simp [hx])) with e | e
      · subst e; exact absurd (a1.1 x hx) (Ed.lt_irrefl x)
      · exact e
    · intro hx
      rcases List.mem_cons.1 ((h x).2 (by simp [hx])) with e | e
      · subst e; exact absurd (b1.1 x hx) (Ed.lt_irrefl x)
      · exact e
theorem srt_nodup {E : List Ed} (h : Srt E) : E.Nodup := List.Pairwise.imp (fun hab e => by subst e; exact Ed.lt_irrefl _ hab) h
theorem srt_of_sort {R l : List Ed} (hp : R.Perm l) (hn : l.Nodup) (hs : R.Pairwise (fun x y => ¬ y.lt x)) : Srt R := by
  have hn' : R.Nodup := hp.nodup_iff.2 hn
  refine List.Pairwise.imp₂ (fun a b h1 h2 => ?_) hs hn'
  by_cases h : a.lt b
  · exact h
  · exact absurd (Ed.lt_tri h h1) h2
def posE (out : List Ed) (e : Ed) : Nat → Nat
  | 0 => 0
  | k + 1 => if e.lt (out.getD k default) then posE out e k else k + 1
def insE (out : List Ed) (e : Ed) : List Ed :=
  if posE out e out.length = 0 ∨ ¬ out.getD (posE out e out.length - 1) default = e then out.take (posE out e out.length) ++ [e] ++ out.drop (posE out e out.length) else out
def sortedN (l : List Ed) : List Ed := l.foldl insE []
theorem posE_le (out : List Ed) (e : Ed) : ∀ k, posE out e k ≤ k
  | 0 => Nat.le_refl _
  | k + 1 => by unfold posE; split; exact Nat.le_succ_of_le (posE_le out e k); exact Nat.le_refl _
theorem posE_up (out : List Ed) (e : Ed) : ∀ k i, posE out e k ≤ i → i < k → e.lt (out.getD i default)
  | 0, i, _, h => by omega
  | k + 1, i, h1, h2 => by
    unfold posE at h1
    split at h1
    · rename_i h3
      by_cases hi : i = k
      · subst hi; exact h3
      · exact posE_up out e k i h1 (by omega)
    · omega
theorem posE_dn (out : List Ed) (e : Ed) : ∀ k, posE out e k ≠ 0 → ¬ e.lt (out.getD (posE out e k - 1) default)
  | 0, h => by simp [posE] at h
  | k + 1, h => by
    unfold posE at h ⊢
    split
    · rename_i h3
      rw [if_pos h3] at h
      exact posE_dn out e k h
    · rename_i h3
      simpa using h3
theorem insE_mem {out : List Ed} {e x : Ed} (hk : posE out e out.length ≤ out.length) : x ∈ insE out e ↔ x = e ∨ x ∈ out := by
  unfold insE
  split
  · rename_i h
    have := List.take_append_drop (posE out e out.length) out
    constructor
    · intro hx
      simp only [List.append_assoc, List.mem_append, List.mem_singleton] at hx
      rcases hx with hx | hx | hx
      · exact .inr (List.mem_of_mem_take hx)
      · exact .inl hx
      · exact .inr (List.mem_of_mem_drop hx)
    · rintro (rfl | hx)
      · simp
      · rw [← this] at hx
        simp only [List.mem_append] at hx
        simp only [List.append_assoc, List.mem_append, List.mem_singleton]
        rcases hx with hx | hx
        · exact .inl hx
        · exact .inr (.inr hx)
  · rename_i h
    simp only [not_or, Classical.not_not] at h
    constructor
    · exact .inr
    · rintro (rfl | hx)
      · have h1 := h.2
        have h2 : posE out x out.length - 1 < out.length := by omega
        rw [← h1]
        simp [h2]
      · exact hx
theorem insE_srt {out : List Ed} {e : Ed} (h : Srt out) : Srt (insE out e) := by
  have hk := posE_le out e out.length
  have up := posE_up out e out.length
  have dn := posE_dn out e out.length
  unfold insE
  generalize hq : posE out e out.length = k at *
  split
  · rename_i hc
    have g := List.pairwise_iff_getElem.1 h
    have hlo : ∀ x ∈ out.take k, x.lt e := by
      intro x hx
      obtain ⟨i, hi, rfl⟩ := List.getElem_of_mem hx
      have hi' : i < k := by rw [List.length_take] at hi; omega
      have hil : i < out.length := by omega
      rw [List.getElem_take]
      have hk0 : k ≠ 0 := by omega
      have h1 := dn hk0
      have h2 : ¬ out.getD (k - 1) default = e := by
        rcases hc with hc | hc
        · exact absurd hc hk0
        · exact hc
      have hkl : k - 1 < out.length := by omega
      have e1 : out.getD (k - 1) default = out[k - 1] := by simp [hkl]
      rw [e1] at h1 h2
      have h3 : out[k - 1].lt e := by
        by_cases h4 : out[k - 1].lt e
        · exact h4
        · exact absurd (Ed.lt_tri h4 h1) h2
      by_cases hik : i = k - 1
      · subst hik; exact h3
      · exact Ed.lt_trans (g i (k - 1) hil hkl (by omega)) h3
    have hhi : ∀ y ∈ out.drop k, e.lt y := by
      intro y hy
      obtain ⟨i, hi, rfl⟩ := List.getElem_of_mem hy
      rw [List.length_drop] at hi
      rw [List.getElem_drop]
      have := up (k + i) (by omega) (by omega)
      have e1 : out.getD (k + i) default = out[k + i] := by simp [show k + i < out.length by omega]
      rwa [e1] at this
    rw [Srt, List.append_assoc, List.pairwise_append]
    refine ⟨h.sublist (List.take_sublist _ _), ?_, ?_⟩
    · rw [List.singleton_append, List.pairwise_cons]
      exact ⟨hhi, h.sublist (List.drop_sublist _ _)⟩
    · intro x hx y hy
      rw [List.singleton_append, List.mem_cons] at hy
      rcases hy with rfl | hy
      · exact hlo x hx
      · exact Ed.lt_trans (hlo x hx) (hhi y hy)
  · exact h
theorem insFold : ∀ (l out : List Ed), Srt out → Srt (l.foldl insE out) ∧ ∀ x, x ∈ l.foldl insE out ↔ x ∈ l ∨ x ∈ out
  | [], out, h => ⟨h, by simp⟩
  | e :: l, out, h => by
    obtain ⟨h1, h2⟩ := insFold l (insE out e) (insE_srt h)
    refine ⟨h1, fun x => ?_⟩
    rw [List.foldl_cons, h2, insE_mem (posE_le _ _ _)]
    simp only [List.mem_cons]
    constructor
    · rintro (h | h | h)
      · exact .inl (.inr h)
      · exact .inl (.inl h)
      · exact .inr h
    · rintro ((h | h) | h)
      · exact .inr (.inl h)
      · exact .inl h
      · exact .inr (.inr h)
theorem sortedN_srt (l : List Ed) : Srt (sortedN l) := (insFold l [] List.Pairwise.nil).1
theorem sortedN_mem {l : List Ed} {x : Ed} : x ∈ sortedN l ↔ x ∈ l := by
  have := (insFold l [] List.Pairwise.nil).2 x
  simpa [sortedN] using this
theorem insE_len (out : List Ed) (e : Ed) : (insE out e).length ≤ out.length + 1 := by
  unfold insE
  have := posE_le out e out.length
  split
  · simp only [List.length_append, List.length_take, List.length_drop, List.length_cons, List.length_nil]; omega
  · omega
theorem sorted_1 {out : List Ed} {e : Ed} {t7 : List V} {t8 t9 : Int} : ∀ k, k ≤ out.length → out.length < 1152921504606846976 → ∃ t, Loop (s_semigroupref06_Sorted_1L CC t7 t8 t9 (out.map Ed.enc) e.f e.l e.t) (k : Int) = some (((posE out e k : Nat) : Int), t)
  | 0, _, _ => ⟨false, Loop_end (by
      simp (disch := omega) only [s_semigroupref06_Sorted_1L, s_semigroupref06_Sorted_1, bif_decide, if_neg]
      rfl)⟩
  | k + 1, hk, hs => by
    obtain ⟨t, ih⟩ := sorted_1 (out := out) (e := e) (t7 := t7) (t8 := t8) (t9 := t9) k (by omega) hs
    have e1 : s_semigroupref06_Sorted_1L CC t7 t8 t9 (out.map Ed.enc) e.f e.l e.t ((k + 1 : Nat) : Int) = bif decide (e.lt (out.getD k default)) then some (.inl (k : Int)) else some (.inr (((k + 1 : Nat) : Int), decide (e.lt (out.getD k default)))) := by
      simp only [s_semigroupref06_Sorted_1L, s_semigroupref06_Sorted_1]
      rw [bif_decide, if_pos (by omega), predC, wrap64 (by omega) (by omega), bif_and, bif_decide, if_pos (by omega), bif_decide, if_pos (by rw [List.length_map]; omega), Int.toNat_natCast]
      have hg : (out.map Ed.enc)[k]? = some (out.getD k default).enc := by
        rw [List.getElem?_map, List.getElem?_eq_getElem (by omega)]; simp [show k < out.length by omega]
      rw [hg]
      simp only [Option.bind_some, Ed.enc_0, Ed.enc_1, Ed.enc_2, before_spec, V.nth_zero, V.toBool_bool]
    unfold posE
    by_cases h : e.lt (out.getD k default)
    · rw [if_pos h]
      rw [decide_eq_true h, cond_true] at e1
      exact ⟨t, (Loop_norm e1).trans ih⟩
    · rw [if_neg h]
      rw [decide_eq_false h, cond_false] at e1
      exact ⟨_, Loop_end e1⟩
theorem edeq (a b : Ed) : ((a.f == b.f) && ((a.l == b.l) && ((a.t == b.t) && true))) = decide (a = b) := by
  cases a; cases b
  rw [Bool.eq_iff_iff]
  simp
theorem takeDrop (out : List Ed) (k : Nat) (e : Ed) : ((([] : List V) ++ (((out.map Ed.enc).drop 0).take (k - 0))) ++ ([e.enc] : List V)) ++ (((out.map Ed.enc).drop k).take ((out.map Ed.enc).length - k)) = (out.take k ++ [e] ++ out.drop k).map Ed.enc := by
  simp
  rw [List.take_of_length_le (by simp)]
theorem Sorted_spec {l : List Ed} (hl : l.length ≤ 1000000000) : CC F_semigroupref06_Sorted [.list T_api_Edge (l.map Ed.enc)] = some [.list T_api_Edge ((sortedN l).map Ed.enc)] := by
  refine f_semigroupref06_Sorted_of ?_
  unfold f_semigroupref06_Sorted
  have := Loop_foldI (step := s_semigroupref06_Sorted_2L CC (l.map Ed.enc) ((l.map Ed.enc).length : Int)) l (fun i (out : List Ed) => ((i : Int), out.map Ed.enc)) insE (fun out => ((l.length : Int), false, out.map Ed.enc)) (fun i out => out.length ≤ i) ?_ ?_ [] (Nat.le_refl _)
  · rw [show Loop (s_semigroupref06_Sorted_2L CC (l.map Ed.enc) ((l.map Ed.enc).length : Int)) (0, ([] : List V)) = _ from this.1]
    rfl
  · intro i out hi ho
    refine ⟨?_, Nat.le_trans (insE_len _ _) (by omega)⟩
    obtain ⟨t, h1⟩ := sorted_1 (out := out) (e := l[i]) (t7 := l.map Ed.enc) (t8 := ((l.map Ed.enc).length : Int)) (t9 := (i : Int)) out.length (Nat.le_refl _) (by omega)
    have hk := posE_le out l[i] out.length
    simp only [s_semigroupref06_Sorted_2L, s_semigroupref06_Sorted_2, un]
    rw [bif_decide, if_pos (by rw [List.length_map]; omega), idx_ed hi, getD_mem hi]
    simp only [Option.bind_some, Ed.enc_0, Ed.enc_1, Ed.enc_2]
    rw [show ((out.map Ed.enc).length : Int) = ((out.length : Nat) : Int) by simp, h1]
    simp only [Option.bind_some, un, Ed.re]
    unfold insE
    generalize posE out l[i] out.length = k at *
    have hput : ∀ X : Option (((Int × List V)) ⊕ (Int × Bool × List V)), X = some (.inl (IntKind.wrap .i64 ((i : Int) + 1), ((([] : List V) ++ (((out.map Ed.enc).drop 0).take (((k : Int).toNat) - 0))) ++ ([l[i].enc] : List V)) ++ (((out.map Ed.enc).drop ((k : Int).toNat)).take ((out.map Ed.enc).length - ((k : Int).toNat))))) →
        X = some (.inl (((i + 1 : Nat) : Int), (out.take k ++ [l[i]] ++ out.drop k).map Ed.enc)) := by
      intro X hX
      rw [hX, Int.toNat_natCast, takeDrop, succC, wrap64 (by omega) (by omega)]
    have lens : (([] : List V).length + (((out.map Ed.enc).drop 0).take (((k : Int).toNat) - 0)).length) * 24 ≤ maxBytes ∧
        ((([] : List V) ++ (((out.map Ed.enc).drop 0).take (((k : Int).toNat) - 0))).length + ([l[i].enc] : List V).length) * 24 ≤ maxBytes ∧
        (((([] : List V) ++ (((out.map Ed.enc).drop 0).take (((k : Int).toNat) - 0))) ++ ([l[i].enc] : List V)).length + (((out.map Ed.enc).drop ((k : Int).toNat)).take ((out.map Ed.enc).length - ((k : Int).toNat))).length) * 24 ≤ maxBytes := by
      rw [maxB]
      simp only [Int.toNat_natCast, List.length_append, List.length_take, List.length_drop, List.length_map, List.length_nil, List.length_cons]
      omega
    by_cases hk0 : k = 0
    · rw [if_pos (Or.inl hk0), bif_beq, if_pos (by omega)]
      refine hput _ ?_
      rw [bif_and, bif_decide, if_pos (by omega), bif_decide, if_pos (by omega), bif_ble, if_pos lens.1, bif_ble, if_pos lens.2.1, bif_and, bif_decide, if_pos (by omega), bif_decide, if_pos (by omega), bif_ble, if_pos lens.2.2]
    · rw [bif_beq, if_neg (by omega), sub1C (by omega), wrap64 (x := ((k - 1 : Nat) : Int)) (by omega) (by omega), bif_and, bif_decide, if_pos (by omega), bif_decide, if_pos (by omega), Int.toNat_natCast]
      have hg : (out.map Ed.enc)[k - 1]? = some (out.getD (k - 1) default).enc := by
        rw [List.getElem?_map, List.getElem?_eq_getElem (by omega)]; simp [show k - 1 < out.length by omega]
      rw [hg]
      simp only [Option.bind_some, Ed.enc_0, Ed.enc_1, Ed.enc_2, edeq]
      by_cases hc : out.getD (k - 1) default = l[i]
      · rw [if_neg (fun hx => hx.elim hk0 (fun h => h hc)), decide_eq_true hc]
        simp only [Bool.not_true, cond_false]
        rw [succC, wrap64 (by omega) (by omega)]
      · rw [if_pos (Or.inr hc), decide_eq_false hc]
        simp only [Bool.not_false, cond_true]
        refine hput _ ?_
        rw [bif_and, bif_decide, if_pos (by omega), bif_decide, if_pos (by omega), bif_ble, if_pos lens.1, bif_ble, if_pos lens.2.1, bif_and, bif_decide, if_pos (by omega), bif_decide, if_pos (by omega), bif_ble, if_pos lens.2.2]
  · intro out ho
    simp only [s_semigroupref06_Sorted_2L, s_semigroupref06_Sorted_2, un]
    rw [List.length_map, dec_false (by omega), cond_false]
end Go.AM
set_option maxRecDepth 100000
set_option linter.unusedSimpArgs false
namespace Go.AM
open Go.Proofs
def let_ (w : List UInt8) (i : Nat) : Int := ((w.getD i 0).toNat : Int) - 97
def wOk (w : List UInt8) (L : Int) : Prop := 1 ≤ L ∧ L ≤ 6 ∧ w.length ≤ 2048 ∧ ∀ i, i < w.length → 0 ≤ let_ w i ∧ let_ w i < L
instance (w : List UInt8) (L : Int) : Decidable (wOk w L) := by unfold wOk; infer_instance
end Go.AM
set_option maxRecDepth 100000
set_option linter.unusedSimpArgs false
namespace Go.AM
open Go.Proofs
def wlet (b : UInt8) : Int := (b.toNat : Int) - 97
theorem let_get {w : List UInt8} {i : Nat} (h : i < w.length) : let_ w i = wlet w[i] := by unfold let_ wlet; simp [h]
def wAll (L : Int) (w : List UInt8) : Prop := ∀ b ∈ w, 0 ≤ wlet b ∧ wlet b < L
theorem wOk.all {w : List UInt8} {L : Int} (h : wOk w L) : wAll L w := by
  intro b hb
  obtain ⟨i, hi, rfl⟩ := List.getElem_of_mem hb
  have := h.2.2.2 i hi
  rwa [let_get hi] at this
theorem stepN_lt64 {n : Nf} (hg : n.Good) (s : Nat) (x : Int) : stepN n.E s x < 2 ^ n.S.toNat := stepN_lt fun e he => by
  obtain ⟨f, t, ef, et, hf, ht, hfS, htS⟩ := (hg.E e he).nat hg.S64
  omega
theorem pow_S {n : Nf} (hg : n.Good) : 2 ^ n.S.toNat ≤ 2 ^ 64 := Nat.pow_le_pow_right (by omega) (by have := hg.S64; omega)
theorem edF {n : Nf} (hg : n.Good) : ∀ e ∈ n.E, e.f.toNat < n.S.toNat := fun e he => by
  obtain ⟨f, t, ef, et, hf, ht, hfS, htS⟩ := (hg.E e he).nat hg.S64
  omega
theorem edT {n : Nf} (hg : n.Good) : ∀ e ∈ n.E, e.t.toNat < n.S.toNat := fun e he => by
  obtain ⟨f, t, ef, et, hf, ht, hfS, htS⟩ := (hg.E e he).nat hg.S64
  omega
def I1 (R : List Nat) : List V := R.map fun (x : Nat) => V.int .i64 (x : Int)
@[simp] theorem I1_length (R : List Nat) : (I1 R).length = R.length := by simp [I1]
def top31 : Nat := 2147483648
structure Cts (S : Nat) (c : List Nat) : Prop where
  len : c.length = S
  le : ∀ i, c.getD i 0 ≤ top31
theorem getD_set {c : List Nat} {i j a : Nat} : (c.set i a).getD j 0 = if i = j ∧ i < c.length then a else c.getD j 0 := by
  rw [List.getD_eq_getElem?_getD, List.getElem?_set, List.getD_eq_getElem?_getD]
  by_cases h : i = j
  · subst h
    by_cases h2 : i < c.length
    · simp [h2]
    · simp [h2]
  · simp [h]
theorem Cts.set {S i a : Nat} {c : List Nat} (h : Cts S c) (ha : a ≤ top31) : Cts S (c.set i a) where
  len := by simp [h.len]
  le j := by
    rw [getD_set]
    split
    · exact ha
    · exact h.le j
theorem Cts.zero (S : Nat) : Cts S (List.replicate S 0) where
  len := by simp
  le i := by
    rw [List.getD_eq_getElem?_getD, List.getElem?_replicate]
    split <;> simp
end Go.AM
set_option maxRecDepth 100000
namespace Go.AM
open Go.Proofs
theorem awake : CC F_semigrouplaw06_awake [] = some [.bool true] := Call_of_run (N := 60) (n := 60) (by kernel_rfl)
end Go.AM
set_option maxRecDepth 100000
namespace Go.AM
open Go.Proofs
noncomputable abbrev B_nfa_Reverse : Code := bodyOf Tryd.prog (ann.fid 26)
noncomputable def s_nfa_Reverse_1 (C : CallF) (t20 : List V) (t21 t2s_0 t2s_1 t2s_2 t2s_3 r's_0 r's_1 r's_2 r's_3 : Int) (b2_ : List V) (t22 : Int) (b3_ : List V) {β : Type} (kn : (Int × (List V)) → Option β) (kr : (Int × Bool × (List V)) → Option β) : Option β :=
  bif decide ((t22 : Int) < t21) then
   (idx t20 t22).bind fun x2 =>
   bif Nat.ble ((b3_.length + ([.agg [.int .i64 ((x2.cell 2).toInt), .int .i64 ((x2.cell 1).toInt), .int .i64 ((x2.cell 0).toInt)]] : List V).length) * 24) maxBytes then
    kn (IntKind.wrap .i64 (t22 + 1), b3_ ++ ([.agg [.int .i64 ((x2.cell 2).toInt), .int .i64 ((x2.cell 1).toInt), .int .i64 ((x2.cell 0).toInt)]] : List V))
   else none
  else
   kr (t22, decide ((t22 : Int) < t21), b3_)
noncomputable def s_nfa_Reverse_1L (C : CallF) (t20 : List V) (t21 t2s_0 t2s_1 t2s_2 t2s_3 r's_0 r's_1 r's_2 r's_3 : Int) (b2_ : List V) : (Int × (List V)) → Option ((Int × (List V)) ⊕ (Int × Bool × (List V))) := un fun t22 b3_ => s_nfa_Reverse_1 C t20 t21 t2s_0 t2s_1 t2s_2 t2s_3 r's_0 r's_1 r's_2 r's_3 b2_ t22 b3_ (fun y => some (.inl y)) (fun r => some (.inr r))
noncomputable def LT_nfa_Reverse (C : CallF) : LTab := fun β n ds k =>
  bif Nat.beq n 81 then loopS S26_81 [false, false, true, false, false, false, false, false, false, false, false, false, true] [[1, 2, 0, 0, 4, 5, 6, 7, 8, 9, 10, 11, 12, 0]] (@s_nfa_Reverse_1 C) ds k else
  none
abbrev TS_nfa_Reverse (C : CallF) (b : Bar) : Prop := Tells Tryd.prog ann C (LT_nfa_Reverse C) 26 (ntmpsOf Tryd.prog (ann.fid 26)) (ann.sin 26).blks.length b
theorem t_nfa_Reverse_1 (C : CallF) : TS_nfa_Reverse C (.loop (codeAt [1, 1, 1, 0, 1, 0, 0] B_nfa_Reverse)) :=
  tl3 S26_81 [false, false, true, false, false, false, false, false, false, false, false, false, true] [[1, 2, 0, 0, 4, 5, 6, 7, 8, 9, 10, 11, 12, 0]] (@s_nfa_Reverse_1 C) (by kernel_rfl) (ltok_of (bs := []) (by kernel_rfl) tells_nil) (fun ds => by kernel_rfl) (fun i x => by kernel_rfl) (fun i x β k => by kernel_rfl) (fun β ds k => by kernel_rfl)
noncomputable def f_nfa_Reverse (C : CallF) (n_0 n_1 n_2 n_3 : Int) (n_4 : List V) : Option (List V) :=
  (C F_nfa_Validate [.int .i64 n_0, .int .i64 n_1, .int .u64 n_2, .int .u64 n_3, .list T_api_Edge n_4]).bind fun r1 =>
  bif (((V.nth r1 0).toInt) : Int) != 0 then
   some [.int .i64 0, .int .i64 0, .int .u64 0, .int .u64 0, .list T_api_Edge ([] : List V)]
  else
   (Loop (s_nfa_Reverse_1L C n_4 (n_4.length : Int) 0 0 0 0 n_0 n_1 n_3 n_2 ([] : List V)) (0, ([] : List V))).bind (un fun (t_3 : Int) => un fun (t_4 : Bool) (b_5 : List V) =>
     (C F_slices_SortFunc___api_Edge_api_Edge_ [.list T_api_Edge b_5]).bind fun r6 =>
     some [.int .i64 n_0, .int .i64 n_1, .int .u64 n_3, .int .u64 n_2, .list T_api_Edge ((V.nth r6 0).toList)])
theorem f_nfa_Reverse_of {n_0 n_1 n_2 n_3 : Int} {n_4 : List V} {r : Option (List V)} (h : f_nfa_Reverse CC n_0 n_1 n_2 n_3 n_4 = r) : CC F_nfa_Reverse [.int .i64 n_0, .int .i64 n_1, .int .u64 n_2, .int .u64 n_3, .list T_api_Edge n_4] = r :=
  func_of (key := 26) (L := LT_nfa_Reverse CC) (bs := [.loop (codeAt [1, 1, 1, 0, 1, 0, 0] B_nfa_Reverse)]) (by kernel_rfl) (tells_cons (t_nfa_Reverse_1 CC) tells_nil) (Eq.trans (by kernel_rfl) h)
end Go.AM
set_option maxRecDepth 100000
namespace Go.AM
open Go.Proofs
noncomputable abbrev B_semigroupref06_Reverse : Code := bodyOf Tryd.prog (ann.fid 27)
noncomputable def s_semigroupref06_Reverse_1 (C : CallF) (t7 : List V) (t8 ns_0 ns_1 ns_2 ns_3 : Int) (ns_4 : List V) (t2s_0 t2s_1 t2s_2 t2s_3 : Int) (b3_ : List V) (t9 : Int) (ls : List V) {β : Type} (kn : (Int × (List V)) → Option β) (kr : (Int × Bool × (List V)) → Option β) : Option β :=
  bif decide ((t9 : Int) < t8) then
   (idx t7 t9).bind fun x1 =>
   bif Nat.ble ((ls.length + ([.agg [.int .i64 ((x1.cell 2).toInt), .int .i64 ((x1.cell 1).toInt), .int .i64 ((x1.cell 0).toInt)]] : List V).length) * 24) maxBytes then
    kn (IntKind.wrap .i64 (t9 + 1), ls ++ ([.agg [.int .i64 ((x1.cell 2).toInt), .int .i64 ((x1.cell 1).toInt), .int .i64 ((x1.cell 0).toInt)]] : List V))
   else none
  else
   kr (t9, decide ((t9 : Int) < t8), ls)
noncomputable def s_semigroupref06_Reverse_1L (C : CallF) (t7 : List V) (t8 ns_0 ns_1 ns_2 ns_3 : Int) (ns_4 : List V) (t2s_0 t2s_1 t2s_2 t2s_3 : Int) (b3_ : List V) : (Int × (List V)) → Option ((Int × (List V)) ⊕ (Int × Bool × (List V))) := un fun t9 ls => s_semigroupref06_Reverse_1 C t7 t8 ns_0 ns_1 ns_2 ns_3 ns_4 t2s_0 t2s_1 t2s_2 t2s_3 b3_ t9 ls (fun y => some (.inl y)) (fun r => some (.inr r))
noncomputable def LT_semigroupref06_Reverse (C : CallF) : LTab := fun β n ds k =>
  bif Nat.beq n 49 then loopS S27_49 [false, false, true, false, false, false, false, false, false, false, false, false, true, false] [[1, 2, 0, 0, 4, 5, 6, 7, 8, 9, 10, 11, 12, 0, 14]] (@s_semigroupref06_Reverse_1 C) ds k else
  none
abbrev TS_semigroupref06_Reverse (C : CallF) (b : Bar) : Prop := Tells Tryd.prog ann C (LT_semigroupref06_Reverse C) 27 (ntmpsOf Tryd.prog (ann.fid 27)) (ann.sin 27).blks.length b
theorem t_semigroupref06_Reverse_1 (C : CallF) : TS_semigroupref06_Reverse C (.loop (codeAt [1, 1, 0, 1, 0, 0] B_semigroupref06_Reverse)) :=
  tl3 S27_49 [false, false, true, false, false, false, false, false, false, false, false, false, true, false] [[1, 2, 0, 0, 4, 5, 6, 7, 8, 9, 10, 11, 12, 0, 14]] (@s_semigroupref06_Reverse_1 C) (by kernel_rfl) (ltok_of (bs := []) (by kernel_rfl) tells_nil) (fun ds => by kernel_rfl) (fun i x => by kernel_rfl) (fun i x β k => by kernel_rfl) (fun β ds k => by kernel_rfl)
noncomputable def f_semigroupref06_Reverse (C : CallF) (n_0 n_1 n_2 n_3 : Int) (n_4 : List V) : Option (List V) :=
  (Loop (s_semigroupref06_Reverse_1L C n_4 (n_4.length : Int) n_0 n_1 n_2 n_3 n_4 0 0 0 0 ([] : List V)) (0, ([] : List V))).bind (un fun (t_2 : Int) => un fun (t_3 : Bool) (ls_4 : List V) =>
    (C F_semigroupref06_Sorted [.list T_api_Edge ls_4]).bind fun r5 =>
    some [.int .i64 n_0, .int .i64 n_1, .int .u64 n_3, .int .u64 n_2, .list T_api_Edge ((V.nth r5 0).toList)])
theorem f_semigroupref06_Reverse_of {n_0 n_1 n_2 n_3 : Int} {n_4 : List V} {r : Option (List V)} (h : f_semigroupref06_Reverse CC n_0 n_1 n_2 n_3 n_4 = r) : CC F_semigroupref06_Reverse [.int .i64 n_0, .int .i64 n_1, .int .u64 n_2, .int .u64 n_3, .list T_api_Edge n_4] = r :=
  func_of (key := 27) (L := LT_semigroupref06_Reverse CC) (bs := [.loop (codeAt [1, 1, 0, 1, 0, 0] B_semigroupref06_Reverse)]) (by kernel_rfl) (tells_cons (t_semigroupref06_Reverse_1 CC) tells_nil) (Eq.trans (by kernel_rfl) h)
end Go.AM
set_option maxRecDepth 100000
set_option linter.unusedSimpArgs false
set_option maxHeartbeats 1000000
namespace Go.AM
open Go.Proofs
def Ed.rev (e : Ed) : Ed := ⟨e.t, e.l, e.f⟩
@[simp] theorem Ed.rev_rev (e : Ed) : e.rev.rev = e := rfl
theorem Ed.rev_inj {a b : Ed} (h : a.rev = b.rev) : a = b := by rw [← Ed.rev_rev a, h, Ed.rev_rev]
theorem Ed.In.rev {L S : Int} {e : Ed} (h : e.In L S) : e.rev.In L S := by unfold Ed.In at *; simp only [Ed.rev]; omega
def Nf.rev (n : Nf) : Nf := ⟨n.L, n.S, n.fin, n.st, sortedN (n.E.map Ed.rev)⟩
def Nf.zero : Nf := ⟨0, 0, 0, 0, []⟩
theorem Nf.rev_good {n : Nf} (h : n.Good) : n.rev.Good where
  L1 := h.L1
  L6 := h.L6
  S0 := h.S0
  S64 := h.S64
  st := h.fin
  fin := h.st
  E e he := by
    have h1 : e ∈ n.E.map Ed.rev := sortedN_mem.1 he
    obtain ⟨a, ha, rfl⟩ := List.mem_map.1 h1
    exact (h.E a ha).rev
theorem Nf.code_of {n : Nf} (h : n.Good) (hs : Srt n.E) : n.code = 0 := by
  unfold Nf.code
  have := h.L1; have := h.L6; have := h.S0; have := h.S64
  rw [if_neg (by omega), if_neg (not_not_intro ⟨h.st, h.fin⟩), if_pos]
  intro i hi
  have e1 : n.E.getD i default = n.E[i] := by simp [hi]
  refine ⟨by rw [e1]; exact h.E _ (List.getElem_mem _), fun h0 => ?_⟩
  have hi1 : i - 1 < n.E.length := by omega
  have e2 : n.E.getD (i - 1) default = n.E[i - 1] := by simp [hi1]
  rw [e1, e2]
  exact (List.pairwise_iff_getElem.1 hs) (i - 1) i hi1 hi (by omega)
theorem Nf.rev_code {n : Nf} (h : n.Good) : n.rev.code = 0 := Nf.code_of (Nf.rev_good h) (sortedN_srt _)
theorem Nf.len {n : Nf} (h : n.code = 0) : n.E.length ≤ 24576 := srt_len (Nf.good_of h).L6 (Nf.good_of h).S64 (Nf.srt h) (Nf.good_of h).E
theorem Ed.In.ok {L S : Int} {e : Ed} (h : e.In L S) (hL : L ≤ 6) (hS : S ≤ 64) : e.Ok := by unfold Ed.In at h; unfold Ed.Ok; omega
theorem Nf.ok_of {n : Nf} (h : n.code = 0) : n.Ok := by
  have hg := Nf.good_of h
  have hl := Nf.len h
  have := hg.L1; have := hg.L6; have := hg.S0; have := hg.S64
  have hp := pow_S hg
  have h1 := hg.st
  have h2 := hg.fin
  refine ⟨by omega, by omega, by omega, by omega, by omega, by omega, ?_, fun e he => (hg.E e he).ok hg.L6 hg.S64⟩
  have : 24576 ≤ maxLen := by unfold maxLen; omega
  omega
theorem Nf.rev_rev {n : Nf} (h : n.code = 0) : n.rev.rev = n := by
  cases n with
  | mk L S st fin E =>
    have hs : Srt E := Nf.srt h
    unfold Nf.rev
    simp only [Nf.mk.injEq, true_and]
    refine srt_ext (sortedN_srt _) hs fun x => ?_
    rw [sortedN_mem, List.mem_map]
    constructor
    · rintro ⟨a, ha, rfl⟩
      rw [sortedN_mem, List.mem_map] at ha
      obtain ⟨b, hb, rfl⟩ := ha
      exact hb
    · intro hx
      exact ⟨x.rev, sortedN_mem.2 (List.mem_map.2 ⟨x, hx, rfl⟩), rfl⟩
theorem rev_nodup {E : List Ed} (h : Srt E) : (E.map Ed.rev).Nodup := by
  have := srt_nodup h
  rw [List.Nodup, List.pairwise_map]
  exact this.imp fun hab e => hab (Ed.rev_inj e)
theorem enc_rev (e : Ed) : V.agg [.int .i64 e.t, .int .i64 e.l, .int .i64 e.f] = e.rev.enc := rfl
theorem revE_loop {E : List Ed} (hl : E.length ≤ 24576) {t2s_0 t2s_1 t2s_2 t2s_3 r0 r1 r2 r3 : Int} {b : List V} : Loop (s_nfa_Reverse_1L CC (E.map Ed.enc) ((E.map Ed.enc).length : Int) t2s_0 t2s_1 t2s_2 t2s_3 r0 r1 r2 r3 b) (0, ([] : List V)) = some ((E.length : Int), false, (E.map Ed.rev).map Ed.enc) := by
  have := Loop_rounds (step := s_nfa_Reverse_1L CC (E.map Ed.enc) ((E.map Ed.enc).length : Int) t2s_0 t2s_1 t2s_2 t2s_3 r0 r1 r2 r3 b) (fun i => ((i : Int), ((E.take i).map Ed.rev).map Ed.enc)) E.length (r := ((E.length : Int), false, (E.map Ed.rev).map Ed.enc)) ?_ ?_
  · simpa using this
  · intro i hi
    simp only [s_nfa_Reverse_1L, s_nfa_Reverse_1, un]
    rw [bif_decide, if_pos (by rw [List.length_map]; omega), idx_ed hi]
    simp only [Option.bind_some, Ed.enc_0, Ed.enc_1, Ed.enc_2, enc_rev]
    rw [bif_ble, if_pos (by rw [maxB]; simp only [List.length_map, List.length_take, List.length_cons, List.length_nil]; omega), succC, wrap64 (by omega) (by omega)]
    have e1 : E.getD i default = E[i] := by simp [hi]
    rw [e1, ← List.take_append_getElem hi]
    simp only [List.map_append, List.map_cons, List.map_nil]
  · simp only [s_nfa_Reverse_1L, s_nfa_Reverse_1, un]
    rw [List.length_map, dec_false (by omega), cond_false, List.take_length]
theorem revR_loop {E : List Ed} (hl : E.length ≤ 24576) {a0 a1 a2 a3 r0 r1 r2 r3 : Int} {a4 b : List V} : Loop (s_semigroupref06_Reverse_1L CC (E.map Ed.enc) ((E.map Ed.enc).length : Int) a0 a1 a2 a3 a4 r0 r1 r2 r3 b) (0, ([] : List V)) = some ((E.length : Int), false, (E.map Ed.rev).map Ed.enc) := by
  have := Loop_rounds (step := s_semigroupref06_Reverse_1L CC (E.map Ed.enc) ((E.map Ed.enc).length : Int) a0 a1 a2 a3 a4 r0 r1 r2 r3 b) (fun i => ((i : Int), ((E.take i).map Ed.rev).map Ed.enc)) E.length (r := ((E.length : Int), false, (E.map Ed.rev).map Ed.enc)) ?_ ?_
  · simpa using this
  · intro i hi
    simp only [s_semigroupref06_Reverse_1L, s_semigroupref06_Reverse_1, un]
    rw [bif_decide, if_pos (by rw [List.length_map]; omega), idx_ed hi]
    simp only [Option.bind_some, Ed.enc_0, Ed.enc_1, Ed.enc_2, enc_rev]
    rw [bif_ble, if_pos (by rw [maxB]; simp only [List.length_map, List.length_take, List.length_cons, List.length_nil]; omega), succC, wrap64 (by omega) (by omega)]
    have e1 : E.getD i default = E[i] := by simp [hi]
    rw [e1, ← List.take_append_getElem hi]
    simp only [List.map_append, List.map_cons, List.map_nil]
  · simp only [s_semigroupref06_Reverse_1L, s_semigroupref06_Reverse_1, un]
    rw [List.length_map, dec_false (by omega), cond_false, List.take_length]
theorem Reverse_spec (n : Nf) (h : n.Ok) : CC F_nfa_Reverse (nfA n []) = some (nfA (if n.code = 0 then n.rev else Nf.zero) []) := by
  refine f_nfa_Reverse_of ?_
  unfold f_nfa_Reverse
  rw [show CC F_nfa_Validate [.int .i64 n.L, .int .i64 n.S, .int .u64 (n.st : Int), .int .u64 (n.fin : Int), .list T_api_Edge (n.E.map Ed.enc)] = _ from Validate_spec n h]
  simp only [Option.bind_some, V.nth_zero, V.toInt_int]
  by_cases h0 : n.code = 0
  · rw [bif_bne, if_pos h0, if_pos h0, revE_loop (Nf.len h0)]
    simp only [Option.bind_some, un]
    obtain ⟨R, e, hp, hs⟩ := sortE_spec (n.E.map Ed.rev) (by rw [List.length_map]; have := Nf.len h0; omega)
    rw [e]
    have hR : R = sortedN (n.E.map Ed.rev) := srt_ext (srt_of_sort hp (rev_nodup (Nf.srt h0)) hs) (sortedN_srt _) fun x => by rw [sortedN_mem, hp.mem_iff]
    rw [hR]
    rfl
  · rw [bif_bne, if_neg h0, if_neg h0]
    rfl
theorem refReverse_spec (n : Nf) (hl : n.E.length ≤ 24576) : CC F_semigroupref06_Reverse (nfA n []) = some (nfA n.rev []) := by
  refine f_semigroupref06_Reverse_of ?_
  unfold f_semigroupref06_Reverse
  rw [revR_loop hl]
  simp only [Option.bind_some, un]
  rw [Sorted_spec (by rw [List.length_map]; omega)]
  rfl
def ind (s : Nat) (q : Nat) : Nat := if s.testBit q = true then 1 else 0
end Go.AM
set_option maxRecDepth 100000
namespace Go.AM
open Go.Proofs
noncomputable abbrev B_relation_Closure : Code := bodyOf Tryd.prog (ann.fid 55)
noncomputable def s_relation_Closure_1 (C : CallF) (t14 : List V) (t15 t16 : Int) (cs : List V) {β : Type} (kn : (Int × (List V)) → Option β) (kr : (Int × Bool × (List V)) → Option β) : Option β :=
  bif decide ((t16 : Int) < t15) then
   (idx t14 t16).bind fun x2 =>
   bif decide (0 ≤ t16) then
    bif (decide (0 ≤ t16)) && (decide (t16 < (cs.length : Int))) then
     (cs[(t16 : Int).toNat]?).bind fun x3 =>
     kn (IntKind.wrap .i64 (t16 + 1), cs.set ((t16 : Int).toNat) (.int .u64 (IntKind.wrap .u64 ((BitVec.ofInt (IntKind.bits .u64) x2.toInt ||| BitVec.ofInt (IntKind.bits .u64) (IntKind.wrap .u64 (1 * 2 ^ (min t16.toNat (IntKind.bits .u64))))).toNat))))
    else none
   else none
  else
   kr (t16, decide ((t16 : Int) < t15), cs)
noncomputable def s_relation_Closure_1L (C : CallF) (t14 : List V) (t15 : Int) : (Int × (List V)) → Option ((Int × (List V)) ⊕ (Int × Bool × (List V))) := un fun t16 cs => s_relation_Closure_1 C t14 t15 t16 cs (fun y => some (.inl y)) (fun r => some (.inr r))
noncomputable def s_relation_Closure_2 (C : CallF) (k' t30 t31 t35 t36 : Int) (cs : List V) {β : Type} (kn : (Int × (List V)) → Option β) (kr : (Int × Bool × (List V)) → Option β) : Option β :=
  bif decide ((t36 : Int) < t35) then
   bif (decide (0 ≤ t36)) && (decide (t36 < (cs.length : Int))) then
    (cs[(t36 : Int).toNat]?).bind fun x7 =>
    bif decide (0 ≤ k') then
     bif ((IntKind.wrap .u64 ((BitVec.ofInt (IntKind.bits .u64) (Int.fdiv x7.toInt (2 ^ (min k'.toNat (IntKind.bits .u64)))) &&& BitVec.ofInt (IntKind.bits .u64) 1).toNat)) : Int) == 1 then
      bif (decide (0 ≤ t36)) && (decide (t36 < (cs.length : Int))) then
       (cs[(t36 : Int).toNat]?).bind fun x8 =>
       bif (decide (0 ≤ k')) && (decide (k' < (cs.length : Int))) then
        (cs[(k' : Int).toNat]?).bind fun x9 =>
        bif (decide (0 ≤ t36)) && (decide (t36 < (cs.length : Int))) then
         (cs[(t36 : Int).toNat]?).bind fun x10 =>
         kn (IntKind.wrap .i64 (t36 + 1), cs.set ((t36 : Int).toNat) (.int .u64 (IntKind.wrap .u64 ((BitVec.ofInt (IntKind.bits .u64) x8.toInt ||| BitVec.ofInt (IntKind.bits .u64) x9.toInt).toNat))))
        else none
       else none
      else none
     else
      kn (IntKind.wrap .i64 (t36 + 1), cs)
    else none
   else none
  else
   kr (t36, decide ((t36 : Int) < t35), cs)
noncomputable def s_relation_Closure_2L (C : CallF) (k' t30 t31 t35 : Int) : (Int × (List V)) → Option ((Int × (List V)) ⊕ (Int × Bool × (List V))) := un fun t36 cs => s_relation_Closure_2 C k' t30 t31 t35 t36 cs (fun y => some (.inl y)) (fun r => some (.inr r))
noncomputable def s_relation_Closure_3 (C : CallF) (t30 t31 : Int) (cs : List V) {β : Type} (kn : (Int × (List V)) → Option β) (kr : (Int × Bool × (List V)) → Option β) : Option β :=
  bif decide ((t31 : Int) < t30) then
   (Loop (s_relation_Closure_2L C t31 t30 t31 (cs.length : Int)) (0, cs)).bind (un fun (t_11 : Int) => un fun (t_12 : Bool) (cs_13 : List V) =>
     kn (IntKind.wrap .i64 (t31 + 1), cs_13))
  else
   kr (t31, decide ((t31 : Int) < t30), cs)
noncomputable def s_relation_Closure_3L (C : CallF) (t30 : Int) : (Int × (List V)) → Option ((Int × (List V)) ⊕ (Int × Bool × (List V))) := un fun t31 cs => s_relation_Closure_3 C t30 t31 cs (fun y => some (.inl y)) (fun r => some (.inr r))
noncomputable def LT_relation_Closure (C : CallF) : LTab := fun β n ds k =>
  bif Nat.beq n 81 then loopS S55_81 [false, false, true, true] [[1, 2, 0, 0, 0]] (@s_relation_Closure_1 C) ds k else
  bif Nat.beq n 209 then loopS S55_209 [false, false, false, false, true, true] [[1, 2, 3, 4, 0, 0, 0]] (@s_relation_Closure_2 C) ds k else
  bif Nat.beq n 161 then loopS S55_161 [false, true, true] [[1, 0, 0, 0]] (@s_relation_Closure_3 C) ds k else
  none
abbrev TS_relation_Closure (C : CallF) (b : Bar) : Prop := Tells Tryd.prog ann C (LT_relation_Closure C) 55 (ntmpsOf Tryd.prog (ann.fid 55)) (ann.sin 55).blks.length b
theorem t_relation_Closure_1 (C : CallF) : TS_relation_Closure C (.loop (codeAt [1, 1, 1, 0, 1, 0, 0] B_relation_Closure)) :=
  tl3 S55_81 [false, false, true, true] [[1, 2, 0, 0, 0]] (@s_relation_Closure_1 C) (by kernel_rfl) (ltok_of (bs := []) (by kernel_rfl) tells_nil) (fun ds => by kernel_rfl) (fun i x => by kernel_rfl) (fun i x β k => by kernel_rfl) (fun β ds k => by kernel_rfl)
theorem t_relation_Closure_2 (C : CallF) : TS_relation_Closure C (.loop (codeAt [1, 1, 1, 1, 0, 1, 0, 0, 1, 1, 0, 0, 1, 1, 0, 0] B_relation_Closure)) :=
  tl3 S55_209 [false, false, false, false, true, true] [[1, 2, 3, 4, 0, 0, 0]] (@s_relation_Closure_2 C) (by kernel_rfl) (ltok_of (bs := []) (by kernel_rfl) tells_nil) (fun ds => by kernel_rfl) (fun i x => by kernel_rfl) (fun i x β k => by kernel_rfl) (fun β ds k => by kernel_rfl)
theorem t_relation_Closure_3 (C : CallF) : TS_relation_Closure C (.loop (codeAt [1, 1, 1, 1, 0, 1, 0, 0] B_relation_Closure)) :=
  tl3 S55_161 [false, true, true] [[1, 0, 0, 0]] (@s_relation_Closure_3 C) (by kernel_rfl) (ltok_of (bs := [.loop (codeAt [1, 1, 1, 1, 0, 1, 0, 0, 1, 1, 0, 0, 1, 1, 0, 0] B_relation_Closure)]) (by kernel_rfl) (tells_cons (t_relation_Closure_2 C) tells_nil)) (fun ds => by kernel_rfl) (fun i x => by kernel_rfl) (fun i x β k => by kernel_rfl) (fun β ds k => by kernel_rfl)
noncomputable def f_relation_Closure (C : CallF) (r' : List V) : Option (List V) :=
  (C F_relation_Valid [.list T_uint64 r']).bind fun r1 =>
  bif !((V.nth r1 0).toBool) then
   some [.list T_uint64 ([] : List V)]
  else
   bif (decide (0 ≤ (r'.length : Int))) && ((decide ((r'.length : Int) ≤ (r'.length : Int))) && (Nat.ble ((((r'.length : Int) : Int).toNat) * 8) maxBytes)) then
    (Loop (s_relation_Closure_1L C r' (r'.length : Int)) (0, List.replicate (((r'.length : Int) : Int).toNat) (V.int .u64 0))).bind (un fun (t_4 : Int) => un fun (t_5 : Bool) (cs_6 : List V) =>
      (Loop (s_relation_Closure_3L C (cs_6.length : Int)) (0, cs_6)).bind (un fun (t_14 : Int) => un fun (t_15 : Bool) (cs_16 : List V) =>
        some [.list T_uint64 cs_16]))
   else none
theorem f_relation_Closure_of {r' : List V} {r : Option (List V)} (h : f_relation_Closure CC r' = r) : CC F_relation_Closure [.list T_uint64 r'] = r :=
  func_of (key := 55) (L := LT_relation_Closure CC) (bs := [.loop (codeAt [1, 1, 1, 0, 1, 0, 0] B_relation_Closure), .loop (codeAt [1, 1, 1, 1, 0, 1, 0, 0] B_relation_Closure)]) (by kernel_rfl) (tells_cons (t_relation_Closure_1 CC) (tells_cons (t_relation_Closure_3 CC) tells_nil)) (Eq.trans (by kernel_rfl) h)
end Go.AM
set_option maxRecDepth 100000
namespace Go.AM
open Go.Proofs
noncomputable abbrev B_nfa_Reachable : Code := bodyOf Tryd.prog (ann.fid 29)
noncomputable def s_nfa_Reachable_1 (C : CallF) (t13 : List V) (t14 ns_0 ns_1 ns_2 ns_3 : Int) (ns_4 : List V) (t15 : Int) (leadss : List V) {β : Type} (kn : (Int × (List V)) → Option β) (kr : (Int × Bool × (List V)) → Option β) : Option β :=
  bif decide ((t15 : Int) < t14) then
   (idx t13 t15).bind fun x2 =>
   bif (decide (0 ≤ ((x2.cell 0).toInt))) && (decide (((x2.cell 0).toInt) < (leadss.length : Int))) then
    (leadss[((x2.cell 0).toInt : Int).toNat]?).bind fun x3 =>
    bif decide (0 ≤ ((x2.cell 2).toInt)) then
     bif (decide (0 ≤ ((x2.cell 0).toInt))) && (decide (((x2.cell 0).toInt) < (leadss.length : Int))) then
      (leadss[((x2.cell 0).toInt : Int).toNat]?).bind fun x4 =>
      kn (IntKind.wrap .i64 (t15 + 1), leadss.set (((x2.cell 0).toInt : Int).toNat) (.int .u64 (IntKind.wrap .u64 ((BitVec.ofInt (IntKind.bits .u64) x3.toInt ||| BitVec.ofInt (IntKind.bits .u64) (IntKind.wrap .u64 (1 * 2 ^ (min ((x2.cell 2).toInt).toNat (IntKind.bits .u64))))).toNat))))
     else none
    else none
   else none
  else
   kr (t15, decide ((t15 : Int) < t14), leadss)
noncomputable def s_nfa_Reachable_1L (C : CallF) (t13 : List V) (t14 ns_0 ns_1 ns_2 ns_3 : Int) (ns_4 : List V) : (Int × (List V)) → Option ((Int × (List V)) ⊕ (Int × Bool × (List V))) := un fun t15 leadss => s_nfa_Reachable_1 C t13 t14 ns_0 ns_1 ns_2 ns_3 ns_4 t15 leadss (fun y => some (.inl y)) (fun r => some (.inr r))
noncomputable def LT_nfa_Reachable (C : CallF) : LTab := fun β n ds k =>
  bif Nat.beq n 81 then loopS S29_81 [false, false, true, false, false, false, false, false, true] [[1, 2, 0, 0, 4, 5, 6, 7, 8, 0]] (@s_nfa_Reachable_1 C) ds k else
  none
abbrev TS_nfa_Reachable (C : CallF) (b : Bar) : Prop := Tells Tryd.prog ann C (LT_nfa_Reachable C) 29 (ntmpsOf Tryd.prog (ann.fid 29)) (ann.sin 29).blks.length b
theorem t_nfa_Reachable_1 (C : CallF) : TS_nfa_Reachable C (.loop (codeAt [1, 1, 1, 0, 1, 0, 0] B_nfa_Reachable)) :=
  tl3 S29_81 [false, false, true, false, false, false, false, false, true] [[1, 2, 0, 0, 4, 5, 6, 7, 8, 0]] (@s_nfa_Reachable_1 C) (by kernel_rfl) (ltok_of (bs := []) (by kernel_rfl) tells_nil) (fun ds => by kernel_rfl) (fun i x => by kernel_rfl) (fun i x β k => by kernel_rfl) (fun β ds k => by kernel_rfl)
noncomputable def f_nfa_Reachable (C : CallF) (n_0 n_1 n_2 n_3 : Int) (n_4 : List V) : Option (List V) :=
  (C F_nfa_Validate [.int .i64 n_0, .int .i64 n_1, .int .u64 n_2, .int .u64 n_3, .list T_api_Edge n_4]).bind fun r1 =>
  bif (((V.nth r1 0).toInt) : Int) != 0 then
   some [.int .u64 0]
  else
   bif (decide (0 ≤ n_1)) && ((decide (n_1 ≤ n_1)) && (Nat.ble (((n_1 : Int).toNat) * 8) maxBytes)) then
    (Loop (s_nfa_Reachable_1L C n_4 (n_4.length : Int) n_0 n_1 n_2 n_3 n_4) (0, List.replicate ((n_1 : Int).toNat) (V.int .u64 0))).bind (un fun (t_5 : Int) => un fun (t_6 : Bool) (leadss_7 : List V) =>
      (C F_relation_Closure [.list T_uint64 leadss_7]).bind fun r8 =>
      (C F_relation_Image [.list T_uint64 ((V.nth r8 0).toList), .int .u64 n_2]).bind fun r9 =>
      some [.int .u64 ((V.nth r9 0).toInt)])
   else none
theorem f_nfa_Reachable_of {n_0 n_1 n_2 n_3 : Int} {n_4 : List V} {r : Option (List V)} (h : f_nfa_Reachable CC n_0 n_1 n_2 n_3 n_4 = r) : CC F_nfa_Reachable [.int .i64 n_0, .int .i64 n_1, .int .u64 n_2, .int .u64 n_3, .list T_api_Edge n_4] = r :=
  func_of (key := 29) (L := LT_nfa_Reachable CC) (bs := [.loop (codeAt [1, 1, 1, 0, 1, 0, 0] B_nfa_Reachable)]) (by kernel_rfl) (tells_cons (t_nfa_Reachable_1 CC) tells_nil) (Eq.trans (by kernel_rfl) h)
end Go.AM
set_option maxRecDepth 100000
namespace Go.AM
open Go.Proofs
noncomputable def f_nfa_Coreachable (C : CallF) (n_0 n_1 n_2 n_3 : Int) (n_4 : List V) : Option (List V) :=
  (C F_nfa_Reverse [.int .i64 n_0, .int .i64 n_1, .int .u64 n_2, .int .u64 n_3, .list T_api_Edge n_4]).bind fun r1 =>
  (C F_nfa_Reachable [.int .i64 ((V.nth r1 0).toInt), .int .i64 ((V.nth (r1.drop 1) 0).toInt), .int .u64 ((V.nth ((r1.drop 1).drop 1) 0).toInt), .int .u64 ((V.nth (((r1.drop 1).drop 1).drop 1) 0).toInt), .list T_api_Edge ((V.nth (r1.drop 4) 0).toList)]).bind fun r2 =>
  some [.int .u64 ((V.nth r2 0).toInt)]
theorem f_nfa_Coreachable_of {n_0 n_1 n_2 n_3 : Int} {n_4 : List V} {r : Option (List V)} (h : f_nfa_Coreachable CC n_0 n_1 n_2 n_3 n_4 = r) : CC F_nfa_Coreachable [.int .i64 n_0, .int .i64 n_1, .int .u64 n_2, .int .u64 n_3, .list T_api_Edge n_4] = r :=
  func_of (key := 30) (L := LT0) (bs := []) (by kernel_rfl) tells_nil (Eq.trans (by kernel_rfl) h)
end Go.AM
set_option maxRecDepth 100000
namespace Go.AM
open Go.Proofs
noncomputable abbrev B_semigroupref06_Reachable : Code := bodyOf Tryd.prog (ann.fid 31)
noncomputable def s_semigroupref06_Reachable_1 (C : CallF) (k' ns_0 ns_1 ns_2 ns_3 : Int) (ns_4 : List V) (set' x : Int) {β : Type} (kn : (Int × Int) → Option β) (kr : (Int × Int × Bool) → Option β) : Option β :=
  bif decide ((x : Int) < ns_0) then
   (C F_semigroupref06_Step [.int .i64 ns_0, .int .i64 ns_1, .int .u64 ns_2, .int .u64 ns_3, .list T_api_Edge ns_4, .int .u64 set', .int .i64 x]).bind fun r1 =>
   kn (IntKind.wrap .u64 ((BitVec.ofInt (IntKind.bits .u64) set' ||| BitVec.ofInt (IntKind.bits .u64) ((V.nth r1 0).toInt)).toNat), IntKind.wrap .i64 (x + 1))
  else
   kr (set', x, decide ((x : Int) < ns_0))
noncomputable def s_semigroupref06_Reachable_1L (C : CallF) (k' ns_0 ns_1 ns_2 ns_3 : Int) (ns_4 : List V) : (Int × Int) → Option ((Int × Int) ⊕ (Int × Int × Bool)) := un fun set' x => s_semigroupref06_Reachable_1 C k' ns_0 ns_1 ns_2 ns_3 ns_4 set' x (fun y => some (.inl y)) (fun r => some (.inr r))
noncomputable def s_semigroupref06_Reachable_2 (C : CallF) (ns_0 ns_1 ns_2 ns_3 : Int) (ns_4 : List V) (set' k' : Int) {β : Type} (kn : (Int × Int) → Option β) (kr : (Int × Int × Bool) → Option β) : Option β :=
  bif decide ((k' : Int) < ns_1) then
   (Loop (s_semigroupref06_Reachable_1L C k' ns_0 ns_1 ns_2 ns_3 ns_4) (set', 0)).bind (un fun (set_2 : Int) => un fun (x_3 : Int) (t_4 : Bool) =>
     kn (set_2, IntKind.wrap .i64 (k' + 1)))
  else
   kr (set', k', decide ((k' : Int) < ns_1))
noncomputable def s_semigroupref06_Reachable_2L (C : CallF) (ns_0 ns_1 ns_2 ns_3 : Int) (ns_4 : List V) : (Int × Int) → Option ((Int × Int) ⊕ (Int × Int × Bool)) := un fun set' k' => s_semigroupref06_Reachable_2 C ns_0 ns_1 ns_2 ns_3 ns_4 set' k' (fun y => some (.inl y)) (fun r => some (.inr r))
noncomputable def LT_semigroupref06_Reachable (C : CallF) : LTab := fun β n ds k =>
  bif Nat.beq n 97 then loopS S31_97 [true, false, true, false, false, false, false, false] [[0, 2, 0, 0, 4, 5, 6, 7, 8]] (@s_semigroupref06_Reachable_1 C) ds k else
  bif Nat.beq n 49 then loopS S31_49 [true, true, false, false, false, false, false] [[0, 0, 0, 3, 4, 5, 6, 7]] (@s_semigroupref06_Reachable_2 C) ds k else
  none
abbrev TS_semigroupref06_Reachable (C : CallF) (b : Bar) : Prop := Tells Tryd.prog ann C (LT_semigroupref06_Reachable C) 31 (ntmpsOf Tryd.prog (ann.fid 31)) (ann.sin 31).blks.length b
theorem t_semigroupref06_Reachable_1 (C : CallF) : TS_semigroupref06_Reachable C (.loop (codeAt [1, 1, 0, 1, 0, 0, 1, 0, 0, 1, 0, 0] B_semigroupref06_Reachable)) :=
  tl3 S31_97 [true, false, true, false, false, false, false, false] [[0, 2, 0, 0, 4, 5, 6, 7, 8]] (@s_semigroupref06_Reachable_1 C) (by kernel_rfl) (ltok_of (bs := []) (by kernel_rfl) tells_nil) (fun ds => by kernel_rfl) (fun i x => by kernel_rfl) (fun i x β k => by kernel_rfl) (fun β ds k => by kernel_rfl)
theorem t_semigroupref06_Reachable_2 (C : CallF) : TS_semigroupref06_Reachable C (.loop (codeAt [1, 1, 0, 1, 0, 0] B_semigroupref06_Reachable)) :=
  tl3 S31_49 [true, true, false, false, false, false, false] [[0, 0, 0, 3, 4, 5, 6, 7]] (@s_semigroupref06_Reachable_2 C) (by kernel_rfl) (ltok_of (bs := [.loop (codeAt [1, 1, 0, 1, 0, 0, 1, 0, 0, 1, 0, 0] B_semigroupref06_Reachable)]) (by kernel_rfl) (tells_cons (t_semigroupref06_Reachable_1 C) tells_nil)) (fun ds => by kernel_rfl) (fun i x => by kernel_rfl) (fun i x β k => by kernel_rfl) (fun β ds k => by kernel_rfl)
noncomputable def f_semigroupref06_Reachable (C : CallF) (n_0 n_1 n_2 n_3 : Int) (n_4 : List V) : Option (List V) :=
  (Loop (s_semigroupref06_Reachable_2L C n_0 n_1 n_2 n_3 n_4) (n_2, 0)).bind (un fun (set_5 : Int) => un fun (k_6 : Int) (t_7 : Bool) =>
    some [.int .u64 set_5])
theorem f_semigroupref06_Reachable_of {n_0 n_1 n_2 n_3 : Int} {n_4 : List V} {r : Option (List V)} (h : f_semigroupref06_Reachable CC n_0 n_1 n_2 n_3 n_4 = r) : CC F_semigroupref06_Reachable [.int .i64 n_0, .int .i64 n_1, .int .u64 n_2, .int .u64 n_3, .list T_api_Edge n_4] = r :=
  func_of (key := 31) (L := LT_semigroupref06_Reachable CC) (bs := [.loop (codeAt [1, 1, 0, 1, 0, 0] B_semigroupref06_Reachable)]) (by kernel_rfl) (tells_cons (t_semigroupref06_Reachable_2 CC) tells_nil) (Eq.trans (by kernel_rfl) h)
end Go.AM
set_option maxRecDepth 100000
namespace Go.AM
open Go.Proofs
noncomputable def f_semigroupref06_Coreachable (C : CallF) (n_0 n_1 n_2 n_3 : Int) (n_4 : List V) : Option (List V) :=
  (C F_semigroupref06_Reverse [.int .i64 n_0, .int .i64 n_1, .int .u64 n_2, .int .u64 n_3, .list T_api_Edge n_4]).bind fun r1 =>
  (C F_semigroupref06_Reachable [.int .i64 ((V.nth r1 0).toInt), .int .i64 ((V.nth (r1.drop 1) 0).toInt), .int .u64 ((V.nth ((r1.drop 1).drop 1) 0).toInt), .int .u64 ((V.nth (((r1.drop 1).drop 1).drop 1) 0).toInt), .list T_api_Edge ((V.nth (r1.drop 4) 0).toList)]).bind fun r2 =>
  some [.int .u64 ((V.nth r2 0).toInt)]
theorem f_semigroupref06_Coreachable_of {n_0 n_1 n_2 n_3 : Int} {n_4 : List V} {r : Option (List V)} (h : f_semigroupref06_Coreachable CC n_0 n_1 n_2 n_3 n_4 = r) : CC F_semigroupref06_Coreachable [.int .i64 n_0, .int .i64 n_1, .int .u64 n_2, .int .u64 n_3, .list T_api_Edge n_4] = r :=
  func_of (key := 32) (L := LT0) (bs := []) (by kernel_rfl) tells_nil (Eq.trans (by kernel_rfl) h)
end Go.AM
set_option maxRecDepth 100000
set_option linter.unusedSimpArgs false
set_option maxHeartbeats 1000000
namespace Go.AM
open Go.Proofs
def Bt (c : List Nat) (i j : Nat) : Prop := (c.getD i 0).testBit j = true
def wRow (k : Nat) (c : List Nat) (i : Nat) : List Nat := if (c.getD i 0).testBit k = true then c.set i (c.getD i 0 ||| c.getD k 0) else c
def wRnd (c : List Nat) (k : Nat) : List Nat := (List.range c.length).foldl (wRow k) c
theorem wRow_eq (k : Nat) (c : List Nat) (i : Nat) : wRow k c i = if (c.getD i 0).testBit k = true then c.set i (c.getD i 0 ||| c.getD k 0) else c := rfl
theorem wRow_len (k : Nat) (c : List Nat) (i : Nat) : (wRow k c i).length = c.length := by unfold wRow; split <;> simp
theorem wRow_ok {k i : Nat} {c : List Nat} (h : RelOk c) : RelOk (wRow k c i) := by
  refine ⟨by rw [wRow_len]; exact h.len, ?_⟩
  rw [wRow_len]
  unfold wRow
  split
  · intro a ha
    have hx : ∀ i, c.getD i 0 < 2 ^ c.length := fun i => by
      rw [List.getD_eq_getElem?_getD]
      by_cases hi : i < c.length
      · rw [List.getElem?_eq_getElem hi]; exact h.lt _ (List.getElem_mem _)
      · rw [List.getElem?_eq_none (by omega)]; exact Nat.pos_of_ne_zero (by simp)
    rcases List.mem_or_eq_of_mem_set ha with ha | rfl
    · exact h.lt a ha
    · exact Nat.or_lt_two_pow (hx _) (hx _)
  · exact h.lt
theorem wFold {k : Nat} {c : List Nat} : ∀ m, m ≤ c.length → ((List.range m).foldl (wRow k) c).length = c.length ∧
    ∀ i, ((List.range m).foldl (wRow k) c).getD i 0 = if i < m ∧ (c.getD i 0).testBit k = true then c.getD i 0 ||| c.getD k 0 else c.getD i 0 := by
  intro m
  induction m with
  | zero => intro _; exact ⟨rfl, fun i => by simp⟩
  | succ m ih =>
    intro hm
    obtain ⟨h1, h2⟩ := ih (by omega)
    rw [List.range_succ, List.foldl_append, List.foldl_cons, List.foldl_nil]
    refine ⟨by rw [wRow_len, h1], fun i => ?_⟩
    have hk : ((List.range m).foldl (wRow k) c).getD k 0 = c.getD k 0 := by
      rw [h2]; split
      · exact Nat.or_self _
      · rfl
    have hmm : ((List.range m).foldl (wRow k) c).getD m 0 = c.getD m 0 := by rw [h2, if_neg (by omega)]
    rw [wRow_eq, hmm, hk]
    by_cases hb : (c.getD m 0).testBit k = true
    · rw [if_pos hb, getD_set, h1]
      by_cases hi : m = i
      · subst hi
        rw [if_pos ⟨rfl, by omega⟩, if_pos ⟨by omega, hb⟩]
      · rw [if_neg (fun h => hi h.1), h2]
        by_cases h3 : i < m
        · simp [h3, show i < m + 1 by omega]
        · simp [h3, show ¬ i < m + 1 by omega]
    · rw [if_neg hb, h2]
      by_cases hi : m = i
      · subst hi
        rw [if_neg (by omega), if_neg (fun h => hb h.2)]
      · by_cases h3 : i < m
        · simp [h3, show i < m + 1 by omega]
        · simp [h3, show ¬ i < m + 1 by omega]
theorem wRnd_bt {c : List Nat} {k i j : Nat} (hi : i < c.length) : Bt (wRnd c k) i j ↔ Bt c i j ∨ (Bt c i k ∧ Bt c k j) := by
  unfold Bt wRnd
  rw [(wFold (k := k) c.length (Nat.le_refl _)).2 i]
  by_cases hb : (c.getD i 0).testBit k = true
  · rw [if_pos ⟨hi, hb⟩, Nat.testBit_or, Bool.or_eq_true]
    exact or_congr Iff.rfl ⟨fun h => ⟨hb, h⟩, fun h => h.2⟩
  · rw [if_neg (fun h => hb h.2)]
    exact ⟨.inl, fun h => h.elim id (fun h => absurd h.1 hb)⟩
structure Clo (R c : List Nat) (k : Nat) : Prop where
  len : c.length = R.length
  ok : RelOk c
  refl : ∀ i, i < R.length → Bt c i i
  base : ∀ i j, i < R.length → Bt R i j → Bt c i j
  trans : ∀ i m j, i < R.length → m < k → m < R.length → Bt c i m → Bt c m j → Bt c i j
  sound : ∀ T : Nat → Prop, (∀ i j, i < R.length → T i → Bt R i j → T j) → ∀ i j, i < R.length → T i → Bt c i j → T j
theorem wRnd_len (c : List Nat) (k : Nat) : (wRnd c k).length = c.length := (wFold c.length (Nat.le_refl _)).1
theorem wFold_ok {k : Nat} : ∀ (l : List Nat) (c : List Nat), RelOk c → RelOk (l.foldl (wRow k) c)
  | [], _, h => h
  | _ :: l, _, h => wFold_ok l _ (wRow_ok h)
theorem Clo.step {R c : List Nat} {k : Nat} (hk : k < R.length) (h : Clo R c k) : Clo R (wRnd c k) (k + 1) where
  len := by rw [wRnd_len, h.len]
  ok := wFold_ok _ _ h.ok
  refl i hi := (wRnd_bt (by rw [h.len]; exact hi)).2 (.inl (h.refl i hi))
  base i j hi hb := (wRnd_bt (by rw [h.len]; exact hi)).2 (.inl (h.base i j hi hb))
  trans i m j hi hm hml h1 h2 := by
    have hl := h.len
    rw [wRnd_bt (by omega)] at h1 h2 ⊢
    by_cases hmk : m = k
    · subst hmk
      have g1 : Bt c i m := by rcases h1 with h1 | h1; exact h1; exact h1.1
      have g2 : Bt c m j := by rcases h2 with h2 | h2; exact h2; exact h2.2
      exact .inr ⟨g1, g2⟩
    · have hm' : m < k := by omega
      rcases h1 with h1 | ⟨h1, h1'⟩ <;> rcases h2 with h2 | ⟨h2, h2'⟩
      · exact .inl (h.trans i m j hi hm' hml h1 h2)
      · exact .inr ⟨h.trans i m k hi hm' hml h1 h2, h2'⟩
      · exact .inr ⟨h1, h.trans k m j hk hm' hml h1' h2⟩
      · exact .inr ⟨h1, h2'⟩
  sound T hT i j hi ht hb := by
    have hl := h.len
    rw [wRnd_bt (by omega)] at hb
    rcases hb with hb | ⟨h1, h2⟩
    · exact h.sound T hT i j hi ht hb
    · exact h.sound T hT k j hk (h.sound T hT i k hi ht h1) h2
def diag (R : List Nat) : List Nat := (List.range R.length).map fun i => R.getD i 0 ||| 2 ^ i
theorem diag_get {R : List Nat} {i : Nat} (hi : i < R.length) : (diag R).getD i 0 = R.getD i 0 ||| 2 ^ i := by simp [diag, hi]
theorem Clo.start {R : List Nat} (h : RelOk R) : Clo R (diag R) 0 where
  len := by simp [diag]
  ok := by
    have hl : (diag R).length = R.length := by simp [diag]
    refine ⟨by rw [hl]; exact h.len, fun a ha => ?_⟩
    rw [hl]
    simp only [diag, List.mem_map, List.mem_range] at ha
    obtain ⟨i, hi, rfl⟩ := ha
    refine Nat.or_lt_two_pow ?_ (Nat.pow_lt_pow_right (by omega) hi)
    have : R.getD i 0 = R[i] := by simp [hi]
    rw [this]
    exact h.lt _ (List.getElem_mem _)
  refl i hi := by unfold Bt; rw [diag_get hi]; simp [Nat.testBit_or, Nat.testBit_two_pow]
  base i j hi hb := by unfold Bt at *; rw [diag_get hi, Nat.testBit_or, hb]; rfl
  trans i m j _ hm := by omega
  sound T hT i j hi ht hb := by
    unfold Bt at hb
    rw [diag_get hi, Nat.testBit_or, Nat.testBit_two_pow, Bool.or_eq_true, decide_eq_true_eq] at hb
    rcases hb with hb | rfl
    · exact hT i j hi ht hb
    · exact ht
def cloN (R : List Nat) : List Nat := (List.range R.length).foldl wRnd (diag R)
theorem cloFold {R : List Nat} (h : RelOk R) : ∀ m, m ≤ R.length → Clo R ((List.range m).foldl wRnd (diag R)) m := by
  intro m
  induction m with
  | zero => intro _; exact Clo.start h
  | succ m ih =>
    intro hm
    rw [List.range_succ, List.foldl_append, List.foldl_cons, List.foldl_nil]
    exact (ih (by omega)).step (by omega)
theorem cloN_clo {R : List Nat} (h : RelOk R) : Clo R (cloN R) R.length := cloFold h _ (Nat.le_refl _)
theorem U1_rep (n : Nat) : List.replicate n (V.int .u64 0) = U1 (List.replicate n 0) := by simp [U1]
theorem clo_1 {R : List Nat} (h : RelOk R) : Loop (s_relation_Closure_1L CC (U1 R) (R.length : Int)) (0, U1 (List.replicate R.length 0)) = some ((R.length : Int), false, U1 (diag R)) := by
  have hl := h.len
  have := Loop_rounds (step := s_relation_Closure_1L CC (U1 R) (R.length : Int)) (fun i => ((i : Int), U1 ((diag R).take i ++ List.replicate (R.length - i) 0))) R.length (r := ((R.length : Int), false, U1 (diag R))) ?_ ?_
  · simpa using this
  · intro i hi
    obtain ⟨d, hd⟩ : ∃ d, R.length - i = d + 1 := ⟨R.length - i - 1, by omega⟩
    have hd2 : R.length - (i + 1) = d := by omega
    have hdl : (diag R).length = R.length := by simp [diag]
    have htl : ((diag R).take i).length = i := by rw [List.length_take]; omega
    simp only [s_relation_Closure_1L, s_relation_Closure_1, un, hd, hd2]
    rw [bif_decide, if_pos (by omega), idx_U1 hi]
    simp only [Option.bind_some, V.toInt_int]
    rw [bif_decide, if_pos (by omega), bif_and, bif_decide, if_pos (by omega), bif_decide, if_pos (by rw [U1_length, List.length_append, List.length_replicate]; omega), Int.toNat_natCast]
    have hg : (U1 ((diag R).take i ++ List.replicate (d + 1) 0))[i]? = some (.int .u64 ((0 : Nat) : Int)) := U1_get (by rw [List.getElem?_append_right (by omega)]; simp [htl])
    rw [hg]
    simp only [Option.bind_some]
    rw [u64_bit (by omega), u64_or (h.get i) (Nat.pow_lt_pow_right (by omega) (by omega)), U1_set, succC, wrap64 (by omega) (by omega), List.set_append_right _ _ (by omega), htl, Nat.sub_self, List.replicate_succ, List.set_cons_zero]
    have e1 : (diag R).take (i + 1) = (diag R).take i ++ [R.getD i 0 ||| 2 ^ i] := by
      rw [← List.take_append_getElem (by omega)]
      congr 2
      have := diag_get hi
      simpa [hdl, hi] using this
    rw [e1, List.append_assoc]
    rfl
  · simp only [s_relation_Closure_1L, s_relation_Closure_1, un]
    rw [dec_false (by omega), cond_false, Nat.sub_self, List.take_of_length_le (by simp [diag])]
    simp
theorem clo_2 {c : List Nat} (h : RelOk c) {k : Nat} (hk : k < c.length) {a b : Int} : Loop (s_relation_Closure_2L CC (k : Int) a b (c.length : Int)) (0, U1 c) = some ((c.length : Int), false, U1 (wRnd c k)) := by
  have hl := h.len
  have := Loop_foldI (step := s_relation_Closure_2L CC (k : Int) a b (c.length : Int)) (List.range c.length) (fun i (x : List Nat) => ((i : Int), U1 x)) (wRow k) (fun x => ((c.length : Int), false, U1 x)) (fun _ x => RelOk x ∧ x.length = c.length) ?_ ?_ c ⟨h, rfl⟩
  · exact this.1
  · intro i x hi hx
    have hi' : i < c.length := by simpa using hi
    rw [List.getElem_range]
    refine ⟨?_, wRow_ok hx.1, by rw [wRow_len, hx.2]⟩
    have e1 : x.getD i 0 = x[i] := by simp [show i < x.length by omega]
    have e2 : x.getD k 0 = x[k] := by simp [show k < x.length by omega]
    have g1 : (U1 x)[i]? = some (.int .u64 ((x.getD i 0 : Nat) : Int)) := U1_get (by rw [e1]; simp)
    have g2 : (U1 x)[k]? = some (.int .u64 ((x.getD k 0 : Nat) : Int)) := U1_get (by rw [e2]; simp)
    have hb1 := hx.1.get i
    have hb2 := hx.1.get k
    simp only [s_relation_Closure_2L, s_relation_Closure_2, un]
    rw [bif_decide, if_pos (by omega), bif_and, bif_decide, if_pos (by omega), bif_decide, if_pos (by rw [U1_length]; omega), Int.toNat_natCast, g1]
    simp only [Option.bind_some, V.toInt_int]
    rw [bif_decide, if_pos (by omega), Int.toNat_natCast, u64_has hb1 (by omega)]
    unfold wRow
    cases hb : (x.getD i 0).testBit k with
    | true =>
      rw [cond_true, if_pos rfl, bif_and, bif_decide, if_pos (by omega), bif_decide, if_pos (by rw [U1_length]; omega), bif_and, bif_decide, if_pos (by omega), bif_decide, if_pos (by rw [U1_length]; omega), g2]
      simp only [Option.bind_some, V.toInt_int]
      rw [bif_and, bif_decide, if_pos (by omega), bif_decide, if_pos (by rw [U1_length]; omega), u64_or hb1 hb2, U1_set, succC, wrap64 (by omega) (by omega)]
    | false =>
      rw [cond_false, if_neg (by simp), succC, wrap64 (by omega) (by omega)]
  · intro x hx
    simp only [s_relation_Closure_2L, s_relation_Closure_2, un, List.length_range]
    rw [dec_false (by omega), cond_false]
theorem clo_3 {R : List Nat} (h : RelOk R) : Loop (s_relation_Closure_3L CC (R.length : Int)) (0, U1 (diag R)) = some ((R.length : Int), false, U1 (cloN R)) := by
  have hl := h.len
  have := Loop_rounds (step := s_relation_Closure_3L CC (R.length : Int)) (fun i => ((i : Int), U1 ((List.range i).foldl wRnd (diag R)))) R.length (r := ((R.length : Int), false, U1 (cloN R))) ?_ ?_
  · simpa using this
  · intro i hi
    have hc := cloFold h i (by omega)
    have hcl := hc.len
    simp only [s_relation_Closure_3L, s_relation_Closure_3, un]
    rw [bif_decide, if_pos (by omega)]
    rw [show ((U1 ((List.range i).foldl wRnd (diag R))).length : Int) = ((((List.range i).foldl wRnd (diag R)).length : Nat) : Int) by rw [U1_length], clo_2 hc.ok (by omega)]
    simp only [Option.bind_some, un]
    rw [succC, wrap64 (by omega) (by omega), List.range_succ, List.foldl_append, List.foldl_cons, List.foldl_nil]
  · simp only [s_relation_Closure_3L, s_relation_Closure_3, un]
    rw [dec_false (by omega), cond_false]
    rfl
theorem Closure_spec {R : List Nat} (h : RelOk R) : CC F_relation_Closure [.list T_uint64 (U1 R)] = some [.list T_uint64 (U1 (cloN R))] := by
  have hl := h.len
  refine f_relation_Closure_of ?_
  unfold f_relation_Closure
  rw [rValid_spec h]
  simp only [Option.bind_some, V.nth_zero, V.toBool_bool, Bool.not_true, cond_false, U1_length]
  rw [bif_and, bif_decide, if_pos (by omega), bif_and, bif_decide, if_pos (by omega), bif_ble, if_pos (by rw [maxB]; omega), Int.toNat_natCast, U1_rep, clo_1 h]
  simp only [Option.bind_some, un]
  have e1 : ((U1 (diag R)).length : Int) = (R.length : Int) := by rw [U1_length]; simp [diag]
  rw [e1, clo_3 h]
  rfl
def leadF (a : List Nat) (e : Ed) : List Nat := a.set e.f.toNat (a.getD e.f.toNat 0 ||| 2 ^ e.t.toNat)
def leads (S : Nat) (E : List Ed) : List Nat := E.foldl leadF (List.replicate S 0)
theorem leadFold {S : Nat} : ∀ (E : List Ed) (a : List Nat), a.length = S → (∀ e ∈ E, e.f.toNat < S) → (E.foldl leadF a).length = S ∧ ∀ i j, Bt (E.foldl leadF a) i j ↔ Bt a i j ∨ ∃ e ∈ E, e.f.toNat = i ∧ e.t.toNat = j
  | [], a, ha, _ => ⟨ha, fun i j => by simp⟩
  | e :: E, a, ha, h => by
    obtain ⟨h1, h2⟩ := leadFold E (leadF a e) (by unfold leadF; simp [ha]) (fun e he => h e (by simp [he]))
    refine ⟨h1, fun i j => ?_⟩
    rw [List.foldl_cons, h2]
    have hf := h e (by simp)
    have : Bt (leadF a e) i j ↔ Bt a i j ∨ (e.f.toNat = i ∧ e.t.toNat = j) := by
      unfold Bt leadF
      rw [getD_set, ha]
      by_cases hi : e.f.toNat = i
      · subst hi
        rw [if_pos ⟨rfl, hf⟩, Nat.testBit_or, Nat.testBit_two_pow, Bool.or_eq_true, decide_eq_true_eq]
        simp
      · rw [if_neg (fun hh => hi hh.1)]
        simp [hi]
    rw [this, or_assoc]
    simp
theorem leads_bt {S : Nat} {E : List Ed} (h : ∀ e ∈ E, e.f.toNat < S) {i j : Nat} : Bt (leads S E) i j ↔ ∃ e ∈ E, e.f.toNat = i ∧ e.t.toNat = j := by
  unfold leads
  rw [(leadFold E _ (by simp) h).2]
  have : ¬ Bt (List.replicate S 0) i j := by
    unfold Bt
    rw [List.getD_eq_getElem?_getD, List.getElem?_replicate]
    split <;> simp
  simp [this]
theorem leadF_ok {S : Nat} : ∀ (E : List Ed) (a : List Nat), a.length = S → (∀ x ∈ a, x < 2 ^ S) → (∀ e ∈ E, e.t.toNat < S) → ∀ x ∈ E.foldl leadF a, x < 2 ^ S
  | [], a, _, h, _ => h
  | e :: E, a, ha, h, hE => by
    refine leadF_ok E (leadF a e) (by unfold leadF; simp [ha]) (fun x hx => ?_) (fun e he => hE e (by simp [he]))
    unfold leadF at hx
    rcases List.mem_or_eq_of_mem_set hx with hx | rfl
    · exact h x hx
    · refine Nat.or_lt_two_pow ?_ (Nat.pow_lt_pow_right (by omega) (hE e (by simp)))
      rw [List.getD_eq_getElem?_getD]
      by_cases hi : e.f.toNat < a.length
      · rw [List.getElem?_eq_getElem hi]; exact h _ (List.getElem_mem _)
      · rw [List.getElem?_eq_none (by omega)]; exact Nat.pos_of_ne_zero (by simp)
theorem leads_ok {n : Nf} (hg : n.Good) : RelOk (leads n.S.toNat n.E) ∧ (leads n.S.toNat n.E).length = n.S.toNat := by
  have hl := (leadFold n.E (List.replicate n.S.toNat 0) (by simp) (edF hg)).1
  have h64 := hg.S64
  refine ⟨⟨by unfold leads; omega, ?_⟩, hl⟩
  unfold leads
  rw [hl]
  exact leadF_ok n.E _ (by simp) (fun x hx => by rw [List.eq_of_mem_replicate hx]; exact Nat.pos_of_ne_zero (by simp)) (edT hg)
theorem reach_1 {n : Nf} (hg : n.Good) (hl : n.E.length ≤ 24576) {a0 a1 a2 a3 : Int} {a4 : List V} : Loop (s_nfa_Reachable_1L CC (n.E.map Ed.enc) ((n.E.map Ed.enc).length : Int) a0 a1 a2 a3 a4) (0, U1 (List.replicate n.S.toNat 0)) = some ((n.E.length : Int), false, U1 (leads n.S.toNat n.E)) := by
  have h64 := hg.S64
  have := Loop_foldI (step := s_nfa_Reachable_1L CC (n.E.map Ed.enc) ((n.E.map Ed.enc).length : Int) a0 a1 a2 a3 a4) n.E (fun i (x : List Nat) => ((i : Int), U1 x)) leadF (fun x => ((n.E.length : Int), false, U1 x)) (fun _ x => x.length = n.S.toNat ∧ ∀ i, x.getD i 0 < 2 ^ 64) ?_ ?_ (List.replicate n.S.toNat 0) ⟨by simp, fun i => ?_⟩
  · exact this.1
  · intro i x hi hx
    obtain ⟨f, t, ef, et, hf, ht, hfS, htS⟩ := (hg.E n.E[i] (List.getElem_mem hi)).nat hg.S64
    have hx1 := hx.1
    refine ⟨?_, by unfold leadF; simp [hx1], fun j => ?_⟩
    · have e1 : x.getD f 0 = x[f] := by simp [show f < x.length by omega]
      have g1 : (U1 x)[f]? = some (.int .u64 ((x.getD f 0 : Nat) : Int)) := U1_get (by rw [e1]; simp)
      simp only [s_nfa_Reachable_1L, s_nfa_Reachable_1, un]
      rw [bif_decide, if_pos (by rw [List.length_map]; omega), idx_ed hi, getD_mem hi]
      simp only [Option.bind_some, Ed.enc_0, Ed.enc_1, Ed.enc_2, ef, et]
      rw [bif_and, bif_decide, if_pos (by omega), bif_decide, if_pos (by rw [U1_length]; omega), Int.toNat_natCast, g1]
      simp only [Option.bind_some, V.toInt_int]
      rw [bif_decide, if_pos (by omega), bif_and, bif_decide, if_pos (by omega), bif_decide, if_pos (by rw [U1_length]; omega)]
      rw [Int.toNat_natCast, u64_bit ht, u64_or (hx.2 f) (Nat.pow_lt_pow_right (by omega) ht), U1_set, succC, wrap64 (by omega) (by omega)]
      unfold leadF
      rw [ef, et, Int.toNat_natCast, Int.toNat_natCast]
    · unfold leadF
      rw [getD_set]
      split
      · exact Nat.or_lt_two_pow (hx.2 _) (Nat.pow_lt_pow_right (by omega) (by omega))
      · exact hx.2 j
  · intro x hx
    simp only [s_nfa_Reachable_1L, s_nfa_Reachable_1, un]
    rw [List.length_map, dec_false (by omega), cond_false]
  · rw [List.getD_eq_getElem?_getD, List.getElem?_replicate]
    split <;> simp
structure Least (E : List Ed) (st s : Nat) : Prop where
  has : ∀ i, st.testBit i = true → s.testBit i = true
  closed : ∀ e ∈ E, s.testBit e.f.toNat = true → s.testBit e.t.toNat = true
  least : ∀ T : Nat → Prop, (∀ i, st.testBit i = true → T i) → (∀ e ∈ E, T e.f.toNat → T e.t.toNat) → ∀ i, s.testBit i = true → T i
theorem Least.eq {E : List Ed} {st s s' : Nat} (h : Least E st s) (h' : Least E st s') : s = s' := by
  apply Nat.eq_of_testBit_eq
  intro i
  rw [Bool.eq_iff_iff]
  exact ⟨h.least (fun i => s'.testBit i = true) h'.has h'.closed i, h'.least (fun i => s.testBit i = true) h.has h.closed i⟩
def reachP (n : Nf) : Nat := imgN (cloN (leads n.S.toNat n.E)) (n.st &&& (2 ^ n.S.toNat - 1))
theorem reachP_least {n : Nf} (h : n.Ok) (hg : n.Good) : Least n.E n.st (reachP n) := by
  obtain ⟨hok, hl⟩ := leads_ok hg
  have hc := cloN_clo hok
  have h64 := hg.S64
  have hlen := hc.len
  have hb : ∀ j, (reachP n).testBit j = true ↔ ∃ p, p < n.S.toNat ∧ n.st.testBit p = true ∧ Bt (cloN (leads n.S.toNat n.E)) p j := by
    intro j
    unfold reachP
    rw [imgN_bit, List.any_eq_true]
    constructor
    · rintro ⟨p, hp, hb⟩
      obtain ⟨h1, h2⟩ := (mem_below h.st (by omega)).1 hp
      exact ⟨p, h1, h2, hb⟩
    · rintro ⟨p, h1, h2, hb⟩
      exact ⟨p, (mem_below h.st (by omega)).2 ⟨h1, h2⟩, hb⟩
  have hst : ∀ i, n.st.testBit i = true → i < n.S.toNat := fun i hi => by
    by_cases hx : i < n.S.toNat
    · exact hx
    · rw [lt_pow_iff.1 hg.st i (by omega)] at hi; cases hi
  refine ⟨fun i hi => (hb i).2 ⟨i, hst i hi, hi, hc.refl i (by rw [hl]; exact hst i hi)⟩, fun e he hf => ?_, fun T h1 h2 i hi => ?_⟩
  · obtain ⟨p, p1, p2, p3⟩ := (hb _).1 hf
    have hef := edF hg e he
    refine (hb _).2 ⟨p, p1, p2, hc.trans p e.f.toNat e.t.toNat (by omega) (by omega) (by omega) p3 (hc.base _ _ (by omega) ((leads_bt (edF hg)).2 ⟨e, he, rfl, rfl⟩))⟩
  · obtain ⟨p, p1, p2, p3⟩ := (hb _).1 hi
    refine hc.sound T (fun i j _ ht hb => ?_) p i (by omega) (h1 p p2) p3
    obtain ⟨e, he, rfl, rfl⟩ := (leads_bt (edF hg)).1 hb
    exact h2 e he ht
theorem Reachable_spec (n : Nf) (h : n.Ok) : CC F_nfa_Reachable (nfA n []) = some [.int .u64 ((if n.code = 0 then reachP n else 0 : Nat) : Int)] := by
  refine f_nfa_Reachable_of ?_
  unfold f_nfa_Reachable
  rw [show CC F_nfa_Validate [.int .i64 n.L, .int .i64 n.S, .int .u64 (n.st : Int), .int .u64 (n.fin : Int), .list T_api_Edge (n.E.map Ed.enc)] = _ from Validate_spec n h]
  simp only [Option.bind_some, V.nth_zero, V.toInt_int]
  by_cases h0 : n.code = 0
  · have hg := Nf.good_of h0
    have hS0 := hg.S0
    have hS64 := hg.S64
    obtain ⟨hok, hl⟩ := leads_ok hg
    have hc := cloN_clo hok
    rw [bif_bne, if_pos h0, if_pos h0, bif_and, bif_decide, if_pos (by omega), bif_and, bif_decide, if_pos (by omega), bif_ble, if_pos (by rw [maxB]; omega), U1_rep, reach_1 hg (Nf.len h0)]
    simp only [Option.bind_some, un]
    rw [Closure_spec hok]
    simp only [Option.bind_some, V.nth_zero, V.toList_list]
    rw [Image_spec hc.ok h.st, hc.len, hl]
    rfl
  · rw [bif_bne, if_neg h0, if_neg h0]
    rfl
theorem zero_code : Nf.zero.code = 1 := by unfold Nf.code Nf.zero; simp
theorem zero_ok : Nf.zero.Ok := ⟨by unfold Nf.zero; simp, by unfold Nf.zero; simp, by unfold Nf.zero; simp, by unfold Nf.zero; simp, by unfold Nf.zero; simp, by unfold Nf.zero; simp, by unfold Nf.zero; simp, by unfold Nf.zero; simp⟩
theorem Coreachable_spec (n : Nf) (h : n.Ok) : CC F_nfa_Coreachable (nfA n []) = some [.int .u64 ((if n.code = 0 then reachP n.rev else 0 : Nat) : Int)] := by
  refine f_nfa_Coreachable_of ?_
  unfold f_nfa_Coreachable
  rw [show CC F_nfa_Reverse [.int .i64 n.L, .int .i64 n.S, .int .u64 (n.st : Int), .int .u64 (n.fin : Int), .list T_api_Edge (n.E.map Ed.enc)] = _ from Reverse_spec n h]
  by_cases h0 : n.code = 0
  · have hr := Nf.rev_code (Nf.good_of h0)
    rw [if_pos h0, if_pos h0]
    simp only [Option.bind_some, nfA, V.nth_zero, V.nth_succ, V.toInt_int, V.toBool_bool, V.toList_list, List.drop_succ_cons, List.drop_zero]
    rw [show CC F_nfa_Reachable [.int .i64 n.rev.L, .int .i64 n.rev.S, .int .u64 (n.rev.st : Int), .int .u64 (n.rev.fin : Int), .list T_api_Edge (n.rev.E.map Ed.enc)] = _ from Reachable_spec n.rev (Nf.ok_of hr), if_pos hr]
    rfl
  · rw [if_neg h0, if_neg h0]
    simp only [Option.bind_some, nfA, V.nth_zero, V.nth_succ, V.toInt_int, V.toBool_bool, V.toList_list, List.drop_succ_cons, List.drop_zero]
    rw [show CC F_nfa_Reachable [.int .i64 Nf.zero.L, .int .i64 Nf.zero.S, .int .u64 (Nf.zero.st : Int), .int .u64 (Nf.zero.fin : Int), .list T_api_Edge (Nf.zero.E.map Ed.enc)] = _ from Reachable_spec Nf.zero zero_ok, if_neg (by rw [zero_code]; omega)]
    rfl
def rnd (E : List Ed) (L s : Nat) : Nat := (List.range L).foldl (fun s (x : Nat) => s ||| stepN E s (x : Int)) s
def rounds (E : List Ed) (L : Nat) : Nat → Nat → Nat
  | 0, s => s
  | k + 1, s => rounds E L k (rnd E L s)
def sub (a b : Nat) : Prop := ∀ i, a.testBit i = true → b.testBit i = true
theorem or_sub {a b : Nat} : sub a (a ||| b) := fun i h => by rw [Nat.testBit_or, h]; rfl
theorem stepN_mono {E : List Ed} {a b : Nat} {x : Int} (h : sub a b) : sub (stepN E a x) (stepN E b x) := by
  intro i hi
  rw [stepN_bit, List.any_eq_true] at hi ⊢
  obtain ⟨e, he, hb⟩ := hi
  simp only [Bool.and_eq_true, decide_eq_true_eq] at hb
  exact ⟨e, he, by simp [hb.1, h _ hb.2.1, hb.2.2]⟩
theorem rndFold {E : List Ed} : ∀ (l : List Nat) (s : Nat), sub s (l.foldl (fun s (x : Nat) => s ||| stepN E s (x : Int)) s) ∧
    (∀ x ∈ l, sub (stepN E s (x : Int)) (l.foldl (fun s (x : Nat) => s ||| stepN E s (x : Int)) s)) ∧
    (∀ T : Nat → Prop, (∀ i, s.testBit i = true → T i) → (∀ e ∈ E, T e.f.toNat → T e.t.toNat) → ∀ i, (l.foldl (fun s (x : Nat) => s ||| stepN E s (x : Int)) s).testBit i = true → T i)
  | [], s => ⟨fun i h => h, by simp, fun T h1 _ => h1⟩
  | x :: l, s => by
    obtain ⟨h1, h2, h3⟩ := rndFold (E := E) l (s ||| stepN E s (x : Int))
    rw [List.foldl_cons]
    refine ⟨fun i h => h1 i (or_sub i h), fun y hy => ?_, fun T g1 g2 => h3 T (fun i hi => ?_) g2⟩
    · rcases List.mem_cons.1 hy with rfl | hy
      · exact fun i h => h1 i (by rw [Nat.testBit_or, h, Bool.or_true])
      · exact fun i h => h2 y hy i (stepN_mono or_sub i h)
    · rw [Nat.testBit_or, Bool.or_eq_true] at hi
      rcases hi with hi | hi
      · exact g1 i hi
      · rw [stepN_bit, List.any_eq_true] at hi
        obtain ⟨e, he, hb⟩ := hi
        simp only [Bool.and_eq_true, decide_eq_true_eq] at hb
        rw [← hb.2.2]
        exact g2 e he (g1 _ hb.2.1)
def Shut (E : List Ed) (s : Nat) : Prop := ∀ e ∈ E, s.testBit e.f.toNat = true → s.testBit e.t.toNat = true
def card (S s : Nat) : Nat := (List.range S).countP s.testBit
theorem countP_lt {p q : Nat → Bool} : ∀ (l : List Nat), (∀ x, p x = true → q x = true) → (∃ x ∈ l, p x = false ∧ q x = true) → l.countP p < l.countP q
  | [], _, h => by obtain ⟨x, hx, _⟩ := h; cases hx
  | a :: l, h1, h2 => by
    have hle : l.countP p ≤ l.countP q := List.countP_mono_left fun x _ => h1 x
    rw [List.countP_cons, List.countP_cons]
    obtain ⟨x, hx, hp, hq⟩ := h2
    rcases List.mem_cons.1 hx with rfl | hx
    · rw [hp, hq]; simp; omega
    · have := countP_lt l h1 ⟨x, hx, hp, hq⟩
      cases hpa : p a with
      | true => rw [h1 a hpa]; simp; omega
      | false => simp; omega
theorem rnd_shut {E : List Ed} {L s : Nat} (h : Shut E s) : rnd E L s = s := by
  obtain ⟨h1, _, h3⟩ := rndFold (E := E) (List.range L) s
  apply Nat.eq_of_testBit_eq
  intro i
  rw [Bool.eq_iff_iff]
  exact ⟨h3 (fun i => s.testBit i = true) (fun i hi => hi) h i, h1 i⟩
theorem rnd_grow {E : List Ed} {L S s : Nat} (hE : ∀ e ∈ E, 0 ≤ e.l ∧ e.l.toNat < L ∧ e.t.toNat < S) (h : ¬ Shut E s) : card S s < card S (rnd E L s) := by
  obtain ⟨h1, h2, _⟩ := rndFold (E := E) (List.range L) s
  unfold Shut at h
  simp only [Classical.not_forall] at h
  obtain ⟨e, he, hf, ht⟩ := h
  obtain ⟨hl0, hlL, htS⟩ := hE e he
  refine countP_lt _ h1 ⟨e.t.toNat, List.mem_range.2 htS, by simpa using ht, ?_⟩
  refine h2 e.l.toNat (List.mem_range.2 hlL) e.t.toNat ?_
  rw [stepN_bit, List.any_eq_true]
  exact ⟨e, he, by simp [hf, Int.toNat_of_nonneg hl0]⟩
theorem card_le (S s : Nat) : card S s ≤ S := by
  have := List.countP_le_length (p := s.testBit) (l := List.range S)
  unfold card
  simpa using this
theorem rounds_shut {E : List Ed} {L S : Nat} (hE : ∀ e ∈ E, 0 ≤ e.l ∧ e.l.toNat < L ∧ e.t.toNat < S) : ∀ (k s : Nat), S ≤ k + card S s → Shut E (rounds E L k s)
  | 0, s, h => by
    by_cases hs : Shut E s
    · exact hs
    · have := rnd_grow hE hs
      have := card_le S (rnd E L s)
      omega
  | k + 1, s, h => by
    show Shut E (rounds E L k (rnd E L s))
    by_cases hs : Shut E s
    · rw [rnd_shut hs]
      have : ∀ k, rounds E L k s = s := by
        intro k
        induction k with
        | zero => rfl
        | succ k ih => show rounds E L k (rnd E L s) = s; rw [rnd_shut hs, ih]
      rw [this]
      exact hs
    · have := rnd_grow hE hs
      exact rounds_shut hE k _ (by omega)
theorem rounds_keep {E : List Ed} {L : Nat} : ∀ (k s : Nat), sub s (rounds E L k s) ∧ (∀ T : Nat → Prop, (∀ i, s.testBit i = true → T i) → (∀ e ∈ E, T e.f.toNat → T e.t.toNat) → ∀ i, (rounds E L k s).testBit i = true → T i)
  | 0, s => ⟨fun i h => h, fun T h1 _ => h1⟩
  | k + 1, s => by
    obtain ⟨h1, _, h3⟩ := rndFold (E := E) (List.range L) s
    obtain ⟨g1, g2⟩ := rounds_keep (E := E) (L := L) k (rnd E L s)
    exact ⟨fun i h => g1 i (h1 i h), fun T t1 t2 => g2 T (h3 T t1 t2) t2⟩
def reachR (n : Nf) : Nat := rounds n.E n.L.toNat n.S.toNat n.st
theorem reachR_least {n : Nf} (hg : n.Good) : Least n.E n.st (reachR n) := by
  obtain ⟨h1, h2⟩ := rounds_keep (E := n.E) (L := n.L.toNat) n.S.toNat n.st
  refine ⟨h1, rounds_shut (S := n.S.toNat) (fun e he => ?_) _ _ (by omega), h2⟩
  have := hg.E e he
  unfold Ed.In at this
  omega
theorem rnd_lt {n : Nf} (hg : n.Good) : ∀ (l : List Nat) (s : Nat), s < 2 ^ 64 → l.foldl (fun s (x : Nat) => s ||| stepN n.E s (x : Int)) s < 2 ^ 64
  | [], s, h => h
  | x :: l, s, h => rnd_lt hg l _ (Nat.or_lt_two_pow h (Nat.lt_of_lt_of_le (stepN_lt64 hg _ _) (pow_S hg)))
theorem rr_1 {n : Nf} (h : n.Ok) (hg : n.Good) {s : Nat} (hs : s < 2 ^ 64) {k : Int} : Loop (s_semigroupref06_Reachable_1L CC k n.L n.S n.st n.fin (n.E.map Ed.enc)) ((s : Int), 0) = some (((rnd n.E n.L.toNat s : Nat) : Int), n.L, false) := by
  have hL1 := hg.L1
  have hL6 := hg.L6
  have := Loop_foldI (step := s_semigroupref06_Reachable_1L CC k n.L n.S n.st n.fin (n.E.map Ed.enc)) (List.range n.L.toNat) (fun i (x : Nat) => ((x : Int), (i : Int))) (fun s (x : Nat) => s ||| stepN n.E s (x : Int)) (fun x => ((x : Int), n.L, false)) (fun _ x => x < 2 ^ 64) ?_ ?_ s hs
  · exact this.1
  · intro i x hi hx
    have hi' : i < n.L.toNat := by simpa using hi
    rw [List.getElem_range]
    have hlt : stepN n.E x (i : Int) < 2 ^ 64 := Nat.lt_of_lt_of_le (stepN_lt64 hg _ _) (pow_S hg)
    refine ⟨?_, Nat.or_lt_two_pow hx hlt⟩
    simp only [s_semigroupref06_Reachable_1L, s_semigroupref06_Reachable_1, un]
    rw [bif_decide, if_pos (by omega), show CC F_semigroupref06_Step [.int .i64 n.L, .int .i64 n.S, .int .u64 (n.st : Int), .int .u64 (n.fin : Int), .list T_api_Edge (n.E.map Ed.enc), .int .u64 (x : Int), .int .i64 (i : Int)] = _ from refStep_spec n h hg hx _]
    simp only [Option.bind_some, V.nth_zero, V.toInt_int]
    rw [u64_or hx hlt, succC, wrap64 (by omega) (by omega)]
  · intro x hx
    simp only [s_semigroupref06_Reachable_1L, s_semigroupref06_Reachable_1, un, List.length_range]
    rw [dec_false (by omega), cond_false]
    rw [show ((n.L.toNat : Nat) : Int) = n.L by omega]
theorem rounds_snoc {E : List Ed} {L : Nat} : ∀ (k s : Nat), rounds E L (k + 1) s = rnd E L (rounds E L k s)
  | 0, s => rfl
  | k + 1, s => by show rounds E L (k + 1) (rnd E L s) = _; rw [rounds_snoc k]; rfl
theorem rounds_lt {n : Nf} (hg : n.Good) {L : Nat} : ∀ (k s : Nat), s < 2 ^ 64 → rounds n.E L k s < 2 ^ 64
  | 0, s, h => h
  | k + 1, s, h => rounds_lt hg k _ (rnd_lt hg _ s h)
theorem refReachable_spec (n : Nf) (h : n.Ok) (hg : n.Good) : CC F_semigroupref06_Reachable (nfA n []) = some [.int .u64 ((reachR n : Nat) : Int)] := by
  have hS0 := hg.S0
  have hS64 := hg.S64
  refine f_semigroupref06_Reachable_of ?_
  unfold f_semigroupref06_Reachable
  have := Loop_rounds (step := s_semigroupref06_Reachable_2L CC n.L n.S n.st n.fin (n.E.map Ed.enc)) (fun i => (((rounds n.E n.L.toNat i n.st : Nat) : Int), (i : Int))) n.S.toNat (r := (((reachR n : Nat) : Int), n.S, false)) ?_ ?_
  · rw [show Loop (s_semigroupref06_Reachable_2L CC n.L n.S n.st n.fin (n.E.map Ed.enc)) ((n.st : Int), 0) = _ from this]
    rfl
  · intro i hi
    simp only [s_semigroupref06_Reachable_2L, s_semigroupref06_Reachable_2, un]
    rw [bif_decide, if_pos (by omega), rr_1 h hg (rounds_lt hg _ _ h.st)]
    simp only [Option.bind_some, un]
    rw [succC, wrap64 (by omega) (by omega), rounds_snoc]
  · simp only [s_semigroupref06_Reachable_2L, s_semigroupref06_Reachable_2, un]
    rw [dec_false (by omega), cond_false, show ((n.S.toNat : Nat) : Int) = n.S by omega]
    rfl
theorem refCoreachable_spec (n : Nf) (h : n.Ok) (h0 : n.code = 0) : CC F_semigroupref06_Coreachable (nfA n []) = some [.int .u64 ((reachR n.rev : Nat) : Int)] := by
  have hr := Nf.rev_code (Nf.good_of h0)
  refine f_semigroupref06_Coreachable_of ?_
  unfold f_semigroupref06_Coreachable
  rw [show CC F_semigroupref06_Reverse [.int .i64 n.L, .int .i64 n.S, .int .u64 (n.st : Int), .int .u64 (n.fin : Int), .list T_api_Edge (n.E.map Ed.enc)] = _ from refReverse_spec n (Nf.len h0)]
  simp only [Option.bind_some, nfA, V.nth_zero, V.nth_succ, V.toInt_int, V.toBool_bool, V.toList_list, List.drop_succ_cons, List.drop_zero]
  rw [show CC F_semigroupref06_Reachable [.int .i64 n.rev.L, .int .i64 n.rev.S, .int .u64 (n.rev.st : Int), .int .u64 (n.rev.fin : Int), .list T_api_Edge (n.rev.E.map Ed.enc)] = _ from refReachable_spec n.rev (Nf.ok_of hr) (Nf.good_of hr)]
  rfl
end Go.AM
set_option maxRecDepth 100000
namespace Go.AM
open Go.Proofs
noncomputable def f_semigrouplaw06_NfaReaches (C : CallF) (n_0 n_1 n_2 n_3 : Int) (n_4 : List V) : Option (List V) :=
  (C F_nfa_Reachable [.int .i64 n_0, .int .i64 n_1, .int .u64 n_2, .int .u64 n_3, .list T_api_Edge n_4]).bind fun r1 =>
  (C F_nfa_Coreachable [.int .i64 n_0, .int .i64 n_1, .int .u64 n_2, .int .u64 n_3, .list T_api_Edge n_4]).bind fun r2 =>
  (C F_semigrouplaw06_valid [.int .i64 n_0, .int .i64 n_1, .int .u64 n_2, .int .u64 n_3, .list T_api_Edge n_4]).bind fun r3 =>
  bif !((V.nth r3 0).toBool) then
   bif (((V.nth r1 0).toInt) : Int) == 0 then
    bif (((V.nth r2 0).toInt) : Int) == 0 then
     (C F_semigrouplaw06_awake []).bind fun r4 =>
     some [.bool ((V.nth r4 0).toBool)]
    else
     some [.bool false]
   else
    some [.bool false]
  else
   (C F_semigroupref06_Reachable [.int .i64 n_0, .int .i64 n_1, .int .u64 n_2, .int .u64 n_3, .list T_api_Edge n_4]).bind fun r5 =>
   bif (((V.nth r1 0).toInt) : Int) == ((V.nth r5 0).toInt) then
    (C F_semigroupref06_Coreachable [.int .i64 n_0, .int .i64 n_1, .int .u64 n_2, .int .u64 n_3, .list T_api_Edge n_4]).bind fun r6 =>
    bif (((V.nth r2 0).toInt) : Int) == ((V.nth r6 0).toInt) then
     (C F_semigrouplaw06_awake []).bind fun r7 =>
     some [.bool ((V.nth r7 0).toBool)]
    else
     some [.bool false]
   else
    some [.bool false]
theorem f_semigrouplaw06_NfaReaches_of {n_0 n_1 n_2 n_3 : Int} {n_4 : List V} {r : Option (List V)} (h : f_semigrouplaw06_NfaReaches CC n_0 n_1 n_2 n_3 n_4 = r) : CC F_semigrouplaw06_NfaReaches [.int .i64 n_0, .int .i64 n_1, .int .u64 n_2, .int .u64 n_3, .list T_api_Edge n_4] = r :=
  func_of (key := 9) (L := LT0) (bs := []) (by kernel_rfl) tells_nil (Eq.trans (by kernel_rfl) h)
end Go.AM
set_option linter.unusedSimpArgs false
set_option maxRecDepth 100000
namespace Go.AM
open Go.Proofs
theorem nfaReaches (n : Nf) (h : n.Ok) : CC F_semigrouplaw06_NfaReaches (nfA n []) = some [.bool true] := by
  refine f_semigrouplaw06_NfaReaches_of ?_
  unfold f_semigrouplaw06_NfaReaches
  rw [show CC F_nfa_Reachable [.int .i64 n.L, .int .i64 n.S, .int .u64 (n.st : Int), .int .u64 (n.fin : Int), .list T_api_Edge (n.E.map Ed.enc)] = _ from Reachable_spec n h,
    show CC F_nfa_Coreachable [.int .i64 n.L, .int .i64 n.S, .int .u64 (n.st : Int), .int .u64 (n.fin : Int), .list T_api_Edge (n.E.map Ed.enc)] = _ from Coreachable_spec n h,
    show CC F_semigrouplaw06_valid [.int .i64 n.L, .int .i64 n.S, .int .u64 (n.st : Int), .int .u64 (n.fin : Int), .list T_api_Edge (n.E.map Ed.enc)] = _ from valid_spec n h, awake]
  simp only [Option.bind_some, V.nth_zero, V.toInt_int, V.toBool_bool]
  by_cases h0 : n.code = 0
  · have hg := Nf.good_of h0
    have hr := Nf.rev_code hg
    rw [show CC F_semigroupref06_Reachable [.int .i64 n.L, .int .i64 n.S, .int .u64 (n.st : Int), .int .u64 (n.fin : Int), .list T_api_Edge (n.E.map Ed.enc)] = _ from refReachable_spec n h hg,
      show CC F_semigroupref06_Coreachable [.int .i64 n.L, .int .i64 n.S, .int .u64 (n.st : Int), .int .u64 (n.fin : Int), .list T_api_Edge (n.E.map Ed.enc)] = _ from refCoreachable_spec n h h0]
    simp only [Option.bind_some, V.nth_zero, V.toInt_int, V.toBool_bool]
    rw [decide_eq_true h0, if_pos h0, if_pos h0, (reachP_least h hg).eq (reachR_least hg), (reachP_least (Nf.ok_of hr) (Nf.good_of hr)).eq (reachR_least (Nf.good_of hr))]
    simp
  · rw [decide_eq_false h0, if_neg h0, if_neg h0]
    simp
end Go.AM
set_option maxRecDepth 100000
namespace Go.AM
open Go.Proofs
theorem WT.u64_inv {P : Program} {t : TypeId} {x : V} (hu : P.underlying t = some (.int .u64)) (h : WT P t x) : ∃ n : Nat, x = .int .u64 (n : Int) ∧ n < 2 ^ 64 := by
  obtain ⟨n, rfl, h1, h2⟩ := h.int_inv hu
  have e1 : IntKind.min .u64 = 0 := by decide
  have e2 : IntKind.max .u64 = 18446744073709551615 := by decide
  rw [e1] at h1
  rw [e2] at h2
  exact ⟨n.toNat, by rw [Int.toNat_of_nonneg h1], by omega⟩
theorem WT.i64_inv {P : Program} {t : TypeId} {x : V} (hu : P.underlying t = some (.int .i64)) (h : WT P t x) : ∃ n : Int, x = .int .i64 n ∧ -9223372036854775808 ≤ n ∧ n ≤ 9223372036854775807 := by
  obtain ⟨n, rfl, h1, h2⟩ := h.int_inv hu
  have e1 : IntKind.min .i64 = -9223372036854775808 := by decide
  have e2 : IntKind.max .i64 = 9223372036854775807 := by decide
  rw [e1] at h1
  rw [e2] at h2
  exact ⟨n, rfl, h1, h2⟩
theorem list3 {α : Type} {l : List α} (h : l.length = 3) : ∃ a b c, l = [a, b, c] := by
  match l, h with
  | [a, b, c], _ => exact ⟨a, b, c, rfl⟩
theorem list5 {α : Type} {l : List α} (h : l.length = 5) : ∃ a b c d e, l = [a, b, c, d, e] := by
  match l, h with
  | [a, b, c, d, e], _ => exact ⟨a, b, c, d, e, rfl⟩
theorem wt_ed {x : V} (h : WTv Tryd.prog T_api_Edge x) : ∃ e : Ed, x = e.enc ∧ e.Ok := by
  have he : etys Tryd.prog T_api_Edge = [3, 3, 3] := by kernel_rfl
  obtain ⟨xs, rfl, hl, hx⟩ := WTv.agg_inv (by kernel_rfl) h
  rw [he] at hl
  obtain ⟨a, b, c, rfl⟩ := list3 hl
  have hu : Tryd.prog.underlying 3 = some (.int .i64) := by kernel_rfl
  obtain ⟨f, rfl, f1, f2⟩ := WT.i64_inv hu (hx 0 3 a (by rw [he]; rfl) rfl)
  obtain ⟨l, rfl, l1, l2⟩ := WT.i64_inv hu (hx 1 3 b (by rw [he]; rfl) rfl)
  obtain ⟨t, rfl, t1, t2⟩ := WT.i64_inv hu (hx 2 3 c (by rw [he]; rfl) rfl)
  exact ⟨⟨f, l, t⟩, rfl, f1, f2, l1, l2, t1, t2⟩
def Nf.enc (n : Nf) : V := .agg (nfA n [])
theorem wt_nf {t : TypeId} {x : V} (ha : isAggT Tryd.prog t = true) (he : etys Tryd.prog t = [3, 3, 22, 22, 23]) (h : WTv Tryd.prog t x) : ∃ n : Nf, x = n.enc ∧ n.Ok := by
  obtain ⟨xs, rfl, hl, hx⟩ := WTv.agg_inv ha h
  rw [he] at hl
  obtain ⟨a, b, c, d, e, rfl⟩ := list5 hl
  have hu : Tryd.prog.underlying 3 = some (.int .i64) := by kernel_rfl
  have hv : Tryd.prog.underlying 22 = some (.int .u64) := by kernel_rfl
  have hw : Tryd.prog.underlying 23 = some (.slice T_api_Edge) := by kernel_rfl
  obtain ⟨L, rfl, l1, l2⟩ := WT.i64_inv hu (hx 0 3 a (by rw [he]; rfl) rfl)
  obtain ⟨S, rfl, s1, s2⟩ := WT.i64_inv hu (hx 1 3 b (by rw [he]; rfl) rfl)
  obtain ⟨st, rfl, st1⟩ := WT.u64_inv hv (hx 2 22 c (by rw [he]; rfl) rfl)
  obtain ⟨fin, rfl, f1⟩ := WT.u64_inv hv (hx 3 22 d (by rw [he]; rfl) rfl)
  obtain ⟨es, rfl, e1, e2⟩ := WT.list_inv hw (hx 4 23 e (by rw [he]; rfl) rfl)
  obtain ⟨E, rfl, hE⟩ := map_of_forallP fun y hy => wt_ed (e2 y hy)
  exact ⟨⟨L, S, st, fin, E⟩, rfl, l1, l2, s1, s2, st1, f1, by simpa using e1, hE⟩
end Go.AM
