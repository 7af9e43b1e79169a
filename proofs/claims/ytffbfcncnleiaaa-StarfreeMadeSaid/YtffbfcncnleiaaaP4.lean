/-
 reached: which nodes a path of references leads to.
-/
import Derived.Test.YtffbfcncnleiaaaP3
set_option linter.unusedVariables false
namespace Go.AM
open Go.Proofs
inductive Reach (l : List Node) (root : Nat) : Nat → Prop
 | root : Reach l root root
 | a {i : Nat} {x : Node} : Reach l root i → l[i]? = some x → 5 ≤ x.op → Reach l root x.a.toNat
 | b {i : Nat} {x : Node} : Reach l root i → l[i]? = some x → 5 ≤ x.op → x.op ≠ 8 → Reach l root x.b.toNat
theorem Reach.le {letters : Int} {l : List Node} (hl : Valid letters l) {root i : Nat} (h : Reach l root i) : i ≤ root := by
 induction h with
 | root => exact Nat.le_refl _
 | a _ hx h5 ih => have := (nodeOk_iff.1 (hl.node hx)).a h5; omega
 | b _ hx h5 h8 ih => have := (nodeOk_iff.1 (hl.node hx)).b h5 h8; omega
abbrev boolsV (l : List Bool) : List V := l.map .bool
theorem boolsV_get {m : List Bool} {i : Nat} (h : i < m.length) : (boolsV m)[i]? = some (.bool m[i]) := by simp [h]
def MarksOk (l : List Node) (m : List Bool) (i : Nat) : Prop :=
 ∀ (j : Nat) x, i ≤ j → l[j]? = some x → m[j]? = some true → (5 ≤ x.op → m[x.a.toNat]? = some true) ∧ (5 ≤ x.op → x.op ≠ 8 → m[x.b.toNat]? = some true)
theorem reached_spec {letters : Int} {l : List Node} (hl : Valid letters l) {root : Nat} (hr : root < l.length) (hn : l.length ≤ 20000) :
 ∃ m : List Bool, m.length = l.length ∧ (∀ i, m[i]? = some true ↔ Reach l root i) ∧ CC F_starfree_reached [graphV l (root : Int)] [] = some (.own T_bool (boolsV m), []) := by
 have key := Loop_inv (step := s_starfree_reached_5L_step CC (nodesV l))
  (fun s => ∃ (i : Nat) (m : List Bool), i ≤ root + 1 ∧ m.length = l.length ∧ (∀ j, m[j]? = some true → Reach l root j) ∧ m[root]? = some true ∧ MarksOk l m i ∧ s = ((i : Int) - 1, boolsV m))
  (fun s => (s.1 + 1).toNat)
  (fun r => ∃ (j : Int) (b : Bool) (m : List Bool), m.length = l.length ∧ (∀ j, m[j]? = some true → Reach l root j) ∧ m[root]? = some true ∧ MarksOk l m 0 ∧ r = (j, b, boolsV m)) (by
   rintro s ⟨i, m, h1, h2, h3, h4, h5, rfl⟩
   unfold s_starfree_reached_5L_step s_starfree_reached_2
   simp only [bif_and, bif_decide, bif_not, List.length_map, List.length_set]
   cases i with
   | zero =>
    right
    rw [if_neg (by omega)]
    exact ⟨_, rfl, _, _, m, h2, h3, h4, h5, rfl⟩
   | succ i =>
    left
    have ei : ((i + 1 : Nat) : Int) - 1 = (i : Int) := by omega
    have hil : i < l.length := by omega
    have him : i < m.length := by omega
    rw [ei, if_pos (by omega), if_pos (by omega), if_pos (by omega)]
    simp only [Int.toNat_natCast, boolsV_get him, Option.bind_some, V.toBool_bool]
    have hx : l[i]? = some l[i] := List.getElem?_eq_getElem hil
    have ok := nodeOk_iff.1 (hl.node hx)
    have hw : IntKind.wrap .i64 ((i : Int) - 1) = (i : Int) - 1 := wrap64 (by omega) (by omega)
    cases hmi : m[i] with
    | false =>
     refine ⟨((i : Int) - 1, boolsV m), by simp only [cond_false, hw], ⟨i, m, by omega, h2, h3, h4, fun j x hj hxj hmj => ?_, rfl⟩, by simp⟩
     by_cases hji : j = i
     · subst hji
       rw [List.getElem?_eq_getElem him, hmi] at hmj
       cases hmj
     · exact h5 j x (by omega) hxj hmj
    | true =>
     have hri : Reach l root i := h3 i (by rw [List.getElem?_eq_getElem him, hmi])
     simp only [cond_true]
     rw [idx_map (n := i) rfl hil]
     simp only [Option.bind_some, Node.v, V.cell_agg, V.nth_zero, V.nth_two, V.nth_three, V.toInt_int, parts_spec]
     -- marks that are set
     have set_sound : ∀ (m' : List Bool) (k : Nat), Reach l root k → (∀ j, m'[j]? = some true → Reach l root j) → ∀ j, (m'.set k true)[j]? = some true → Reach l root j := by
      intro m' k hk hm j hj
      by_cases hjk : j = k
      · subst hjk; exact hk
      · rw [List.getElem?_set_ne (by omega)] at hj; exact hm j hj
     have set_keep : ∀ (m' : List Bool) (k j : Nat), m'[j]? = some true → (m'.set k true)[j]? = some true := by
      intro m' k j hj
      have hjl := (List.getElem?_eq_some_iff.1 hj).1
      by_cases hjk : j = k
      · subst hjk; rw [List.getElem?_set_self hjl]
      · rw [List.getElem?_set_ne (by omega)]; exact hj
     have set_self : ∀ (m' : List Bool) (k : Nat), k < m'.length → (m'.set k true)[k]? = some true := fun m' k h => List.getElem?_set_self h
     have set_old : ∀ (m' : List Bool) (k j : Nat), k < j → (m'.set k true)[j]? = some true → m'[j]? = some true := by
      intro m' k j hk hj
      rw [List.getElem?_set_ne (by omega)] at hj; exact hj
     have boolsV_set : ∀ (m' : List Bool) (k : Nat), (boolsV m').set k (.bool true) = boolsV (m'.set k true) := by
      intro m' k; simp [List.map_set]
     by_cases g5 : 5 ≤ l[i].op
     · have oa := ok.a g5
       have hla : l[i].a.toNat < m.length := by omega
       have ea : (l[i].a.toNat : Int) = l[i].a := Int.toNat_of_nonneg oa.1
       rw [if_pos (by rw [ge_iff_le, partsN_one ok.op]; exact g5), if_pos oa.1, if_pos (by omega), boolsV_get hla]
       simp only [Option.bind_some, bif_beq]
       by_cases g8 : l[i].op = 8
       · rw [if_neg (by rw [partsN_two ok.op]; omega), boolsV_set]
         refine ⟨((i : Int) - 1, boolsV (m.set l[i].a.toNat true)), by rw [hw], ⟨i, _, by omega, by simp [h2], set_sound m _ (.a hri hx g5) h3, set_keep _ _ _ h4, fun j x hj hxj hmj => ?_, rfl⟩, by simp⟩
         by_cases hji : j = i
         · subst hji
           rw [hx] at hxj
           cases hxj
           exact ⟨fun _ => set_self _ _ hla, fun _ h => absurd g8 h⟩
         · have := h5 j x (by omega) hxj (set_old _ _ _ (by omega) hmj)
           exact ⟨fun h => set_keep _ _ _ (this.1 h), fun h h' => set_keep _ _ _ (this.2 h h')⟩
       · have ob := ok.b g5 g8
         have hlb : l[i].b.toNat < m.length := by omega
         rw [if_pos (by rw [partsN_two ok.op]; exact ⟨g5, g8⟩), boolsV_set, if_pos ob.1, if_pos (by omega), boolsV_get (by simp; omega)]
         simp only [Option.bind_some]
         rw [boolsV_set]
         refine ⟨((i : Int) - 1, boolsV ((m.set l[i].a.toNat true).set l[i].b.toNat true)), by rw [hw], ⟨i, _, by omega, by simp [h2], set_sound _ _ (.b hri hx g5 g8) (set_sound m _ (.a hri hx g5) h3), set_keep _ _ _ (set_keep _ _ _ h4), fun j x hj hxj hmj => ?_, rfl⟩, by simp⟩
         by_cases hji : j = i
         · subst hji
           rw [hx] at hxj
           cases hxj
           exact ⟨fun _ => set_keep _ _ _ (set_self _ _ hla), fun _ _ => set_self _ _ (by simp; omega)⟩
         · have := h5 j x (by omega) hxj (set_old _ _ _ (by omega) (set_old _ _ _ (by omega) hmj))
           exact ⟨fun h => set_keep _ _ _ (set_keep _ _ _ (this.1 h)), fun h h' => set_keep _ _ _ (set_keep _ _ _ (this.2 h h'))⟩
     · rw [if_neg (by rw [ge_iff_le, partsN_one ok.op]; exact g5)]
       simp only [bif_beq]
       rw [if_neg (by rw [partsN_two ok.op]; omega)]
       refine ⟨((i : Int) - 1, boolsV m), by rw [hw], ⟨i, m, by omega, h2, h3, h4, fun j x hj hxj hmj => ?_, rfl⟩, by simp⟩
       by_cases hji : j = i
       · subst hji
         rw [hx] at hxj
         cases hxj
         exact ⟨fun h => absurd h g5, fun h => absurd h g5⟩
       · exact h5 j x (by omega) hxj hmj)
 have hm0 : ∀ j, ((List.replicate l.length false).set root true)[j]? = some true → j = root := by
  intro j hj
  by_cases h : j = root
  · exact h
  · rw [List.getElem?_set_ne (by omega), List.getElem?_replicate] at hj
    split at hj <;> cases hj
 obtain ⟨r, hrr, j, b, m, m1, m2, m3, m4, rfl⟩ := key ((root : Int), boolsV ((List.replicate l.length false).set root true)) ⟨root + 1, (List.replicate l.length false).set root true, Nat.le_refl _, by simp, fun j hj => by rw [hm0 j hj]; exact .root,
  List.getElem?_set_self (by simpa using hr), fun j x hj hx hmj => by have := hm0 j hmj; omega, by simp⟩
 refine ⟨m, m1, fun i => ⟨m2 i, fun h => ?_⟩, f_starfree_reached_of ?_⟩
 · induction h with
   | root => exact m3
   | a _ hx h5 ih => exact (m4 _ _ (Nat.zero_le _) hx ih).1 h5
   | b _ hx h5 h8 ih => exact (m4 _ _ (Nat.zero_le _) hx ih).2 h5 h8
 · unfold f_starfree_reached s_starfree_reached_5L
   simp only [bif_and, bif_decide, bif_ble, Int.toNat_natCast, List.length_map, List.length_replicate]
   rw [if_pos (by omega), if_pos (by omega), if_pos (by unfold maxBytes; omega), if_pos (by omega), if_pos (by omega)]
   have e1 : (List.replicate l.length (V.bool false))[root]? = some (.bool false) := by rw [List.getElem?_replicate, if_pos hr]
   have e2 : (List.replicate l.length (V.bool false)).set root (.bool true) = boolsV ((List.replicate l.length false).set root true) := by simp [List.map_set]
   rw [e1, e2, Option.bind_some, hrr]
   rfl
end Go.AM

set_option maxRecDepth 100000
namespace Go.AM
open Go.Proofs
/-! semigroup/starfree.Accepts -/
noncomputable def s_starfree_Accepts_1 (C : CallF) (g_Nodes : List V) (g_Root : Int) (w : List UInt8) {β : Type} (k0 : Bool → Option β) : Option β :=
 (C F_starfree_Validate [.agg [.list T_api_SfNode g_Nodes, .int .i64 g_Root], .int .i64 6] []).bind fun r1 =>
  bif (r1.1.toInt : Int) != 0 then
   k0 true
  else
   (C F_word_Valid [.str w, .int .i64 6] []).bind fun r2 =>
    bif !r2.1.toBool then
     k0 true
    else
     k0 (decide (((w.length : Int) : Int) > 64))
noncomputable abbrev z16_0 (c0 : List UInt8) (c1 : Bool) (c2 : List V) (c3 : Int) : St :=
 mk [(1, .str c0), (2, .ptr 0 0 0), (20, .bool c1)] [.var [.list T_api_SfNode c2, .int .i64 c3]]
noncomputable abbrev z16_1 (c0 : List V) (c1 : Int) (c2 : List UInt8) : St :=
 mk [(0, .agg [.list T_api_SfNode c0, .int .i64 c1]), (1, .str c2)] []
theorem s_starfree_Accepts_1_eq (C : CallF) (g_Nodes : List V) (g_Root : Int) (w : List UInt8) {β : Type} (K : Out → St → Option β) :
 execL Try.prog ann C 16 56 0 (codesAt Try.prog 16 [[0], [1, 0, 0]]) (z16_1 g_Nodes g_Root w) K =
  s_starfree_Accepts_1 C g_Nodes g_Root w
   (fun (t200 : Bool) => K .norm (z16_0 w t200 g_Nodes g_Root)) := by kernel_rfl
noncomputable def d16_2 (C : CallF) (t20 : Bool) (gs_0 : List V) (gs_1 : Int) {β : Type} (k0 : Bool → Option β) (k1 : Int → (List V) → (List V) → Option β) : Option β :=
 bif t20 then
  k0 false
 else
  bif (decide (0 ≤ (gs_0.length : Int))) && ((decide ((gs_0.length : Int) ≤ (gs_0.length : Int))) && (Nat.ble ((((gs_0.length : Int) : Int).toNat) * 24) maxBytes)) then
   (C F_starfree_reached [.agg [.list T_api_SfNode gs_0, .int .i64 gs_1]] []).bind fun r3 =>
    k1 (r3.1.toList.length : Int) (List.replicate (((gs_0.length : Int) : Int).toNat) (V.list T_starfree_cuts ([] : List V))) r3.1.toList
  else none
noncomputable abbrev z16_2 (c0 : Bool) : St :=
 mk [(4, .bool c0)] []
noncomputable abbrev z16_3 (c0 : List UInt8) (c1 c2 : Int) (c3 : List V) (c4 : Int) (c5 c6 : List V) : St :=
 mk [(1, .str c0), (2, .ptr 0 0 0), (5, .whole T_starfree_table 1), (26, .whole T_bool 2), (27, .int .i64 c1), (28, .int .i64 c2)] [.var [.list T_api_SfNode c3, .int .i64 c4], .arr T_starfree_table c5 false, .arr T_bool c6 false]
noncomputable abbrev q16_0 : List Code := codesAt Try.prog 16 [[1, 0, 1], [1, 1, 0], [1, 1, 1, 0, 0]]
theorem h16_2_eq (C : CallF) (w : List UInt8) (t20 : Bool) (gs_0 : List V) (gs_1 : Int) {β : Type} (K : Out → St → Option β) :
 execL Try.prog ann C 16 56 0 (q16_0) (z16_0 w t20 gs_0 gs_1) K =
  d16_2 C t20 gs_0 gs_1
   (fun (t40 : Bool) => K .ret (z16_2 t40))
   (fun (t271 : Int) (tabless1 : List V) (t26s1 : List V) => K .norm (z16_3 w t271 0 gs_0 gs_1 tabless1 t26s1)) := by kernel_rfl
noncomputable def s_starfree_Accepts_3 (C : CallF) (w : List UInt8) (t27 t28 : Int) (gs_0 tabless t26s : List V) {β : Type} (k0 : (List V) → Option β) (k1 : Option β) : Option β :=
 bif decide ((t28 : Int) < t27) then
  bif (decide (0 ≤ t28)) && (decide (t28 < (t26s.length : Int))) then
   (t26s[(t28 : Int).toNat]?).bind fun x8 =>
    bif x8.toBool then
     (idx gs_0 t28).bind fun x9 =>
      (C F_starfree_evaluate [.agg [.int .i64 ((x9.cell 0).toInt), .int .i64 ((x9.cell 1).toInt), .int .i64 ((x9.cell 2).toInt), .int .i64 ((x9.cell 3).toInt)], .list T_starfree_table tabless, .str w] []).bind fun r10 =>
       bif (decide (0 ≤ t28)) && (decide (t28 < (tabless.length : Int))) then
        (tabless[(t28 : Int).toNat]?).bind fun x11 =>
         k0 (tabless.set ((t28 : Int).toNat) (.list T_starfree_cuts r10.1.toList))
       else none
    else
     k0 tabless
  else none
 else
  k1
noncomputable abbrev z16_4 (c0 : List UInt8) (c1 c2 : Int) (c3 : Bool) (c4 : List V) (c5 : Int) (c6 c7 : List V) : St :=
 mk [(1, .str c0), (2, .ptr 0 0 0), (5, .whole T_starfree_table 1), (26, .whole T_bool 2), (27, .int .i64 c1), (28, .int .i64 c2), (29, .bool c3)] [.var [.list T_api_SfNode c4, .int .i64 c5], .arr T_starfree_table c6 false, .arr T_bool c7 false]
noncomputable abbrev q16_1 : List Code := codesAt Try.prog 16 [[1, 1, 1, 0, 1, 0, 0, 0], [1, 1, 1, 0, 1, 0, 0, 1, 0], [1, 1, 1, 0, 1, 0, 0, 1, 1, 0], [1, 1, 1, 0, 1, 0, 0, 1, 1, 1]]
theorem s_starfree_Accepts_3_eq (C : CallF) (w : List UInt8) (t27 t28 : Int) (gs_0 : List V) (gs_1 : Int) (tabless t26s : List V) {β : Type} (K : Out → St → Option β) :
 execL Try.prog ann C 16 56 0 (q16_1) (z16_3 w t27 t28 gs_0 gs_1 tabless t26s) K =
  s_starfree_Accepts_3 C w t27 t28 gs_0 tabless t26s
   (fun (tabless0 : List V) => K .norm (z16_3 w t27 (IntKind.wrap .i64 (t28 + 1)) gs_0 gs_1 tabless0 t26s))
   (K (.exit 0) (z16_4 w t27 t28 (decide ((t28 : Int) < t27)) gs_0 gs_1 tabless t26s)) := by kernel_rfl
noncomputable def s_starfree_Accepts_4L_step (C : CallF) (w : List UInt8) (t27 : Int) (gs_0 t26s : List V) : (Int × (List V)) → Option ((Int × (List V)) ⊕ ((Int × Bool × (List V)))) := fun (t28, tabless) =>
 s_starfree_Accepts_3 C w t27 t28 gs_0 tabless t26s
  (fun (tabless_12 : List V) =>
   some (.inl (IntKind.wrap .i64 (t28 + 1), tabless_12)))
  (
   some (.inr (t28, decide ((t28 : Int) < t27), tabless)))
noncomputable def s_starfree_Accepts_4L (C : CallF) (w : List UInt8) (t27 t28 : Int) (gs_0 tabless t26s : List V) {β : Type} (k0 : Int → Bool → (List V) → Option β) : Option β :=
 (Loop (s_starfree_Accepts_4L_step C w t27 gs_0 t26s) (t28, tabless)).bind fun (t280, t290, tabless0) => k0 t280 t290 tabless0
noncomputable def s_starfree_Accepts_4L_dec : Out → St → Option ((Int × (List V)) ⊕ ((Int × Bool × (List V)))) := fun o st => match o with
 | .norm => some (.inl (V.toInt (st.sl 28), arrOf (st.hp 1)))
 | .exit q => bif Nat.beq q 0 then some (.inr (V.toInt (st.sl 28), V.toBool (st.sl 29), arrOf (st.hp 1))) else none
 | .ret => none
noncomputable def s_starfree_Accepts_4L_hd (w : List UInt8) (t27 : Int) (gs_0 : List V) (gs_1 : Int) (t26s : List V) : (Int × (List V)) → St := fun (t28, tabless) => z16_3 w t27 t28 gs_0 gs_1 tabless t26s
noncomputable def s_starfree_Accepts_4L_enc (w : List UInt8) (t27 : Int) (gs_0 : List V) (gs_1 : Int) (t26s : List V) : ((Int × Bool × (List V))) → Out × St := fun (t280, t290, tabless0) => (.exit 0, z16_4 w t27 t280 t290 gs_0 gs_1 tabless0 t26s)
theorem s_starfree_Accepts_4L_eq (C : CallF) (w : List UInt8) (t27 t28 : Int) (gs_0 : List V) (gs_1 : Int) (tabless t26s : List V) {β : Type} (K : Out → St → Option β) :
 execL Try.prog ann C 16 56 0 (codesAt Try.prog 16 [[1, 1, 1, 0, 1, 0]]) (z16_3 w t27 t28 gs_0 gs_1 tabless t26s) K =
  s_starfree_Accepts_4L C w t27 t28 gs_0 tabless t26s
   (fun (t280 : Int) (t290 : Bool) (tabless0 : List V) => K (.exit 0) (z16_4 w t27 t280 t290 gs_0 gs_1 tabless0 t26s)) := by
 have hitems : flatC (codeAt [1, 1, 1, 0, 1, 0, 0] (bodyOf Try.prog 16)) = q16_1 := by kernel_rfl
 have hloop : [codeAt [1, 1, 1, 0, 1, 0] (bodyOf Try.prog 16)] = [Code.loop (codeAt [1, 1, 1, 0, 1, 0, 0] (bodyOf Try.prog 16))] := by kernel_rfl
 have h := loopK_eq (P := Try.prog) (A := ann) (C := C) (f := 16) (n := 56) (m := 0) (c := codeAt [1, 1, 1, 0, 1, 0, 0] (bodyOf Try.prog 16)) (s_starfree_Accepts_4L_hd w t27 gs_0 gs_1 t26s) (s_starfree_Accepts_4L_enc w t27 gs_0 gs_1 t26s) s_starfree_Accepts_4L_dec (s_starfree_Accepts_4L_step C w t27 gs_0 t26s)
  (by rintro ⟨t28, tabless⟩; exact Eq.trans (execK_items hitems) (Eq.trans (s_starfree_Accepts_3_eq C w t27 t28 gs_0 gs_1 tabless t26s s_starfree_Accepts_4L_dec) (by kernel_rfl)))
  (by rintro ⟨t28, tabless⟩; exact Eq.trans (execK_items hitems) (Eq.trans (s_starfree_Accepts_3_eq C w t27 t28 gs_0 gs_1 tabless t26s (fun o st => some (o, st))) (Eq.trans (by kernel_rfl) (Eq.trans (s_starfree_Accepts_3_eq C w t27 t28 gs_0 gs_1 tabless t26s (fun o st => (s_starfree_Accepts_4L_dec o st).map (outS (s_starfree_Accepts_4L_hd w t27 gs_0 gs_1 t26s) (s_starfree_Accepts_4L_enc w t27 gs_0 gs_1 t26s)))).symm (execK_items hitems).symm))))
  (by intro r; intro h; cases h) (t28, tabless) K
 refine Eq.trans (congrArg (fun l => execL Try.prog ann C 16 56 0 l (z16_3 w t27 t28 gs_0 gs_1 tabless t26s) K) hloop) (Eq.trans h ?_)
 · refine congrArg _ (funext fun r => ?_)
   rfl
noncomputable def d16_5 (C : CallF) (w : List UInt8) (t27 t28 : Int) (gs_0 tabless t26s : List V) {β : Type} (k0 : (List V) → Option β) : Option β :=
 s_starfree_Accepts_4L C w t27 t28 gs_0 tabless t26s
  (fun (t_13 : Int) (t_14 : Bool) (tabless_15 : List V) =>
   k0 tabless_15)
noncomputable abbrev z16_5 (c0 : List UInt8) (c1 : List V) (c2 : Int) (c3 : List V) : St :=
 mk [(1, .str c0), (2, .ptr 0 0 0), (5, .whole T_starfree_table 1)] [.var [.list T_api_SfNode c1, .int .i64 c2], .arr T_starfree_table c3 false]
theorem h16_5_eq (C : CallF) (w : List UInt8) (t27 t28 : Int) (gs_0 : List V) (gs_1 : Int) (tabless t26s : List V) {β : Type} (K : Out → St → Option β) :
 execL Try.prog ann C 16 56 0 (codesAt Try.prog 16 [[1, 1, 1, 0, 1]]) (z16_3 w t27 t28 gs_0 gs_1 tabless t26s) K =
  d16_5 C w t27 t28 gs_0 tabless t26s
   (fun (tabless0 : List V) => K .norm (z16_5 w gs_0 gs_1 tabless0)) := Eq.trans (execL_block (P := Try.prog) (A := ann) (C := C) (f := 16) (n := 56) (m := 0) (id := 0) (c := codeAt [1, 1, 1, 0, 1] (bodyOf Try.prog 16)) (d := codeAt [1, 1, 1, 0, 1, 0] (bodyOf Try.prog 16)) (l := codesAt Try.prog 16 [[1, 1, 1, 0, 1, 0]]) (st := z16_3 w t27 t28 gs_0 gs_1 tabless t26s) (K := K) (by kernel_rfl) (by kernel_rfl)) (Eq.trans (s_starfree_Accepts_4L_eq C w t27 t28 gs_0 gs_1 tabless t26s (blockK ann 16 0 0 K)) (by kernel_rfl))
noncomputable def d16_6 (C : CallF) (w : List UInt8) (gs_1 : Int) (tabless : List V) {β : Type} (k0 : Bool → Option β) : Option β :=
 bif (decide (0 ≤ gs_1)) && (decide (gs_1 < (tabless.length : Int))) then
  (tabless[(gs_1 : Int).toNat]?).bind fun x22 =>
   (x22.toList[0]?).bind fun x23 =>
    (C F_starfree_cuts_has [.agg [.int .u64 ((x23.cell 0).toInt), .int .u64 ((x23.cell 1).toInt)], .int .i64 (w.length : Int)] []).bind fun r24 =>
     k0 r24.1.toBool
 else none
noncomputable abbrev q16_2 : List Code := codesAt Try.prog 16 [[1, 1, 1, 1, 0], [1, 1, 1, 1, 1]]
theorem h16_6_eq (C : CallF) (w : List UInt8) (gs_0 : List V) (gs_1 : Int) (tabless : List V) {β : Type} (K : Out → St → Option β) :
 execL Try.prog ann C 16 56 0 (q16_2) (z16_5 w gs_0 gs_1 tabless) K =
  d16_6 C w gs_1 tabless
   (fun (t40 : Bool) => K .ret (z16_2 t40)) := by kernel_rfl
noncomputable def d16_7 (C : CallF) (w : List UInt8) (t27 t28 : Int) (gs_0 : List V) (gs_1 : Int) (tabless t26s : List V) {β : Type} (k0 : Bool → Option β) : Option β :=
 d16_5 C w t27 t28 gs_0 tabless t26s
  (fun (tabless_25 : List V) =>
   d16_6 C w gs_1 tabless_25
    (fun (t_26 : Bool) =>
     k0 t_26))
noncomputable abbrev q16_3 : List Code := codesAt Try.prog 16 [[1, 1, 1, 0, 1], [1, 1, 1, 1, 0], [1, 1, 1, 1, 1]]
theorem h16_7_eq (C : CallF) (w : List UInt8) (t27 t28 : Int) (gs_0 : List V) (gs_1 : Int) (tabless t26s : List V) {β : Type} (K : Out → St → Option β) :
 execL Try.prog ann C 16 56 0 (q16_3) (z16_3 w t27 t28 gs_0 gs_1 tabless t26s) K =
  d16_7 C w t27 t28 gs_0 gs_1 tabless t26s
   (fun (t40 : Bool) => K .ret (z16_2 t40)) := by
 refine Eq.trans (execL_app (P := Try.prog) (A := ann) (C := C) (f := 16) (n := 56) (m := 0) (codesAt Try.prog 16 [[1, 1, 1, 0, 1]]) (q16_2) (st := z16_3 w t27 t28 gs_0 gs_1 tabless t26s) (K := K)) (Eq.trans (h16_5_eq C w t27 t28 gs_0 gs_1 tabless t26s (seqK Try.prog ann C 16 56 0 (q16_2) K)) ?_)
 · exact Eq.trans (by kernel_rfl) (Eq.trans (congrArg (fun HOLE : (List V) → Option β => d16_5 C w t27 t28 gs_0 tabless t26s HOLE) (funext fun (tabless0 : List V) => h16_6_eq C w gs_0 gs_1 tabless0 K)) ((by kernel_rfl)))
noncomputable def d16_8 (C : CallF) (w : List UInt8) (t20 : Bool) (gs_0 : List V) (gs_1 : Int) {β : Type} (k0 : Bool → Option β) : Option β :=
 d16_2 C t20 gs_0 gs_1
  (fun (t_27 : Bool) =>
   k0 t_27)
  (fun (t_28 : Int) (tabless_29 : List V) (t26s_30 : List V) =>
   d16_7 C w t_28 0 gs_0 gs_1 tabless_29 t26s_30
    (fun (t_31 : Bool) =>
     k0 t_31))
noncomputable abbrev q16_4 : List Code := codesAt Try.prog 16 [[1, 0, 1], [1, 1, 0], [1, 1, 1, 0, 0], [1, 1, 1, 0, 1], [1, 1, 1, 1, 0], [1, 1, 1, 1, 1]]
theorem h16_8_eq (C : CallF) (w : List UInt8) (t20 : Bool) (gs_0 : List V) (gs_1 : Int) {β : Type} (K : Out → St → Option β) :
 execL Try.prog ann C 16 56 0 (q16_4) (z16_0 w t20 gs_0 gs_1) K =
  d16_8 C w t20 gs_0 gs_1
   (fun (t40 : Bool) => K .ret (z16_2 t40)) := by
 refine Eq.trans (execL_app (P := Try.prog) (A := ann) (C := C) (f := 16) (n := 56) (m := 0) (q16_0) (q16_3) (st := z16_0 w t20 gs_0 gs_1) (K := K)) (Eq.trans (h16_2_eq C w t20 gs_0 gs_1 (seqK Try.prog ann C 16 56 0 (q16_3) K)) ?_)
 · exact Eq.trans (by kernel_rfl) (Eq.trans (congrArg (fun HOLE : Int → (List V) → (List V) → Option β => d16_2 C t20 gs_0 gs_1 (fun (t40 : Bool) => K .ret (z16_2 t40)) HOLE) (funext fun (t271 : Int) => funext fun (tabless1 : List V) => funext fun (t26s1 : List V) => h16_7_eq C w t271 0 gs_0 gs_1 tabless1 t26s1 K)) ((by kernel_rfl)))
noncomputable def d16_9 (C : CallF) (g_Nodes : List V) (g_Root : Int) (w : List UInt8) {β : Type} (k0 : Bool → Option β) : Option β :=
 s_starfree_Accepts_1 C g_Nodes g_Root w
  (fun (t_32 : Bool) =>
   d16_8 C w t_32 g_Nodes g_Root
    (fun (t_33 : Bool) =>
     k0 t_33))
noncomputable abbrev q16_5 : List Code := codesAt Try.prog 16 [[0], [1, 0, 0], [1, 0, 1], [1, 1, 0], [1, 1, 1, 0, 0], [1, 1, 1, 0, 1], [1, 1, 1, 1, 0], [1, 1, 1, 1, 1]]
theorem h16_9_eq (C : CallF) (g_Nodes : List V) (g_Root : Int) (w : List UInt8) {β : Type} (K : Out → St → Option β) :
 execL Try.prog ann C 16 56 0 (q16_5) (z16_1 g_Nodes g_Root w) K =
  d16_9 C g_Nodes g_Root w
   (fun (t40 : Bool) => K .ret (z16_2 t40)) := by
 refine Eq.trans (execL_app (P := Try.prog) (A := ann) (C := C) (f := 16) (n := 56) (m := 0) (codesAt Try.prog 16 [[0], [1, 0, 0]]) (q16_4) (st := z16_1 g_Nodes g_Root w) (K := K)) (Eq.trans (s_starfree_Accepts_1_eq C g_Nodes g_Root w (seqK Try.prog ann C 16 56 0 (q16_4) K)) ?_)
 · exact Eq.trans (by kernel_rfl) (Eq.trans (congrArg (fun HOLE : Bool → Option β => s_starfree_Accepts_1 C g_Nodes g_Root w HOLE) (funext fun (t200 : Bool) => h16_8_eq C w t200 g_Nodes g_Root K)) ((by kernel_rfl)))
noncomputable def f_starfree_Accepts (C : CallF) (g_Nodes : List V) (g_Root : Int) (w : List UInt8) : Option (V × List V) :=
 s_starfree_Accepts_1 C g_Nodes g_Root w
  (fun (t_34 : Bool) =>
   bif t_34 then
    some (.bool false, [])
   else
    bif (decide (0 ≤ (g_Nodes.length : Int))) && ((decide ((g_Nodes.length : Int) ≤ (g_Nodes.length : Int))) && (Nat.ble ((((g_Nodes.length : Int) : Int).toNat) * 24) maxBytes)) then
     (C F_starfree_reached [.agg [.list T_api_SfNode g_Nodes, .int .i64 g_Root]] []).bind fun r3 =>
      s_starfree_Accepts_4L C w (r3.1.toList.length : Int) 0 g_Nodes (List.replicate (((g_Nodes.length : Int) : Int).toNat) (V.list T_starfree_cuts ([] : List V))) r3.1.toList
       (fun (t_16 : Int) (t_17 : Bool) (tabless_18 : List V) =>
        bif (decide (0 ≤ g_Root)) && (decide (g_Root < (tabless_18.length : Int))) then
         (tabless_18[(g_Root : Int).toNat]?).bind fun x22 =>
          (x22.toList[0]?).bind fun x23 =>
           (C F_starfree_cuts_has [.agg [.int .u64 ((x23.cell 0).toInt), .int .u64 ((x23.cell 1).toInt)], .int .i64 (w.length : Int)] []).bind fun r24 =>
            some (.bool r24.1.toBool, [])
        else none)
    else none)
theorem f_starfree_Accepts_eq (C : CallF) (g_Nodes : List V) (g_Root : Int) (w : List UInt8) : bodyK Try.prog ann C 16 [.agg [.list T_api_SfNode g_Nodes, .int .i64 g_Root], .str w] [] = f_starfree_Accepts C g_Nodes g_Root w :=
 Eq.trans (bodyK_fin (by kernel_rfl)) (Eq.trans (execK_items (by kernel_rfl)) (Eq.trans (h16_9_eq C g_Nodes g_Root w (finK Try.prog ann C 16 [])) (by kernel_rfl)))
theorem f_starfree_Accepts_of {g_Nodes : List V} {g_Root : Int} {w : List UInt8} {r : V × List V} (h : f_starfree_Accepts CC g_Nodes g_Root w = some r) : CC F_starfree_Accepts [.agg [.list T_api_SfNode g_Nodes, .int .i64 g_Root], .str w] [] = some r :=
 Call_of_body ((bodyK_eq ..).trans ((f_starfree_Accepts_eq ..).trans h))
end Go.AM

/-
 Accepts: whether a word belongs to the language of the root.
-/
namespace Go.AM
open Go.Proofs
def acceptsB (l : List Node) (root : Int) (w : List UInt8) : Bool :=
 decide (validateN l root 6 = 0) && (wordValidB w 6 && (decide (w.length ≤ 64) && lang l root.toNat w))
theorem validateN_zero {l : List Node} {root letters : Int} : validateN l root letters = 0 ↔ (1 ≤ letters ∧ letters ≤ 6) ∧ l.length ≤ 20000 ∧ Valid letters l ∧ 0 ≤ root ∧ root < l.length := by
 unfold validateN Valid
 split
 · constructor
   · intro h; omega
   · intro h; omega
 · split
   · constructor
     · intro h; omega
     · intro h; omega
   · split
     · rename_i h
       simp only [Bool.and_eq_true, decide_eq_true_eq] at h
       constructor
       · intro _; exact ⟨by omega, by omega, h.1, h.2⟩
       · intro _; rfl
     · rename_i h
       simp only [Bool.and_eq_true, decide_eq_true_eq] at h
       constructor
       · intro h'; omega
       · rintro ⟨_, _, h1, h2⟩; exact absurd ⟨h1, h2⟩ h
theorem sub_all (w : List UInt8) : sub w 0 w.length = w := by simp [sub]
theorem accepts_spec (l : List Node) (root : Int) (w : List UInt8) (hlen : l.length < 9223372036854775807) :
 CC F_starfree_Accepts [graphV l root, .str w] [] = some (.bool (acceptsB l root w), []) := by
 refine f_starfree_Accepts_of ?_
 unfold f_starfree_Accepts s_starfree_Accepts_1 s_starfree_Accepts_4L acceptsB
 simp only [validate_spec l root 6 hlen, wordValid_spec, Option.bind_some, V.toInt_int, V.toBool_bool, bif_bne, bif_not, bif_decide, bif_and, bif_ble]
 by_cases hv : ¬ validateN l root 6 = 0
 · rw [if_neg hv]; simp [hv]
 replace hv : validateN l root 6 = 0 := by omega
 rw [if_pos hv]
 simp only [hv, decide_true, Bool.true_and]
 cases hw : wordValidB w 6 with
 | false => simp
 | true =>
  simp only [cond_true, Bool.true_and]
  by_cases hn : (w.length : Int) > 64
  · have : ¬ w.length ≤ 64 := by omega
    rw [if_pos hn]; simp [this]
  have hn' : w.length ≤ 64 := by omega
  rw [if_neg hn]
  simp only [hn', decide_true, Bool.true_and]
  obtain ⟨_, hl20, hval, hr0, hr1⟩ := validateN_zero.1 hv
  obtain ⟨r, rfl⟩ : ∃ r : Nat, root = r := ⟨root.toNat, by omega⟩
  have hr : r < l.length := by omega
  have hwb : wordB 6 w = true := by
   unfold wordValidB at hw
   simp only [Bool.and_eq_true] at hw
   exact hw.2
  obtain ⟨m, hm1, hm2, hm3⟩ := reached_spec hval hr hl20
  simp only [List.length_map, Int.toNat_natCast, hm3, Option.bind_some, V.toList_own, hm1]
  rw [if_pos (by omega), if_pos (by omega), if_pos (by unfold maxBytes; omega)]
  have key := Loop_inv (step := s_starfree_Accepts_4L_step CC w (l.length : Int) (nodesV l) (boolsV m))
   (fun s => ∃ (i : Nat) (T : List V), i ≤ l.length ∧ T.length = l.length ∧ (∀ j, j < i → m[j]? = some true → ∃ t, T[j]? = some (.list T_starfree_cuts t) ∧ IsTable l j w t) ∧ s = ((i : Int), T))
   (fun s => ((l.length : Int) - s.1).toNat)
   (fun s => ∃ (j : Int) (b : Bool) (T : List V), T.length = l.length ∧ (∀ j, m[j]? = some true → ∃ t, T[j]? = some (.list T_starfree_cuts t) ∧ IsTable l j w t) ∧ s = (j, b, T)) (by
    rintro s ⟨i, T, h1, h2, h3, rfl⟩
    unfold s_starfree_Accepts_4L_step s_starfree_Accepts_3
    simp only [bif_and, bif_decide, List.length_map]
    by_cases hi : i < l.length
    · left
      have him : i < m.length := by omega
      rw [if_pos (by omega), if_pos (by omega), if_pos (by omega), Int.toNat_natCast, boolsV_get him]
      simp (disch := omega) only [Option.bind_some, V.toBool_bool, wrap64]
      cases hmi : m[i] with
      | false =>
       refine ⟨(((i + 1 : Nat) : Int), T), by simp only [cond_false]; rfl, ⟨i + 1, T, by omega, h2, fun j hj hmj => ?_, rfl⟩, by simp; omega⟩
       by_cases hji : j = i
       · subst hji; rw [List.getElem?_eq_getElem him, hmi] at hmj; cases hmj
       · exact h3 j (by omega) hmj
      | true =>
       simp only [cond_true]
       have hx : l[i]? = some l[i] := List.getElem?_eq_getElem hi
       have ok := nodeOk_iff.1 (hval.node hx)
       have hri := (hm2 i).1 (by rw [List.getElem?_eq_getElem him, hmi])
       have hT : HasTables l T w l[i] := by
        refine ⟨fun h5 => ?_, fun h5 h8 => ?_⟩
        · have oa := ok.a h5
          obtain ⟨t, ht1, ht2⟩ := h3 l[i].a.toNat (by omega) ((hm2 _).2 (.a hri hx h5))
          exact ⟨t, by rw [idx_some (Int.toNat_of_nonneg oa.1).symm]; exact ht1, ht2⟩
        · have ob := ok.b h5 h8
          obtain ⟨t, ht1, ht2⟩ := h3 l[i].b.toNat (by omega) ((hm2 _).2 (.b hri hx h5 h8))
          exact ⟨t, by rw [idx_some (Int.toNat_of_nonneg ob.1).symm]; exact ht1, ht2⟩
       obtain ⟨t, ht, hc⟩ := evaluate_spec hval hx hT hwb hn'
       rw [idx_map (n := i) rfl hi]
       rw [Node.v] at hc
       simp only [Option.bind_some, Node.v, V.cell_agg, V.nth_zero, V.nth_one, V.nth_two, V.nth_three, V.toInt_int, hc]
       rw [if_pos (by omega), if_pos (by omega), List.getElem?_eq_getElem (show i < T.length by omega)]
       refine ⟨(((i + 1 : Nat) : Int), T.set i (.list T_starfree_cuts t)), by simp, ⟨i + 1, T.set i (.list T_starfree_cuts t), by omega, by simp [h2], fun j hj hmj => ?_, rfl⟩, by simp; omega⟩
       by_cases hji : j = i
       · subst hji; exact ⟨t, List.getElem?_set_self (by omega), ht⟩
       · rw [List.getElem?_set_ne (by omega)]; exact h3 j (by omega) hmj
    · right
      rw [if_neg (by omega)]
      exact ⟨_, rfl, _, _, T, h2, fun j hmj => h3 j (by have := (List.getElem?_eq_some_iff.1 hmj).1; omega) hmj, rfl⟩)
  obtain ⟨s, hs, j, b, T, hT1, hT2, rfl⟩ := key ((0 : Int), List.replicate l.length (.list T_starfree_cuts [])) ⟨0, List.replicate l.length (.list T_starfree_cuts []), by omega, by simp, fun j hj => by omega, rfl⟩
  have hlb : (boolsV m).length = l.length := by simp [hm1]
  rw [hs]
  simp only [Option.bind_some]
  rw [if_pos (by omega), if_pos (by omega)]
  obtain ⟨t, ht1, ht2⟩ := hT2 r ((hm2 r).2 .root)
  have h0 : t[0]? = some (t[0]'(by rw [ht2.1]; omega)) := List.getElem?_eq_getElem _
  have c0 := ht2.2 0 _ h0
  rw [ht1]
  simp only [Option.bind_some, V.toList_list, h0, c0.norm, has_spec c0 (show w.length < 128 by omega), V.toBool_bool, cell]
  have : decide (0 ≤ w.length ∧ w.length ≤ w.length) = true := by simp
  rw [this, Bool.true_and, sub_all]
end Go.AM

/-
 Tape.Graph: a valid graph.
-/
namespace Go.AM
open Go.Proofs
theorem valid_snoc {letters : Int} {l : List Node} {x : Node} (hl : Valid letters l) (hx : NodeOk x l.length letters) : Valid letters (l ++ [x]) := by
 refine validFrom_iff.2 fun j n hj => ?_
 rw [Nat.zero_add]
 by_cases h : j < l.length
 · rw [List.getElem?_append_left h] at hj
   exact hl.node hj
 · have : j = l.length := by
    have := (List.getElem?_eq_some_iff.1 hj).1
    simp at this
    omega
   subst this
   simp at hj
   subst hj
   exact nodeOk_iff.2 hx
theorem graph_spec (tl : List Int) (ta : Nat) (letters most : Int) (ht : TapeOk tl ta) (hl : 1 ≤ letters ∧ letters ≤ 6) (hm : 1 ≤ most ∧ most < 1000) :
 ∃ (l : List Node) (ta' : Nat), TapeOk tl ta' ∧ Valid letters l ∧ 1 ≤ l.length ∧ (l.length : Int) ≤ most ∧
  CC F_semigroupmade_Tape_Graph [.ptr 0 0 0, .int .i64 letters, .int .i64 most] [tapeV tl ta] = some (.agg [.own T_api_SfNode (nodesV l), .int .i64 ((l.length : Int) - 1)], [tapeV tl ta']) := by
 obtain ⟨n, a1, ht1, n0, n1, _, hnext⟩ := next_spec tl ta most ht (by omega)
 have n2 := n1 (by omega)
 have key := Loop_inv (step := s_semigroupmade_Tape_Graph_14L_step CC letters (n + 1))
  (fun s => ∃ (a : Nat) (l : List Node), TapeOk tl a ∧ Valid letters l ∧ (l.length : Int) ≤ n + 1 ∧ s = ((l.length : Int), vIs tl, (a : Int), nodesV l))
  (fun s => (n + 1 - s.1).toNat)
  (fun r => ∃ (b : Bool) (a : Nat) (l : List Node), TapeOk tl a ∧ Valid letters l ∧ (l.length : Int) = n + 1 ∧ r = ((l.length : Int), b, vIs tl, (a : Int), nodesV l)) (by
   rintro s ⟨a, l, hta, hv, hlen, rfl⟩
   unfold s_semigroupmade_Tape_Graph_14L_step
   simp only [bif_decide]
   by_cases hi : (l.length : Int) < n + 1
   · left
     rw [if_pos hi]
     -- the kind
     have s3 : ∃ (op : Int) (a2 : Nat), TapeOk tl a2 ∧ 1 ≤ op ∧ op ≤ 8 ∧ (l.length = 0 → op ≤ 4) ∧ ∀ {β : Type} (k : List V → Int → Int → Option β),
      s_semigroupmade_Tape_Graph_3 CC (l.length : Int) (vIs tl) (a : Int) k = k (vIs tl) (a2 : Int) op := by
      obtain ⟨d, a2, ht2, d0, d1, _, hd⟩ := next_spec tl a 8 hta (by omega)
      have d2 := d1 (by omega)
      unfold tapeV at hd
      by_cases h0 : l.length = 0
      · have m1 := modI_nonneg (1 + d) 4
        have m2 := modI_lt (1 + d) (n := 4) (by omega)
        refine ⟨1 + modI (1 + d) 4, a2, ht2, by omega, by omega, fun _ => by omega, fun k => ?_⟩
        unfold s_semigroupmade_Tape_Graph_3
        have : ((l.length : Int)) = 0 := by omega
        simp (disch := omega) only [hd, Option.bind_some, V.toInt_int, V.nth_zero, V.cell_agg, V.toList_list, V.nth_one, wrap64, bif_beq, mod_spec]
        rw [if_pos this]
      · refine ⟨1 + d, a2, ht2, by omega, by omega, fun h => absurd h h0, fun k => ?_⟩
        unfold s_semigroupmade_Tape_Graph_3
        have : ¬ ((l.length : Int)) = 0 := by omega
        simp (disch := omega) only [hd, Option.bind_some, V.toInt_int, V.nth_zero, V.cell_agg, V.toList_list, V.nth_one, wrap64, bif_beq]
        rw [if_neg this]
     obtain ⟨op, a2, ht2, o1, o2, o3, e3⟩ := s3
     have s4 : ∃ (le : Int) (a3 : Nat), TapeOk tl a3 ∧ (op = 3 → 0 ≤ le ∧ le < letters) ∧ (op ≠ 3 → le = 0) ∧ ∀ {β : Type} (k : List V → Int → Int → Option β),
      s_semigroupmade_Tape_Graph_4 CC letters (vIs tl) (a2 : Int) op 0 k = k (vIs tl) (a3 : Int) le := by
      obtain ⟨d, a3, ht3, d0, d1, _, hd⟩ := next_spec tl a2 letters ht2 (by omega)
      have d2 := d1 (by omega)
      unfold tapeV at hd
      by_cases h : op = 3
      · refine ⟨d, a3, ht3, fun _ => ⟨d0, d2⟩, fun h' => absurd h h', fun k => ?_⟩
        unfold s_semigroupmade_Tape_Graph_4
        simp only [bif_beq, if_pos h, hd, Option.bind_some, V.toInt_int, V.nth_zero, V.cell_agg, V.toList_list, V.nth_one]
      · refine ⟨0, a2, ht2, fun h' => absurd h' h, fun _ => rfl, fun k => ?_⟩
        unfold s_semigroupmade_Tape_Graph_4
        simp only [bif_beq, if_neg h]
     obtain ⟨le, a3, ht3, l1, l2, e4⟩ := s4
     have s5 : ∃ (xa : Int) (a4 : Nat), TapeOk tl a4 ∧ (5 ≤ op → 0 ≤ xa ∧ xa < l.length) ∧ (op < 5 → xa = 0) ∧ ∀ {β : Type} (k : List V → Int → Int → Option β),
      s_semigroupmade_Tape_Graph_5 CC (l.length : Int) (vIs tl) (a3 : Int) op 0 k = k (vIs tl) (a4 : Int) xa := by
      obtain ⟨d, a4, ht4, d0, d1, _, hd⟩ := next_spec tl a3 (l.length : Int) ht3 (by omega)
      unfold tapeV at hd
      by_cases h : op ≥ 5
      · have d2 := d1 (by by_cases h0 : l.length = 0; (have := o3 h0; omega); omega)
        refine ⟨d, a4, ht4, fun _ => ⟨d0, d2⟩, fun h' => by omega, fun k => ?_⟩
        unfold s_semigroupmade_Tape_Graph_5
        simp only [bif_decide, if_pos h, hd, Option.bind_some, V.toInt_int, V.nth_zero, V.cell_agg, V.toList_list, V.nth_one]
      · refine ⟨0, a3, ht3, fun h' => by omega, fun _ => rfl, fun k => ?_⟩
        unfold s_semigroupmade_Tape_Graph_5
        simp only [bif_decide, if_neg h]
     obtain ⟨xa, a4, ht4, x1, x2, e5⟩ := s5
     have s6 : ∃ (xb : Int) (a5 : Nat), TapeOk tl a5 ∧ (5 ≤ op → op ≠ 8 → 0 ≤ xb ∧ xb < l.length) ∧ ((op < 5 ∨ op = 8) → xb = 0) ∧ ∀ {β : Type} (k : List V → Int → List V → Option β),
      s_semigroupmade_Tape_Graph_6 CC (l.length : Int) (vIs tl) (a4 : Int) op le xa 0 (nodesV l) k = k (vIs tl) (a5 : Int) (nodesV (l ++ [⟨op, le, xa, xb⟩])) := by
      obtain ⟨d, a5, ht5, d0, d1, _, hd⟩ := next_spec tl a4 (l.length : Int) ht4 (by omega)
      unfold tapeV at hd
      have hmb : (l.length + 1) * 32 ≤ maxBytes := by unfold maxBytes; omega
      have en : ∀ xb, nodesV (l ++ [⟨op, le, xa, xb⟩]) = nodesV l ++ [.agg [.int .i64 op, .int .i64 le, .int .i64 xa, .int .i64 xb]] := by intro xb; simp [Node.v]
      by_cases h : op ≥ 5
      · by_cases h8 : op = 8
        · refine ⟨0, a4, ht4, fun _ h' => absurd h8 h', fun _ => rfl, fun k => ?_⟩
          unfold s_semigroupmade_Tape_Graph_6
          simp only [bif_decide, bif_bne, bif_ble, if_pos h, if_pos h8, List.length_map, List.length_singleton, if_pos hmb, en]
        · have d2 := d1 (by by_cases h0 : l.length = 0; (have := o3 h0; omega); omega)
          refine ⟨d, a5, ht5, fun _ _ => ⟨d0, d2⟩, fun h' => by omega, fun k => ?_⟩
          unfold s_semigroupmade_Tape_Graph_6
          simp only [bif_decide, bif_bne, bif_ble, if_pos h, if_neg h8, hd, Option.bind_some, V.toInt_int, V.nth_zero, V.cell_agg, V.toList_list, V.nth_one, List.length_map, List.length_singleton, if_pos hmb, en]
      · refine ⟨0, a4, ht4, fun h' => by omega, fun _ => rfl, fun k => ?_⟩
        unfold s_semigroupmade_Tape_Graph_6
        simp only [bif_decide, bif_ble, if_neg h, List.length_map, List.length_singleton, if_pos hmb, en]
     obtain ⟨xb, a5, ht5, y1, y2, e6⟩ := s6
     refine ⟨(((l ++ [(⟨op, le, xa, xb⟩ : Node)]).length : Int), vIs tl, (a5 : Int), nodesV (l ++ [⟨op, le, xa, xb⟩])), ?_, ⟨a5, _, ht5, valid_snoc hv ⟨⟨o1, o2⟩, l1, l2, x1, y1, x2, y2⟩, by simp; omega, rfl⟩, by simp; omega⟩
     rw [e3, e4, e5, e6, wrap64 (by omega) (by omega)]
     simp
   · right
     rw [if_neg hi]
     exact ⟨_, rfl, _, a, l, hta, hv, by omega, rfl⟩)
 obtain ⟨r, hr, b, a', l, hta, hv, hlen, rfl⟩ := key ((0 : Int), vIs tl, (a1 : Int), []) ⟨a1, [], ht1, rfl, by simp; omega, rfl⟩
 refine ⟨l, a', hta, hv, by omega, by omega, f_semigroupmade_Tape_Graph_of ?_⟩
 unfold f_semigroupmade_Tape_Graph s_semigroupmade_Tape_Graph_14L
 unfold tapeV at hnext
 have e1 : IntKind.wrap .i64 (1 + n) = n + 1 := by rw [wrap64 (by omega) (by omega)]; omega
 have e2 : IntKind.wrap .i64 (n + 1 - 1) = (l.length : Int) - 1 := by rw [wrap64 (by omega) (by omega)]; omega
 simp only [hnext, Option.bind_some, V.toInt_int, V.nth_zero, V.cell_agg, V.toList_list, V.nth_one, e1, hr, e2, tapeV]
end Go.AM

set_option maxRecDepth 100000
namespace Go.AM
open Go.Proofs
/-! semigroup/starfree.Depth -/
noncomputable def d17_1 (C : CallF) (g_Nodes : List V) (g_Root : Int) {β : Type} (k0 : Option β) (k1 : Option β) : Option β :=
 (C F_starfree_Validate [.agg [.list T_api_SfNode g_Nodes, .int .i64 g_Root], .int .i64 6] []).bind fun r4 =>
  bif (r4.1.toInt : Int) != 0 then
   k0
  else
   bif (decide (0 ≤ (IntKind.wrap .i64 (g_Root + 1)))) && ((decide ((IntKind.wrap .i64 (g_Root + 1)) ≤ (IntKind.wrap .i64 (g_Root + 1)))) && (Nat.ble (((IntKind.wrap .i64 (g_Root + 1) : Int).toNat) * 8) maxBytes)) then
    bif (decide (0 ≤ (IntKind.wrap .i64 (g_Root + 1)))) && (decide ((IntKind.wrap .i64 (g_Root + 1)) ≤ (g_Nodes.length : Int))) then
     k1
    else none
   else none
noncomputable abbrev z17_0 (c0 : Int) : St :=
 mk [(2, .int .i64 c0)] []
noncomputable abbrev z17_1 (c0 : List V) (c1 c2 : Int) (c3 : List V) (c4 : Int) (c5 : List V) : St :=
 mk [(1, .ptr 0 0 0), (3, .whole T_int 1), (18, .list T_api_SfNode c0), (19, .int .i64 c1), (20, .int .i64 c2)] [.var [.list T_api_SfNode c3, .int .i64 c4], .arr T_int c5 false]
noncomputable abbrev q17_0 : List Code := codesAt Try.prog 17 [[0], [1, 0, 0], [1, 0, 1], [1, 1, 0], [1, 1, 1, 0, 0]]
noncomputable abbrev z17_2 (c0 : List V) (c1 : Int) : St :=
 mk [(0, .agg [.list T_api_SfNode c0, .int .i64 c1])] []
theorem h17_1_eq (C : CallF) (g_Nodes : List V) (g_Root : Int) {β : Type} (K : Out → St → Option β) :
 execL Try.prog ann C 17 69 0 (q17_0) (z17_2 g_Nodes g_Root) K =
  d17_1 C g_Nodes g_Root
   (K .ret (z17_0 0))
   (K .norm (z17_1 ((g_Nodes.drop 0).take (((IntKind.wrap .i64 (g_Root + 1) : Int).toNat) - 0)) (((g_Nodes.drop 0).take (((IntKind.wrap .i64 (g_Root + 1) : Int).toNat) - 0)).length : Int) 0 g_Nodes g_Root (List.replicate ((IntKind.wrap .i64 (g_Root + 1) : Int).toNat) (V.int .i64 0)))) := by kernel_rfl
noncomputable def s_starfree_Depth_2 (C : CallF) (t18 : List V) (t19 t20 : Int) (depths : List V) {β : Type} (k0 : (List V) → Option β) (k1 : Option β) : Option β :=
 bif decide ((t20 : Int) < t19) then
  (idx t18 t20).bind fun x5 =>
   (C F_starfree_parts [.int .i64 ((x5.cell 0).toInt)] []).bind fun r6 =>
    bif decide ((r6.1.toInt : Int) ≥ 1) then
     bif (decide (0 ≤ ((x5.cell 2).toInt))) && (decide (((x5.cell 2).toInt) < (depths.length : Int))) then
      (depths[((x5.cell 2).toInt : Int).toNat]?).bind fun x7 =>
       bif (decide (0 ≤ t20)) && (decide (t20 < (depths.length : Int))) then
        (depths[(t20 : Int).toNat]?).bind fun x8 =>
         (C F_starfree_parts [.int .i64 ((x5.cell 0).toInt)] []).bind fun r9 =>
          bif (r9.1.toInt : Int) == 2 then
           bif (decide (0 ≤ t20)) && (decide (t20 < ((depths.set ((t20 : Int).toNat) (.int .i64 x7.toInt)).length : Int))) then
            ((depths.set ((t20 : Int).toNat) (.int .i64 x7.toInt))[(t20 : Int).toNat]?).bind fun x10 =>
             bif (decide (0 ≤ ((x5.cell 3).toInt))) && (decide (((x5.cell 3).toInt) < ((depths.set ((t20 : Int).toNat) (.int .i64 x7.toInt)).length : Int))) then
              ((depths.set ((t20 : Int).toNat) (.int .i64 x7.toInt))[((x5.cell 3).toInt : Int).toNat]?).bind fun x11 =>
               bif (decide (0 ≤ t20)) && (decide (t20 < ((depths.set ((t20 : Int).toNat) (.int .i64 x7.toInt)).length : Int))) then
                ((depths.set ((t20 : Int).toNat) (.int .i64 x7.toInt))[(t20 : Int).toNat]?).bind fun x12 =>
                 bif (((x5.cell 0).toInt) : Int) == 7 then
                  bif (decide (0 ≤ t20)) && (decide (t20 < (((depths.set ((t20 : Int).toNat) (.int .i64 x7.toInt)).set ((t20 : Int).toNat) (.int .i64 (if x11.toInt > x10.toInt then x11.toInt else x10.toInt))).length : Int))) then
                   (((depths.set ((t20 : Int).toNat) (.int .i64 x7.toInt)).set ((t20 : Int).toNat) (.int .i64 (if x11.toInt > x10.toInt then x11.toInt else x10.toInt)))[(t20 : Int).toNat]?).bind fun x13 =>
                    bif (decide (0 ≤ t20)) && (decide (t20 < (((depths.set ((t20 : Int).toNat) (.int .i64 x7.toInt)).set ((t20 : Int).toNat) (.int .i64 (if x11.toInt > x10.toInt then x11.toInt else x10.toInt))).length : Int))) then
                     (((depths.set ((t20 : Int).toNat) (.int .i64 x7.toInt)).set ((t20 : Int).toNat) (.int .i64 (if x11.toInt > x10.toInt then x11.toInt else x10.toInt)))[(t20 : Int).toNat]?).bind fun x14 =>
                      k0 (((depths.set ((t20 : Int).toNat) (.int .i64 x7.toInt)).set ((t20 : Int).toNat) (.int .i64 (if x11.toInt > x10.toInt then x11.toInt else x10.toInt))).set ((t20 : Int).toNat) (.int .i64 (IntKind.wrap .i64 (x13.toInt + 1))))
                    else none
                  else none
                 else
                  k0 ((depths.set ((t20 : Int).toNat) (.int .i64 x7.toInt)).set ((t20 : Int).toNat) (.int .i64 (if x11.toInt > x10.toInt then x11.toInt else x10.toInt)))
               else none
             else none
           else none
          else
           bif (((x5.cell 0).toInt) : Int) == 7 then
            bif (decide (0 ≤ t20)) && (decide (t20 < ((depths.set ((t20 : Int).toNat) (.int .i64 x7.toInt)).length : Int))) then
             ((depths.set ((t20 : Int).toNat) (.int .i64 x7.toInt))[(t20 : Int).toNat]?).bind fun x15 =>
              bif (decide (0 ≤ t20)) && (decide (t20 < ((depths.set ((t20 : Int).toNat) (.int .i64 x7.toInt)).length : Int))) then
               ((depths.set ((t20 : Int).toNat) (.int .i64 x7.toInt))[(t20 : Int).toNat]?).bind fun x16 =>
                k0 ((depths.set ((t20 : Int).toNat) (.int .i64 x7.toInt)).set ((t20 : Int).toNat) (.int .i64 (IntKind.wrap .i64 (x15.toInt + 1))))
              else none
            else none
           else
            k0 (depths.set ((t20 : Int).toNat) (.int .i64 x7.toInt))
       else none
     else none
    else
     (C F_starfree_parts [.int .i64 ((x5.cell 0).toInt)] []).bind fun r17 =>
      bif (r17.1.toInt : Int) == 2 then
       bif (decide (0 ≤ t20)) && (decide (t20 < (depths.length : Int))) then
        (depths[(t20 : Int).toNat]?).bind fun x18 =>
         bif (decide (0 ≤ ((x5.cell 3).toInt))) && (decide (((x5.cell 3).toInt) < (depths.length : Int))) then
          (depths[((x5.cell 3).toInt : Int).toNat]?).bind fun x19 =>
           bif (decide (0 ≤ t20)) && (decide (t20 < (depths.length : Int))) then
            (depths[(t20 : Int).toNat]?).bind fun x20 =>
             bif (((x5.cell 0).toInt) : Int) == 7 then
              bif (decide (0 ≤ t20)) && (decide (t20 < ((depths.set ((t20 : Int).toNat) (.int .i64 (if x19.toInt > x18.toInt then x19.toInt else x18.toInt))).length : Int))) then
               ((depths.set ((t20 : Int).toNat) (.int .i64 (if x19.toInt > x18.toInt then x19.toInt else x18.toInt)))[(t20 : Int).toNat]?).bind fun x21 =>
                bif (decide (0 ≤ t20)) && (decide (t20 < ((depths.set ((t20 : Int).toNat) (.int .i64 (if x19.toInt > x18.toInt then x19.toInt else x18.toInt))).length : Int))) then
                 ((depths.set ((t20 : Int).toNat) (.int .i64 (if x19.toInt > x18.toInt then x19.toInt else x18.toInt)))[(t20 : Int).toNat]?).bind fun x22 =>
                  k0 ((depths.set ((t20 : Int).toNat) (.int .i64 (if x19.toInt > x18.toInt then x19.toInt else x18.toInt))).set ((t20 : Int).toNat) (.int .i64 (IntKind.wrap .i64 (x21.toInt + 1))))
                else none
              else none
             else
              k0 (depths.set ((t20 : Int).toNat) (.int .i64 (if x19.toInt > x18.toInt then x19.toInt else x18.toInt)))
           else none
         else none
       else none
      else
       bif (((x5.cell 0).toInt) : Int) == 7 then
        bif (decide (0 ≤ t20)) && (decide (t20 < (depths.length : Int))) then
         (depths[(t20 : Int).toNat]?).bind fun x23 =>
          bif (decide (0 ≤ t20)) && (decide (t20 < (depths.length : Int))) then
           (depths[(t20 : Int).toNat]?).bind fun x24 =>
            k0 (depths.set ((t20 : Int).toNat) (.int .i64 (IntKind.wrap .i64 (x23.toInt + 1))))
          else none
        else none
       else
        k0 depths
 else
  k1
noncomputable abbrev z17_3 (c0 : List V) (c1 c2 : Int) (c3 : Bool) (c4 : List V) (c5 : Int) (c6 : List V) : St :=
 mk [(1, .ptr 0 0 0), (3, .whole T_int 1), (18, .list T_api_SfNode c0), (19, .int .i64 c1), (20, .int .i64 c2), (21, .bool c3)] [.var [.list T_api_SfNode c4, .int .i64 c5], .arr T_int c6 false]
noncomputable abbrev q17_1 : List Code := codesAt Try.prog 17 [[1, 1, 1, 0, 1, 0, 0, 0], [1, 1, 1, 0, 1, 0, 0, 1, 0], [1, 1, 1, 0, 1, 0, 0, 1, 1, 0]]
theorem s_starfree_Depth_2_eq (C : CallF) (t18 : List V) (t19 t20 : Int) (gs_0 : List V) (gs_1 : Int) (depths : List V) {β : Type} (K : Out → St → Option β) :
 execL Try.prog ann C 17 69 0 (q17_1) (z17_1 t18 t19 t20 gs_0 gs_1 depths) K =
  s_starfree_Depth_2 C t18 t19 t20 depths
   (fun (depths0 : List V) => K .norm (z17_1 t18 t19 t20 gs_0 gs_1 depths0))
   (K (.exit 0) (z17_3 t18 t19 t20 (decide ((t20 : Int) < t19)) gs_0 gs_1 depths)) := by kernel_rfl
noncomputable def d17_3 (C : CallF)  {β : Type} (k0 : Option β) : Option β :=
 k0
noncomputable abbrev q17_2 : List Code := codesAt Try.prog 17 [[1, 1, 1, 0, 1, 0, 0, 1, 1, 1]]
theorem h17_3_eq (C : CallF) (t18 : List V) (t19 t20 : Int) (gs_0 : List V) (gs_1 : Int) (depths : List V) {β : Type} (K : Out → St → Option β) :
 execL Try.prog ann C 17 69 0 (q17_2) (z17_1 t18 t19 t20 gs_0 gs_1 depths) K =
  d17_3 C
   (K .norm (z17_1 t18 t19 (IntKind.wrap .i64 (t20 + 1)) gs_0 gs_1 depths)) := by kernel_rfl
noncomputable def d17_4 (C : CallF) (t18 : List V) (t19 t20 : Int) (depths : List V) {β : Type} (k0 : (List V) → Option β) (k1 : Option β) : Option β :=
 s_starfree_Depth_2 C t18 t19 t20 depths
  (fun (depths_45 : List V) =>
   d17_3 C
    (
     k0 depths_45))
  (
   k1)
noncomputable abbrev q17_3 : List Code := codesAt Try.prog 17 [[1, 1, 1, 0, 1, 0, 0, 0], [1, 1, 1, 0, 1, 0, 0, 1, 0], [1, 1, 1, 0, 1, 0, 0, 1, 1, 0], [1, 1, 1, 0, 1, 0, 0, 1, 1, 1]]
theorem h17_4_eq (C : CallF) (t18 : List V) (t19 t20 : Int) (gs_0 : List V) (gs_1 : Int) (depths : List V) {β : Type} (K : Out → St → Option β) :
 execL Try.prog ann C 17 69 0 (q17_3) (z17_1 t18 t19 t20 gs_0 gs_1 depths) K =
  d17_4 C t18 t19 t20 depths
   (fun (depths0 : List V) => K .norm (z17_1 t18 t19 (IntKind.wrap .i64 (t20 + 1)) gs_0 gs_1 depths0))
   (K (.exit 0) (z17_3 t18 t19 t20 (decide ((t20 : Int) < t19)) gs_0 gs_1 depths)) := by
 refine Eq.trans (execL_app (P := Try.prog) (A := ann) (C := C) (f := 17) (n := 69) (m := 0) (q17_1) (q17_2) (st := z17_1 t18 t19 t20 gs_0 gs_1 depths) (K := K)) (Eq.trans (s_starfree_Depth_2_eq C t18 t19 t20 gs_0 gs_1 depths (seqK Try.prog ann C 17 69 0 (q17_2) K)) ?_)
 · exact Eq.trans (by kernel_rfl) (Eq.trans (congrArg (fun HOLE : (List V) → Option β => s_starfree_Depth_2 C t18 t19 t20 depths HOLE (K (.exit 0) (z17_3 t18 t19 t20 (decide ((t20 : Int) < t19)) gs_0 gs_1 depths))) (funext fun (depths0 : List V) => h17_3_eq C t18 t19 t20 gs_0 gs_1 depths0 K)) ((by kernel_rfl)))
noncomputable def s_starfree_Depth_5L_step (C : CallF) (t18 : List V) (t19 : Int) : (Int × (List V)) → Option ((Int × (List V)) ⊕ ((Int × Bool × (List V)))) := fun (t20, depths) =>
 s_starfree_Depth_2 C t18 t19 t20 depths
  (fun (depths_46 : List V) =>
   some (.inl (IntKind.wrap .i64 (t20 + 1), depths_46)))
  (
   some (.inr (t20, decide ((t20 : Int) < t19), depths)))
noncomputable def s_starfree_Depth_5L (C : CallF) (t18 : List V) (t19 t20 : Int) (depths : List V) {β : Type} (k0 : Int → Bool → (List V) → Option β) : Option β :=
 (Loop (s_starfree_Depth_5L_step C t18 t19) (t20, depths)).bind fun (t200, t210, depths0) => k0 t200 t210 depths0
noncomputable def s_starfree_Depth_5L_dec : Out → St → Option ((Int × (List V)) ⊕ ((Int × Bool × (List V)))) := fun o st => match o with
 | .norm => some (.inl (V.toInt (st.sl 20), arrOf (st.hp 1)))
 | .exit q => bif Nat.beq q 0 then some (.inr (V.toInt (st.sl 20), V.toBool (st.sl 21), arrOf (st.hp 1))) else none
 | .ret => none
noncomputable def s_starfree_Depth_5L_hd (t18 : List V) (t19 : Int) (gs_0 : List V) (gs_1 : Int) : (Int × (List V)) → St := fun (t20, depths) => z17_1 t18 t19 t20 gs_0 gs_1 depths
noncomputable def s_starfree_Depth_5L_enc (t18 : List V) (t19 : Int) (gs_0 : List V) (gs_1 : Int) : ((Int × Bool × (List V))) → Out × St := fun (t200, t210, depths0) => (.exit 0, z17_3 t18 t19 t200 t210 gs_0 gs_1 depths0)
theorem s_starfree_Depth_5L_eq (C : CallF) (t18 : List V) (t19 t20 : Int) (gs_0 : List V) (gs_1 : Int) (depths : List V) {β : Type} (K : Out → St → Option β) :
 execL Try.prog ann C 17 69 0 (codesAt Try.prog 17 [[1, 1, 1, 0, 1, 0]]) (z17_1 t18 t19 t20 gs_0 gs_1 depths) K =
  s_starfree_Depth_5L C t18 t19 t20 depths
   (fun (t200 : Int) (t210 : Bool) (depths0 : List V) => K (.exit 0) (z17_3 t18 t19 t200 t210 gs_0 gs_1 depths0)) := by
 have hitems : flatC (codeAt [1, 1, 1, 0, 1, 0, 0] (bodyOf Try.prog 17)) = q17_3 := by kernel_rfl
 have hloop : [codeAt [1, 1, 1, 0, 1, 0] (bodyOf Try.prog 17)] = [Code.loop (codeAt [1, 1, 1, 0, 1, 0, 0] (bodyOf Try.prog 17))] := by kernel_rfl
 have h := loopK_eq (P := Try.prog) (A := ann) (C := C) (f := 17) (n := 69) (m := 0) (c := codeAt [1, 1, 1, 0, 1, 0, 0] (bodyOf Try.prog 17)) (s_starfree_Depth_5L_hd t18 t19 gs_0 gs_1) (s_starfree_Depth_5L_enc t18 t19 gs_0 gs_1) s_starfree_Depth_5L_dec (s_starfree_Depth_5L_step C t18 t19)
  (by rintro ⟨t20, depths⟩; exact Eq.trans (execK_items hitems) (Eq.trans (h17_4_eq C t18 t19 t20 gs_0 gs_1 depths s_starfree_Depth_5L_dec) (by kernel_rfl)))
  (by rintro ⟨t20, depths⟩; exact Eq.trans (execK_items hitems) (Eq.trans (h17_4_eq C t18 t19 t20 gs_0 gs_1 depths (fun o st => some (o, st))) (Eq.trans (by kernel_rfl) (Eq.trans (h17_4_eq C t18 t19 t20 gs_0 gs_1 depths (fun o st => (s_starfree_Depth_5L_dec o st).map (outS (s_starfree_Depth_5L_hd t18 t19 gs_0 gs_1) (s_starfree_Depth_5L_enc t18 t19 gs_0 gs_1)))).symm (execK_items hitems).symm))))
  (by intro r; intro h; cases h) (t20, depths) K
 refine Eq.trans (congrArg (fun l => execL Try.prog ann C 17 69 0 l (z17_1 t18 t19 t20 gs_0 gs_1 depths) K) hloop) (Eq.trans h ?_)
 · refine congrArg _ (funext fun r => ?_)
   rfl
noncomputable def d17_6 (C : CallF) (t18 : List V) (t19 t20 : Int) (depths : List V) {β : Type} (k0 : (List V) → Option β) : Option β :=
 s_starfree_Depth_5L C t18 t19 t20 depths
  (fun (t_47 : Int) (t_48 : Bool) (depths_49 : List V) =>
   k0 depths_49)
noncomputable abbrev z17_4 (c0 : List V) (c1 : Int) (c2 : List V) : St :=
 mk [(1, .ptr 0 0 0), (3, .whole T_int 1)] [.var [.list T_api_SfNode c0, .int .i64 c1], .arr T_int c2 false]
theorem h17_6_eq (C : CallF) (t18 : List V) (t19 t20 : Int) (gs_0 : List V) (gs_1 : Int) (depths : List V) {β : Type} (K : Out → St → Option β) :
 execL Try.prog ann C 17 69 0 (codesAt Try.prog 17 [[1, 1, 1, 0, 1]]) (z17_1 t18 t19 t20 gs_0 gs_1 depths) K =
  d17_6 C t18 t19 t20 depths
   (fun (depths0 : List V) => K .norm (z17_4 gs_0 gs_1 depths0)) := Eq.trans (execL_block (P := Try.prog) (A := ann) (C := C) (f := 17) (n := 69) (m := 0) (id := 0) (c := codeAt [1, 1, 1, 0, 1] (bodyOf Try.prog 17)) (d := codeAt [1, 1, 1, 0, 1, 0] (bodyOf Try.prog 17)) (l := codesAt Try.prog 17 [[1, 1, 1, 0, 1, 0]]) (st := z17_1 t18 t19 t20 gs_0 gs_1 depths) (K := K) (by kernel_rfl) (by kernel_rfl)) (Eq.trans (s_starfree_Depth_5L_eq C t18 t19 t20 gs_0 gs_1 depths (blockK ann 17 0 0 K)) (by kernel_rfl))
noncomputable def d17_7 (C : CallF) (gs_1 : Int) (depths : List V) {β : Type} (k0 : Int → Option β) : Option β :=
 bif (decide (0 ≤ gs_1)) && (decide (gs_1 < (depths.length : Int))) then
  (depths[(gs_1 : Int).toNat]?).bind fun x54 =>
   k0 x54.toInt
 else none
noncomputable abbrev q17_4 : List Code := codesAt Try.prog 17 [[1, 1, 1, 1, 0], [1, 1, 1, 1, 1]]
theorem h17_7_eq (C : CallF) (gs_0 : List V) (gs_1 : Int) (depths : List V) {β : Type} (K : Out → St → Option β) :
 execL Try.prog ann C 17 69 0 (q17_4) (z17_4 gs_0 gs_1 depths) K =
  d17_7 C gs_1 depths
   (fun (t20 : Int) => K .ret (z17_0 t20)) := by kernel_rfl
noncomputable def d17_8 (C : CallF) (t18 : List V) (t19 t20 gs_1 : Int) (depths : List V) {β : Type} (k0 : Int → Option β) : Option β :=
 d17_6 C t18 t19 t20 depths
  (fun (depths_55 : List V) =>
   d17_7 C gs_1 depths_55
    (fun (t_56 : Int) =>
     k0 t_56))
noncomputable abbrev q17_5 : List Code := codesAt Try.prog 17 [[1, 1, 1, 0, 1], [1, 1, 1, 1, 0], [1, 1, 1, 1, 1]]
theorem h17_8_eq (C : CallF) (t18 : List V) (t19 t20 : Int) (gs_0 : List V) (gs_1 : Int) (depths : List V) {β : Type} (K : Out → St → Option β) :
 execL Try.prog ann C 17 69 0 (q17_5) (z17_1 t18 t19 t20 gs_0 gs_1 depths) K =
  d17_8 C t18 t19 t20 gs_1 depths
   (fun (t20' : Int) => K .ret (z17_0 t20')) := by
 refine Eq.trans (execL_app (P := Try.prog) (A := ann) (C := C) (f := 17) (n := 69) (m := 0) (codesAt Try.prog 17 [[1, 1, 1, 0, 1]]) (q17_4) (st := z17_1 t18 t19 t20 gs_0 gs_1 depths) (K := K)) (Eq.trans (h17_6_eq C t18 t19 t20 gs_0 gs_1 depths (seqK Try.prog ann C 17 69 0 (q17_4) K)) ?_)
 · exact Eq.trans (by kernel_rfl) (Eq.trans (congrArg (fun HOLE : (List V) → Option β => d17_6 C t18 t19 t20 depths HOLE) (funext fun (depths0 : List V) => h17_7_eq C gs_0 gs_1 depths0 K)) ((by kernel_rfl)))
noncomputable def d17_9 (C : CallF) (g_Nodes : List V) (g_Root : Int) {β : Type} (k0 : Int → Option β) : Option β :=
 d17_1 C g_Nodes g_Root
  (
   k0 0)
  (
   d17_8 C ((g_Nodes.drop 0).take (((IntKind.wrap .i64 (g_Root + 1) : Int).toNat) - 0)) (((g_Nodes.drop 0).take (((IntKind.wrap .i64 (g_Root + 1) : Int).toNat) - 0)).length : Int) 0 g_Root (List.replicate ((IntKind.wrap .i64 (g_Root + 1) : Int).toNat) (V.int .i64 0))
    (fun (t_57 : Int) =>
     k0 t_57))
noncomputable abbrev q17_6 : List Code := codesAt Try.prog 17 [[0], [1, 0, 0], [1, 0, 1], [1, 1, 0], [1, 1, 1, 0, 0], [1, 1, 1, 0, 1], [1, 1, 1, 1, 0], [1, 1, 1, 1, 1]]
theorem h17_9_eq (C : CallF) (g_Nodes : List V) (g_Root : Int) {β : Type} (K : Out → St → Option β) :
 execL Try.prog ann C 17 69 0 (q17_6) (z17_2 g_Nodes g_Root) K =
  d17_9 C g_Nodes g_Root
   (fun (t20 : Int) => K .ret (z17_0 t20)) := by
 refine Eq.trans (execL_app (P := Try.prog) (A := ann) (C := C) (f := 17) (n := 69) (m := 0) (q17_0) (q17_5) (st := z17_2 g_Nodes g_Root) (K := K)) (Eq.trans (h17_1_eq C g_Nodes g_Root (seqK Try.prog ann C 17 69 0 (q17_5) K)) ?_)
 · exact Eq.trans (by kernel_rfl) (Eq.trans (congrArg (fun HOLE : Option β => d17_1 C g_Nodes g_Root (K .ret (z17_0 0)) HOLE) (h17_8_eq C ((g_Nodes.drop 0).take (((IntKind.wrap .i64 (g_Root + 1) : Int).toNat) - 0)) (((g_Nodes.drop 0).take (((IntKind.wrap .i64 (g_Root + 1) : Int).toNat) - 0)).length : Int) 0 g_Nodes g_Root (List.replicate ((IntKind.wrap .i64 (g_Root + 1) : Int).toNat) (V.int .i64 0)) K)) ((by kernel_rfl)))
noncomputable def f_starfree_Depth (C : CallF) (g_Nodes : List V) (g_Root : Int) : Option (V × List V) :=
 (C F_starfree_Validate [.agg [.list T_api_SfNode g_Nodes, .int .i64 g_Root], .int .i64 6] []).bind fun r4 =>
  bif (r4.1.toInt : Int) != 0 then
   some (.int .i64 0, [])
  else
   bif (decide (0 ≤ (IntKind.wrap .i64 (g_Root + 1)))) && ((decide ((IntKind.wrap .i64 (g_Root + 1)) ≤ (IntKind.wrap .i64 (g_Root + 1)))) && (Nat.ble (((IntKind.wrap .i64 (g_Root + 1) : Int).toNat) * 8) maxBytes)) then
    bif (decide (0 ≤ (IntKind.wrap .i64 (g_Root + 1)))) && (decide ((IntKind.wrap .i64 (g_Root + 1)) ≤ (g_Nodes.length : Int))) then
     s_starfree_Depth_5L C ((g_Nodes.drop 0).take (((IntKind.wrap .i64 (g_Root + 1) : Int).toNat) - 0)) (((g_Nodes.drop 0).take (((IntKind.wrap .i64 (g_Root + 1) : Int).toNat) - 0)).length : Int) 0 (List.replicate ((IntKind.wrap .i64 (g_Root + 1) : Int).toNat) (V.int .i64 0))
      (fun (t_50 : Int) (t_51 : Bool) (depths_52 : List V) =>
       bif (decide (0 ≤ g_Root)) && (decide (g_Root < (depths_52.length : Int))) then
        (depths_52[(g_Root : Int).toNat]?).bind fun x54 =>
         some (.int .i64 x54.toInt, [])
       else none)
    else none
   else none
theorem f_starfree_Depth_eq (C : CallF) (g_Nodes : List V) (g_Root : Int) : bodyK Try.prog ann C 17 [.agg [.list T_api_SfNode g_Nodes, .int .i64 g_Root]] [] = f_starfree_Depth C g_Nodes g_Root :=
 Eq.trans (bodyK_fin (by kernel_rfl)) (Eq.trans (execK_items (by kernel_rfl)) (Eq.trans (h17_9_eq C g_Nodes g_Root (finK Try.prog ann C 17 [])) (by kernel_rfl)))
theorem f_starfree_Depth_of {g_Nodes : List V} {g_Root : Int} {r : V × List V} (h : f_starfree_Depth CC g_Nodes g_Root = some r) : CC F_starfree_Depth [.agg [.list T_api_SfNode g_Nodes, .int .i64 g_Root]] [] = some r :=
 Call_of_body ((bodyK_eq ..).trans ((f_starfree_Depth_eq ..).trans h))
end Go.AM

set_option maxRecDepth 100000
namespace Go.AM
open Go.Proofs
/-! semigroup/semigrouplaw31.known -/
noncomputable def s_semigrouplaw31_known_1 (C : CallF)  {β : Type} (k0 : Bool → Option β) : Option β :=
 (C F_semigrouplaw31_example [] []).bind fun r8 =>
  (C F_starfree_Accepts [.agg [.list T_api_SfNode ((r8.1.cell 0).toList), .int .i64 ((r8.1.cell 1).toInt)], .str [97, 97, 97]] []).bind fun r9 =>
   bif r9.1.toBool then
    (C F_starfree_Accepts [.agg [.list T_api_SfNode ((r8.1.cell 0).toList), .int .i64 ((r8.1.cell 1).toInt)], .str [97, 98, 97]] []).bind fun r10 =>
     bif !r10.1.toBool then
      (C F_starfree_Depth [.agg [.list T_api_SfNode ((r8.1.cell 0).toList), .int .i64 ((r8.1.cell 1).toInt)]] []).bind fun r11 =>
       bif (r11.1.toInt : Int) == 2 then
        (C F_starfree_Validate [.agg [.list T_api_SfNode ((r8.1.cell 0).toList), .int .i64 ((r8.1.cell 1).toInt)], .int .i64 2] []).bind fun r12 =>
         bif (r12.1.toInt : Int) == 0 then
          (C F_starfree_Validate [.agg [.list T_api_SfNode ((r8.1.cell 0).toList), .int .i64 ((r8.1.cell 1).toInt)], .int .i64 1] []).bind fun r13 =>
           k0 ((r13.1.toInt : Int) == 22)
         else
          k0 false
       else
        k0 false
     else
      k0 false
   else
    k0 false
noncomputable abbrev z12_0 (c0 : Bool) : St :=
 mk [(0, .bool c0)] []
noncomputable abbrev q12_0 : List Code := codesAt Try.prog 12 [[0], [1, 0], [1, 1, 0], [1, 1, 1]]
noncomputable abbrev z12_1  : St :=
 mk [] []
theorem s_semigrouplaw31_known_1_eq (C : CallF)  {β : Type} (K : Out → St → Option β) :
 execL Try.prog ann C 12 25 0 (q12_0) (z12_1) K =
  s_semigrouplaw31_known_1 C
   (fun (t00 : Bool) => K .ret (z12_0 t00)) := by kernel_rfl
noncomputable def f_semigrouplaw31_known (C : CallF)  : Option (V × List V) :=
 s_semigrouplaw31_known_1 C
  (fun (t_14 : Bool) =>
   some (.bool t_14, []))
theorem f_semigrouplaw31_known_eq (C : CallF)  : bodyK Try.prog ann C 12 [] [] = f_semigrouplaw31_known C :=
 Eq.trans (bodyK_fin (by kernel_rfl)) (Eq.trans (execK_items (by kernel_rfl)) (Eq.trans (s_semigrouplaw31_known_1_eq C (finK Try.prog ann C 12 [])) (by kernel_rfl)))
theorem f_semigrouplaw31_known_of  {r : V × List V} (h : f_semigrouplaw31_known CC = some r) : CC F_semigrouplaw31_known [] [] = some r :=
 Call_of_body ((bodyK_eq ..).trans ((f_semigrouplaw31_known_eq ..).trans h))
end Go.AM

set_option maxRecDepth 100000
namespace Go.AM
open Go.Proofs
/-! semigroup/semigrouplaw31.example -/
noncomputable def d19_1 (C : CallF)  {β : Type} (k0 : Option β) : Option β :=
 k0
noncomputable abbrev z19_0 (c0 : Int) (c1 : List V) : St :=
 mk [(0, .ptr 0 0 0)] [.var [.whole T_api_SfNode 1, .int .i64 c0], .arr T_api_SfNode c1 false]
noncomputable abbrev z19_1  : St :=
 mk [] []
theorem h19_1_eq (C : CallF)  {β : Type} (K : Out → St → Option β) :
 execL Try.prog ann C 19 8 0 (codesAt Try.prog 19 [[0], [1, 0], [1, 1]]) (z19_1) K =
  d19_1 C
   (K .ret (z19_0 4 ([.agg [.int .i64 4, .int .i64 0, .int .i64 0, .int .i64 0], .agg [.int .i64 3, .int .i64 1, .int .i64 0, .int .i64 0], .agg [.int .i64 7, .int .i64 0, .int .i64 0, .int .i64 1], .agg [.int .i64 7, .int .i64 0, .int .i64 2, .int .i64 0], .agg [.int .i64 8, .int .i64 0, .int .i64 3, .int .i64 0]] : List V))) := by kernel_rfl
noncomputable def f_semigrouplaw31_example (C : CallF)  : Option (V × List V) :=
 some (.agg [.own T_api_SfNode ([.agg [.int .i64 4, .int .i64 0, .int .i64 0, .int .i64 0], .agg [.int .i64 3, .int .i64 1, .int .i64 0, .int .i64 0], .agg [.int .i64 7, .int .i64 0, .int .i64 0, .int .i64 1], .agg [.int .i64 7, .int .i64 0, .int .i64 2, .int .i64 0], .agg [.int .i64 8, .int .i64 0, .int .i64 3, .int .i64 0]] : List V), .int .i64 4], [])
theorem f_semigrouplaw31_example_eq (C : CallF)  : bodyK Try.prog ann C 19 [] [] = f_semigrouplaw31_example C :=
 Eq.trans (bodyK_fin (by kernel_rfl)) (Eq.trans (execK_items (by kernel_rfl)) (Eq.trans (h19_1_eq C (finK Try.prog ann C 19 [])) (by kernel_rfl)))
theorem f_semigrouplaw31_example_of  {r : V × List V} (h : f_semigrouplaw31_example CC = some r) : CC F_semigrouplaw31_example [] [] = some r :=
 Call_of_body ((bodyK_eq ..).trans ((f_semigrouplaw31_example_eq ..).trans h))
end Go.AM

/-
 Depth of a star-free graph; the example of the chapter.
-/
namespace Go.AM
open Go.Proofs
def depthF (l : List Node) : Nat → Nat → Nat
 | 0, _ => 0
 | n + 1, i =>
  match l[i]? with
  | none => 0
  | some x =>
   if x.op = 5 ∨ x.op = 6 then max (depthF l n x.a.toNat) (depthF l n x.b.toNat)
   else if x.op = 7 then max (depthF l n x.a.toNat) (depthF l n x.b.toNat) + 1
   else if x.op = 8 then depthF l n x.a.toNat else 0
def depth (l : List Node) (i : Nat) : Nat := depthF l (i + 1) i
theorem depthF_stable {letters : Int} {l : List Node} (hl : Valid letters l) : ∀ (n m i : Nat), i < n → i < m → depthF l n i = depthF l m i := by
 intro n
 induction n with
 | zero => intro m i h; omega
 | succ n ih =>
  intro m i h1 h2
  obtain ⟨m, rfl⟩ : ∃ k, m = k + 1 := ⟨m - 1, by omega⟩
  unfold depthF
  cases hx : l[i]? with
  | none => rfl
  | some x =>
   have ok := nodeOk_iff.1 (hl.node hx)
   have ha : 5 ≤ x.op → depthF l n x.a.toNat = depthF l m x.a.toNat := fun h => by
    have := ok.a h
    exact ih m _ (by omega) (by omega)
   have hb : 5 ≤ x.op → x.op ≠ 8 → depthF l n x.b.toNat = depthF l m x.b.toNat := fun h h' => by
    have := ok.b h h'
    exact ih m _ (by omega) (by omega)
   simp only
   by_cases h5 : x.op = 5
   · simp [h5, ha (by omega), hb (by omega) (by omega)]
   by_cases h6 : x.op = 6
   · simp [h6, ha (by omega), hb (by omega) (by omega)]
   by_cases h7 : x.op = 7
   · simp [h7, ha (by omega), hb (by omega) (by omega)]
   by_cases h8 : x.op = 8
   · simp [h8, ha (by omega)]
   simp [h5, h6, h7, h8]
theorem depth_eq {letters : Int} {l : List Node} (hl : Valid letters l) {i : Nat} {x : Node} (hx : l[i]? = some x) :
 depth l i = if x.op = 5 ∨ x.op = 6 then max (depth l x.a.toNat) (depth l x.b.toNat)
  else if x.op = 7 then max (depth l x.a.toNat) (depth l x.b.toNat) + 1
  else if x.op = 8 then depth l x.a.toNat else 0 := by
 have ok := nodeOk_iff.1 (hl.node hx)
 have ha : 5 ≤ x.op → depthF l i x.a.toNat = depth l x.a.toNat := fun h => by
  have := ok.a h
  exact depthF_stable hl _ _ _ (by omega) (by omega)
 have hb : 5 ≤ x.op → x.op ≠ 8 → depthF l i x.b.toNat = depth l x.b.toNat := fun h h' => by
  have := ok.b h h'
  exact depthF_stable hl _ _ _ (by omega) (by omega)
 conv => lhs; unfold depth depthF
 rw [hx]
 simp only
 by_cases h5 : x.op = 5
 · simp [h5, ha (by omega), hb (by omega) (by omega)]
 by_cases h6 : x.op = 6
 · simp [h6, ha (by omega), hb (by omega) (by omega)]
 by_cases h7 : x.op = 7
 · simp [h7, ha (by omega), hb (by omega) (by omega)]
 by_cases h8 : x.op = 8
 · simp [h8, ha (by omega)]
 simp [h5, h6, h7, h8]
theorem depth_le {letters : Int} {l : List Node} (hl : Valid letters l) : ∀ (i : Nat), depth l i ≤ i := by
 intro i
 induction i using Nat.strongRecOn with
 | ind i ih =>
  cases hx : l[i]? with
  | none => unfold depth depthF; rw [hx]; exact Nat.zero_le _
  | some x =>
   have ok := nodeOk_iff.1 (hl.node hx)
   rw [depth_eq hl hx]
   have ha : 5 ≤ x.op → depth l x.a.toNat < i := fun h => by
    have := ok.a h
    have := ih x.a.toNat (by omega)
    omega
   have hb : 5 ≤ x.op → x.op ≠ 8 → depth l x.b.toNat < i := fun h h' => by
    have := ok.b h h'
    have := ih x.b.toNat (by omega)
    omega
   split
   · have := ha (by omega); have := hb (by omega) (by omega); omega
   · split
     · have := ha (by omega); have := hb (by omega) (by omega); omega
     · split
       · have := ha (by omega); omega
       · omega
abbrev natsV (l : List Nat) : List V := l.map fun n : Nat => V.int .i64 (n : Int)
theorem natsV_get {m : List Nat} {i : Nat} (h : i < m.length) : (natsV m)[i]? = some (.int .i64 (m[i] : Int)) := by simp [h]
theorem natsV_of {m : List Nat} {i n : Nat} (h : m[i]? = some n) : (natsV m)[i]? = some (.int .i64 (n : Int)) := by rw [List.getElem?_map, h]; rfl
theorem natsV_set (m : List Nat) (k n : Nat) : (natsV m).set k (.int .i64 (n : Int)) = natsV (m.set k n) := by simp [List.map_set]
theorem depth_spec (l : List Node) (root : Int) (hlen : l.length < 9223372036854775807) :
 CC F_starfree_Depth [graphV l root] [] = some (.int .i64 ((if validateN l root 6 = 0 then depth l root.toNat else 0 : Nat) : Int), []) := by
 refine f_starfree_Depth_of ?_
 unfold f_starfree_Depth s_starfree_Depth_5L
 simp only [validate_spec l root 6 hlen, Option.bind_some, V.toInt_int, bif_bne, bif_decide, bif_and, bif_ble]
 by_cases hv : ¬ validateN l root 6 = 0
 · rw [if_neg hv, if_neg hv]; rfl
 replace hv : validateN l root 6 = 0 := by omega
 rw [if_pos hv, if_pos hv]
 obtain ⟨_, hl20, hval, hr0, hr1⟩ := validateN_zero.1 hv
 obtain ⟨r, rfl⟩ : ∃ r : Nat, root = r := ⟨root.toNat, by omega⟩
 have hr : r < l.length := by omega
 have e1 : IntKind.wrap .i64 ((r : Int) + 1) = ((r + 1 : Nat) : Int) := by rw [wrap64 (by omega) (by omega)]; rfl
 have e2 : ((nodesV l).drop 0).take (r + 1 - 0) = nodesV (l.take (r + 1)) := by simp [List.map_take]
 simp only [e1, Int.toNat_natCast, e2, List.length_map, List.length_take]
 rw [if_pos (by omega), if_pos (by omega), if_pos (by unfold maxBytes; omega), if_pos (by omega), if_pos (by omega)]
 have key := Loop_inv (step := s_starfree_Depth_5L_step CC (nodesV (l.take (r + 1))) ((min (r + 1) l.length : Nat) : Int))
  (fun s => ∃ (i : Nat) (D : List Nat), i ≤ r + 1 ∧ D.length = r + 1 ∧ (∀ j, j < i → D[j]? = some (depth l j)) ∧ (∀ j, i ≤ j → j < r + 1 → D[j]? = some 0) ∧ s = ((i : Int), natsV D))
  (fun s => ((r + 1 : Int) - s.1).toNat)
  (fun s => ∃ (j : Int) (b : Bool) (D : List Nat), D.length = r + 1 ∧ (∀ j, j < r + 1 → D[j]? = some (depth l j)) ∧ s = (j, b, natsV D)) (by
   rintro s ⟨i, D, h1, h2, h3, h4, rfl⟩
   have hmin : min (r + 1) l.length = r + 1 := by omega
   unfold s_starfree_Depth_5L_step s_starfree_Depth_2
   rw [hmin]
   simp only [bif_and, bif_decide, bif_beq, List.length_set]
   by_cases hi : i < r + 1
   · left
     have hil : i < l.length := by omega
     have hx : l[i]? = some l[i] := List.getElem?_eq_getElem hil
     have ok := nodeOk_iff.1 (hval.node hx)
     have hget : (l.take (r + 1))[i]'(by simp; omega) = l[i] := by simp
     rw [if_pos (by omega), idx_map (n := i) rfl (by simp; omega), hget]
     simp only [Option.bind_some, Node.v, V.cell_agg, V.nth_zero, V.nth_two, V.nth_three, V.toInt_int, parts_spec, Int.toNat_natCast, List.length_map]
     have hde := depth_eq hval hx
     have hDi : D[i]? = some 0 := h4 i (Nat.le_refl _) hi
     have hDi' : (natsV D)[i]? = some (.int .i64 ((0 : Nat) : Int)) := by simp [hDi]
     have fin : ∀ d, d = depth l i → (∃ y, some (Sum.inl (IntKind.wrap .i64 ((i : Int) + 1), natsV (D.set i d))) = some (Sum.inl (β := Int × Bool × List V) y) ∧
      (∃ (i' : Nat) (D' : List Nat), i' ≤ r + 1 ∧ D'.length = r + 1 ∧ (∀ j, j < i' → D'[j]? = some (depth l j)) ∧ (∀ j, i' ≤ j → j < r + 1 → D'[j]? = some 0) ∧ y = ((i' : Int), natsV D')) ∧ ((r + 1 : Int) - y.1).toNat < ((r + 1 : Int) - (i : Int)).toNat) := by
      rintro d rfl
      refine ⟨_, rfl, ⟨i + 1, D.set i (depth l i), by omega, by simp [h2], fun j hj => ?_, fun j hj hj2 => ?_, ?_⟩, ?_⟩
      · by_cases hji : j = i
        · subst hji; exact List.getElem?_set_self (by omega)
        · rw [List.getElem?_set_ne (by omega)]; exact h3 j (by omega)
      · rw [List.getElem?_set_ne (by omega)]; exact h4 j (by omega) hj2
      · rw [wrap64 (by omega) (by omega)]; rfl
      · rw [wrap64 (by omega) (by omega)]; simp; omega
     have same : natsV D = natsV (D.set i 0) := by
      have : D.set i 0 = D := by
       apply List.ext_getElem?
       intro j
       by_cases hji : j = i
       · subst hji; rw [List.getElem?_set_self (by omega), hDi]
       · rw [List.getElem?_set_ne (by omega)]
      rw [this]
     by_cases g5 : 5 ≤ l[i].op
     · have oa := ok.a g5
       have hDa : (natsV D)[l[i].a.toNat]? = some (.int .i64 ((depth l l[i].a.toNat : Nat) : Int)) := by
        have := h3 l[i].a.toNat (by omega)
        simp [this]
       have hla : l[i].a.toNat ≤ r := by omega
       rw [if_pos (by rw [ge_iff_le, partsN_one ok.op]; exact g5), if_pos oa.1, if_pos (by omega), hDa, hDi']
       simp only [Option.bind_some, V.toInt_int]
       rw [if_pos (by omega), if_pos (by omega), natsV_set]
       have hself : ∀ d, (natsV (D.set i d))[i]? = some (.int .i64 ((d : Nat) : Int)) := by
        intro d
        exact natsV_of (List.getElem?_set_self (by omega))
       by_cases g8 : l[i].op = 8
       · rw [if_neg (by rw [partsN_two ok.op]; omega), if_neg (by omega)]
         exact fin _ (by rw [hde, if_neg (by omega), if_neg (by omega), if_pos g8])
       · have ob := ok.b g5 g8
         have hDb : (natsV (D.set i (depth l l[i].a.toNat)))[l[i].b.toNat]? = some (.int .i64 ((depth l l[i].b.toNat : Nat) : Int)) := by
          have := h3 l[i].b.toNat (by omega)
          have : (D.set i (depth l l[i].a.toNat))[l[i].b.toNat]? = some (depth l l[i].b.toNat) := by rw [List.getElem?_set_ne (by omega)]; exact this
          exact natsV_of this
         rw [if_pos (by rw [partsN_two ok.op]; exact ⟨g5, g8⟩), if_pos (by omega), if_pos (by omega), hself, Option.bind_some, if_pos ob.1, if_pos (by omega), hDb]
         simp only [Option.bind_some, V.toInt_int]
         have emax : (if ((depth l l[i].b.toNat : Nat) : Int) > ((depth l l[i].a.toNat : Nat) : Int) then ((depth l l[i].b.toNat : Nat) : Int) else ((depth l l[i].a.toNat : Nat) : Int)) =
          ((max (depth l l[i].a.toNat) (depth l l[i].b.toNat) : Nat) : Int) := by
          split <;> omega
         rw [if_pos (by omega), if_pos (by omega), emax, natsV_set, List.set_set, hself]
         simp only [Option.bind_some, V.toInt_int]
         by_cases g7 : l[i].op = 7
         · have hlt : ((max (depth l l[i].a.toNat) (depth l l[i].b.toNat) : Nat) : Int) < 9223372036854775807 := by
            have := depth_le hval l[i].a.toNat
            have := depth_le hval l[i].b.toNat
            omega
           rw [if_pos g7, if_pos (by omega), if_pos (by omega)]
           have ew : IntKind.wrap .i64 (((max (depth l l[i].a.toNat) (depth l l[i].b.toNat) : Nat) : Int) + 1) = ((max (depth l l[i].a.toNat) (depth l l[i].b.toNat) + 1 : Nat) : Int) := by
            rw [wrap64 (by omega) (by omega)]; rfl
           rw [if_pos (by omega), if_pos (by omega), ew, natsV_set, List.set_set]
           exact fin _ (by rw [hde, if_neg (by omega), if_pos g7])
         · rw [if_neg g7]
           exact fin _ (by rw [hde, if_pos (by have := ok.op; omega)])
     · rw [if_neg (by rw [ge_iff_le, partsN_one ok.op]; exact g5), if_neg (by rw [partsN_two ok.op]; omega), if_neg (by omega), same]
       exact fin _ (by rw [hde, if_neg (by omega), if_neg (by omega), if_neg (by omega)])
   · right
     rw [if_neg (by omega)]
     exact ⟨_, rfl, _, _, D, h2, fun j hj => h3 j (by omega), rfl⟩)
 have e3 : List.replicate (r + 1) (V.int .i64 0) = natsV (List.replicate (r + 1) 0) := by simp
 obtain ⟨s, hs, j, b, D, hD1, hD2, rfl⟩ := key ((0 : Int), natsV (List.replicate (r + 1) 0)) ⟨0, List.replicate (r + 1) 0, by omega, by simp, fun j hj => by omega, fun j _ hj => by rw [List.getElem?_replicate, if_pos hj], rfl⟩
 rw [e3, hs]
 simp only [Option.bind_some, List.length_map, hD1]
 have := hD2 r (by omega)
 have : (natsV D)[r]? = some (.int .i64 ((depth l r : Nat) : Int)) := by simp [this]
 rw [if_pos (by omega), if_pos (by omega), this]
 simp
end Go.AM

set_option maxRecDepth 100000
namespace Go.AM
open Go.Proofs
/-! semigroup/semigrouplaw31.at -/
noncomputable def d11_1 (C : CallF) (g_Nodes : List V) (root : Int) (w : List UInt8) {β : Type} (k0 : Bool → Option β) : Option β :=
 (C F_starfree_Accepts [.agg [.list T_api_SfNode g_Nodes, .int .i64 root], .str w] []).bind fun r2 =>
  k0 r2.1.toBool
noncomputable abbrev z11_0 (c0 : Bool) : St :=
 mk [(6, .bool c0)] []
noncomputable abbrev q11_0 : List Code := codesAt Try.prog 11 [[0], [1, 0], [1, 1, 0], [1, 1, 1]]
noncomputable abbrev z11_1 (c0 : List V) (c1 c2 : Int) (c3 : List UInt8) : St :=
 mk [(0, .agg [.list T_api_SfNode c0, .int .i64 c1]), (1, .int .i64 c2), (2, .str c3)] []
theorem h11_1_eq (C : CallF) (g_Nodes : List V) (g_Root root : Int) (w : List UInt8) {β : Type} (K : Out → St → Option β) :
 execL Try.prog ann C 11 12 0 (q11_0) (z11_1 g_Nodes g_Root root w) K =
  d11_1 C g_Nodes root w
   (fun (t60 : Bool) => K .ret (z11_0 t60)) := by kernel_rfl
noncomputable def f_semigrouplaw31_at (C : CallF) (g_Nodes : List V) (g_Root root : Int) (w : List UInt8) : Option (V × List V) :=
 (C F_starfree_Accepts [.agg [.list T_api_SfNode g_Nodes, .int .i64 root], .str w] []).bind fun r2 =>
  some (.bool r2.1.toBool, [])
theorem f_semigrouplaw31_at_eq (C : CallF) (g_Nodes : List V) (g_Root root : Int) (w : List UInt8) : bodyK Try.prog ann C 11 [.agg [.list T_api_SfNode g_Nodes, .int .i64 g_Root], .int .i64 root, .str w] [] = f_semigrouplaw31_at C g_Nodes g_Root root w :=
 Eq.trans (bodyK_fin (by kernel_rfl)) (Eq.trans (execK_items (by kernel_rfl)) (Eq.trans (h11_1_eq C g_Nodes g_Root root w (finK Try.prog ann C 11 [])) (by kernel_rfl)))
theorem f_semigrouplaw31_at_of {g_Nodes : List V} {g_Root : Int} {root : Int} {w : List UInt8} {r : V × List V} (h : f_semigrouplaw31_at CC g_Nodes g_Root root w = some r) : CC F_semigrouplaw31_at [.agg [.list T_api_SfNode g_Nodes, .int .i64 g_Root], .int .i64 root, .str w] [] = some r :=
 Call_of_body ((bodyK_eq ..).trans ((f_semigrouplaw31_at_eq ..).trans h))
end Go.AM

/-
 The chapter's example.
-/
namespace Go.AM
open Go.Proofs
def exampleN : List Node := [⟨4, 0, 0, 0⟩, ⟨3, 1, 0, 0⟩, ⟨7, 0, 0, 1⟩, ⟨7, 0, 2, 0⟩, ⟨8, 0, 3, 0⟩]
theorem example_spec : CC F_semigrouplaw31_example [] [] = some (.agg [.own T_api_SfNode (nodesV exampleN), .int .i64 4], []) := f_semigrouplaw31_example_of rfl
theorem known_spec : CC F_semigrouplaw31_known [] [] = some (.bool true, []) := by
 refine f_semigrouplaw31_known_of ?_
 unfold f_semigrouplaw31_known s_semigrouplaw31_known_1
 have hl : exampleN.length < 9223372036854775807 := by decide
 have a1 : acceptsB exampleN 4 [97, 97, 97] = true := by decide +kernel
 have a2 : acceptsB exampleN 4 [97, 98, 97] = false := by decide +kernel
 have d1 : (if validateN exampleN 4 6 = 0 then depth exampleN (4 : Int).toNat else 0) = 2 := by decide +kernel
 have v1 : validateN exampleN 4 2 = 0 := by decide +kernel
 have v2 : validateN exampleN 4 1 = 22 := by decide +kernel
 simp only [example_spec, Option.bind_some, V.cell_agg, V.nth_zero, V.nth_one, V.toList_own, V.toInt_int, accepts_spec _ _ _ hl, V.toBool_bool, a1, a2, cond_true, bif_not, cond_false, depth_spec _ _ hl, d1, validate_spec _ _ _ hl, v1, v2]
 rfl
theorem at_spec (l : List Node) (root k : Int) (w : List UInt8) (hlen : l.length < 9223372036854775807) :
 CC F_semigrouplaw31_at [graphV l root, .int .i64 k, .str w] [] = some (.bool (acceptsB l k w), []) := by
 refine f_semigrouplaw31_at_of ?_
 unfold f_semigrouplaw31_at
 rw [accepts_spec l k w hlen]
 rfl
end Go.AM

set_option maxRecDepth 100000
namespace Go.AM
open Go.Proofs
/-! semigroup/starfree.Cut -/
noncomputable def d14_1 (C : CallF) (g_Nodes : List V) (g_Root : Int) {β : Type} (k0 : Int → Option β) (k1 : Int → (List V) → Option β) : Option β :=
 (C F_starfree_Validate [.agg [.list T_api_SfNode g_Nodes, .int .i64 g_Root], .int .i64 6] []).bind fun r6 =>
  bif (r6.1.toInt : Int) != 0 then
   k0 r6.1.toInt
  else
   bif (decide (0 ≤ (g_Nodes.length : Int))) && ((decide ((g_Nodes.length : Int) ≤ (g_Nodes.length : Int))) && (Nat.ble ((((g_Nodes.length : Int) : Int).toNat) * 8) maxBytes)) then
    (C F_starfree_reached [.agg [.list T_api_SfNode g_Nodes, .int .i64 g_Root]] []).bind fun r7 =>
     k1 (r7.1.toList.length : Int) r7.1.toList
   else none
noncomputable abbrev z14_0 (c0 c1 : Int) (c2 : List V) : St :=
 mk [(2, .ptr 0 0 0), (3, .int .i64 c0)] [.var [.whole T_api_SfNode 1, .int .i64 c1], .arr T_api_SfNode c2 false]
noncomputable abbrev z14_1 (c0 c1 : Int) (c2 : List V) (c3 c4 c5 : Int) (c6 c7 c8 c9 : List V) : St :=
 mk [(1, .ptr 0 0 0), (2, .ptr 1 0 0), (5, .ptr 2 0 0), (6, .whole T_int 3), (21, .whole T_bool 4), (22, .int .i64 c0), (23, .int .i64 c1)] [.var [.list T_api_SfNode c2, .int .i64 c3], .var [.whole T_api_SfNode 5, .int .i64 c4], .var [.whole T_api_SfNode 6, .int .i64 c5], .arr T_int c6 false, .arr T_bool c7 false, .arr T_api_SfNode c8 false, .arr T_api_SfNode c9 false]
noncomputable abbrev q14_0 : List Code := codesAt Try.prog 14 [[0], [1, 0, 0], [1, 0, 1, 0], [1, 0, 1, 1], [1, 1, 0], [1, 1, 1, 0], [1, 1, 1, 1, 0, 0]]
noncomputable abbrev z14_2 (c0 : List V) (c1 : Int) : St :=
 mk [(0, .agg [.list T_api_SfNode c0, .int .i64 c1])] []
theorem h14_1_eq (C : CallF) (g_Nodes : List V) (g_Root : Int) {β : Type} (K : Out → St → Option β) :
 execL Try.prog ann C 14 74 0 (q14_0) (z14_2 g_Nodes g_Root) K =
  d14_1 C g_Nodes g_Root
   (fun (t30 : Int) => K .ret (z14_0 t30 0 ([] : List V)))
   (fun (t221 : Int) (t21s1 : List V) => K .norm (z14_1 t221 0 g_Nodes g_Root 0 0 (List.replicate (((g_Nodes.length : Int) : Int).toNat) (V.int .i64 0)) t21s1 ([] : List V) ([] : List V))) := by kernel_rfl
noncomputable def s_starfree_Cut_2 (C : CallF) (t22 t23 : Int) (gs_0 numbers t21s cut_0s : List V) {β : Type} (k0 : (List V) → (List V) → Option β) (k1 : Option β) : Option β :=
 bif decide ((t23 : Int) < t22) then
  bif (decide (0 ≤ t23)) && (decide (t23 < (t21s.length : Int))) then
   (t21s[(t23 : Int).toNat]?).bind fun x8 =>
    bif !x8.toBool then
     k0 numbers cut_0s
    else
     (idx gs_0 t23).bind fun x9 =>
      (C F_starfree_parts [.int .i64 ((x9.cell 0).toInt)] []).bind fun r10 =>
       bif decide ((r10.1.toInt : Int) ≥ 1) then
        bif (decide (0 ≤ ((x9.cell 2).toInt))) && (decide (((x9.cell 2).toInt) < (numbers.length : Int))) then
         (numbers[((x9.cell 2).toInt : Int).toNat]?).bind fun x11 =>
          (C F_starfree_parts [.int .i64 ((x9.cell 0).toInt)] []).bind fun r12 =>
           bif (r12.1.toInt : Int) == 2 then
            bif (decide (0 ≤ ((x9.cell 3).toInt))) && (decide (((x9.cell 3).toInt) < (numbers.length : Int))) then
             (numbers[((x9.cell 3).toInt : Int).toNat]?).bind fun x13 =>
              bif (decide (0 ≤ t23)) && (decide (t23 < (numbers.length : Int))) then
               (numbers[(t23 : Int).toNat]?).bind fun x14 =>
                bif Nat.ble ((cut_0s.length + ([.agg [.int .i64 ((x9.cell 0).toInt), .int .i64 ((x9.cell 1).toInt), .int .i64 x11.toInt, .int .i64 x13.toInt]] : List V).length) * 32) maxBytes then
                 k0 (numbers.set ((t23 : Int).toNat) (.int .i64 (cut_0s.length : Int))) (cut_0s ++ ([.agg [.int .i64 ((x9.cell 0).toInt), .int .i64 ((x9.cell 1).toInt), .int .i64 x11.toInt, .int .i64 x13.toInt]] : List V))
                else none
              else none
            else none
           else
            bif (decide (0 ≤ t23)) && (decide (t23 < (numbers.length : Int))) then
             (numbers[(t23 : Int).toNat]?).bind fun x15 =>
              bif Nat.ble ((cut_0s.length + ([.agg [.int .i64 ((x9.cell 0).toInt), .int .i64 ((x9.cell 1).toInt), .int .i64 x11.toInt, .int .i64 ((x9.cell 3).toInt)]] : List V).length) * 32) maxBytes then
               k0 (numbers.set ((t23 : Int).toNat) (.int .i64 (cut_0s.length : Int))) (cut_0s ++ ([.agg [.int .i64 ((x9.cell 0).toInt), .int .i64 ((x9.cell 1).toInt), .int .i64 x11.toInt, .int .i64 ((x9.cell 3).toInt)]] : List V))
              else none
            else none
        else none
       else
        (C F_starfree_parts [.int .i64 ((x9.cell 0).toInt)] []).bind fun r16 =>
         bif (r16.1.toInt : Int) == 2 then
          bif (decide (0 ≤ ((x9.cell 3).toInt))) && (decide (((x9.cell 3).toInt) < (numbers.length : Int))) then
           (numbers[((x9.cell 3).toInt : Int).toNat]?).bind fun x17 =>
            bif (decide (0 ≤ t23)) && (decide (t23 < (numbers.length : Int))) then
             (numbers[(t23 : Int).toNat]?).bind fun x18 =>
              bif Nat.ble ((cut_0s.length + ([.agg [.int .i64 ((x9.cell 0).toInt), .int .i64 ((x9.cell 1).toInt), .int .i64 ((x9.cell 2).toInt), .int .i64 x17.toInt]] : List V).length) * 32) maxBytes then
               k0 (numbers.set ((t23 : Int).toNat) (.int .i64 (cut_0s.length : Int))) (cut_0s ++ ([.agg [.int .i64 ((x9.cell 0).toInt), .int .i64 ((x9.cell 1).toInt), .int .i64 ((x9.cell 2).toInt), .int .i64 x17.toInt]] : List V))
              else none
            else none
          else none
         else
          bif (decide (0 ≤ t23)) && (decide (t23 < (numbers.length : Int))) then
           (numbers[(t23 : Int).toNat]?).bind fun x19 =>
            bif Nat.ble ((cut_0s.length + ([.agg [.int .i64 ((x9.cell 0).toInt), .int .i64 ((x9.cell 1).toInt), .int .i64 ((x9.cell 2).toInt), .int .i64 ((x9.cell 3).toInt)]] : List V).length) * 32) maxBytes then
             k0 (numbers.set ((t23 : Int).toNat) (.int .i64 (cut_0s.length : Int))) (cut_0s ++ ([.agg [.int .i64 ((x9.cell 0).toInt), .int .i64 ((x9.cell 1).toInt), .int .i64 ((x9.cell 2).toInt), .int .i64 ((x9.cell 3).toInt)]] : List V))
            else none
          else none
  else none
 else
  k1
noncomputable abbrev z14_3 (c0 c1 : Int) (c2 : Bool) (c3 : List V) (c4 c5 c6 : Int) (c7 c8 c9 c10 : List V) : St :=
 mk [(1, .ptr 0 0 0), (2, .ptr 1 0 0), (5, .ptr 2 0 0), (6, .whole T_int 3), (21, .whole T_bool 4), (22, .int .i64 c0), (23, .int .i64 c1), (24, .bool c2)] [.var [.list T_api_SfNode c3, .int .i64 c4], .var [.whole T_api_SfNode 5, .int .i64 c5], .var [.whole T_api_SfNode 6, .int .i64 c6], .arr T_int c7 false, .arr T_bool c8 false, .arr T_api_SfNode c9 false, .arr T_api_SfNode c10 false]
noncomputable abbrev q14_1 : List Code := codesAt Try.prog 14 [[1, 1, 1, 1, 0, 1, 0, 0, 0], [1, 1, 1, 1, 0, 1, 0, 0, 1, 0], [1, 1, 1, 1, 0, 1, 0, 0, 1, 1, 0]]
theorem s_starfree_Cut_2_eq (C : CallF) (t22 t23 : Int) (gs_0 : List V) (gs_1 t2s_1 cuts_1 : Int) (numbers t21s t2_0s cut_0s : List V) {β : Type} (K : Out → St → Option β) :
 execL Try.prog ann C 14 74 0 (q14_1) (z14_1 t22 t23 gs_0 gs_1 t2s_1 cuts_1 numbers t21s t2_0s cut_0s) K =
  s_starfree_Cut_2 C t22 t23 gs_0 numbers t21s cut_0s
   (fun (numbers0 : List V) (cut_0s0 : List V) => K .norm (z14_1 t22 t23 gs_0 gs_1 t2s_1 cuts_1 numbers0 t21s t2_0s cut_0s0))
   (K (.exit 0) (z14_3 t22 t23 (decide ((t23 : Int) < t22)) gs_0 gs_1 t2s_1 cuts_1 numbers t21s t2_0s cut_0s)) := by kernel_rfl
noncomputable def d14_3 (C : CallF)  {β : Type} (k0 : Option β) : Option β :=
 k0
noncomputable abbrev q14_2 : List Code := codesAt Try.prog 14 [[1, 1, 1, 1, 0, 1, 0, 0, 1, 1, 1]]
theorem h14_3_eq (C : CallF) (t22 t23 : Int) (gs_0 : List V) (gs_1 t2s_1 cuts_1 : Int) (numbers t21s t2_0s cut_0s : List V) {β : Type} (K : Out → St → Option β) :
 execL Try.prog ann C 14 74 0 (q14_2) (z14_1 t22 t23 gs_0 gs_1 t2s_1 cuts_1 numbers t21s t2_0s cut_0s) K =
  d14_3 C
   (K .norm (z14_1 t22 (IntKind.wrap .i64 (t23 + 1)) gs_0 gs_1 t2s_1 cuts_1 numbers t21s t2_0s cut_0s)) := by kernel_rfl
noncomputable def d14_4 (C : CallF) (t22 t23 : Int) (gs_0 numbers t21s cut_0s : List V) {β : Type} (k0 : (List V) → (List V) → Option β) (k1 : Option β) : Option β :=
 s_starfree_Cut_2 C t22 t23 gs_0 numbers t21s cut_0s
  (fun (numbers_32 : List V) (cut_0s_33 : List V) =>
   d14_3 C
    (
     k0 numbers_32 cut_0s_33))
  (
   k1)
noncomputable abbrev q14_3 : List Code := codesAt Try.prog 14 [[1, 1, 1, 1, 0, 1, 0, 0, 0], [1, 1, 1, 1, 0, 1, 0, 0, 1, 0], [1, 1, 1, 1, 0, 1, 0, 0, 1, 1, 0], [1, 1, 1, 1, 0, 1, 0, 0, 1, 1, 1]]
theorem h14_4_eq (C : CallF) (t22 t23 : Int) (gs_0 : List V) (gs_1 t2s_1 cuts_1 : Int) (numbers t21s t2_0s cut_0s : List V) {β : Type} (K : Out → St → Option β) :
 execL Try.prog ann C 14 74 0 (q14_3) (z14_1 t22 t23 gs_0 gs_1 t2s_1 cuts_1 numbers t21s t2_0s cut_0s) K =
  d14_4 C t22 t23 gs_0 numbers t21s cut_0s
   (fun (numbers0 : List V) (cut_0s0 : List V) => K .norm (z14_1 t22 (IntKind.wrap .i64 (t23 + 1)) gs_0 gs_1 t2s_1 cuts_1 numbers0 t21s t2_0s cut_0s0))
   (K (.exit 0) (z14_3 t22 t23 (decide ((t23 : Int) < t22)) gs_0 gs_1 t2s_1 cuts_1 numbers t21s t2_0s cut_0s)) := by
 refine Eq.trans (execL_app (P := Try.prog) (A := ann) (C := C) (f := 14) (n := 74) (m := 0) (q14_1) (q14_2) (st := z14_1 t22 t23 gs_0 gs_1 t2s_1 cuts_1 numbers t21s t2_0s cut_0s) (K := K)) (Eq.trans (s_starfree_Cut_2_eq C t22 t23 gs_0 gs_1 t2s_1 cuts_1 numbers t21s t2_0s cut_0s (seqK Try.prog ann C 14 74 0 (q14_2) K)) ?_)
 · exact Eq.trans (by kernel_rfl) (Eq.trans (congrArg (fun HOLE : (List V) → (List V) → Option β => s_starfree_Cut_2 C t22 t23 gs_0 numbers t21s cut_0s HOLE (K (.exit 0) (z14_3 t22 t23 (decide ((t23 : Int) < t22)) gs_0 gs_1 t2s_1 cuts_1 numbers t21s t2_0s cut_0s))) (funext fun (numbers0 : List V) => funext fun (cut_0s0 : List V) => h14_3_eq C t22 t23 gs_0 gs_1 t2s_1 cuts_1 numbers0 t21s t2_0s cut_0s0 K)) ((by kernel_rfl)))
noncomputable def s_starfree_Cut_5L_step (C : CallF) (t22 : Int) (gs_0 t21s : List V) : (Int × (List V) × (List V)) → Option ((Int × (List V) × (List V)) ⊕ ((Int × Bool × (List V) × (List V)))) := fun (t23, numbers, cut_0s) =>
 s_starfree_Cut_2 C t22 t23 gs_0 numbers t21s cut_0s
  (fun (numbers_34 : List V) (cut_0s_35 : List V) =>
   some (.inl (IntKind.wrap .i64 (t23 + 1), numbers_34, cut_0s_35)))
  (
   some (.inr (t23, decide ((t23 : Int) < t22), numbers, cut_0s)))
noncomputable def s_starfree_Cut_5L (C : CallF) (t22 t23 : Int) (gs_0 numbers t21s cut_0s : List V) {β : Type} (k0 : Int → Bool → (List V) → (List V) → Option β) : Option β :=
 (Loop (s_starfree_Cut_5L_step C t22 gs_0 t21s) (t23, numbers, cut_0s)).bind fun (t230, t240, numbers0, cut_0s0) => k0 t230 t240 numbers0 cut_0s0
noncomputable def s_starfree_Cut_5L_dec : Out → St → Option ((Int × (List V) × (List V)) ⊕ ((Int × Bool × (List V) × (List V)))) := fun o st => match o with
 | .norm => some (.inl (V.toInt (st.sl 23), arrOf (st.hp 3), arrOf (st.hp 6)))
 | .exit q => bif Nat.beq q 0 then some (.inr (V.toInt (st.sl 23), V.toBool (st.sl 24), arrOf (st.hp 3), arrOf (st.hp 6))) else none
 | .ret => none
noncomputable def s_starfree_Cut_5L_hd (t22 : Int) (gs_0 : List V) (gs_1 t2s_1 cuts_1 : Int) (t21s t2_0s : List V) : (Int × (List V) × (List V)) → St := fun (t23, numbers, cut_0s) => z14_1 t22 t23 gs_0 gs_1 t2s_1 cuts_1 numbers t21s t2_0s cut_0s
noncomputable def s_starfree_Cut_5L_enc (t22 : Int) (gs_0 : List V) (gs_1 t2s_1 cuts_1 : Int) (t21s t2_0s : List V) : ((Int × Bool × (List V) × (List V))) → Out × St := fun (t230, t240, numbers0, cut_0s0) => (.exit 0, z14_3 t22 t230 t240 gs_0 gs_1 t2s_1 cuts_1 numbers0 t21s t2_0s cut_0s0)
noncomputable abbrev q14_4 : List Code := codesAt Try.prog 14 [[1, 1, 1, 1, 0, 1, 0, 0]]
theorem s_starfree_Cut_5L_eq (C : CallF) (t22 t23 : Int) (gs_0 : List V) (gs_1 t2s_1 cuts_1 : Int) (numbers t21s t2_0s cut_0s : List V) {β : Type} (K : Out → St → Option β) :
 execL Try.prog ann C 14 74 0 (codesAt Try.prog 14 [[1, 1, 1, 1, 0, 1, 0]]) (z14_1 t22 t23 gs_0 gs_1 t2s_1 cuts_1 numbers t21s t2_0s cut_0s) K =
  s_starfree_Cut_5L C t22 t23 gs_0 numbers t21s cut_0s
   (fun (t230 : Int) (t240 : Bool) (numbers0 : List V) (cut_0s0 : List V) => K (.exit 0) (z14_3 t22 t230 t240 gs_0 gs_1 t2s_1 cuts_1 numbers0 t21s t2_0s cut_0s0)) := by
 have hitems : flatC (codeAt [1, 1, 1, 1, 0, 1, 0, 0] (bodyOf Try.prog 14)) = q14_3 := by kernel_rfl
 have hloop : [codeAt [1, 1, 1, 1, 0, 1, 0] (bodyOf Try.prog 14)] = [Code.loop (codeAt [1, 1, 1, 1, 0, 1, 0, 0] (bodyOf Try.prog 14))] := by kernel_rfl
 have h := loopK_eq (P := Try.prog) (A := ann) (C := C) (f := 14) (n := 74) (m := 0) (c := codeAt [1, 1, 1, 1, 0, 1, 0, 0] (bodyOf Try.prog 14)) (s_starfree_Cut_5L_hd t22 gs_0 gs_1 t2s_1 cuts_1 t21s t2_0s) (s_starfree_Cut_5L_enc t22 gs_0 gs_1 t2s_1 cuts_1 t21s t2_0s) s_starfree_Cut_5L_dec (s_starfree_Cut_5L_step C t22 gs_0 t21s)
  (by rintro ⟨t23, numbers, cut_0s⟩; exact Eq.trans (execK_items hitems) (Eq.trans (h14_4_eq C t22 t23 gs_0 gs_1 t2s_1 cuts_1 numbers t21s t2_0s cut_0s s_starfree_Cut_5L_dec) (by kernel_rfl)))
  (by rintro ⟨t23, numbers, cut_0s⟩; exact Eq.trans (execK_items hitems) (Eq.trans (h14_4_eq C t22 t23 gs_0 gs_1 t2s_1 cuts_1 numbers t21s t2_0s cut_0s (fun o st => some (o, st))) (Eq.trans (by kernel_rfl) (Eq.trans (h14_4_eq C t22 t23 gs_0 gs_1 t2s_1 cuts_1 numbers t21s t2_0s cut_0s (fun o st => (s_starfree_Cut_5L_dec o st).map (outS (s_starfree_Cut_5L_hd t22 gs_0 gs_1 t2s_1 cuts_1 t21s t2_0s) (s_starfree_Cut_5L_enc t22 gs_0 gs_1 t2s_1 cuts_1 t21s t2_0s)))).symm (execK_items hitems).symm))))
  (by intro r; intro h; cases h) (t23, numbers, cut_0s) K
 refine Eq.trans (congrArg (fun l => execL Try.prog ann C 14 74 0 l (z14_1 t22 t23 gs_0 gs_1 t2s_1 cuts_1 numbers t21s t2_0s cut_0s) K) hloop) (Eq.trans h ?_)
 · refine congrArg _ (funext fun r => ?_)
   rfl
noncomputable def d14_6 (C : CallF) (t22 t23 : Int) (gs_0 numbers t21s cut_0s : List V) {β : Type} (k0 : (List V) → Option β) : Option β :=
 s_starfree_Cut_5L C t22 t23 gs_0 numbers t21s cut_0s
  (fun (t_36 : Int) (t_37 : Bool) (numbers_38 : List V) (cut_0s_39 : List V) =>
   k0 cut_0s_39)
noncomputable abbrev z14_4 (c0 c1 : Int) (c2 c3 : List V) : St :=
 mk [(2, .ptr 0 0 0), (5, .ptr 1 0 0)] [.var [.whole T_api_SfNode 2, .int .i64 c0], .var [.whole T_api_SfNode 3, .int .i64 c1], .arr T_api_SfNode c2 false, .arr T_api_SfNode c3 false]
theorem h14_6_eq (C : CallF) (t22 t23 : Int) (gs_0 : List V) (gs_1 t2s_1 cuts_1 : Int) (numbers t21s t2_0s cut_0s : List V) {β : Type} (K : Out → St → Option β) :
 execL Try.prog ann C 14 74 0 (codesAt Try.prog 14 [[1, 1, 1, 1, 0, 1]]) (z14_1 t22 t23 gs_0 gs_1 t2s_1 cuts_1 numbers t21s t2_0s cut_0s) K =
  d14_6 C t22 t23 gs_0 numbers t21s cut_0s
   (fun (cut_0s0 : List V) => K .norm (z14_4 t2s_1 cuts_1 t2_0s cut_0s0)) := Eq.trans (execL_block (P := Try.prog) (A := ann) (C := C) (f := 14) (n := 74) (m := 0) (id := 0) (c := codeAt [1, 1, 1, 1, 0, 1] (bodyOf Try.prog 14)) (d := codeAt [1, 1, 1, 1, 0, 1, 0] (bodyOf Try.prog 14)) (l := codesAt Try.prog 14 [[1, 1, 1, 1, 0, 1, 0]]) (st := z14_1 t22 t23 gs_0 gs_1 t2s_1 cuts_1 numbers t21s t2_0s cut_0s) (K := K) (by kernel_rfl) (by kernel_rfl)) (Eq.trans (s_starfree_Cut_5L_eq C t22 t23 gs_0 gs_1 t2s_1 cuts_1 numbers t21s t2_0s cut_0s (blockK ann 14 0 0 K)) (by kernel_rfl))
noncomputable def d14_7 (C : CallF)  {β : Type} (k0 : Option β) : Option β :=
 k0
noncomputable abbrev q14_5 : List Code := codesAt Try.prog 14 [[1, 1, 1, 1, 1, 0], [1, 1, 1, 1, 1, 1, 0], [1, 1, 1, 1, 1, 1, 1]]
theorem h14_7_eq (C : CallF) (t2s_1 cuts_1 : Int) (t2_0s cut_0s : List V) {β : Type} (K : Out → St → Option β) :
 execL Try.prog ann C 14 74 0 (q14_5) (z14_4 t2s_1 cuts_1 t2_0s cut_0s) K =
  d14_7 C
   (K .ret (z14_0 0 (IntKind.wrap .i64 ((cut_0s.length : Int) - 1)) cut_0s)) := by kernel_rfl
noncomputable def d14_8 (C : CallF) (t22 t23 : Int) (gs_0 numbers t21s cut_0s : List V) {β : Type} (k0 : Int → (List V) → Option β) : Option β :=
 d14_6 C t22 t23 gs_0 numbers t21s cut_0s
  (fun (cut_0s_44 : List V) =>
   d14_7 C
    (
     k0 (IntKind.wrap .i64 ((cut_0s_44.length : Int) - 1)) cut_0s_44))
noncomputable abbrev q14_6 : List Code := codesAt Try.prog 14 [[1, 1, 1, 1, 0, 1], [1, 1, 1, 1, 1, 0], [1, 1, 1, 1, 1, 1, 0], [1, 1, 1, 1, 1, 1, 1]]
theorem h14_8_eq (C : CallF) (t22 t23 : Int) (gs_0 : List V) (gs_1 t2s_1 cuts_1 : Int) (numbers t21s t2_0s cut_0s : List V) {β : Type} (K : Out → St → Option β) :
 execL Try.prog ann C 14 74 0 (q14_6) (z14_1 t22 t23 gs_0 gs_1 t2s_1 cuts_1 numbers t21s t2_0s cut_0s) K =
  d14_8 C t22 t23 gs_0 numbers t21s cut_0s
   (fun (t2s_10 : Int) (t2_0s0 : List V) => K .ret (z14_0 0 t2s_10 t2_0s0)) := by
 refine Eq.trans (execL_app (P := Try.prog) (A := ann) (C := C) (f := 14) (n := 74) (m := 0) (codesAt Try.prog 14 [[1, 1, 1, 1, 0, 1]]) (q14_5) (st := z14_1 t22 t23 gs_0 gs_1 t2s_1 cuts_1 numbers t21s t2_0s cut_0s) (K := K)) (Eq.trans (h14_6_eq C t22 t23 gs_0 gs_1 t2s_1 cuts_1 numbers t21s t2_0s cut_0s (seqK Try.prog ann C 14 74 0 (q14_5) K)) ?_)
 · exact Eq.trans (by kernel_rfl) (Eq.trans (congrArg (fun HOLE : (List V) → Option β => d14_6 C t22 t23 gs_0 numbers t21s cut_0s HOLE) (funext fun (cut_0s0 : List V) => h14_7_eq C t2s_1 cuts_1 t2_0s cut_0s0 K)) ((by kernel_rfl)))
noncomputable def d14_9 (C : CallF) (g_Nodes : List V) (g_Root : Int) {β : Type} (k0 : Int → Int → (List V) → Option β) : Option β :=
 d14_1 C g_Nodes g_Root
  (fun (t_45 : Int) =>
   k0 t_45 0 ([] : List V))
  (fun (t_46 : Int) (t21s_47 : List V) =>
   d14_8 C t_46 0 g_Nodes (List.replicate (((g_Nodes.length : Int) : Int).toNat) (V.int .i64 0)) t21s_47 ([] : List V)
    (fun (t2s_48 : Int) (t2_0s_49 : List V) =>
     k0 0 t2s_48 t2_0s_49))
noncomputable abbrev q14_7 : List Code := codesAt Try.prog 14 [[0], [1, 0, 0], [1, 0, 1, 0], [1, 0, 1, 1], [1, 1, 0], [1, 1, 1, 0], [1, 1, 1, 1, 0, 0], [1, 1, 1, 1, 0, 1], [1, 1, 1, 1, 1, 0], [1, 1, 1, 1, 1, 1, 0], [1, 1, 1, 1, 1, 1, 1]]
theorem h14_9_eq (C : CallF) (g_Nodes : List V) (g_Root : Int) {β : Type} (K : Out → St → Option β) :
 execL Try.prog ann C 14 74 0 (q14_7) (z14_2 g_Nodes g_Root) K =
  d14_9 C g_Nodes g_Root
   (fun (t30 : Int) (t2s_10 : Int) (t2_0s0 : List V) => K .ret (z14_0 t30 t2s_10 t2_0s0)) := by
 refine Eq.trans (execL_app (P := Try.prog) (A := ann) (C := C) (f := 14) (n := 74) (m := 0) (q14_0) (q14_6) (st := z14_2 g_Nodes g_Root) (K := K)) (Eq.trans (h14_1_eq C g_Nodes g_Root (seqK Try.prog ann C 14 74 0 (q14_6) K)) ?_)
 · exact Eq.trans (by kernel_rfl) (Eq.trans (congrArg (fun HOLE : Int → (List V) → Option β => d14_1 C g_Nodes g_Root (fun (t30 : Int) => K .ret (z14_0 t30 0 ([] : List V))) HOLE) (funext fun (t221 : Int) => funext fun (t21s1 : List V) => h14_8_eq C t221 0 g_Nodes g_Root 0 0 (List.replicate (((g_Nodes.length : Int) : Int).toNat) (V.int .i64 0)) t21s1 ([] : List V) ([] : List V) K)) ((by kernel_rfl)))
noncomputable def f_starfree_Cut (C : CallF) (g_Nodes : List V) (g_Root : Int) : Option (V × List V) :=
 (C F_starfree_Validate [.agg [.list T_api_SfNode g_Nodes, .int .i64 g_Root], .int .i64 6] []).bind fun r6 =>
  bif (r6.1.toInt : Int) != 0 then
   some (.tup [.agg [.own T_api_SfNode ([] : List V), .int .i64 0], .int .i64 r6.1.toInt], [])
  else
   bif (decide (0 ≤ (g_Nodes.length : Int))) && ((decide ((g_Nodes.length : Int) ≤ (g_Nodes.length : Int))) && (Nat.ble ((((g_Nodes.length : Int) : Int).toNat) * 8) maxBytes)) then
    (C F_starfree_reached [.agg [.list T_api_SfNode g_Nodes, .int .i64 g_Root]] []).bind fun r7 =>
     s_starfree_Cut_5L C (r7.1.toList.length : Int) 0 g_Nodes (List.replicate (((g_Nodes.length : Int) : Int).toNat) (V.int .i64 0)) r7.1.toList ([] : List V)
      (fun (t_40 : Int) (t_41 : Bool) (numbers_42 : List V) (cut_0s_43 : List V) =>
       some (.tup [.agg [.own T_api_SfNode cut_0s_43, .int .i64 (IntKind.wrap .i64 ((cut_0s_43.length : Int) - 1))], .int .i64 0], []))
   else none
theorem f_starfree_Cut_eq (C : CallF) (g_Nodes : List V) (g_Root : Int) : bodyK Try.prog ann C 14 [.agg [.list T_api_SfNode g_Nodes, .int .i64 g_Root]] [] = f_starfree_Cut C g_Nodes g_Root :=
 Eq.trans (bodyK_fin (by kernel_rfl)) (Eq.trans (execK_items (by kernel_rfl)) (Eq.trans (h14_9_eq C g_Nodes g_Root (finK Try.prog ann C 14 [])) (by kernel_rfl)))
theorem f_starfree_Cut_of {g_Nodes : List V} {g_Root : Int} {r : V × List V} (h : f_starfree_Cut CC g_Nodes g_Root = some r) : CC F_starfree_Cut [.agg [.list T_api_SfNode g_Nodes, .int .i64 g_Root]] [] = some r :=
 Call_of_body ((bodyK_eq ..).trans ((f_starfree_Cut_eq ..).trans h))
end Go.AM

set_option maxRecDepth 100000
namespace Go.AM
open Go.Proofs
/-! semigroup/semigroupref31.Same -/
noncomputable def s_semigroupref31_Same_1 (C : CallF) (a_Nodes : List V) (a_Root : Int) (b_Nodes : List V) (b_Root : Int) {β : Type} (k0 : Bool → Option β) : Option β :=
 bif ((a_Nodes.length : Int) : Int) != (b_Nodes.length : Int) then
  k0 true
 else
  k0 ((a_Root : Int) != b_Root)
noncomputable abbrev z15_0 (c0 : Bool) (c1 : List V) (c2 : Int) (c3 : List V) (c4 : Int) : St :=
 mk [(2, .ptr 0 0 0), (3, .ptr 1 0 0), (19, .bool c0)] [.var [.list T_api_SfNode c1, .int .i64 c2], .var [.list T_api_SfNode c3, .int .i64 c4]]
noncomputable abbrev z15_1 (c0 : List V) (c1 : Int) (c2 : List V) (c3 : Int) : St :=
 mk [(0, .agg [.list T_api_SfNode c0, .int .i64 c1]), (1, .agg [.list T_api_SfNode c2, .int .i64 c3])] []
theorem s_semigroupref31_Same_1_eq (C : CallF) (a_Nodes : List V) (a_Root : Int) (b_Nodes : List V) (b_Root : Int) {β : Type} (K : Out → St → Option β) :
 execL Try.prog ann C 15 38 0 (codesAt Try.prog 15 [[0], [1, 0, 0]]) (z15_1 a_Nodes a_Root b_Nodes b_Root) K =
  s_semigroupref31_Same_1 C a_Nodes a_Root b_Nodes b_Root
   (fun (t190 : Bool) => K .norm (z15_0 t190 a_Nodes a_Root b_Nodes b_Root)) := by kernel_rfl
noncomputable def d15_2 (C : CallF) (t19 : Bool) {β : Type} (k0 : Bool → Option β) (k1 : Option β) : Option β :=
 bif t19 then
  k0 false
 else
  k1
noncomputable abbrev z15_2 (c0 : Bool) : St :=
 mk [(4, .bool c0)] []
noncomputable abbrev z15_3 (c0 c1 : Int) (c2 : List V) (c3 : Int) (c4 : List V) (c5 : Int) : St :=
 mk [(2, .ptr 0 0 0), (3, .ptr 1 0 0), (22, .int .i64 c0), (23, .int .i64 c1)] [.var [.list T_api_SfNode c2, .int .i64 c3], .var [.list T_api_SfNode c4, .int .i64 c5]]
noncomputable abbrev q15_0 : List Code := codesAt Try.prog 15 [[1, 0, 1], [1, 1, 0, 0]]
theorem h15_2_eq (C : CallF) (t19 : Bool) (as_0 : List V) (as_1 : Int) (b's_0 : List V) (b's_1 : Int) {β : Type} (K : Out → St → Option β) :
 execL Try.prog ann C 15 38 0 (q15_0) (z15_0 t19 as_0 as_1 b's_0 b's_1) K =
  d15_2 C t19
   (fun (t40 : Bool) => K .ret (z15_2 t40))
   (K .norm (z15_3 (as_0.length : Int) 0 as_0 as_1 b's_0 b's_1)) := by kernel_rfl
noncomputable def d15_3 (C : CallF) (t22 t23 : Int) (as_0 b's_0 : List V) {β : Type} (k0 : Bool → Option β) (k1 : Option β) (k2 : Option β) : Option β :=
 bif decide ((t23 : Int) < t22) then
  (idx as_0 t23).bind fun x3 =>
   (idx b's_0 t23).bind fun x4 =>
    bif !(((((x3.cell 0).toInt) : Int) == ((x4.cell 0).toInt)) && (((((x3.cell 1).toInt) : Int) == ((x4.cell 1).toInt)) && (((((x3.cell 2).toInt) : Int) == ((x4.cell 2).toInt)) && (((((x3.cell 3).toInt) : Int) == ((x4.cell 3).toInt)) && true)))) then
     k0 false
    else
     k1
 else
  k2
noncomputable abbrev z15_4 (c0 c1 : Int) (c2 : Bool) (c3 : List V) (c4 : Int) (c5 : List V) (c6 : Int) : St :=
 mk [(2, .ptr 0 0 0), (3, .ptr 1 0 0), (22, .int .i64 c0), (23, .int .i64 c1), (24, .bool c2)] [.var [.list T_api_SfNode c3, .int .i64 c4], .var [.list T_api_SfNode c5, .int .i64 c6]]
noncomputable abbrev q15_1 : List Code := codesAt Try.prog 15 [[1, 1, 0, 1, 0, 0, 0], [1, 1, 0, 1, 0, 0, 1, 0], [1, 1, 0, 1, 0, 0, 1, 1, 0], [1, 1, 0, 1, 0, 0, 1, 1, 1]]
theorem h15_3_eq (C : CallF) (t22 t23 : Int) (as_0 : List V) (as_1 : Int) (b's_0 : List V) (b's_1 : Int) {β : Type} (K : Out → St → Option β) :
 execL Try.prog ann C 15 38 0 (q15_1) (z15_3 t22 t23 as_0 as_1 b's_0 b's_1) K =
  d15_3 C t22 t23 as_0 b's_0
   (fun (t40 : Bool) => K .ret (z15_2 t40))
   (K .norm (z15_3 t22 (IntKind.wrap .i64 (t23 + 1)) as_0 as_1 b's_0 b's_1))
   (K (.exit 0) (z15_4 t22 t23 (decide ((t23 : Int) < t22)) as_0 as_1 b's_0 b's_1)) := by kernel_rfl
noncomputable def s_semigroupref31_Same_4L_step (C : CallF) (t22 : Int) (as_0 b's_0 : List V) : (Int) → Option ((Int) ⊕ ((Bool) ⊕ (Int × Bool))) := fun t23 =>
 bif decide ((t23 : Int) < t22) then
  (idx as_0 t23).bind fun x3 =>
   (idx b's_0 t23).bind fun x4 =>
    bif !(((((x3.cell 0).toInt) : Int) == ((x4.cell 0).toInt)) && (((((x3.cell 1).toInt) : Int) == ((x4.cell 1).toInt)) && (((((x3.cell 2).toInt) : Int) == ((x4.cell 2).toInt)) && (((((x3.cell 3).toInt) : Int) == ((x4.cell 3).toInt)) && true)))) then
     some (.inr (.inl false))
    else
     some (.inl (IntKind.wrap .i64 (t23 + 1)))
 else
  some (.inr (.inr (t23, decide ((t23 : Int) < t22))))
noncomputable def s_semigroupref31_Same_4L (C : CallF) (t22 t23 : Int) (as_0 b's_0 : List V) {β : Type} (k0 : Bool → Option β) (k1 : Int → Bool → Option β) : Option β :=
 (Loop (s_semigroupref31_Same_4L_step C t22 as_0 b's_0) t23).bind fun
  | (.inl t40) => k0 t40
  | (.inr (t231, t241)) => k1 t231 t241
noncomputable def s_semigroupref31_Same_4L_dec : Out → St → Option ((Int) ⊕ ((Bool) ⊕ (Int × Bool))) := fun o st => match o with
 | .norm => some (.inl (V.toInt (st.sl 23)))
 | .exit q => bif Nat.beq q 0 then some (.inr (.inr (V.toInt (st.sl 23), V.toBool (st.sl 24)))) else none
 | .ret => some (.inr (.inl (V.toBool (st.sl 4))))
noncomputable def s_semigroupref31_Same_4L_hd (t22 : Int) (as_0 : List V) (as_1 : Int) (b's_0 : List V) (b's_1 : Int) : (Int) → St := fun t23 => z15_3 t22 t23 as_0 as_1 b's_0 b's_1
noncomputable def s_semigroupref31_Same_4L_enc (t22 : Int) (as_0 : List V) (as_1 : Int) (b's_0 : List V) (b's_1 : Int) : ((Bool) ⊕ (Int × Bool)) → Out × St := fun
 | (.inl t40) => (.ret, z15_2 t40)
 | (.inr (t231, t241)) => (.exit 0, z15_4 t22 t231 t241 as_0 as_1 b's_0 b's_1)
theorem s_semigroupref31_Same_4L_eq (C : CallF) (t22 t23 : Int) (as_0 : List V) (as_1 : Int) (b's_0 : List V) (b's_1 : Int) {β : Type} (K : Out → St → Option β) :
 execL Try.prog ann C 15 38 0 (codesAt Try.prog 15 [[1, 1, 0, 1, 0]]) (z15_3 t22 t23 as_0 as_1 b's_0 b's_1) K =
  s_semigroupref31_Same_4L C t22 t23 as_0 b's_0
   (fun (t40 : Bool) => K .ret (z15_2 t40))
   (fun (t231 : Int) (t241 : Bool) => K (.exit 0) (z15_4 t22 t231 t241 as_0 as_1 b's_0 b's_1)) := by
 have hitems : flatC (codeAt [1, 1, 0, 1, 0, 0] (bodyOf Try.prog 15)) = q15_1 := by kernel_rfl
 have hloop : [codeAt [1, 1, 0, 1, 0] (bodyOf Try.prog 15)] = [Code.loop (codeAt [1, 1, 0, 1, 0, 0] (bodyOf Try.prog 15))] := by kernel_rfl
 have h := loopK_eq (P := Try.prog) (A := ann) (C := C) (f := 15) (n := 38) (m := 0) (c := codeAt [1, 1, 0, 1, 0, 0] (bodyOf Try.prog 15)) (s_semigroupref31_Same_4L_hd t22 as_0 as_1 b's_0 b's_1) (s_semigroupref31_Same_4L_enc t22 as_0 as_1 b's_0 b's_1) s_semigroupref31_Same_4L_dec (s_semigroupref31_Same_4L_step C t22 as_0 b's_0)
  (by rintro t23; exact Eq.trans (execK_items hitems) (Eq.trans (h15_3_eq C t22 t23 as_0 as_1 b's_0 b's_1 s_semigroupref31_Same_4L_dec) (by kernel_rfl)))
  (by rintro t23; exact Eq.trans (execK_items hitems) (Eq.trans (h15_3_eq C t22 t23 as_0 as_1 b's_0 b's_1 (fun o st => some (o, st))) (Eq.trans (by kernel_rfl) (Eq.trans (h15_3_eq C t22 t23 as_0 as_1 b's_0 b's_1 (fun o st => (s_semigroupref31_Same_4L_dec o st).map (outS (s_semigroupref31_Same_4L_hd t22 as_0 as_1 b's_0 b's_1) (s_semigroupref31_Same_4L_enc t22 as_0 as_1 b's_0 b's_1)))).symm (execK_items hitems).symm))))
  (by intro r; rcases r with r | r <;> intro h <;> cases h) t23 K
 refine Eq.trans (congrArg (fun l => execL Try.prog ann C 15 38 0 l (z15_3 t22 t23 as_0 as_1 b's_0 b's_1) K) hloop) (Eq.trans h ?_)
 · refine congrArg _ (funext fun r => ?_)
   rcases r with r | r <;> rfl
noncomputable def d15_5 (C : CallF) (t22 t23 : Int) (as_0 b's_0 : List V) {β : Type} (k0 : Bool → Option β) (k1 : Option β) : Option β :=
 s_semigroupref31_Same_4L C t22 t23 as_0 b's_0
  (fun (t_5 : Bool) =>
   k0 t_5)
  (fun (t_6 : Int) (t_7 : Bool) =>
   k1)
noncomputable abbrev z15_5  : St :=
 mk [] []
theorem h15_5_eq (C : CallF) (t22 t23 : Int) (as_0 : List V) (as_1 : Int) (b's_0 : List V) (b's_1 : Int) {β : Type} (K : Out → St → Option β) :
 execL Try.prog ann C 15 38 0 (codesAt Try.prog 15 [[1, 1, 0, 1]]) (z15_3 t22 t23 as_0 as_1 b's_0 b's_1) K =
  d15_5 C t22 t23 as_0 b's_0
   (fun (t40 : Bool) => K .ret (z15_2 t40))
   (K .norm (z15_5)) := Eq.trans (execL_block (P := Try.prog) (A := ann) (C := C) (f := 15) (n := 38) (m := 0) (id := 0) (c := codeAt [1, 1, 0, 1] (bodyOf Try.prog 15)) (d := codeAt [1, 1, 0, 1, 0] (bodyOf Try.prog 15)) (l := codesAt Try.prog 15 [[1, 1, 0, 1, 0]]) (st := z15_3 t22 t23 as_0 as_1 b's_0 b's_1) (K := K) (by kernel_rfl) (by kernel_rfl)) (Eq.trans (s_semigroupref31_Same_4L_eq C t22 t23 as_0 as_1 b's_0 b's_1 (blockK ann 15 0 0 K)) (by kernel_rfl))
noncomputable def d15_6 (C : CallF)  {β : Type} (k0 : Bool → Option β) : Option β :=
 k0 true
noncomputable abbrev q15_2 : List Code := codesAt Try.prog 15 [[1, 1, 1, 0], [1, 1, 1, 1]]
theorem h15_6_eq (C : CallF)  {β : Type} (K : Out → St → Option β) :
 execL Try.prog ann C 15 38 0 (q15_2) (z15_5) K =
  d15_6 C
   (fun (t40 : Bool) => K .ret (z15_2 t40)) := by kernel_rfl
noncomputable def d15_7 (C : CallF) (t22 t23 : Int) (as_0 b's_0 : List V) {β : Type} (k0 : Bool → Option β) : Option β :=
 d15_5 C t22 t23 as_0 b's_0
  (fun (t_11 : Bool) =>
   k0 t_11)
  (
   d15_6 C
    (fun (t_12 : Bool) =>
     k0 t_12))
noncomputable abbrev q15_3 : List Code := codesAt Try.prog 15 [[1, 1, 0, 1], [1, 1, 1, 0], [1, 1, 1, 1]]
theorem h15_7_eq (C : CallF) (t22 t23 : Int) (as_0 : List V) (as_1 : Int) (b's_0 : List V) (b's_1 : Int) {β : Type} (K : Out → St → Option β) :
 execL Try.prog ann C 15 38 0 (q15_3) (z15_3 t22 t23 as_0 as_1 b's_0 b's_1) K =
  d15_7 C t22 t23 as_0 b's_0
   (fun (t40 : Bool) => K .ret (z15_2 t40)) := by
 refine Eq.trans (execL_app (P := Try.prog) (A := ann) (C := C) (f := 15) (n := 38) (m := 0) (codesAt Try.prog 15 [[1, 1, 0, 1]]) (q15_2) (st := z15_3 t22 t23 as_0 as_1 b's_0 b's_1) (K := K)) (Eq.trans (h15_5_eq C t22 t23 as_0 as_1 b's_0 b's_1 (seqK Try.prog ann C 15 38 0 (q15_2) K)) ?_)
 · exact Eq.trans (by kernel_rfl) (Eq.trans (congrArg (fun HOLE : Option β => d15_5 C t22 t23 as_0 b's_0 (fun (t40 : Bool) => K .ret (z15_2 t40)) HOLE) (h15_6_eq C K)) ((by kernel_rfl)))
noncomputable def d15_8 (C : CallF) (t19 : Bool) (as_0 b's_0 : List V) {β : Type} (k0 : Bool → Option β) : Option β :=
 d15_2 C t19
  (fun (t_13 : Bool) =>
   k0 t_13)
  (
   d15_7 C (as_0.length : Int) 0 as_0 b's_0
    (fun (t_14 : Bool) =>
     k0 t_14))
noncomputable abbrev q15_4 : List Code := codesAt Try.prog 15 [[1, 0, 1], [1, 1, 0, 0], [1, 1, 0, 1], [1, 1, 1, 0], [1, 1, 1, 1]]
theorem h15_8_eq (C : CallF) (t19 : Bool) (as_0 : List V) (as_1 : Int) (b's_0 : List V) (b's_1 : Int) {β : Type} (K : Out → St → Option β) :
 execL Try.prog ann C 15 38 0 (q15_4) (z15_0 t19 as_0 as_1 b's_0 b's_1) K =
  d15_8 C t19 as_0 b's_0
   (fun (t40 : Bool) => K .ret (z15_2 t40)) := by
 refine Eq.trans (execL_app (P := Try.prog) (A := ann) (C := C) (f := 15) (n := 38) (m := 0) (q15_0) (q15_3) (st := z15_0 t19 as_0 as_1 b's_0 b's_1) (K := K)) (Eq.trans (h15_2_eq C t19 as_0 as_1 b's_0 b's_1 (seqK Try.prog ann C 15 38 0 (q15_3) K)) ?_)
 · exact Eq.trans (by kernel_rfl) (Eq.trans (congrArg (fun HOLE : Option β => d15_2 C t19 (fun (t40 : Bool) => K .ret (z15_2 t40)) HOLE) (h15_7_eq C (as_0.length : Int) 0 as_0 as_1 b's_0 b's_1 K)) ((by kernel_rfl)))
noncomputable def d15_9 (C : CallF) (a_Nodes : List V) (a_Root : Int) (b_Nodes : List V) (b_Root : Int) {β : Type} (k0 : Bool → Option β) : Option β :=
 s_semigroupref31_Same_1 C a_Nodes a_Root b_Nodes b_Root
  (fun (t_15 : Bool) =>
   d15_8 C t_15 a_Nodes b_Nodes
    (fun (t_16 : Bool) =>
     k0 t_16))
noncomputable abbrev q15_5 : List Code := codesAt Try.prog 15 [[0], [1, 0, 0], [1, 0, 1], [1, 1, 0, 0], [1, 1, 0, 1], [1, 1, 1, 0], [1, 1, 1, 1]]
theorem h15_9_eq (C : CallF) (a_Nodes : List V) (a_Root : Int) (b_Nodes : List V) (b_Root : Int) {β : Type} (K : Out → St → Option β) :
 execL Try.prog ann C 15 38 0 (q15_5) (z15_1 a_Nodes a_Root b_Nodes b_Root) K =
  d15_9 C a_Nodes a_Root b_Nodes b_Root
   (fun (t40 : Bool) => K .ret (z15_2 t40)) := by
 refine Eq.trans (execL_app (P := Try.prog) (A := ann) (C := C) (f := 15) (n := 38) (m := 0) (codesAt Try.prog 15 [[0], [1, 0, 0]]) (q15_4) (st := z15_1 a_Nodes a_Root b_Nodes b_Root) (K := K)) (Eq.trans (s_semigroupref31_Same_1_eq C a_Nodes a_Root b_Nodes b_Root (seqK Try.prog ann C 15 38 0 (q15_4) K)) ?_)
 · exact Eq.trans (by kernel_rfl) (Eq.trans (congrArg (fun HOLE : Bool → Option β => s_semigroupref31_Same_1 C a_Nodes a_Root b_Nodes b_Root HOLE) (funext fun (t190 : Bool) => h15_8_eq C t190 a_Nodes a_Root b_Nodes b_Root K)) ((by kernel_rfl)))
noncomputable def f_semigroupref31_Same (C : CallF) (a_Nodes : List V) (a_Root : Int) (b_Nodes : List V) (b_Root : Int) : Option (V × List V) :=
 s_semigroupref31_Same_1 C a_Nodes a_Root b_Nodes b_Root
  (fun (t_17 : Bool) =>
   bif t_17 then
    some (.bool false, [])
   else
    s_semigroupref31_Same_4L C (a_Nodes.length : Int) 0 a_Nodes b_Nodes
     (fun (t_8 : Bool) =>
      some (.bool t_8, []))
     (fun (t_9 : Int) (t_10 : Bool) =>
      some (.bool true, [])))
theorem f_semigroupref31_Same_eq (C : CallF) (a_Nodes : List V) (a_Root : Int) (b_Nodes : List V) (b_Root : Int) : bodyK Try.prog ann C 15 [.agg [.list T_api_SfNode a_Nodes, .int .i64 a_Root], .agg [.list T_api_SfNode b_Nodes, .int .i64 b_Root]] [] = f_semigroupref31_Same C a_Nodes a_Root b_Nodes b_Root :=
 Eq.trans (bodyK_fin (by kernel_rfl)) (Eq.trans (execK_items (by kernel_rfl)) (Eq.trans (h15_9_eq C a_Nodes a_Root b_Nodes b_Root (finK Try.prog ann C 15 [])) (by kernel_rfl)))
theorem f_semigroupref31_Same_of {a_Nodes : List V} {a_Root : Int} {b_Nodes : List V} {b_Root : Int} {r : V × List V} (h : f_semigroupref31_Same CC a_Nodes a_Root b_Nodes b_Root = some r) : CC F_semigroupref31_Same [.agg [.list T_api_SfNode a_Nodes, .int .i64 a_Root], .agg [.list T_api_SfNode b_Nodes, .int .i64 b_Root]] [] = some r :=
 Call_of_body ((bodyK_eq ..).trans ((f_semigroupref31_Same_eq ..).trans h))
end Go.AM

/-
 Cut: the nodes that are reached, with new numbers.
-/
namespace Go.AM
open Go.Proofs
/-- How many of the first i marks are set. -/
def num (m : List Bool) : Nat → Nat
 | 0 => 0
 | i + 1 => num m i + (if m[i]? = some true then 1 else 0)
def renum (m : List Bool) (x : Node) : Node :=
 ⟨x.op, x.letter, if 5 ≤ x.op then (num m x.a.toNat : Int) else x.a, if 5 ≤ x.op ∧ x.op ≠ 8 then (num m x.b.toNat : Int) else x.b⟩
def cutUpto (l : List Node) (m : List Bool) : Nat → List Node
 | 0 => []
 | i + 1 => cutUpto l m i ++ (if m[i]? = some true then (match l[i]? with | some x => [renum m x] | none => []) else [])
theorem num_mono (m : List Bool) {i j : Nat} (h : i ≤ j) : num m i ≤ num m j := by
 induction h with
 | refl => exact Nat.le_refl _
 | step _ ih => rw [num]; omega
theorem num_lt (m : List Bool) {i j : Nat} (h : i < j) (hi : m[i]? = some true) : num m i < num m j := by
 have h1 := num_mono m (show i + 1 ≤ j from h)
 have : num m (i + 1) = num m i + 1 := by rw [num, if_pos hi]
 omega
theorem num_le (m : List Bool) (i : Nat) : num m i ≤ i := by
 induction i with
 | zero => exact Nat.le_refl _
 | succ i ih => unfold num; split <;> omega
theorem cutUpto_length {l : List Node} {m : List Bool} : ∀ {i : Nat}, i ≤ l.length → (cutUpto l m i).length = num m i
 | 0, _ => rfl
 | i + 1, h => by
  rw [cutUpto, num, List.length_append, cutUpto_length (by omega), List.getElem?_eq_getElem (show i < l.length by omega)]
  split <;> rfl
theorem cutUpto_get {l : List Node} {m : List Bool} {i : Nat} {x : Node} (hx : l[i]? = some x) (hi : m[i]? = some true) : ∀ {j : Nat}, i < j → j ≤ l.length → (cutUpto l m j)[num m i]? = some (renum m x)
 | 0, h, _ => by omega
 | j + 1, h, hj => by
  rw [cutUpto]
  by_cases hij : i = j
  · subst hij
    rw [if_pos hi, hx, List.getElem?_append_right (by rw [cutUpto_length (by omega)]; exact Nat.le_refl _), cutUpto_length (by omega)]
    simp
  · have := num_lt m (show i < j by omega) hi
    rw [List.getElem?_append_left (by rw [cutUpto_length (by omega)]; exact this)]
    exact cutUpto_get hx hi (by omega) (by omega)
/-- Every node of the cut list is one that was marked. -/
theorem cutUpto_inv {l : List Node} {m : List Bool} : ∀ {j k : Nat} {y : Node}, j ≤ l.length → (cutUpto l m j)[k]? = some y → ∃ i x, i < j ∧ m[i]? = some true ∧ l[i]? = some x ∧ k = num m i ∧ y = renum m x
 | 0, k, y, _, h => by simp [cutUpto] at h
 | j + 1, k, y, hj, h => by
  rw [cutUpto] at h
  by_cases hk : k < (cutUpto l m j).length
  · rw [List.getElem?_append_left hk] at h
    obtain ⟨i, x, h1, h2⟩ := cutUpto_inv (by omega) h
    exact ⟨i, x, by omega, h2⟩
  · rw [List.getElem?_append_right (by omega)] at h
    have hx : l[j]? = some l[j] := List.getElem?_eq_getElem (by omega)
    rw [hx] at h
    by_cases hm : m[j]? = some true
    · rw [if_pos hm] at h
      have h0 : k - (cutUpto l m j).length = 0 := by
       have := (List.getElem?_eq_some_iff.1 h).1
       simp at this
       omega
      rw [h0] at h
      simp at h
      exact ⟨j, l[j], by omega, hm, hx, by rw [cutUpto_length (by omega)] at hk h0; omega, h.symm⟩
    · rw [if_neg hm] at h
      simp at h
theorem cut_round {l : List Node} {letters : Int} (hl : Valid letters l) (hn : l.length ≤ 20000) {root : Nat} {m : List Bool} (hm1 : m.length = l.length) (hm2 : ∀ i, m[i]? = some true ↔ Reach l root i)
 {i : Nat} (hi : i < l.length) {N : List Nat} (hN : N.length = l.length) (hNj : ∀ j, j < i → m[j]? = some true → N[j]? = some (num m j)) :
 ∃ N' : List Nat, N'.length = l.length ∧ (∀ j, j < i + 1 → m[j]? = some true → N'[j]? = some (num m j)) ∧
  s_starfree_Cut_5L_step CC (l.length : Int) (nodesV l) (boolsV m) ((i : Int), natsV N, nodesV (cutUpto l m i)) = some (.inl (((i + 1 : Nat) : Int), natsV N', nodesV (cutUpto l m (i + 1)))) := by
 have him : i < m.length := by omega
 have hx : l[i]? = some l[i] := List.getElem?_eq_getElem hi
 have ok := nodeOk_iff.1 (hl.node hx)
 unfold s_starfree_Cut_5L_step s_starfree_Cut_2
 simp only [bif_and, bif_decide, bif_beq, bif_ble, List.length_map, List.length_cons, List.length_nil, Nat.zero_add]
 rw [if_pos (by omega), if_pos (by omega), if_pos (by omega), Int.toNat_natCast, boolsV_get him]
 simp only [Option.bind_some, V.toBool_bool, bif_not]
 have hw : IntKind.wrap .i64 ((i : Int) + 1) = ((i + 1 : Nat) : Int) := by rw [wrap64 (by omega) (by omega)]; rfl
 rw [hw]
 cases hmi : m[i] with
 | false =>
  have hmi' : m[i]? ≠ some true := by rw [List.getElem?_eq_getElem him, hmi]; simp
  refine ⟨N, hN, fun j hj hmj => hNj j (by have : j ≠ i := fun h => hmi' (h ▸ hmj); omega) hmj, ?_⟩
  rw [cutUpto, if_neg hmi', List.append_nil]
  rfl
 | true =>
  have hmi' : m[i]? = some true := by rw [List.getElem?_eq_getElem him, hmi]
  have hri := (hm2 i).1 hmi'
  simp only [cond_true]
  rw [idx_map (n := i) rfl hi]
  simp only [Option.bind_some, Node.v, V.cell_agg, V.nth_zero, V.nth_one, V.nth_two, V.nth_three, V.toInt_int, parts_spec]
  have hNi : (natsV N)[i]? = some (.int .i64 ((N[i]'(by omega) : Nat) : Int)) := natsV_get (by omega)
  have hcl : (cutUpto l m i).length = num m i := cutUpto_length (by omega)
  have hmb : ((cutUpto l m i).length + 1) * 32 ≤ maxBytes := by
   have := num_le m i
   unfold maxBytes
   rw [hcl]
   omega
  have fin : ∀ (a b : Int), (⟨l[i].op, l[i].letter, a, b⟩ : Node) = renum m l[i] →
   (some (Sum.inl (((i + 1 : Nat) : Int), (natsV N).set i (.int .i64 ((cutUpto l m i).length : Int)), nodesV (cutUpto l m i) ++ [V.agg [.int .i64 l[i].op, .int .i64 l[i].letter, .int .i64 a, .int .i64 b]])) : Option ((Int × List V × List V) ⊕ (Int × Bool × List V × List V))) =
    some (.inl (((i + 1 : Nat) : Int), natsV (N.set i (num m i)), nodesV (cutUpto l m (i + 1)))) := by
   intro a b hab
   rw [natsV_set, hcl, cutUpto, if_pos hmi', hx]
   simp only [List.map_append, List.map_cons, List.map_nil, ← hab]
   rfl
  refine ⟨N.set i (num m i), by simp [hN], fun j hj hmj => ?_, ?_⟩
  · by_cases hji : j = i
    · subst hji; exact List.getElem?_set_self (by omega)
    · rw [List.getElem?_set_ne (by omega)]; exact hNj j (by omega) hmj
  by_cases g5 : 5 ≤ l[i].op
  · have oa := ok.a g5
    have ra := (hm2 _).2 (.a hri hx g5)
    rw [if_pos (by rw [ge_iff_le, partsN_one ok.op]; exact g5), if_pos oa.1, if_pos (by omega), natsV_of (hNj _ (by omega) ra)]
    simp only [Option.bind_some, V.toInt_int]
    by_cases g8 : l[i].op = 8
    · rw [if_neg (by rw [partsN_two ok.op]; omega), if_pos (by omega), if_pos (by omega), hNi]
      simp only [Option.bind_some]
      rw [if_pos hmb]
      refine fin _ _ ?_
      unfold renum
      rw [if_pos g5, if_neg (by omega)]
    · have ob := ok.b g5 g8
      have rb := (hm2 _).2 (.b hri hx g5 g8)
      rw [if_pos (by rw [partsN_two ok.op]; exact ⟨g5, g8⟩), if_pos ob.1, if_pos (by omega), natsV_of (hNj _ (by omega) rb)]
      simp only [Option.bind_some, V.toInt_int]
      rw [if_pos (by omega), if_pos (by omega), hNi]
      simp only [Option.bind_some]
      rw [if_pos hmb]
      refine fin _ _ ?_
      unfold renum
      rw [if_pos g5, if_pos ⟨g5, g8⟩]
  · rw [if_neg (by rw [ge_iff_le, partsN_one ok.op]; exact g5), if_neg (by rw [partsN_two ok.op]; omega), if_pos (by omega), if_pos (by omega), hNi]
    simp only [Option.bind_some]
    rw [if_pos hmb]
    refine fin _ _ ?_
    unfold renum
    rw [if_neg g5, if_neg (by omega)]
theorem cut_spec (l : List Node) (root : Nat) (hv : validateN l root 6 = 0) :
 ∃ m : List Bool, m.length = l.length ∧ (∀ i, m[i]? = some true ↔ Reach l root i) ∧
  CC F_starfree_Cut [graphV l (root : Int)] [] = some (.tup [.agg [.own T_api_SfNode (nodesV (cutUpto l m l.length)), .int .i64 (num m root : Int)], .int .i64 0], []) := by
 obtain ⟨_, hl20, hval, hr0, hr1⟩ := validateN_zero.1 hv
 have hr : root < l.length := by omega
 obtain ⟨m, hm1, hm2, hm3⟩ := reached_spec hval hr hl20
 refine ⟨m, hm1, hm2, f_starfree_Cut_of ?_⟩
 unfold f_starfree_Cut s_starfree_Cut_5L
 simp only [validate_spec l root 6 (by omega), hv, Option.bind_some, V.toInt_int, bif_bne, bif_and, bif_decide, bif_ble, List.length_map, Int.toNat_natCast, hm3, V.toList_own, hm1]
 rw [if_pos trivial, if_pos (by omega), if_pos (by omega), if_pos (by unfold maxBytes; omega)]
 have key := Loop_inv (step := s_starfree_Cut_5L_step CC (l.length : Int) (nodesV l) (boolsV m))
  (fun s => ∃ (i : Nat) (N : List Nat), i ≤ l.length ∧ N.length = l.length ∧ (∀ j, j < i → m[j]? = some true → N[j]? = some (num m j)) ∧ s = ((i : Int), natsV N, nodesV (cutUpto l m i)))
  (fun s => ((l.length : Int) - s.1).toNat)
  (fun s => ∃ (j : Int) (b : Bool) (N : List V), s = (j, b, N, nodesV (cutUpto l m l.length))) (by
   rintro s ⟨i, N, h1, h2, h3, rfl⟩
   by_cases hi : i < l.length
   · left
     obtain ⟨N', a1, a2, a3⟩ := cut_round hval hl20 hm1 hm2 hi h2 h3
     exact ⟨_, a3, ⟨i + 1, N', by omega, a1, a2, rfl⟩, by simp; omega⟩
   · right
     have : i = l.length := by omega
     subst this
     unfold s_starfree_Cut_5L_step s_starfree_Cut_2
     simp only [bif_decide]
     rw [if_neg (by omega)]
     exact ⟨_, rfl, _, _, _, rfl⟩)
 have e0 : List.replicate l.length (V.int .i64 0) = natsV (List.replicate l.length 0) := by simp
 obtain ⟨s, hs, j, b, N, rfl⟩ := key ((0 : Int), natsV (List.replicate l.length 0), []) ⟨0, List.replicate l.length 0, by omega, by simp, fun j hj => by omega, rfl⟩
 rw [e0, hs]
 simp only [Option.bind_some, List.length_map]
 have e1 : (cutUpto l m l.length).length = num m root + 1 := by
  rw [cutUpto_length (Nat.le_refl _)]
  -- beyond the root nothing is marked
  have : ∀ k, root + 1 + k ≤ l.length → num m (root + 1 + k) = num m (root + 1) := by
   intro k
   induction k with
   | zero => intro _; rfl
   | succ k ih =>
    intro hk
    have hnot : ¬ m[root + 1 + k]? = some true := fun h => by
     have := ((hm2 _).1 h).le hval
     omega
    rw [show root + 1 + (k + 1) = (root + 1 + k) + 1 by omega, num, ih (by omega), if_neg hnot]
    rfl
  have h2 := this (l.length - (root + 1)) (by omega)
  rw [show root + 1 + (l.length - (root + 1)) = l.length by omega] at h2
  rw [h2, num, if_pos ((hm2 root).2 .root)]
 have e2 : ((num m root + 1 : Nat) : Int) - 1 = (num m root : Int) := by omega
 rw [e1, e2, wrap64 (by have := num_le m root; omega) (by have := num_le m root; omega)]
end Go.AM

/-
 Equal graphs are found to be equal.
-/
namespace Go.AM
open Go.Proofs
theorem same_spec (l : List Node) (r : Int) (hlen : l.length < 9223372036854775807) : CC F_semigroupref31_Same [graphV l r, graphV l r] [] = some (.bool true, []) := by
 refine f_semigroupref31_Same_of ?_
 unfold f_semigroupref31_Same s_semigroupref31_Same_1 s_semigroupref31_Same_4L
 have key := Loop_inv (step := s_semigroupref31_Same_4L_step CC ((nodesV l).length : Int) (nodesV l) (nodesV l))
  (fun s => ∃ i : Nat, i ≤ l.length ∧ s = (i : Int)) (fun s => ((l.length : Int) - s).toNat) (fun s => ∃ x, s = .inr x) (by
   rintro s ⟨i, h1, rfl⟩
   unfold s_semigroupref31_Same_4L_step
   simp only [bif_decide, List.length_map]
   by_cases hi : i < l.length
   · left
     rw [if_pos (by omega), idx_map (n := i) rfl hi]
     refine ⟨((i + 1 : Nat) : Int), ?_, ⟨i + 1, by omega, rfl⟩, by omega⟩
     simp (disch := omega) only [Option.bind_some, beq_self_eq_true, Bool.and_self, Bool.not_true, cond_false, wrap64]
     rfl
   · right
     rw [if_neg (by omega)]
     exact ⟨_, rfl, _, rfl⟩)
 obtain ⟨s, hs, x, rfl⟩ := key 0 ⟨0, Nat.zero_le _, rfl⟩
 simp only [bne_self_eq_false, cond_false, hs, Option.bind_some]
end Go.AM

set_option maxRecDepth 100000
namespace Go.AM
open Go.Proofs
/-! semigroup/semigroupref01.MayLetters -/
noncomputable def s_semigroupref01_MayLetters_1 (C : CallF) (letters : Int) {β : Type} (k0 : Bool → Option β) : Option β :=
 bif decide ((letters : Int) ≥ 1) then
  k0 (decide ((letters : Int) ≤ 6))
 else
  k0 false
noncomputable abbrev z43_0 (c0 : Bool) : St :=
 mk [(2, .bool c0)] []
noncomputable abbrev z43_1 (c0 : Int) : St :=
 mk [(0, .int .i64 c0)] []
theorem s_semigroupref01_MayLetters_1_eq (C : CallF) (letters : Int) {β : Type} (K : Out → St → Option β) :
 execL Try.prog ann C 43 9 0 (codesAt Try.prog 43 [[0], [1, 0], [1, 1]]) (z43_1 letters) K =
  s_semigroupref01_MayLetters_1 C letters
   (fun (t20 : Bool) => K .ret (z43_0 t20)) := by kernel_rfl
noncomputable def f_semigroupref01_MayLetters (C : CallF) (letters : Int) : Option (V × List V) :=
 s_semigroupref01_MayLetters_1 C letters
  (fun (t_1 : Bool) =>
   some (.bool t_1, []))
theorem f_semigroupref01_MayLetters_eq (C : CallF) (letters : Int) : bodyK Try.prog ann C 43 [.int .i64 letters] [] = f_semigroupref01_MayLetters C letters :=
 Eq.trans (bodyK_fin (by kernel_rfl)) (Eq.trans (execK_items (by kernel_rfl)) (Eq.trans (s_semigroupref01_MayLetters_1_eq C letters (finK Try.prog ann C 43 [])) (by kernel_rfl)))
theorem f_semigroupref01_MayLetters_of {letters : Int} {r : V × List V} (h : f_semigroupref01_MayLetters CC letters = some r) : CC F_semigroupref01_MayLetters [.int .i64 letters] [] = some r :=
 Call_of_body ((bodyK_eq ..).trans ((f_semigroupref01_MayLetters_eq ..).trans h))
end Go.AM

set_option maxRecDepth 100000
namespace Go.AM
open Go.Proofs
/-! semigroup/semigroupref01.Valid -/
noncomputable def s_semigroupref01_Valid_1 (C : CallF) (w : List UInt8) (letters : Int) {β : Type} (k0 : Bool → Option β) : Option β :=
 (C F_semigroupref01_MayLetters [.int .i64 letters] []).bind fun r1 =>
  bif !r1.1.toBool then
   k0 true
  else
   k0 (decide (((w.length : Int) : Int) > 2048))
noncomputable abbrev z44_0 (c0 : List UInt8) (c1 : Int) (c2 : Bool) : St :=
 mk [(0, .str c0), (1, .int .i64 c1), (13, .bool c2)] []
noncomputable abbrev z44_1 (c0 : List UInt8) (c1 : Int) : St :=
 mk [(0, .str c0), (1, .int .i64 c1)] []
theorem s_semigroupref01_Valid_1_eq (C : CallF) (w : List UInt8) (letters : Int) {β : Type} (K : Out → St → Option β) :
 execL Try.prog ann C 44 33 0 (codesAt Try.prog 44 [[0], [1, 0, 0]]) (z44_1 w letters) K =
  s_semigroupref01_Valid_1 C w letters
   (fun (t130 : Bool) => K .norm (z44_0 w letters t130)) := by kernel_rfl
noncomputable def d44_2 (C : CallF) (t13 : Bool) {β : Type} (k0 : Bool → Option β) (k1 : Option β) : Option β :=
 bif t13 then
  k0 false
 else
  k1
noncomputable abbrev z44_2 (c0 : Bool) : St :=
 mk [(4, .bool c0)] []
noncomputable abbrev z44_3 (c0 : List UInt8) (c1 c2 : Int) : St :=
 mk [(0, .str c0), (1, .int .i64 c1), (5, .int .i64 c2)] []
noncomputable abbrev q44_0 : List Code := codesAt Try.prog 44 [[1, 0, 1], [1, 1, 0, 0]]
theorem h44_2_eq (C : CallF) (w : List UInt8) (letters : Int) (t13 : Bool) {β : Type} (K : Out → St → Option β) :
 execL Try.prog ann C 44 33 0 (q44_0) (z44_0 w letters t13) K =
  d44_2 C t13
   (fun (t40 : Bool) => K .ret (z44_2 t40))
   (K .norm (z44_3 w letters 0)) := by kernel_rfl
noncomputable def s_semigroupref01_Valid_3 (C : CallF) (w : List UInt8) (letters i : Int) {β : Type} (k0 : Bool → Option β) (k1 : Option β) (k2 : Option β) : Option β :=
 bif decide ((i : Int) < (w.length : Int)) then
  (bif decide (0 ≤ i) then (w[(i : Int).toNat]?).map fun b => V.int .u8 b.toNat else none).bind fun x4 =>
   bif decide ((x4.toInt : Int) < 97) then
    k0 false
   else
    (bif decide (0 ≤ i) then (w[(i : Int).toNat]?).map fun b => V.int .u8 b.toNat else none).bind fun x5 =>
     bif decide (((IntKind.wrap .i64 (IntKind.wrap .u8 (x5.toInt - 97))) : Int) ≥ letters) then
      k0 false
     else
      k1
 else
  k2
noncomputable abbrev z44_4 (c0 : List UInt8) (c1 c2 : Int) (c3 : Bool) : St :=
 mk [(0, .str c0), (1, .int .i64 c1), (5, .int .i64 c2), (17, .bool c3)] []
noncomputable abbrev q44_1 : List Code := codesAt Try.prog 44 [[1, 1, 0, 1, 0, 0, 0, 0], [1, 1, 0, 1, 0, 0, 0, 1], [1, 1, 0, 1, 0, 0, 1, 0], [1, 1, 0, 1, 0, 0, 1, 1]]
theorem s_semigroupref01_Valid_3_eq (C : CallF) (w : List UInt8) (letters i : Int) {β : Type} (K : Out → St → Option β) :
 execL Try.prog ann C 44 33 0 (q44_1) (z44_3 w letters i) K =
  s_semigroupref01_Valid_3 C w letters i
   (fun (t40 : Bool) => K .ret (z44_2 t40))
   (K .norm (z44_3 w letters (IntKind.wrap .i64 (i + 1))))
   (K (.exit 0) (z44_4 w letters i (decide ((i : Int) < (w.length : Int))))) := by kernel_rfl
noncomputable def s_semigroupref01_Valid_4L_step (C : CallF) (w : List UInt8) (letters : Int) : (Int) → Option ((Int) ⊕ ((Bool) ⊕ (Int × Bool))) := fun i =>
 s_semigroupref01_Valid_3 C w letters i
  (fun (t_6 : Bool) =>
   some (.inr (.inl t_6)))
  (
   some (.inl (IntKind.wrap .i64 (i + 1))))
  (
   some (.inr (.inr (i, decide ((i : Int) < (w.length : Int))))))
noncomputable def s_semigroupref01_Valid_4L (C : CallF) (w : List UInt8) (letters i : Int) {β : Type} (k0 : Bool → Option β) (k1 : Int → Bool → Option β) : Option β :=
 (Loop (s_semigroupref01_Valid_4L_step C w letters) i).bind fun
  | (.inl t40) => k0 t40
  | (.inr (i1, t171)) => k1 i1 t171
noncomputable def s_semigroupref01_Valid_4L_dec : Out → St → Option ((Int) ⊕ ((Bool) ⊕ (Int × Bool))) := fun o st => match o with
 | .norm => some (.inl (V.toInt (st.sl 5)))
 | .exit q => bif Nat.beq q 0 then some (.inr (.inr (V.toInt (st.sl 5), V.toBool (st.sl 17)))) else none
 | .ret => some (.inr (.inl (V.toBool (st.sl 4))))
noncomputable def s_semigroupref01_Valid_4L_hd (w : List UInt8) (letters : Int) : (Int) → St := fun i => z44_3 w letters i
noncomputable def s_semigroupref01_Valid_4L_enc (w : List UInt8) (letters : Int) : ((Bool) ⊕ (Int × Bool)) → Out × St := fun
 | (.inl t40) => (.ret, z44_2 t40)
 | (.inr (i1, t171)) => (.exit 0, z44_4 w letters i1 t171)
theorem s_semigroupref01_Valid_4L_eq (C : CallF) (w : List UInt8) (letters i : Int) {β : Type} (K : Out → St → Option β) :
 execL Try.prog ann C 44 33 0 (codesAt Try.prog 44 [[1, 1, 0, 1, 0]]) (z44_3 w letters i) K =
  s_semigroupref01_Valid_4L C w letters i
   (fun (t40 : Bool) => K .ret (z44_2 t40))
   (fun (i1 : Int) (t171 : Bool) => K (.exit 0) (z44_4 w letters i1 t171)) := by
 have hitems : flatC (codeAt [1, 1, 0, 1, 0, 0] (bodyOf Try.prog 44)) = q44_1 := by kernel_rfl
 have hloop : [codeAt [1, 1, 0, 1, 0] (bodyOf Try.prog 44)] = [Code.loop (codeAt [1, 1, 0, 1, 0, 0] (bodyOf Try.prog 44))] := by kernel_rfl
 have h := loopK_eq (P := Try.prog) (A := ann) (C := C) (f := 44) (n := 33) (m := 0) (c := codeAt [1, 1, 0, 1, 0, 0] (bodyOf Try.prog 44)) (s_semigroupref01_Valid_4L_hd w letters) (s_semigroupref01_Valid_4L_enc w letters) s_semigroupref01_Valid_4L_dec (s_semigroupref01_Valid_4L_step C w letters)
  (by rintro i; exact Eq.trans (execK_items hitems) (Eq.trans (s_semigroupref01_Valid_3_eq C w letters i s_semigroupref01_Valid_4L_dec) (by kernel_rfl)))
  (by rintro i; exact Eq.trans (execK_items hitems) (Eq.trans (s_semigroupref01_Valid_3_eq C w letters i (fun o st => some (o, st))) (Eq.trans (by kernel_rfl) (Eq.trans (s_semigroupref01_Valid_3_eq C w letters i (fun o st => (s_semigroupref01_Valid_4L_dec o st).map (outS (s_semigroupref01_Valid_4L_hd w letters) (s_semigroupref01_Valid_4L_enc w letters)))).symm (execK_items hitems).symm))))
  (by intro r; rcases r with r | r <;> intro h <;> cases h) i K
 refine Eq.trans (congrArg (fun l => execL Try.prog ann C 44 33 0 l (z44_3 w letters i) K) hloop) (Eq.trans h ?_)
 · refine congrArg _ (funext fun r => ?_)
   rcases r with r | r <;> rfl
noncomputable def d44_5 (C : CallF) (w : List UInt8) (letters i : Int) {β : Type} (k0 : Bool → Option β) (k1 : Option β) : Option β :=
 s_semigroupref01_Valid_4L C w letters i
  (fun (t_7 : Bool) =>
   k0 t_7)
  (fun (i_8 : Int) (t_9 : Bool) =>
   k1)
noncomputable abbrev z44_5  : St :=
 mk [] []
theorem h44_5_eq (C : CallF) (w : List UInt8) (letters i : Int) {β : Type} (K : Out → St → Option β) :
 execL Try.prog ann C 44 33 0 (codesAt Try.prog 44 [[1, 1, 0, 1]]) (z44_3 w letters i) K =
  d44_5 C w letters i
   (fun (t40 : Bool) => K .ret (z44_2 t40))
   (K .norm (z44_5)) := Eq.trans (execL_block (P := Try.prog) (A := ann) (C := C) (f := 44) (n := 33) (m := 0) (id := 0) (c := codeAt [1, 1, 0, 1] (bodyOf Try.prog 44)) (d := codeAt [1, 1, 0, 1, 0] (bodyOf Try.prog 44)) (l := codesAt Try.prog 44 [[1, 1, 0, 1, 0]]) (st := z44_3 w letters i) (K := K) (by kernel_rfl) (by kernel_rfl)) (Eq.trans (s_semigroupref01_Valid_4L_eq C w letters i (blockK ann 44 0 0 K)) (by kernel_rfl))
noncomputable def d44_6 (C : CallF)  {β : Type} (k0 : Bool → Option β) : Option β :=
 k0 true
noncomputable abbrev q44_2 : List Code := codesAt Try.prog 44 [[1, 1, 1, 0], [1, 1, 1, 1]]
theorem h44_6_eq (C : CallF)  {β : Type} (K : Out → St → Option β) :
 execL Try.prog ann C 44 33 0 (q44_2) (z44_5) K =
  d44_6 C
   (fun (t40 : Bool) => K .ret (z44_2 t40)) := by kernel_rfl
noncomputable def d44_7 (C : CallF) (w : List UInt8) (letters i : Int) {β : Type} (k0 : Bool → Option β) : Option β :=
 d44_5 C w letters i
  (fun (t_13 : Bool) =>
   k0 t_13)
  (
   d44_6 C
    (fun (t_14 : Bool) =>
     k0 t_14))
noncomputable abbrev q44_3 : List Code := codesAt Try.prog 44 [[1, 1, 0, 1], [1, 1, 1, 0], [1, 1, 1, 1]]
theorem h44_7_eq (C : CallF) (w : List UInt8) (letters i : Int) {β : Type} (K : Out → St → Option β) :
 execL Try.prog ann C 44 33 0 (q44_3) (z44_3 w letters i) K =
  d44_7 C w letters i
   (fun (t40 : Bool) => K .ret (z44_2 t40)) := by
 refine Eq.trans (execL_app (P := Try.prog) (A := ann) (C := C) (f := 44) (n := 33) (m := 0) (codesAt Try.prog 44 [[1, 1, 0, 1]]) (q44_2) (st := z44_3 w letters i) (K := K)) (Eq.trans (h44_5_eq C w letters i (seqK Try.prog ann C 44 33 0 (q44_2) K)) ?_)
 · exact Eq.trans (by kernel_rfl) (Eq.trans (congrArg (fun HOLE : Option β => d44_5 C w letters i (fun (t40 : Bool) => K .ret (z44_2 t40)) HOLE) (h44_6_eq C K)) ((by kernel_rfl)))
noncomputable def d44_8 (C : CallF) (w : List UInt8) (letters : Int) (t13 : Bool) {β : Type} (k0 : Bool → Option β) : Option β :=
 d44_2 C t13
  (fun (t_15 : Bool) =>
   k0 t_15)
  (
   d44_7 C w letters 0
    (fun (t_16 : Bool) =>
     k0 t_16))
noncomputable abbrev q44_4 : List Code := codesAt Try.prog 44 [[1, 0, 1], [1, 1, 0, 0], [1, 1, 0, 1], [1, 1, 1, 0], [1, 1, 1, 1]]
theorem h44_8_eq (C : CallF) (w : List UInt8) (letters : Int) (t13 : Bool) {β : Type} (K : Out → St → Option β) :
 execL Try.prog ann C 44 33 0 (q44_4) (z44_0 w letters t13) K =
  d44_8 C w letters t13
   (fun (t40 : Bool) => K .ret (z44_2 t40)) := by
 refine Eq.trans (execL_app (P := Try.prog) (A := ann) (C := C) (f := 44) (n := 33) (m := 0) (q44_0) (q44_3) (st := z44_0 w letters t13) (K := K)) (Eq.trans (h44_2_eq C w letters t13 (seqK Try.prog ann C 44 33 0 (q44_3) K)) ?_)
 · exact Eq.trans (by kernel_rfl) (Eq.trans (congrArg (fun HOLE : Option β => d44_2 C t13 (fun (t40 : Bool) => K .ret (z44_2 t40)) HOLE) (h44_7_eq C w letters 0 K)) ((by kernel_rfl)))
noncomputable def d44_9 (C : CallF) (w : List UInt8) (letters : Int) {β : Type} (k0 : Bool → Option β) : Option β :=
 s_semigroupref01_Valid_1 C w letters
  (fun (t_17 : Bool) =>
   d44_8 C w letters t_17
    (fun (t_18 : Bool) =>
     k0 t_18))
noncomputable abbrev q44_5 : List Code := codesAt Try.prog 44 [[0], [1, 0, 0], [1, 0, 1], [1, 1, 0, 0], [1, 1, 0, 1], [1, 1, 1, 0], [1, 1, 1, 1]]
theorem h44_9_eq (C : CallF) (w : List UInt8) (letters : Int) {β : Type} (K : Out → St → Option β) :
 execL Try.prog ann C 44 33 0 (q44_5) (z44_1 w letters) K =
  d44_9 C w letters
   (fun (t40 : Bool) => K .ret (z44_2 t40)) := by
 refine Eq.trans (execL_app (P := Try.prog) (A := ann) (C := C) (f := 44) (n := 33) (m := 0) (codesAt Try.prog 44 [[0], [1, 0, 0]]) (q44_4) (st := z44_1 w letters) (K := K)) (Eq.trans (s_semigroupref01_Valid_1_eq C w letters (seqK Try.prog ann C 44 33 0 (q44_4) K)) ?_)
 · exact Eq.trans (by kernel_rfl) (Eq.trans (congrArg (fun HOLE : Bool → Option β => s_semigroupref01_Valid_1 C w letters HOLE) (funext fun (t130 : Bool) => h44_8_eq C w letters t130 K)) ((by kernel_rfl)))
noncomputable def f_semigroupref01_Valid (C : CallF) (w : List UInt8) (letters : Int) : Option (V × List V) :=
 s_semigroupref01_Valid_1 C w letters
  (fun (t_19 : Bool) =>
   bif t_19 then
    some (.bool false, [])
   else
    s_semigroupref01_Valid_4L C w letters 0
     (fun (t_10 : Bool) =>
      some (.bool t_10, []))
     (fun (i_11 : Int) (t_12 : Bool) =>
      some (.bool true, [])))
theorem f_semigroupref01_Valid_eq (C : CallF) (w : List UInt8) (letters : Int) : bodyK Try.prog ann C 44 [.str w, .int .i64 letters] [] = f_semigroupref01_Valid C w letters :=
 Eq.trans (bodyK_fin (by kernel_rfl)) (Eq.trans (execK_items (by kernel_rfl)) (Eq.trans (h44_9_eq C w letters (finK Try.prog ann C 44 [])) (by kernel_rfl)))
theorem f_semigroupref01_Valid_of {w : List UInt8} {letters : Int} {r : V × List V} (h : f_semigroupref01_Valid CC w letters = some r) : CC F_semigroupref01_Valid [.str w, .int .i64 letters] [] = some r :=
 Call_of_body ((bodyK_eq ..).trans ((f_semigroupref01_Valid_eq ..).trans h))
end Go.AM

set_option maxRecDepth 100000
namespace Go.AM
open Go.Proofs
/-! semigroup/semigroupref31.Validate -/
noncomputable def s_semigroupref31_Validate_1 (C : CallF) (g_Nodes : List V) (letters : Int) {β : Type} (k0 : Int → Option β) (k1 : Option β) : Option β :=
 (C F_semigroupref01_MayLetters [.int .i64 letters] []).bind fun r5 =>
  bif !r5.1.toBool then
   k0 1
  else
   bif decide (((g_Nodes.length : Int) : Int) > 20000) then
    k0 3
   else
    k1
noncomputable abbrev z29_0 (c0 : Int) : St :=
 mk [(4, .int .i64 c0)] []
noncomputable abbrev z29_1 (c0 : Int) (c1 : List V) (c2 c3 : Int) (c4 : List V) (c5 : Int) : St :=
 mk [(1, .int .i64 c0), (2, .ptr 0 0 0), (17, .list T_api_SfNode c1), (18, .int .i64 c2), (19, .int .i64 c3)] [.var [.list T_api_SfNode c4, .int .i64 c5]]
noncomputable abbrev q29_0 : List Code := codesAt Try.prog 29 [[0], [1, 0, 0], [1, 0, 1], [1, 1, 0, 0], [1, 1, 0, 1], [1, 1, 1, 0, 0]]
noncomputable abbrev z29_2 (c0 : List V) (c1 c2 : Int) : St :=
 mk [(0, .agg [.list T_api_SfNode c0, .int .i64 c1]), (1, .int .i64 c2)] []
theorem s_semigroupref31_Validate_1_eq (C : CallF) (g_Nodes : List V) (g_Root letters : Int) {β : Type} (K : Out → St → Option β) :
 execL Try.prog ann C 29 146 0 (q29_0) (z29_2 g_Nodes g_Root letters) K =
  s_semigroupref31_Validate_1 C g_Nodes letters
   (fun (t40 : Int) => K .ret (z29_0 t40))
   (K .norm (z29_1 letters g_Nodes (g_Nodes.length : Int) 0 g_Nodes g_Root)) := by kernel_rfl
noncomputable def d29_2 (C : CallF) (t18 t19 : Int) {β : Type} (k0 : Option β) (k1 : Option β) : Option β :=
 bif decide ((t19 : Int) < t18) then
  k0
 else
  k1
noncomputable abbrev z29_3 (c0 : Int) (c1 : List V) (c2 c3 : Int) (c4 : Bool) (c5 : List V) (c6 : Int) : St :=
 mk [(1, .int .i64 c0), (2, .ptr 0 0 0), (17, .list T_api_SfNode c1), (18, .int .i64 c2), (19, .int .i64 c3), (20, .bool c4)] [.var [.list T_api_SfNode c5, .int .i64 c6]]
noncomputable abbrev q29_1 : List Code := codesAt Try.prog 29 [[1, 1, 1, 0, 1, 0, 0, 0], [1, 1, 1, 0, 1, 0, 0, 1, 0]]
theorem h29_2_eq (C : CallF) (letters : Int) (t17 : List V) (t18 t19 : Int) (gs_0 : List V) (gs_1 : Int) {β : Type} (K : Out → St → Option β) :
 execL Try.prog ann C 29 146 0 (q29_1) (z29_1 letters t17 t18 t19 gs_0 gs_1) K =
  d29_2 C t18 t19
   (K .norm (z29_1 letters t17 t18 t19 gs_0 gs_1))
   (K (.exit 0) (z29_3 letters t17 t18 t19 (decide ((t19 : Int) < t18)) gs_0 gs_1)) := by kernel_rfl
noncomputable def s_semigroupref31_Validate_3 (C : CallF) (t17 : List V) (t19 : Int) {β : Type} (k0 : Bool → Bool → Int → Int → Int → Int → Option β) : Option β :=
 (idx t17 t19).bind fun x10 =>
  bif (((x10.cell 0).toInt) : Int) == 5 then
   bif (((x10.cell 0).toInt) : Int) == 5 then
    k0 true true ((x10.cell 0).toInt) ((x10.cell 1).toInt) ((x10.cell 2).toInt) ((x10.cell 3).toInt)
   else
    bif (((x10.cell 0).toInt) : Int) == 6 then
     k0 true true ((x10.cell 0).toInt) ((x10.cell 1).toInt) ((x10.cell 2).toInt) ((x10.cell 3).toInt)
    else
     k0 true ((((x10.cell 0).toInt) : Int) == 7) ((x10.cell 0).toInt) ((x10.cell 1).toInt) ((x10.cell 2).toInt) ((x10.cell 3).toInt)
  else
   bif (((x10.cell 0).toInt) : Int) == 6 then
    bif (((x10.cell 0).toInt) : Int) == 5 then
     k0 true true ((x10.cell 0).toInt) ((x10.cell 1).toInt) ((x10.cell 2).toInt) ((x10.cell 3).toInt)
    else
     bif (((x10.cell 0).toInt) : Int) == 6 then
      k0 true true ((x10.cell 0).toInt) ((x10.cell 1).toInt) ((x10.cell 2).toInt) ((x10.cell 3).toInt)
     else
      k0 true ((((x10.cell 0).toInt) : Int) == 7) ((x10.cell 0).toInt) ((x10.cell 1).toInt) ((x10.cell 2).toInt) ((x10.cell 3).toInt)
   else
    bif (((x10.cell 0).toInt) : Int) == 7 then
     bif (((x10.cell 0).toInt) : Int) == 5 then
      k0 true true ((x10.cell 0).toInt) ((x10.cell 1).toInt) ((x10.cell 2).toInt) ((x10.cell 3).toInt)
     else
      bif (((x10.cell 0).toInt) : Int) == 6 then
       k0 true true ((x10.cell 0).toInt) ((x10.cell 1).toInt) ((x10.cell 2).toInt) ((x10.cell 3).toInt)
      else
       k0 true ((((x10.cell 0).toInt) : Int) == 7) ((x10.cell 0).toInt) ((x10.cell 1).toInt) ((x10.cell 2).toInt) ((x10.cell 3).toInt)
    else
     bif (((x10.cell 0).toInt) : Int) == 5 then
      k0 ((((x10.cell 0).toInt) : Int) == 8) true ((x10.cell 0).toInt) ((x10.cell 1).toInt) ((x10.cell 2).toInt) ((x10.cell 3).toInt)
     else
      bif (((x10.cell 0).toInt) : Int) == 6 then
       k0 ((((x10.cell 0).toInt) : Int) == 8) true ((x10.cell 0).toInt) ((x10.cell 1).toInt) ((x10.cell 2).toInt) ((x10.cell 3).toInt)
      else
       k0 ((((x10.cell 0).toInt) : Int) == 8) ((((x10.cell 0).toInt) : Int) == 7) ((x10.cell 0).toInt) ((x10.cell 1).toInt) ((x10.cell 2).toInt) ((x10.cell 3).toInt)
noncomputable abbrev z29_4 (c0 c1 : Int) (c2 c3 : Bool) (c4 : List V) (c5 c6 : Int) (c7 : List V) (c8 c9 c10 c11 c12 : Int) : St :=
 mk [(1, .int .i64 c0), (2, .ptr 0 0 0), (5, .int .i64 c1), (6, .ptr 1 0 0), (7, .bool c2), (8, .bool c3), (17, .list T_api_SfNode c4), (18, .int .i64 c5), (19, .int .i64 c6)] [.var [.list T_api_SfNode c7, .int .i64 c8], .var [.int .i64 c9, .int .i64 c10, .int .i64 c11, .int .i64 c12]]
noncomputable abbrev q29_2 : List Code := codesAt Try.prog 29 [[1, 1, 1, 0, 1, 0, 0, 1, 1, 0, 0, 0], [1, 1, 1, 0, 1, 0, 0, 1, 1, 0, 0, 1, 0]]
theorem s_semigroupref31_Validate_3_eq (C : CallF) (letters : Int) (t17 : List V) (t18 t19 : Int) (gs_0 : List V) (gs_1 : Int) {β : Type} (K : Out → St → Option β) :
 execL Try.prog ann C 29 146 0 (q29_2) (z29_1 letters t17 t18 t19 gs_0 gs_1) K =
  s_semigroupref31_Validate_3 C t17 t19
   (fun (a0 : Bool) (b'0 : Bool) (ns_00 : Int) (ns_10 : Int) (ns_20 : Int) (ns_30 : Int) => K .norm (z29_4 letters t19 a0 b'0 t17 t18 t19 gs_0 gs_1 ns_00 ns_10 ns_20 ns_30)) := by kernel_rfl
noncomputable def s_semigroupref31_Validate_4 (C : CallF) (ns_0 : Int) {β : Type} (k0 : Bool → Option β) : Option β :=
 bif decide ((ns_0 : Int) < 1) then
  k0 true
 else
  k0 (decide ((ns_0 : Int) > 8))
noncomputable abbrev z29_5 (c0 c1 : Int) (c2 c3 : Bool) (c4 : List V) (c5 c6 : Int) (c7 : Bool) (c8 : List V) (c9 c10 c11 c12 c13 : Int) : St :=
 mk [(1, .int .i64 c0), (2, .ptr 0 0 0), (5, .int .i64 c1), (6, .ptr 1 0 0), (7, .bool c2), (8, .bool c3), (17, .list T_api_SfNode c4), (18, .int .i64 c5), (19, .int .i64 c6), (55, .bool c7)] [.var [.list T_api_SfNode c8, .int .i64 c9], .var [.int .i64 c10, .int .i64 c11, .int .i64 c12, .int .i64 c13]]
noncomputable abbrev q29_3 : List Code := codesAt Try.prog 29 [[1, 1, 1, 0, 1, 0, 0, 1, 1, 0, 0, 1, 1, 0, 0]]
theorem s_semigroupref31_Validate_4_eq (C : CallF) (letters i : Int) (a b' : Bool) (t17 : List V) (t18 t19 : Int) (gs_0 : List V) (gs_1 ns_0 ns_1 ns_2 ns_3 : Int) {β : Type} (K : Out → St → Option β) :
 execL Try.prog ann C 29 146 0 (q29_3) (z29_4 letters i a b' t17 t18 t19 gs_0 gs_1 ns_0 ns_1 ns_2 ns_3) K =
  s_semigroupref31_Validate_4 C ns_0
   (fun (t550 : Bool) => K .norm (z29_5 letters i a b' t17 t18 t19 t550 gs_0 gs_1 ns_0 ns_1 ns_2 ns_3)) := by kernel_rfl
noncomputable def d29_5 (C : CallF)  {β : Type} (k0 : Option β) : Option β :=
 k0
noncomputable abbrev q29_4 : List Code := codesAt Try.prog 29 [[1, 1, 1, 0, 1, 0, 0, 1, 1, 0, 0, 1, 1, 0, 1, 0, 0], [1, 1, 1, 0, 1, 0, 0, 1, 1, 0, 0, 1, 1, 0, 1, 0, 1]]
theorem h29_5_eq (C : CallF) (letters i : Int) (a b' : Bool) (t17 : List V) (t18 t19 : Int) (t55 : Bool) (gs_0 : List V) (gs_1 ns_0 ns_1 ns_2 ns_3 : Int) {β : Type} (K : Out → St → Option β) :
 execL Try.prog ann C 29 146 0 (q29_4) (z29_5 letters i a b' t17 t18 t19 t55 gs_0 gs_1 ns_0 ns_1 ns_2 ns_3) K =
  d29_5 C
   (K .ret (z29_0 22)) := by kernel_rfl
noncomputable def s_semigroupref31_Validate_6 (C : CallF) (letters ns_0 ns_1 : Int) {β : Type} (k0 : Bool → Option β) : Option β :=
 bif (ns_0 : Int) == 3 then
  bif decide ((ns_1 : Int) < 0) then
   k0 true
  else
   bif decide ((ns_1 : Int) ≥ letters) then
    k0 true
   else
    bif (ns_0 : Int) != 3 then
     k0 ((ns_1 : Int) != 0)
    else
     k0 false
 else
  bif (ns_0 : Int) != 3 then
   k0 ((ns_1 : Int) != 0)
  else
   k0 false
noncomputable abbrev z29_6 (c0 c1 : Int) (c2 c3 : Bool) (c4 : List V) (c5 c6 : Int) (c7 : Bool) (c8 : List V) (c9 c10 c11 c12 c13 : Int) : St :=
 mk [(1, .int .i64 c0), (2, .ptr 0 0 0), (5, .int .i64 c1), (6, .ptr 1 0 0), (7, .bool c2), (8, .bool c3), (17, .list T_api_SfNode c4), (18, .int .i64 c5), (19, .int .i64 c6), (64, .bool c7)] [.var [.list T_api_SfNode c8, .int .i64 c9], .var [.int .i64 c10, .int .i64 c11, .int .i64 c12, .int .i64 c13]]
noncomputable abbrev q29_5 : List Code := codesAt Try.prog 29 [[1, 1, 1, 0, 1, 0, 0, 1, 1, 0, 0, 1, 1, 0, 1, 1, 0]]
theorem s_semigroupref31_Validate_6_eq (C : CallF) (letters i : Int) (a b' : Bool) (t17 : List V) (t18 t19 : Int) (t55 : Bool) (gs_0 : List V) (gs_1 ns_0 ns_1 ns_2 ns_3 : Int) {β : Type} (K : Out → St → Option β) :
 execL Try.prog ann C 29 146 0 (q29_5) (z29_5 letters i a b' t17 t18 t19 t55 gs_0 gs_1 ns_0 ns_1 ns_2 ns_3) K =
  s_semigroupref31_Validate_6 C letters ns_0 ns_1
   (fun (t640 : Bool) => K .norm (z29_6 letters i a b' t17 t18 t19 t640 gs_0 gs_1 ns_0 ns_1 ns_2 ns_3)) := by kernel_rfl
noncomputable def d29_7 (C : CallF)  {β : Type} (k0 : Option β) : Option β :=
 k0
noncomputable abbrev q29_6 : List Code := codesAt Try.prog 29 [[1, 1, 1, 0, 1, 0, 0, 1, 1, 0, 0, 1, 1, 0, 1, 1, 1, 0, 0], [1, 1, 1, 0, 1, 0, 0, 1, 1, 0, 0, 1, 1, 0, 1, 1, 1, 0, 1]]
theorem h29_7_eq (C : CallF) (letters i : Int) (a b' : Bool) (t17 : List V) (t18 t19 : Int) (t64 : Bool) (gs_0 : List V) (gs_1 ns_0 ns_1 ns_2 ns_3 : Int) {β : Type} (K : Out → St → Option β) :
 execL Try.prog ann C 29 146 0 (q29_6) (z29_6 letters i a b' t17 t18 t19 t64 gs_0 gs_1 ns_0 ns_1 ns_2 ns_3) K =
  d29_7 C
   (K .ret (z29_0 22)) := by kernel_rfl
noncomputable def s_semigroupref31_Validate_8 (C : CallF) (i : Int) (a b' : Bool) (ns_2 ns_3 : Int) {β : Type} (k0 : Bool → Option β) : Option β :=
 bif a then
  bif decide ((ns_2 : Int) < 0) then
   k0 true
  else
   bif decide ((ns_2 : Int) ≥ i) then
    k0 true
   else
    bif !a then
     bif (ns_2 : Int) != 0 then
      k0 true
     else
      bif b' then
       bif decide ((ns_3 : Int) < 0) then
        k0 true
       else
        bif decide ((ns_3 : Int) ≥ i) then
         k0 true
        else
         bif !b' then
          k0 ((ns_3 : Int) != 0)
         else
          k0 false
      else
       bif !b' then
        k0 ((ns_3 : Int) != 0)
       else
        k0 false
    else
     bif b' then
      bif decide ((ns_3 : Int) < 0) then
       k0 true
      else
       bif decide ((ns_3 : Int) ≥ i) then
        k0 true
       else
        bif !b' then
         k0 ((ns_3 : Int) != 0)
        else
         k0 false
     else
      bif !b' then
       k0 ((ns_3 : Int) != 0)
      else
       k0 false
 else
  bif !a then
   bif (ns_2 : Int) != 0 then
    k0 true
   else
    bif b' then
     bif decide ((ns_3 : Int) < 0) then
      k0 true
     else
      bif decide ((ns_3 : Int) ≥ i) then
       k0 true
      else
       bif !b' then
        k0 ((ns_3 : Int) != 0)
       else
        k0 false
    else
     bif !b' then
      k0 ((ns_3 : Int) != 0)
     else
      k0 false
  else
   bif b' then
    bif decide ((ns_3 : Int) < 0) then
     k0 true
    else
     bif decide ((ns_3 : Int) ≥ i) then
      k0 true
     else
      bif !b' then
       k0 ((ns_3 : Int) != 0)
      else
       k0 false
   else
    bif !b' then
     k0 ((ns_3 : Int) != 0)
    else
     k0 false
noncomputable abbrev z29_7 (c0 : Int) (c1 : List V) (c2 c3 : Int) (c4 : Bool) (c5 : List V) (c6 : Int) : St :=
 mk [(1, .int .i64 c0), (2, .ptr 0 0 0), (17, .list T_api_SfNode c1), (18, .int .i64 c2), (19, .int .i64 c3), (89, .bool c4)] [.var [.list T_api_SfNode c5, .int .i64 c6]]
noncomputable abbrev q29_7 : List Code := codesAt Try.prog 29 [[1, 1, 1, 0, 1, 0, 0, 1, 1, 0, 0, 1, 1, 0, 1, 1, 1, 1, 0]]
theorem s_semigroupref31_Validate_8_eq (C : CallF) (letters i : Int) (a b' : Bool) (t17 : List V) (t18 t19 : Int) (t64 : Bool) (gs_0 : List V) (gs_1 ns_0 ns_1 ns_2 ns_3 : Int) {β : Type} (K : Out → St → Option β) :
 execL Try.prog ann C 29 146 0 (q29_7) (z29_6 letters i a b' t17 t18 t19 t64 gs_0 gs_1 ns_0 ns_1 ns_2 ns_3) K =
  s_semigroupref31_Validate_8 C i a b' ns_2 ns_3
   (fun (t890 : Bool) => K .norm (z29_7 letters t17 t18 t19 t890 gs_0 gs_1)) := by kernel_rfl
noncomputable def d29_9 (C : CallF) (t89 : Bool) {β : Type} (k0 : Option β) (k1 : Option β) : Option β :=
 bif t89 then
  k0
 else
  k1
noncomputable abbrev q29_8 : List Code := codesAt Try.prog 29 [[1, 1, 1, 0, 1, 0, 0, 1, 1, 0, 0, 1, 1, 0, 1, 1, 1, 1, 1]]
theorem h29_9_eq (C : CallF) (letters : Int) (t17 : List V) (t18 t19 : Int) (t89 : Bool) (gs_0 : List V) (gs_1 : Int) {β : Type} (K : Out → St → Option β) :
 execL Try.prog ann C 29 146 0 (q29_8) (z29_7 letters t17 t18 t19 t89 gs_0 gs_1) K =
  d29_9 C t89
   (K .ret (z29_0 22))
   (K .norm (z29_1 letters t17 t18 t19 gs_0 gs_1)) := by kernel_rfl
noncomputable def d29_10 (C : CallF) (i : Int) (a b' : Bool) (ns_2 ns_3 : Int) {β : Type} (k0 : Option β) (k1 : Option β) : Option β :=
 s_semigroupref31_Validate_8 C i a b' ns_2 ns_3
  (fun (t_12 : Bool) =>
   d29_9 C t_12
    (
     k0)
    (
     k1))
noncomputable abbrev q29_9 : List Code := codesAt Try.prog 29 [[1, 1, 1, 0, 1, 0, 0, 1, 1, 0, 0, 1, 1, 0, 1, 1, 1, 1, 0], [1, 1, 1, 0, 1, 0, 0, 1, 1, 0, 0, 1, 1, 0, 1, 1, 1, 1, 1]]
theorem h29_10_eq (C : CallF) (letters i : Int) (a b' : Bool) (t17 : List V) (t18 t19 : Int) (t64 : Bool) (gs_0 : List V) (gs_1 ns_0 ns_1 ns_2 ns_3 : Int) {β : Type} (K : Out → St → Option β) :
 execL Try.prog ann C 29 146 0 (q29_9) (z29_6 letters i a b' t17 t18 t19 t64 gs_0 gs_1 ns_0 ns_1 ns_2 ns_3) K =
  d29_10 C i a b' ns_2 ns_3
   (K .ret (z29_0 22))
   (K .norm (z29_1 letters t17 t18 t19 gs_0 gs_1)) := by
 refine Eq.trans (execL_app (P := Try.prog) (A := ann) (C := C) (f := 29) (n := 146) (m := 0) (q29_7) (q29_8) (st := z29_6 letters i a b' t17 t18 t19 t64 gs_0 gs_1 ns_0 ns_1 ns_2 ns_3) (K := K)) (Eq.trans (s_semigroupref31_Validate_8_eq C letters i a b' t17 t18 t19 t64 gs_0 gs_1 ns_0 ns_1 ns_2 ns_3 (seqK Try.prog ann C 29 146 0 (q29_8) K)) ?_)
 · exact Eq.trans (by kernel_rfl) (Eq.trans (congrArg (fun HOLE : Bool → Option β => s_semigroupref31_Validate_8 C i a b' ns_2 ns_3 HOLE) (funext fun (t890 : Bool) => h29_9_eq C letters t17 t18 t19 t890 gs_0 gs_1 K)) ((by kernel_rfl)))
noncomputable def d29_11 (C : CallF) (i : Int) (a b' t64 : Bool) (ns_2 ns_3 : Int) {β : Type} (k0 : Option β) (k1 : Option β) : Option β :=
 bif t64 then
  d29_7 C
   (
    k0)
 else
  d29_10 C i a b' ns_2 ns_3
   (
    k0)
   (
    k1)
noncomputable abbrev q29_10 : List Code := codesAt Try.prog 29 [[1, 1, 1, 0, 1, 0, 0, 1, 1, 0, 0, 1, 1, 0, 1, 1, 1]]
theorem h29_11_eq (C : CallF) (letters i : Int) (a b' : Bool) (t17 : List V) (t18 t19 : Int) (t64 : Bool) (gs_0 : List V) (gs_1 ns_0 ns_1 ns_2 ns_3 : Int) {β : Type} (K : Out → St → Option β) :
 execL Try.prog ann C 29 146 0 (q29_10) (z29_6 letters i a b' t17 t18 t19 t64 gs_0 gs_1 ns_0 ns_1 ns_2 ns_3) K =
  d29_11 C i a b' t64 ns_2 ns_3
   (K .ret (z29_0 22))
   (K .norm (z29_1 letters t17 t18 t19 gs_0 gs_1)) := by
 cases t64 with
 | true => exact Eq.trans (execL_true (P := Try.prog) (A := ann) (C := C) (f := 29) (n := 146) (m := 0) (t := 64) (c := codeAt [1, 1, 1, 0, 1, 0, 0, 1, 1, 0, 0, 1, 1, 0, 1, 1, 1] (bodyOf Try.prog 29)) (x := codeAt [1, 1, 1, 0, 1, 0, 0, 1, 1, 0, 0, 1, 1, 0, 1, 1, 1, 0] (bodyOf Try.prog 29)) (y := codeAt [1, 1, 1, 0, 1, 0, 0, 1, 1, 0, 0, 1, 1, 0, 1, 1, 1, 1] (bodyOf Try.prog 29)) (l := q29_6) (st := z29_6 letters i a b' t17 t18 t19 true gs_0 gs_1 ns_0 ns_1 ns_2 ns_3) (K := K) (by kernel_rfl) (by kernel_rfl) (by kernel_rfl)) (Eq.trans (h29_7_eq C letters i a b' t17 t18 t19 true gs_0 gs_1 ns_0 ns_1 ns_2 ns_3 (joinK ann 29 0 64 K)) (by kernel_rfl))
 | false => exact Eq.trans (execL_false (P := Try.prog) (A := ann) (C := C) (f := 29) (n := 146) (m := 0) (t := 64) (c := codeAt [1, 1, 1, 0, 1, 0, 0, 1, 1, 0, 0, 1, 1, 0, 1, 1, 1] (bodyOf Try.prog 29)) (x := codeAt [1, 1, 1, 0, 1, 0, 0, 1, 1, 0, 0, 1, 1, 0, 1, 1, 1, 0] (bodyOf Try.prog 29)) (y := codeAt [1, 1, 1, 0, 1, 0, 0, 1, 1, 0, 0, 1, 1, 0, 1, 1, 1, 1] (bodyOf Try.prog 29)) (l := q29_9) (st := z29_6 letters i a b' t17 t18 t19 false gs_0 gs_1 ns_0 ns_1 ns_2 ns_3) (K := K) (by kernel_rfl) (by kernel_rfl) (by kernel_rfl)) (Eq.trans (h29_10_eq C letters i a b' t17 t18 t19 false gs_0 gs_1 ns_0 ns_1 ns_2 ns_3 (joinK ann 29 0 64 K)) (by kernel_rfl))
noncomputable def d29_12 (C : CallF) (letters i : Int) (a b' : Bool) (ns_0 ns_1 ns_2 ns_3 : Int) {β : Type} (k0 : Option β) (k1 : Option β) : Option β :=
 s_semigroupref31_Validate_6 C letters ns_0 ns_1
  (fun (t_14 : Bool) =>
   d29_11 C i a b' t_14 ns_2 ns_3
    (
     k0)
    (
     k1))
noncomputable abbrev q29_11 : List Code := codesAt Try.prog 29 [[1, 1, 1, 0, 1, 0, 0, 1, 1, 0, 0, 1, 1, 0, 1, 1, 0], [1, 1, 1, 0, 1, 0, 0, 1, 1, 0, 0, 1, 1, 0, 1, 1, 1]]
theorem h29_12_eq (C : CallF) (letters i : Int) (a b' : Bool) (t17 : List V) (t18 t19 : Int) (t55 : Bool) (gs_0 : List V) (gs_1 ns_0 ns_1 ns_2 ns_3 : Int) {β : Type} (K : Out → St → Option β) :
 execL Try.prog ann C 29 146 0 (q29_11) (z29_5 letters i a b' t17 t18 t19 t55 gs_0 gs_1 ns_0 ns_1 ns_2 ns_3) K =
  d29_12 C letters i a b' ns_0 ns_1 ns_2 ns_3
   (K .ret (z29_0 22))
   (K .norm (z29_1 letters t17 t18 t19 gs_0 gs_1)) := by
 refine Eq.trans (execL_app (P := Try.prog) (A := ann) (C := C) (f := 29) (n := 146) (m := 0) (q29_5) (q29_10) (st := z29_5 letters i a b' t17 t18 t19 t55 gs_0 gs_1 ns_0 ns_1 ns_2 ns_3) (K := K)) (Eq.trans (s_semigroupref31_Validate_6_eq C letters i a b' t17 t18 t19 t55 gs_0 gs_1 ns_0 ns_1 ns_2 ns_3 (seqK Try.prog ann C 29 146 0 (q29_10) K)) ?_)
 · exact Eq.trans (by kernel_rfl) (Eq.trans (congrArg (fun HOLE : Bool → Option β => s_semigroupref31_Validate_6 C letters ns_0 ns_1 HOLE) (funext fun (t640 : Bool) => h29_11_eq C letters i a b' t17 t18 t19 t640 gs_0 gs_1 ns_0 ns_1 ns_2 ns_3 K)) ((by kernel_rfl)))
noncomputable def d29_13 (C : CallF) (letters i : Int) (a b' t55 : Bool) (ns_0 ns_1 ns_2 ns_3 : Int) {β : Type} (k0 : Option β) (k1 : Option β) : Option β :=
 bif t55 then
  d29_5 C
   (
    k0)
 else
  d29_12 C letters i a b' ns_0 ns_1 ns_2 ns_3
   (
    k0)
   (
    k1)
noncomputable abbrev q29_12 : List Code := codesAt Try.prog 29 [[1, 1, 1, 0, 1, 0, 0, 1, 1, 0, 0, 1, 1, 0, 1]]
theorem h29_13_eq (C : CallF) (letters i : Int) (a b' : Bool) (t17 : List V) (t18 t19 : Int) (t55 : Bool) (gs_0 : List V) (gs_1 ns_0 ns_1 ns_2 ns_3 : Int) {β : Type} (K : Out → St → Option β) :
 execL Try.prog ann C 29 146 0 (q29_12) (z29_5 letters i a b' t17 t18 t19 t55 gs_0 gs_1 ns_0 ns_1 ns_2 ns_3) K =
  d29_13 C letters i a b' t55 ns_0 ns_1 ns_2 ns_3
   (K .ret (z29_0 22))
   (K .norm (z29_1 letters t17 t18 t19 gs_0 gs_1)) := by
 cases t55 with
 | true => exact Eq.trans (execL_true (P := Try.prog) (A := ann) (C := C) (f := 29) (n := 146) (m := 0) (t := 55) (c := codeAt [1, 1, 1, 0, 1, 0, 0, 1, 1, 0, 0, 1, 1, 0, 1] (bodyOf Try.prog 29)) (x := codeAt [1, 1, 1, 0, 1, 0, 0, 1, 1, 0, 0, 1, 1, 0, 1, 0] (bodyOf Try.prog 29)) (y := codeAt [1, 1, 1, 0, 1, 0, 0, 1, 1, 0, 0, 1, 1, 0, 1, 1] (bodyOf Try.prog 29)) (l := q29_4) (st := z29_5 letters i a b' t17 t18 t19 true gs_0 gs_1 ns_0 ns_1 ns_2 ns_3) (K := K) (by kernel_rfl) (by kernel_rfl) (by kernel_rfl)) (Eq.trans (h29_5_eq C letters i a b' t17 t18 t19 true gs_0 gs_1 ns_0 ns_1 ns_2 ns_3 (joinK ann 29 0 55 K)) (by kernel_rfl))
 | false => exact Eq.trans (execL_false (P := Try.prog) (A := ann) (C := C) (f := 29) (n := 146) (m := 0) (t := 55) (c := codeAt [1, 1, 1, 0, 1, 0, 0, 1, 1, 0, 0, 1, 1, 0, 1] (bodyOf Try.prog 29)) (x := codeAt [1, 1, 1, 0, 1, 0, 0, 1, 1, 0, 0, 1, 1, 0, 1, 0] (bodyOf Try.prog 29)) (y := codeAt [1, 1, 1, 0, 1, 0, 0, 1, 1, 0, 0, 1, 1, 0, 1, 1] (bodyOf Try.prog 29)) (l := q29_11) (st := z29_5 letters i a b' t17 t18 t19 false gs_0 gs_1 ns_0 ns_1 ns_2 ns_3) (K := K) (by kernel_rfl) (by kernel_rfl) (by kernel_rfl)) (Eq.trans (h29_12_eq C letters i a b' t17 t18 t19 false gs_0 gs_1 ns_0 ns_1 ns_2 ns_3 (joinK ann 29 0 55 K)) (by kernel_rfl))
noncomputable def d29_14 (C : CallF) (letters i : Int) (a b' : Bool) (ns_0 ns_1 ns_2 ns_3 : Int) {β : Type} (k0 : Option β) (k1 : Option β) : Option β :=
 s_semigroupref31_Validate_4 C ns_0
  (fun (t_16 : Bool) =>
   d29_13 C letters i a b' t_16 ns_0 ns_1 ns_2 ns_3
    (
     k0)
    (
     k1))
noncomputable abbrev q29_13 : List Code := codesAt Try.prog 29 [[1, 1, 1, 0, 1, 0, 0, 1, 1, 0, 0, 1, 1, 0, 0], [1, 1, 1, 0, 1, 0, 0, 1, 1, 0, 0, 1, 1, 0, 1]]
theorem h29_14_eq (C : CallF) (letters i : Int) (a b' : Bool) (t17 : List V) (t18 t19 : Int) (gs_0 : List V) (gs_1 ns_0 ns_1 ns_2 ns_3 : Int) {β : Type} (K : Out → St → Option β) :
 execL Try.prog ann C 29 146 0 (q29_13) (z29_4 letters i a b' t17 t18 t19 gs_0 gs_1 ns_0 ns_1 ns_2 ns_3) K =
  d29_14 C letters i a b' ns_0 ns_1 ns_2 ns_3
   (K .ret (z29_0 22))
   (K .norm (z29_1 letters t17 t18 t19 gs_0 gs_1)) := by
 refine Eq.trans (execL_app (P := Try.prog) (A := ann) (C := C) (f := 29) (n := 146) (m := 0) (q29_3) (q29_12) (st := z29_4 letters i a b' t17 t18 t19 gs_0 gs_1 ns_0 ns_1 ns_2 ns_3) (K := K)) (Eq.trans (s_semigroupref31_Validate_4_eq C letters i a b' t17 t18 t19 gs_0 gs_1 ns_0 ns_1 ns_2 ns_3 (seqK Try.prog ann C 29 146 0 (q29_12) K)) ?_)
 · exact Eq.trans (by kernel_rfl) (Eq.trans (congrArg (fun HOLE : Bool → Option β => s_semigroupref31_Validate_4 C ns_0 HOLE) (funext fun (t550 : Bool) => h29_13_eq C letters i a b' t17 t18 t19 t550 gs_0 gs_1 ns_0 ns_1 ns_2 ns_3 K)) ((by kernel_rfl)))
noncomputable def d29_15 (C : CallF) (letters i : Int) (a b' : Bool) (ns_0 ns_1 ns_2 ns_3 : Int) {β : Type} (k0 : Option β) (k1 : Option β) : Option β :=
 d29_14 C letters i a b' ns_0 ns_1 ns_2 ns_3
  (
   k0)
  (
   k1)
noncomputable abbrev q29_14 : List Code := codesAt Try.prog 29 [[1, 1, 1, 0, 1, 0, 0, 1, 1, 0, 0, 1, 1]]
theorem h29_15_eq (C : CallF) (letters i : Int) (a b' : Bool) (t17 : List V) (t18 t19 : Int) (gs_0 : List V) (gs_1 ns_0 ns_1 ns_2 ns_3 : Int) {β : Type} (K : Out → St → Option β) :
 execL Try.prog ann C 29 146 0 (q29_14) (z29_4 letters i a b' t17 t18 t19 gs_0 gs_1 ns_0 ns_1 ns_2 ns_3) K =
  d29_15 C letters i a b' ns_0 ns_1 ns_2 ns_3
   (K .ret (z29_0 22))
   (K .norm (z29_1 letters t17 t18 t19 gs_0 gs_1)) := Eq.trans (execL_block (P := Try.prog) (A := ann) (C := C) (f := 29) (n := 146) (m := 0) (id := 2) (c := codeAt [1, 1, 1, 0, 1, 0, 0, 1, 1, 0, 0, 1, 1] (bodyOf Try.prog 29)) (d := codeAt [1, 1, 1, 0, 1, 0, 0, 1, 1, 0, 0, 1, 1, 0] (bodyOf Try.prog 29)) (l := q29_13) (st := z29_4 letters i a b' t17 t18 t19 gs_0 gs_1 ns_0 ns_1 ns_2 ns_3) (K := K) (by kernel_rfl) (by kernel_rfl)) (Eq.trans (h29_14_eq C letters i a b' t17 t18 t19 gs_0 gs_1 ns_0 ns_1 ns_2 ns_3 (blockK ann 29 0 2 K)) (by kernel_rfl))
noncomputable def d29_16 (C : CallF) (letters : Int) (t17 : List V) (t19 : Int) {β : Type} (k0 : Option β) (k1 : Option β) : Option β :=
 s_semigroupref31_Validate_3 C t17 t19
  (fun (a_18 : Bool) (b_19 : Bool) (ns_20 : Int) (ns_21 : Int) (ns_22 : Int) (ns_23 : Int) =>
   d29_15 C letters t19 a_18 b_19 ns_20 ns_21 ns_22 ns_23
    (
     k0)
    (
     k1))
noncomputable abbrev q29_15 : List Code := codesAt Try.prog 29 [[1, 1, 1, 0, 1, 0, 0, 1, 1, 0, 0, 0], [1, 1, 1, 0, 1, 0, 0, 1, 1, 0, 0, 1, 0], [1, 1, 1, 0, 1, 0, 0, 1, 1, 0, 0, 1, 1]]
theorem h29_16_eq (C : CallF) (letters : Int) (t17 : List V) (t18 t19 : Int) (gs_0 : List V) (gs_1 : Int) {β : Type} (K : Out → St → Option β) :
 execL Try.prog ann C 29 146 0 (q29_15) (z29_1 letters t17 t18 t19 gs_0 gs_1) K =
  d29_16 C letters t17 t19
   (K .ret (z29_0 22))
   (K .norm (z29_1 letters t17 t18 t19 gs_0 gs_1)) := by
 refine Eq.trans (execL_app (P := Try.prog) (A := ann) (C := C) (f := 29) (n := 146) (m := 0) (q29_2) (q29_14) (st := z29_1 letters t17 t18 t19 gs_0 gs_1) (K := K)) (Eq.trans (s_semigroupref31_Validate_3_eq C letters t17 t18 t19 gs_0 gs_1 (seqK Try.prog ann C 29 146 0 (q29_14) K)) ?_)
 · exact Eq.trans (by kernel_rfl) (Eq.trans (congrArg (fun HOLE : Bool → Bool → Int → Int → Int → Int → Option β => s_semigroupref31_Validate_3 C t17 t19 HOLE) (funext fun (a0 : Bool) => funext fun (b'0 : Bool) => funext fun (ns_00 : Int) => funext fun (ns_10 : Int) => funext fun (ns_20 : Int) => funext fun (ns_30 : Int) => h29_15_eq C letters t19 a0 b'0 t17 t18 t19 gs_0 gs_1 ns_00 ns_10 ns_20 ns_30 K)) ((by kernel_rfl)))
noncomputable def d29_17 (C : CallF) (letters : Int) (t17 : List V) (t19 : Int) {β : Type} (k0 : Option β) (k1 : Option β) : Option β :=
 d29_16 C letters t17 t19
  (
   k0)
  (
   k1)
noncomputable abbrev q29_16 : List Code := codesAt Try.prog 29 [[1, 1, 1, 0, 1, 0, 0, 1, 1, 0]]
theorem h29_17_eq (C : CallF) (letters : Int) (t17 : List V) (t18 t19 : Int) (gs_0 : List V) (gs_1 : Int) {β : Type} (K : Out → St → Option β) :
 execL Try.prog ann C 29 146 0 (q29_16) (z29_1 letters t17 t18 t19 gs_0 gs_1) K =
  d29_17 C letters t17 t19
   (K .ret (z29_0 22))
   (K .norm (z29_1 letters t17 t18 t19 gs_0 gs_1)) := Eq.trans (execL_block (P := Try.prog) (A := ann) (C := C) (f := 29) (n := 146) (m := 0) (id := 1) (c := codeAt [1, 1, 1, 0, 1, 0, 0, 1, 1, 0] (bodyOf Try.prog 29)) (d := codeAt [1, 1, 1, 0, 1, 0, 0, 1, 1, 0, 0] (bodyOf Try.prog 29)) (l := q29_15) (st := z29_1 letters t17 t18 t19 gs_0 gs_1) (K := K) (by kernel_rfl) (by kernel_rfl)) (Eq.trans (h29_16_eq C letters t17 t18 t19 gs_0 gs_1 (blockK ann 29 0 1 K)) (by kernel_rfl))
noncomputable def d29_18 (C : CallF)  {β : Type} (k0 : Option β) : Option β :=
 k0
noncomputable abbrev q29_17 : List Code := codesAt Try.prog 29 [[1, 1, 1, 0, 1, 0, 0, 1, 1, 1]]
theorem h29_18_eq (C : CallF) (letters : Int) (t17 : List V) (t18 t19 : Int) (gs_0 : List V) (gs_1 : Int) {β : Type} (K : Out → St → Option β) :
 execL Try.prog ann C 29 146 0 (q29_17) (z29_1 letters t17 t18 t19 gs_0 gs_1) K =
  d29_18 C
   (K .norm (z29_1 letters t17 t18 (IntKind.wrap .i64 (t19 + 1)) gs_0 gs_1)) := by kernel_rfl
noncomputable def d29_19 (C : CallF) (letters : Int) (t17 : List V) (t19 : Int) {β : Type} (k0 : Option β) (k1 : Option β) : Option β :=
 d29_17 C letters t17 t19
  (
   k0)
  (
   d29_18 C
    (
     k1))
noncomputable abbrev q29_18 : List Code := codesAt Try.prog 29 [[1, 1, 1, 0, 1, 0, 0, 1, 1, 0], [1, 1, 1, 0, 1, 0, 0, 1, 1, 1]]
theorem h29_19_eq (C : CallF) (letters : Int) (t17 : List V) (t18 t19 : Int) (gs_0 : List V) (gs_1 : Int) {β : Type} (K : Out → St → Option β) :
 execL Try.prog ann C 29 146 0 (q29_18) (z29_1 letters t17 t18 t19 gs_0 gs_1) K =
  d29_19 C letters t17 t19
   (K .ret (z29_0 22))
   (K .norm (z29_1 letters t17 t18 (IntKind.wrap .i64 (t19 + 1)) gs_0 gs_1)) := by
 refine Eq.trans (execL_app (P := Try.prog) (A := ann) (C := C) (f := 29) (n := 146) (m := 0) (q29_16) (q29_17) (st := z29_1 letters t17 t18 t19 gs_0 gs_1) (K := K)) (Eq.trans (h29_17_eq C letters t17 t18 t19 gs_0 gs_1 (seqK Try.prog ann C 29 146 0 (q29_17) K)) ?_)
 · exact Eq.trans (by kernel_rfl) (Eq.trans (congrArg (fun HOLE : Option β => d29_17 C letters t17 t19 (K .ret (z29_0 22)) HOLE) (h29_18_eq C letters t17 t18 t19 gs_0 gs_1 K)) ((by kernel_rfl)))
noncomputable def d29_20 (C : CallF) (letters : Int) (t17 : List V) (t18 t19 : Int) {β : Type} (k0 : Option β) (k1 : Option β) (k2 : Option β) : Option β :=
 d29_2 C t18 t19
  (
   d29_19 C letters t17 t19
    (
     k0)
    (
     k1))
  (
   k2)
noncomputable abbrev q29_19 : List Code := codesAt Try.prog 29 [[1, 1, 1, 0, 1, 0, 0, 0], [1, 1, 1, 0, 1, 0, 0, 1, 0], [1, 1, 1, 0, 1, 0, 0, 1, 1, 0], [1, 1, 1, 0, 1, 0, 0, 1, 1, 1]]
theorem h29_20_eq (C : CallF) (letters : Int) (t17 : List V) (t18 t19 : Int) (gs_0 : List V) (gs_1 : Int) {β : Type} (K : Out → St → Option β) :
 execL Try.prog ann C 29 146 0 (q29_19) (z29_1 letters t17 t18 t19 gs_0 gs_1) K =
  d29_20 C letters t17 t18 t19
   (K .ret (z29_0 22))
   (K .norm (z29_1 letters t17 t18 (IntKind.wrap .i64 (t19 + 1)) gs_0 gs_1))
   (K (.exit 0) (z29_3 letters t17 t18 t19 (decide ((t19 : Int) < t18)) gs_0 gs_1)) := by
 refine Eq.trans (execL_app (P := Try.prog) (A := ann) (C := C) (f := 29) (n := 146) (m := 0) (q29_1) (q29_18) (st := z29_1 letters t17 t18 t19 gs_0 gs_1) (K := K)) (Eq.trans (h29_2_eq C letters t17 t18 t19 gs_0 gs_1 (seqK Try.prog ann C 29 146 0 (q29_18) K)) ?_)
 · exact Eq.trans (by kernel_rfl) (Eq.trans (congrArg (fun HOLE : Option β => d29_2 C t18 t19 HOLE (K (.exit 0) (z29_3 letters t17 t18 t19 (decide ((t19 : Int) < t18)) gs_0 gs_1))) (h29_19_eq C letters t17 t18 t19 gs_0 gs_1 K)) ((by kernel_rfl)))
noncomputable def s_semigroupref31_Validate_21L_step (C : CallF) (letters : Int) (t17 : List V) (t18 : Int) : (Int) → Option ((Int) ⊕ ((Unit) ⊕ (Int × Bool))) := fun t19 =>
 bif decide ((t19 : Int) < t18) then
  s_semigroupref31_Validate_3 C t17 t19
   (fun (a_24 : Bool) (b_25 : Bool) (ns_26 : Int) (ns_27 : Int) (ns_28 : Int) (ns_29 : Int) =>
    s_semigroupref31_Validate_4 C ns_26
     (fun (t_17 : Bool) =>
      bif t_17 then
       some (.inr (.inl ()))
      else
       s_semigroupref31_Validate_6 C letters ns_26 ns_27
        (fun (t_15 : Bool) =>
         bif t_15 then
          some (.inr (.inl ()))
         else
          s_semigroupref31_Validate_8 C t19 a_24 b_25 ns_28 ns_29
           (fun (t_13 : Bool) =>
            bif t_13 then
             some (.inr (.inl ()))
            else
             some (.inl (IntKind.wrap .i64 (t19 + 1)))))))
 else
  some (.inr (.inr (t19, decide ((t19 : Int) < t18))))
noncomputable def s_semigroupref31_Validate_21L (C : CallF) (letters : Int) (t17 : List V) (t18 t19 : Int) {β : Type} (k0 : Option β) (k1 : Int → Bool → Option β) : Option β :=
 (Loop (s_semigroupref31_Validate_21L_step C letters t17 t18) t19).bind fun
  | (.inl ()) => k0
  | (.inr (t191, t201)) => k1 t191 t201
noncomputable def s_semigroupref31_Validate_21L_dec : Out → St → Option ((Int) ⊕ ((Unit) ⊕ (Int × Bool))) := fun o st => match o with
 | .norm => some (.inl (V.toInt (st.sl 19)))
 | .exit q => bif Nat.beq q 0 then some (.inr (.inr (V.toInt (st.sl 19), V.toBool (st.sl 20)))) else none
 | .ret => some (.inr (.inl ()))
noncomputable def s_semigroupref31_Validate_21L_hd (letters : Int) (t17 : List V) (t18 : Int) (gs_0 : List V) (gs_1 : Int) : (Int) → St := fun t19 => z29_1 letters t17 t18 t19 gs_0 gs_1
noncomputable def s_semigroupref31_Validate_21L_enc (letters : Int) (t17 : List V) (t18 : Int) (gs_0 : List V) (gs_1 : Int) : ((Unit) ⊕ (Int × Bool)) → Out × St := fun
 | (.inl ()) => (.ret, z29_0 22)
 | (.inr (t191, t201)) => (.exit 0, z29_3 letters t17 t18 t191 t201 gs_0 gs_1)
theorem s_semigroupref31_Validate_21L_eq (C : CallF) (letters : Int) (t17 : List V) (t18 t19 : Int) (gs_0 : List V) (gs_1 : Int) {β : Type} (K : Out → St → Option β) :
 execL Try.prog ann C 29 146 0 (codesAt Try.prog 29 [[1, 1, 1, 0, 1, 0]]) (z29_1 letters t17 t18 t19 gs_0 gs_1) K =
  s_semigroupref31_Validate_21L C letters t17 t18 t19
   (K .ret (z29_0 22))
   (fun (t191 : Int) (t201 : Bool) => K (.exit 0) (z29_3 letters t17 t18 t191 t201 gs_0 gs_1)) := by
 have hitems : flatC (codeAt [1, 1, 1, 0, 1, 0, 0] (bodyOf Try.prog 29)) = q29_19 := by kernel_rfl
 have hloop : [codeAt [1, 1, 1, 0, 1, 0] (bodyOf Try.prog 29)] = [Code.loop (codeAt [1, 1, 1, 0, 1, 0, 0] (bodyOf Try.prog 29))] := by kernel_rfl
 have h := loopK_eq (P := Try.prog) (A := ann) (C := C) (f := 29) (n := 146) (m := 0) (c := codeAt [1, 1, 1, 0, 1, 0, 0] (bodyOf Try.prog 29)) (s_semigroupref31_Validate_21L_hd letters t17 t18 gs_0 gs_1) (s_semigroupref31_Validate_21L_enc letters t17 t18 gs_0 gs_1) s_semigroupref31_Validate_21L_dec (s_semigroupref31_Validate_21L_step C letters t17 t18)
  (by rintro t19; exact Eq.trans (execK_items hitems) (Eq.trans (h29_20_eq C letters t17 t18 t19 gs_0 gs_1 s_semigroupref31_Validate_21L_dec) (by kernel_rfl)))
  (by rintro t19; exact Eq.trans (execK_items hitems) (Eq.trans (h29_20_eq C letters t17 t18 t19 gs_0 gs_1 (fun o st => some (o, st))) (Eq.trans (by kernel_rfl) (Eq.trans (h29_20_eq C letters t17 t18 t19 gs_0 gs_1 (fun o st => (s_semigroupref31_Validate_21L_dec o st).map (outS (s_semigroupref31_Validate_21L_hd letters t17 t18 gs_0 gs_1) (s_semigroupref31_Validate_21L_enc letters t17 t18 gs_0 gs_1)))).symm (execK_items hitems).symm))))
  (by intro r; rcases r with r | r <;> intro h <;> cases h) t19 K
 refine Eq.trans (congrArg (fun l => execL Try.prog ann C 29 146 0 l (z29_1 letters t17 t18 t19 gs_0 gs_1) K) hloop) (Eq.trans h ?_)
 · refine congrArg _ (funext fun r => ?_)
   rcases r with r | r <;> rfl
noncomputable def d29_22 (C : CallF) (letters : Int) (t17 : List V) (t18 t19 : Int) {β : Type} (k0 : Option β) (k1 : Option β) : Option β :=
 s_semigroupref31_Validate_21L C letters t17 t18 t19
  (
   k0)
  (fun (t_30 : Int) (t_31 : Bool) =>
   k1)
noncomputable abbrev z29_8 (c0 : List V) (c1 : Int) : St :=
 mk [(2, .ptr 0 0 0)] [.var [.list T_api_SfNode c0, .int .i64 c1]]
theorem h29_22_eq (C : CallF) (letters : Int) (t17 : List V) (t18 t19 : Int) (gs_0 : List V) (gs_1 : Int) {β : Type} (K : Out → St → Option β) :
 execL Try.prog ann C 29 146 0 (codesAt Try.prog 29 [[1, 1, 1, 0, 1]]) (z29_1 letters t17 t18 t19 gs_0 gs_1) K =
  d29_22 C letters t17 t18 t19
   (K .ret (z29_0 22))
   (K .norm (z29_8 gs_0 gs_1)) := Eq.trans (execL_block (P := Try.prog) (A := ann) (C := C) (f := 29) (n := 146) (m := 0) (id := 0) (c := codeAt [1, 1, 1, 0, 1] (bodyOf Try.prog 29)) (d := codeAt [1, 1, 1, 0, 1, 0] (bodyOf Try.prog 29)) (l := codesAt Try.prog 29 [[1, 1, 1, 0, 1, 0]]) (st := z29_1 letters t17 t18 t19 gs_0 gs_1) (K := K) (by kernel_rfl) (by kernel_rfl)) (Eq.trans (s_semigroupref31_Validate_21L_eq C letters t17 t18 t19 gs_0 gs_1 (blockK ann 29 0 0 K)) (by kernel_rfl))
noncomputable def s_semigroupref31_Validate_23 (C : CallF) (gs_0 : List V) (gs_1 : Int) {β : Type} (k0 : Int → Option β) : Option β :=
 bif decide ((gs_1 : Int) < 0) then
  k0 22
 else
  bif decide ((gs_1 : Int) ≥ (gs_0.length : Int)) then
   k0 22
  else
   k0 0
noncomputable abbrev q29_20 : List Code := codesAt Try.prog 29 [[1, 1, 1, 1, 0, 0], [1, 1, 1, 1, 0, 1], [1, 1, 1, 1, 1, 0], [1, 1, 1, 1, 1, 1]]
theorem s_semigroupref31_Validate_23_eq (C : CallF) (gs_0 : List V) (gs_1 : Int) {β : Type} (K : Out → St → Option β) :
 execL Try.prog ann C 29 146 0 (q29_20) (z29_8 gs_0 gs_1) K =
  s_semigroupref31_Validate_23 C gs_0 gs_1
   (fun (t40 : Int) => K .ret (z29_0 t40)) := by kernel_rfl
noncomputable def d29_24 (C : CallF) (letters : Int) (t17 : List V) (t18 t19 : Int) (gs_0 : List V) (gs_1 : Int) {β : Type} (k0 : Int → Option β) : Option β :=
 d29_22 C letters t17 t18 t19
  (
   k0 22)
  (
   s_semigroupref31_Validate_23 C gs_0 gs_1
    (fun (t_34 : Int) =>
     k0 t_34))
noncomputable abbrev q29_21 : List Code := codesAt Try.prog 29 [[1, 1, 1, 0, 1], [1, 1, 1, 1, 0, 0], [1, 1, 1, 1, 0, 1], [1, 1, 1, 1, 1, 0], [1, 1, 1, 1, 1, 1]]
theorem h29_24_eq (C : CallF) (letters : Int) (t17 : List V) (t18 t19 : Int) (gs_0 : List V) (gs_1 : Int) {β : Type} (K : Out → St → Option β) :
 execL Try.prog ann C 29 146 0 (q29_21) (z29_1 letters t17 t18 t19 gs_0 gs_1) K =
  d29_24 C letters t17 t18 t19 gs_0 gs_1
   (fun (t40 : Int) => K .ret (z29_0 t40)) := by
 refine Eq.trans (execL_app (P := Try.prog) (A := ann) (C := C) (f := 29) (n := 146) (m := 0) (codesAt Try.prog 29 [[1, 1, 1, 0, 1]]) (q29_20) (st := z29_1 letters t17 t18 t19 gs_0 gs_1) (K := K)) (Eq.trans (h29_22_eq C letters t17 t18 t19 gs_0 gs_1 (seqK Try.prog ann C 29 146 0 (q29_20) K)) ?_)
 · exact Eq.trans (by kernel_rfl) (Eq.trans (congrArg (fun HOLE : Option β => d29_22 C letters t17 t18 t19 (K .ret (z29_0 22)) HOLE) (s_semigroupref31_Validate_23_eq C gs_0 gs_1 K)) ((by kernel_rfl)))
noncomputable def d29_25 (C : CallF) (g_Nodes : List V) (g_Root letters : Int) {β : Type} (k0 : Int → Option β) : Option β :=
 s_semigroupref31_Validate_1 C g_Nodes letters
  (fun (t_36 : Int) =>
   k0 t_36)
  (
   d29_24 C letters g_Nodes (g_Nodes.length : Int) 0 g_Nodes g_Root
    (fun (t_37 : Int) =>
     k0 t_37))
noncomputable abbrev q29_22 : List Code := codesAt Try.prog 29 [[0], [1, 0, 0], [1, 0, 1], [1, 1, 0, 0], [1, 1, 0, 1], [1, 1, 1, 0, 0], [1, 1, 1, 0, 1], [1, 1, 1, 1, 0, 0], [1, 1, 1, 1, 0, 1], [1, 1, 1, 1, 1, 0], [1, 1, 1, 1, 1, 1]]
theorem h29_25_eq (C : CallF) (g_Nodes : List V) (g_Root letters : Int) {β : Type} (K : Out → St → Option β) :
 execL Try.prog ann C 29 146 0 (q29_22) (z29_2 g_Nodes g_Root letters) K =
  d29_25 C g_Nodes g_Root letters
   (fun (t40 : Int) => K .ret (z29_0 t40)) := by
 refine Eq.trans (execL_app (P := Try.prog) (A := ann) (C := C) (f := 29) (n := 146) (m := 0) (q29_0) (q29_21) (st := z29_2 g_Nodes g_Root letters) (K := K)) (Eq.trans (s_semigroupref31_Validate_1_eq C g_Nodes g_Root letters (seqK Try.prog ann C 29 146 0 (q29_21) K)) ?_)
 · exact Eq.trans (by kernel_rfl) (Eq.trans (congrArg (fun HOLE : Option β => s_semigroupref31_Validate_1 C g_Nodes letters (fun (t40 : Int) => K .ret (z29_0 t40)) HOLE) (h29_24_eq C letters g_Nodes (g_Nodes.length : Int) 0 g_Nodes g_Root K)) ((by kernel_rfl)))
noncomputable def f_semigroupref31_Validate (C : CallF) (g_Nodes : List V) (g_Root letters : Int) : Option (V × List V) :=
 s_semigroupref31_Validate_1 C g_Nodes letters
  (fun (t_38 : Int) =>
   some (.int .i64 t_38, []))
  (
   s_semigroupref31_Validate_21L C letters g_Nodes (g_Nodes.length : Int) 0
    (
     some (.int .i64 22, []))
    (fun (t_32 : Int) (t_33 : Bool) =>
     s_semigroupref31_Validate_23 C g_Nodes g_Root
      (fun (t_35 : Int) =>
       some (.int .i64 t_35, []))))
theorem f_semigroupref31_Validate_eq (C : CallF) (g_Nodes : List V) (g_Root letters : Int) : bodyK Try.prog ann C 29 [.agg [.list T_api_SfNode g_Nodes, .int .i64 g_Root], .int .i64 letters] [] = f_semigroupref31_Validate C g_Nodes g_Root letters :=
 Eq.trans (bodyK_fin (by kernel_rfl)) (Eq.trans (execK_items (by kernel_rfl)) (Eq.trans (h29_25_eq C g_Nodes g_Root letters (finK Try.prog ann C 29 [])) (by kernel_rfl)))
theorem f_semigroupref31_Validate_of {g_Nodes : List V} {g_Root : Int} {letters : Int} {r : V × List V} (h : f_semigroupref31_Validate CC g_Nodes g_Root letters = some r) : CC F_semigroupref31_Validate [.agg [.list T_api_SfNode g_Nodes, .int .i64 g_Root], .int .i64 letters] [] = some r :=
 Call_of_body ((bodyK_eq ..).trans ((f_semigroupref31_Validate_eq ..).trans h))
end Go.AM

set_option maxRecDepth 100000
namespace Go.AM
open Go.Proofs
/-! semigroup/semigroupref31.Depth -/
noncomputable def d31_1 (C : CallF) (g_Nodes : List V) (g_Root : Int) {β : Type} (k0 : Option β) (k1 : Option β) : Option β :=
 (C F_semigroupref31_Validate [.agg [.list T_api_SfNode g_Nodes, .int .i64 g_Root], .int .i64 6] []).bind fun r4 =>
  bif (r4.1.toInt : Int) != 0 then
   k0
  else
   bif (decide (0 ≤ (g_Nodes.length : Int))) && ((decide ((g_Nodes.length : Int) ≤ (g_Nodes.length : Int))) && (Nat.ble ((((g_Nodes.length : Int) : Int).toNat) * 8) maxBytes)) then
    k1
   else none
noncomputable abbrev z31_0 (c0 : Int) : St :=
 mk [(2, .int .i64 c0)] []
noncomputable abbrev z31_1 (c0 : List V) (c1 c2 : Int) (c3 : List V) (c4 : Int) (c5 : List V) : St :=
 mk [(1, .ptr 0 0 0), (3, .whole T_int 1), (14, .list T_api_SfNode c0), (15, .int .i64 c1), (16, .int .i64 c2)] [.var [.list T_api_SfNode c3, .int .i64 c4], .arr T_int c5 false]
noncomputable abbrev q31_0 : List Code := codesAt Try.prog 31 [[0], [1, 0, 0], [1, 0, 1], [1, 1, 0], [1, 1, 1, 0, 0]]
noncomputable abbrev z31_2 (c0 : List V) (c1 : Int) : St :=
 mk [(0, .agg [.list T_api_SfNode c0, .int .i64 c1])] []
theorem h31_1_eq (C : CallF) (g_Nodes : List V) (g_Root : Int) {β : Type} (K : Out → St → Option β) :
 execL Try.prog ann C 31 68 0 (q31_0) (z31_2 g_Nodes g_Root) K =
  d31_1 C g_Nodes g_Root
   (K .ret (z31_0 0))
   (K .norm (z31_1 g_Nodes (g_Nodes.length : Int) 0 g_Nodes g_Root (List.replicate (((g_Nodes.length : Int) : Int).toNat) (V.int .i64 0)))) := by kernel_rfl
noncomputable def s_semigroupref31_Depth_2 (C : CallF) (t14 : List V) (t15 t16 : Int) (deeps : List V) {β : Type} (k0 : (List V) → Option β) (k1 : Option β) : Option β :=
 bif decide ((t16 : Int) < t15) then
  (idx t14 t16).bind fun x5 =>
   bif decide ((((x5.cell 0).toInt) : Int) ≥ 5) then
    bif (decide (0 ≤ ((x5.cell 2).toInt))) && (decide (((x5.cell 2).toInt) < (deeps.length : Int))) then
     (deeps[((x5.cell 2).toInt : Int).toNat]?).bind fun x6 =>
      bif (decide (0 ≤ t16)) && (decide (t16 < (deeps.length : Int))) then
       (deeps[(t16 : Int).toNat]?).bind fun x7 =>
        bif decide ((((x5.cell 0).toInt) : Int) ≥ 5) then
         bif (((x5.cell 0).toInt) : Int) != 8 then
          bif (decide (0 ≤ t16)) && (decide (t16 < ((deeps.set ((t16 : Int).toNat) (.int .i64 x6.toInt)).length : Int))) then
           ((deeps.set ((t16 : Int).toNat) (.int .i64 x6.toInt))[(t16 : Int).toNat]?).bind fun x8 =>
            bif (decide (0 ≤ ((x5.cell 3).toInt))) && (decide (((x5.cell 3).toInt) < ((deeps.set ((t16 : Int).toNat) (.int .i64 x6.toInt)).length : Int))) then
             ((deeps.set ((t16 : Int).toNat) (.int .i64 x6.toInt))[((x5.cell 3).toInt : Int).toNat]?).bind fun x9 =>
              bif (decide (0 ≤ t16)) && (decide (t16 < ((deeps.set ((t16 : Int).toNat) (.int .i64 x6.toInt)).length : Int))) then
               ((deeps.set ((t16 : Int).toNat) (.int .i64 x6.toInt))[(t16 : Int).toNat]?).bind fun x10 =>
                bif (((x5.cell 0).toInt) : Int) == 7 then
                 bif (decide (0 ≤ t16)) && (decide (t16 < (((deeps.set ((t16 : Int).toNat) (.int .i64 x6.toInt)).set ((t16 : Int).toNat) (.int .i64 (if x9.toInt > x8.toInt then x9.toInt else x8.toInt))).length : Int))) then
                  (((deeps.set ((t16 : Int).toNat) (.int .i64 x6.toInt)).set ((t16 : Int).toNat) (.int .i64 (if x9.toInt > x8.toInt then x9.toInt else x8.toInt)))[(t16 : Int).toNat]?).bind fun x11 =>
                   bif (decide (0 ≤ t16)) && (decide (t16 < (((deeps.set ((t16 : Int).toNat) (.int .i64 x6.toInt)).set ((t16 : Int).toNat) (.int .i64 (if x9.toInt > x8.toInt then x9.toInt else x8.toInt))).length : Int))) then
                    (((deeps.set ((t16 : Int).toNat) (.int .i64 x6.toInt)).set ((t16 : Int).toNat) (.int .i64 (if x9.toInt > x8.toInt then x9.toInt else x8.toInt)))[(t16 : Int).toNat]?).bind fun x12 =>
                     k0 (((deeps.set ((t16 : Int).toNat) (.int .i64 x6.toInt)).set ((t16 : Int).toNat) (.int .i64 (if x9.toInt > x8.toInt then x9.toInt else x8.toInt))).set ((t16 : Int).toNat) (.int .i64 (IntKind.wrap .i64 (x11.toInt + 1))))
                   else none
                 else none
                else
                 k0 ((deeps.set ((t16 : Int).toNat) (.int .i64 x6.toInt)).set ((t16 : Int).toNat) (.int .i64 (if x9.toInt > x8.toInt then x9.toInt else x8.toInt)))
              else none
            else none
          else none
         else
          bif (((x5.cell 0).toInt) : Int) == 7 then
           bif (decide (0 ≤ t16)) && (decide (t16 < ((deeps.set ((t16 : Int).toNat) (.int .i64 x6.toInt)).length : Int))) then
            ((deeps.set ((t16 : Int).toNat) (.int .i64 x6.toInt))[(t16 : Int).toNat]?).bind fun x13 =>
             bif (decide (0 ≤ t16)) && (decide (t16 < ((deeps.set ((t16 : Int).toNat) (.int .i64 x6.toInt)).length : Int))) then
              ((deeps.set ((t16 : Int).toNat) (.int .i64 x6.toInt))[(t16 : Int).toNat]?).bind fun x14 =>
               k0 ((deeps.set ((t16 : Int).toNat) (.int .i64 x6.toInt)).set ((t16 : Int).toNat) (.int .i64 (IntKind.wrap .i64 (x13.toInt + 1))))
             else none
           else none
          else
           k0 (deeps.set ((t16 : Int).toNat) (.int .i64 x6.toInt))
        else
         bif (((x5.cell 0).toInt) : Int) == 7 then
          bif (decide (0 ≤ t16)) && (decide (t16 < ((deeps.set ((t16 : Int).toNat) (.int .i64 x6.toInt)).length : Int))) then
           ((deeps.set ((t16 : Int).toNat) (.int .i64 x6.toInt))[(t16 : Int).toNat]?).bind fun x15 =>
            bif (decide (0 ≤ t16)) && (decide (t16 < ((deeps.set ((t16 : Int).toNat) (.int .i64 x6.toInt)).length : Int))) then
             ((deeps.set ((t16 : Int).toNat) (.int .i64 x6.toInt))[(t16 : Int).toNat]?).bind fun x16 =>
              k0 ((deeps.set ((t16 : Int).toNat) (.int .i64 x6.toInt)).set ((t16 : Int).toNat) (.int .i64 (IntKind.wrap .i64 (x15.toInt + 1))))
            else none
          else none
         else
          k0 (deeps.set ((t16 : Int).toNat) (.int .i64 x6.toInt))
      else none
    else none
   else
    bif decide ((((x5.cell 0).toInt) : Int) ≥ 5) then
     bif (((x5.cell 0).toInt) : Int) != 8 then
      bif (decide (0 ≤ t16)) && (decide (t16 < (deeps.length : Int))) then
       (deeps[(t16 : Int).toNat]?).bind fun x17 =>
        bif (decide (0 ≤ ((x5.cell 3).toInt))) && (decide (((x5.cell 3).toInt) < (deeps.length : Int))) then
         (deeps[((x5.cell 3).toInt : Int).toNat]?).bind fun x18 =>
          bif (decide (0 ≤ t16)) && (decide (t16 < (deeps.length : Int))) then
           (deeps[(t16 : Int).toNat]?).bind fun x19 =>
            bif (((x5.cell 0).toInt) : Int) == 7 then
             bif (decide (0 ≤ t16)) && (decide (t16 < ((deeps.set ((t16 : Int).toNat) (.int .i64 (if x18.toInt > x17.toInt then x18.toInt else x17.toInt))).length : Int))) then
              ((deeps.set ((t16 : Int).toNat) (.int .i64 (if x18.toInt > x17.toInt then x18.toInt else x17.toInt)))[(t16 : Int).toNat]?).bind fun x20 =>
               bif (decide (0 ≤ t16)) && (decide (t16 < ((deeps.set ((t16 : Int).toNat) (.int .i64 (if x18.toInt > x17.toInt then x18.toInt else x17.toInt))).length : Int))) then
                ((deeps.set ((t16 : Int).toNat) (.int .i64 (if x18.toInt > x17.toInt then x18.toInt else x17.toInt)))[(t16 : Int).toNat]?).bind fun x21 =>
                 k0 ((deeps.set ((t16 : Int).toNat) (.int .i64 (if x18.toInt > x17.toInt then x18.toInt else x17.toInt))).set ((t16 : Int).toNat) (.int .i64 (IntKind.wrap .i64 (x20.toInt + 1))))
               else none
             else none
            else
             k0 (deeps.set ((t16 : Int).toNat) (.int .i64 (if x18.toInt > x17.toInt then x18.toInt else x17.toInt)))
          else none
        else none
      else none
     else
      bif (((x5.cell 0).toInt) : Int) == 7 then
       bif (decide (0 ≤ t16)) && (decide (t16 < (deeps.length : Int))) then
        (deeps[(t16 : Int).toNat]?).bind fun x22 =>
         bif (decide (0 ≤ t16)) && (decide (t16 < (deeps.length : Int))) then
          (deeps[(t16 : Int).toNat]?).bind fun x23 =>
           k0 (deeps.set ((t16 : Int).toNat) (.int .i64 (IntKind.wrap .i64 (x22.toInt + 1))))
         else none
       else none
      else
       k0 deeps
    else
     bif (((x5.cell 0).toInt) : Int) == 7 then
      bif (decide (0 ≤ t16)) && (decide (t16 < (deeps.length : Int))) then
       (deeps[(t16 : Int).toNat]?).bind fun x24 =>
        bif (decide (0 ≤ t16)) && (decide (t16 < (deeps.length : Int))) then
         (deeps[(t16 : Int).toNat]?).bind fun x25 =>
          k0 (deeps.set ((t16 : Int).toNat) (.int .i64 (IntKind.wrap .i64 (x24.toInt + 1))))
        else none
      else none
     else
      k0 deeps
 else
  k1
noncomputable abbrev z31_3 (c0 : List V) (c1 c2 : Int) (c3 : Bool) (c4 : List V) (c5 : Int) (c6 : List V) : St :=
 mk [(1, .ptr 0 0 0), (3, .whole T_int 1), (14, .list T_api_SfNode c0), (15, .int .i64 c1), (16, .int .i64 c2), (17, .bool c3)] [.var [.list T_api_SfNode c4, .int .i64 c5], .arr T_int c6 false]
noncomputable abbrev q31_1 : List Code := codesAt Try.prog 31 [[1, 1, 1, 0, 1, 0, 0, 0], [1, 1, 1, 0, 1, 0, 0, 1, 0], [1, 1, 1, 0, 1, 0, 0, 1, 1, 0]]
theorem s_semigroupref31_Depth_2_eq (C : CallF) (t14 : List V) (t15 t16 : Int) (gs_0 : List V) (gs_1 : Int) (deeps : List V) {β : Type} (K : Out → St → Option β) :
 execL Try.prog ann C 31 68 0 (q31_1) (z31_1 t14 t15 t16 gs_0 gs_1 deeps) K =
  s_semigroupref31_Depth_2 C t14 t15 t16 deeps
   (fun (deeps0 : List V) => K .norm (z31_1 t14 t15 t16 gs_0 gs_1 deeps0))
   (K (.exit 0) (z31_3 t14 t15 t16 (decide ((t16 : Int) < t15)) gs_0 gs_1 deeps)) := by kernel_rfl
noncomputable def d31_3 (C : CallF)  {β : Type} (k0 : Option β) : Option β :=
 k0
noncomputable abbrev q31_2 : List Code := codesAt Try.prog 31 [[1, 1, 1, 0, 1, 0, 0, 1, 1, 1]]
theorem h31_3_eq (C : CallF) (t14 : List V) (t15 t16 : Int) (gs_0 : List V) (gs_1 : Int) (deeps : List V) {β : Type} (K : Out → St → Option β) :
 execL Try.prog ann C 31 68 0 (q31_2) (z31_1 t14 t15 t16 gs_0 gs_1 deeps) K =
  d31_3 C
   (K .norm (z31_1 t14 t15 (IntKind.wrap .i64 (t16 + 1)) gs_0 gs_1 deeps)) := by kernel_rfl
noncomputable def d31_4 (C : CallF) (t14 : List V) (t15 t16 : Int) (deeps : List V) {β : Type} (k0 : (List V) → Option β) (k1 : Option β) : Option β :=
 s_semigroupref31_Depth_2 C t14 t15 t16 deeps
  (fun (deeps_43 : List V) =>
   d31_3 C
    (
     k0 deeps_43))
  (
   k1)
noncomputable abbrev q31_3 : List Code := codesAt Try.prog 31 [[1, 1, 1, 0, 1, 0, 0, 0], [1, 1, 1, 0, 1, 0, 0, 1, 0], [1, 1, 1, 0, 1, 0, 0, 1, 1, 0], [1, 1, 1, 0, 1, 0, 0, 1, 1, 1]]
theorem h31_4_eq (C : CallF) (t14 : List V) (t15 t16 : Int) (gs_0 : List V) (gs_1 : Int) (deeps : List V) {β : Type} (K : Out → St → Option β) :
 execL Try.prog ann C 31 68 0 (q31_3) (z31_1 t14 t15 t16 gs_0 gs_1 deeps) K =
  d31_4 C t14 t15 t16 deeps
   (fun (deeps0 : List V) => K .norm (z31_1 t14 t15 (IntKind.wrap .i64 (t16 + 1)) gs_0 gs_1 deeps0))
   (K (.exit 0) (z31_3 t14 t15 t16 (decide ((t16 : Int) < t15)) gs_0 gs_1 deeps)) := by
 refine Eq.trans (execL_app (P := Try.prog) (A := ann) (C := C) (f := 31) (n := 68) (m := 0) (q31_1) (q31_2) (st := z31_1 t14 t15 t16 gs_0 gs_1 deeps) (K := K)) (Eq.trans (s_semigroupref31_Depth_2_eq C t14 t15 t16 gs_0 gs_1 deeps (seqK Try.prog ann C 31 68 0 (q31_2) K)) ?_)
 · exact Eq.trans (by kernel_rfl) (Eq.trans (congrArg (fun HOLE : (List V) → Option β => s_semigroupref31_Depth_2 C t14 t15 t16 deeps HOLE (K (.exit 0) (z31_3 t14 t15 t16 (decide ((t16 : Int) < t15)) gs_0 gs_1 deeps))) (funext fun (deeps0 : List V) => h31_3_eq C t14 t15 t16 gs_0 gs_1 deeps0 K)) ((by kernel_rfl)))
noncomputable def s_semigroupref31_Depth_5L_step (C : CallF) (t14 : List V) (t15 : Int) : (Int × (List V)) → Option ((Int × (List V)) ⊕ ((Int × Bool × (List V)))) := fun (t16, deeps) =>
 s_semigroupref31_Depth_2 C t14 t15 t16 deeps
  (fun (deeps_44 : List V) =>
   some (.inl (IntKind.wrap .i64 (t16 + 1), deeps_44)))
  (
   some (.inr (t16, decide ((t16 : Int) < t15), deeps)))
noncomputable def s_semigroupref31_Depth_5L (C : CallF) (t14 : List V) (t15 t16 : Int) (deeps : List V) {β : Type} (k0 : Int → Bool → (List V) → Option β) : Option β :=
 (Loop (s_semigroupref31_Depth_5L_step C t14 t15) (t16, deeps)).bind fun (t160, t170, deeps0) => k0 t160 t170 deeps0
noncomputable def s_semigroupref31_Depth_5L_dec : Out → St → Option ((Int × (List V)) ⊕ ((Int × Bool × (List V)))) := fun o st => match o with
 | .norm => some (.inl (V.toInt (st.sl 16), arrOf (st.hp 1)))
 | .exit q => bif Nat.beq q 0 then some (.inr (V.toInt (st.sl 16), V.toBool (st.sl 17), arrOf (st.hp 1))) else none
 | .ret => none
noncomputable def s_semigroupref31_Depth_5L_hd (t14 : List V) (t15 : Int) (gs_0 : List V) (gs_1 : Int) : (Int × (List V)) → St := fun (t16, deeps) => z31_1 t14 t15 t16 gs_0 gs_1 deeps
noncomputable def s_semigroupref31_Depth_5L_enc (t14 : List V) (t15 : Int) (gs_0 : List V) (gs_1 : Int) : ((Int × Bool × (List V))) → Out × St := fun (t160, t170, deeps0) => (.exit 0, z31_3 t14 t15 t160 t170 gs_0 gs_1 deeps0)
theorem s_semigroupref31_Depth_5L_eq (C : CallF) (t14 : List V) (t15 t16 : Int) (gs_0 : List V) (gs_1 : Int) (deeps : List V) {β : Type} (K : Out → St → Option β) :
 execL Try.prog ann C 31 68 0 (codesAt Try.prog 31 [[1, 1, 1, 0, 1, 0]]) (z31_1 t14 t15 t16 gs_0 gs_1 deeps) K =
  s_semigroupref31_Depth_5L C t14 t15 t16 deeps
   (fun (t160 : Int) (t170 : Bool) (deeps0 : List V) => K (.exit 0) (z31_3 t14 t15 t160 t170 gs_0 gs_1 deeps0)) := by
 have hitems : flatC (codeAt [1, 1, 1, 0, 1, 0, 0] (bodyOf Try.prog 31)) = q31_3 := by kernel_rfl
 have hloop : [codeAt [1, 1, 1, 0, 1, 0] (bodyOf Try.prog 31)] = [Code.loop (codeAt [1, 1, 1, 0, 1, 0, 0] (bodyOf Try.prog 31))] := by kernel_rfl
 have h := loopK_eq (P := Try.prog) (A := ann) (C := C) (f := 31) (n := 68) (m := 0) (c := codeAt [1, 1, 1, 0, 1, 0, 0] (bodyOf Try.prog 31)) (s_semigroupref31_Depth_5L_hd t14 t15 gs_0 gs_1) (s_semigroupref31_Depth_5L_enc t14 t15 gs_0 gs_1) s_semigroupref31_Depth_5L_dec (s_semigroupref31_Depth_5L_step C t14 t15)
  (by rintro ⟨t16, deeps⟩; exact Eq.trans (execK_items hitems) (Eq.trans (h31_4_eq C t14 t15 t16 gs_0 gs_1 deeps s_semigroupref31_Depth_5L_dec) (by kernel_rfl)))
  (by rintro ⟨t16, deeps⟩; exact Eq.trans (execK_items hitems) (Eq.trans (h31_4_eq C t14 t15 t16 gs_0 gs_1 deeps (fun o st => some (o, st))) (Eq.trans (by kernel_rfl) (Eq.trans (h31_4_eq C t14 t15 t16 gs_0 gs_1 deeps (fun o st => (s_semigroupref31_Depth_5L_dec o st).map (outS (s_semigroupref31_Depth_5L_hd t14 t15 gs_0 gs_1) (s_semigroupref31_Depth_5L_enc t14 t15 gs_0 gs_1)))).symm (execK_items hitems).symm))))
  (by intro r; intro h; cases h) (t16, deeps) K
 refine Eq.trans (congrArg (fun l => execL Try.prog ann C 31 68 0 l (z31_1 t14 t15 t16 gs_0 gs_1 deeps) K) hloop) (Eq.trans h ?_)
 · refine congrArg _ (funext fun r => ?_)
   rfl
noncomputable def d31_6 (C : CallF) (t14 : List V) (t15 t16 : Int) (deeps : List V) {β : Type} (k0 : (List V) → Option β) : Option β :=
 s_semigroupref31_Depth_5L C t14 t15 t16 deeps
  (fun (t_45 : Int) (t_46 : Bool) (deeps_47 : List V) =>
   k0 deeps_47)
noncomputable abbrev z31_4 (c0 : List V) (c1 : Int) (c2 : List V) : St :=
 mk [(1, .ptr 0 0 0), (3, .whole T_int 1)] [.var [.list T_api_SfNode c0, .int .i64 c1], .arr T_int c2 false]
theorem h31_6_eq (C : CallF) (t14 : List V) (t15 t16 : Int) (gs_0 : List V) (gs_1 : Int) (deeps : List V) {β : Type} (K : Out → St → Option β) :
 execL Try.prog ann C 31 68 0 (codesAt Try.prog 31 [[1, 1, 1, 0, 1]]) (z31_1 t14 t15 t16 gs_0 gs_1 deeps) K =
  d31_6 C t14 t15 t16 deeps
   (fun (deeps0 : List V) => K .norm (z31_4 gs_0 gs_1 deeps0)) := Eq.trans (execL_block (P := Try.prog) (A := ann) (C := C) (f := 31) (n := 68) (m := 0) (id := 0) (c := codeAt [1, 1, 1, 0, 1] (bodyOf Try.prog 31)) (d := codeAt [1, 1, 1, 0, 1, 0] (bodyOf Try.prog 31)) (l := codesAt Try.prog 31 [[1, 1, 1, 0, 1, 0]]) (st := z31_1 t14 t15 t16 gs_0 gs_1 deeps) (K := K) (by kernel_rfl) (by kernel_rfl)) (Eq.trans (s_semigroupref31_Depth_5L_eq C t14 t15 t16 gs_0 gs_1 deeps (blockK ann 31 0 0 K)) (by kernel_rfl))
noncomputable def d31_7 (C : CallF) (gs_1 : Int) (deeps : List V) {β : Type} (k0 : Int → Option β) : Option β :=
 bif (decide (0 ≤ gs_1)) && (decide (gs_1 < (deeps.length : Int))) then
  (deeps[(gs_1 : Int).toNat]?).bind fun x52 =>
   k0 x52.toInt
 else none
noncomputable abbrev q31_4 : List Code := codesAt Try.prog 31 [[1, 1, 1, 1, 0], [1, 1, 1, 1, 1]]
theorem h31_7_eq (C : CallF) (gs_0 : List V) (gs_1 : Int) (deeps : List V) {β : Type} (K : Out → St → Option β) :
 execL Try.prog ann C 31 68 0 (q31_4) (z31_4 gs_0 gs_1 deeps) K =
  d31_7 C gs_1 deeps
   (fun (t20 : Int) => K .ret (z31_0 t20)) := by kernel_rfl
noncomputable def d31_8 (C : CallF) (t14 : List V) (t15 t16 gs_1 : Int) (deeps : List V) {β : Type} (k0 : Int → Option β) : Option β :=
 d31_6 C t14 t15 t16 deeps
  (fun (deeps_53 : List V) =>
   d31_7 C gs_1 deeps_53
    (fun (t_54 : Int) =>
     k0 t_54))
noncomputable abbrev q31_5 : List Code := codesAt Try.prog 31 [[1, 1, 1, 0, 1], [1, 1, 1, 1, 0], [1, 1, 1, 1, 1]]
theorem h31_8_eq (C : CallF) (t14 : List V) (t15 t16 : Int) (gs_0 : List V) (gs_1 : Int) (deeps : List V) {β : Type} (K : Out → St → Option β) :
 execL Try.prog ann C 31 68 0 (q31_5) (z31_1 t14 t15 t16 gs_0 gs_1 deeps) K =
  d31_8 C t14 t15 t16 gs_1 deeps
   (fun (t20 : Int) => K .ret (z31_0 t20)) := by
 refine Eq.trans (execL_app (P := Try.prog) (A := ann) (C := C) (f := 31) (n := 68) (m := 0) (codesAt Try.prog 31 [[1, 1, 1, 0, 1]]) (q31_4) (st := z31_1 t14 t15 t16 gs_0 gs_1 deeps) (K := K)) (Eq.trans (h31_6_eq C t14 t15 t16 gs_0 gs_1 deeps (seqK Try.prog ann C 31 68 0 (q31_4) K)) ?_)
 · exact Eq.trans (by kernel_rfl) (Eq.trans (congrArg (fun HOLE : (List V) → Option β => d31_6 C t14 t15 t16 deeps HOLE) (funext fun (deeps0 : List V) => h31_7_eq C gs_0 gs_1 deeps0 K)) ((by kernel_rfl)))
noncomputable def d31_9 (C : CallF) (g_Nodes : List V) (g_Root : Int) {β : Type} (k0 : Int → Option β) : Option β :=
 d31_1 C g_Nodes g_Root
  (
   k0 0)
  (
   d31_8 C g_Nodes (g_Nodes.length : Int) 0 g_Root (List.replicate (((g_Nodes.length : Int) : Int).toNat) (V.int .i64 0))
    (fun (t_55 : Int) =>
     k0 t_55))
noncomputable abbrev q31_6 : List Code := codesAt Try.prog 31 [[0], [1, 0, 0], [1, 0, 1], [1, 1, 0], [1, 1, 1, 0, 0], [1, 1, 1, 0, 1], [1, 1, 1, 1, 0], [1, 1, 1, 1, 1]]
theorem h31_9_eq (C : CallF) (g_Nodes : List V) (g_Root : Int) {β : Type} (K : Out → St → Option β) :
 execL Try.prog ann C 31 68 0 (q31_6) (z31_2 g_Nodes g_Root) K =
  d31_9 C g_Nodes g_Root
   (fun (t20 : Int) => K .ret (z31_0 t20)) := by
 refine Eq.trans (execL_app (P := Try.prog) (A := ann) (C := C) (f := 31) (n := 68) (m := 0) (q31_0) (q31_5) (st := z31_2 g_Nodes g_Root) (K := K)) (Eq.trans (h31_1_eq C g_Nodes g_Root (seqK Try.prog ann C 31 68 0 (q31_5) K)) ?_)
 · exact Eq.trans (by kernel_rfl) (Eq.trans (congrArg (fun HOLE : Option β => d31_1 C g_Nodes g_Root (K .ret (z31_0 0)) HOLE) (h31_8_eq C g_Nodes (g_Nodes.length : Int) 0 g_Nodes g_Root (List.replicate (((g_Nodes.length : Int) : Int).toNat) (V.int .i64 0)) K)) ((by kernel_rfl)))
noncomputable def f_semigroupref31_Depth (C : CallF) (g_Nodes : List V) (g_Root : Int) : Option (V × List V) :=
 (C F_semigroupref31_Validate [.agg [.list T_api_SfNode g_Nodes, .int .i64 g_Root], .int .i64 6] []).bind fun r4 =>
  bif (r4.1.toInt : Int) != 0 then
   some (.int .i64 0, [])
  else
   bif (decide (0 ≤ (g_Nodes.length : Int))) && ((decide ((g_Nodes.length : Int) ≤ (g_Nodes.length : Int))) && (Nat.ble ((((g_Nodes.length : Int) : Int).toNat) * 8) maxBytes)) then
    s_semigroupref31_Depth_5L C g_Nodes (g_Nodes.length : Int) 0 (List.replicate (((g_Nodes.length : Int) : Int).toNat) (V.int .i64 0))
     (fun (t_48 : Int) (t_49 : Bool) (deeps_50 : List V) =>
      bif (decide (0 ≤ g_Root)) && (decide (g_Root < (deeps_50.length : Int))) then
       (deeps_50[(g_Root : Int).toNat]?).bind fun x52 =>
        some (.int .i64 x52.toInt, [])
      else none)
   else none
theorem f_semigroupref31_Depth_eq (C : CallF) (g_Nodes : List V) (g_Root : Int) : bodyK Try.prog ann C 31 [.agg [.list T_api_SfNode g_Nodes, .int .i64 g_Root]] [] = f_semigroupref31_Depth C g_Nodes g_Root :=
 Eq.trans (bodyK_fin (by kernel_rfl)) (Eq.trans (execK_items (by kernel_rfl)) (Eq.trans (h31_9_eq C g_Nodes g_Root (finK Try.prog ann C 31 [])) (by kernel_rfl)))
theorem f_semigroupref31_Depth_of {g_Nodes : List V} {g_Root : Int} {r : V × List V} (h : f_semigroupref31_Depth CC g_Nodes g_Root = some r) : CC F_semigroupref31_Depth [.agg [.list T_api_SfNode g_Nodes, .int .i64 g_Root]] [] = some r :=
 Call_of_body ((bodyK_eq ..).trans ((f_semigroupref31_Depth_eq ..).trans h))
end Go.AM

/-
 The reference of layer 31: what is valid, depth.
-/
namespace Go.AM
open Go.Proofs
theorem mayLetters_spec (letters : Int) : CC F_semigroupref01_MayLetters [.int .i64 letters] [] = some (.bool (decide (1 ≤ letters ∧ letters ≤ 6)), []) := by
 refine f_semigroupref01_MayLetters_of ?_
 unfold f_semigroupref01_MayLetters s_semigroupref01_MayLetters_1
 simp only [bif_decide]
 by_cases h : letters ≥ 1
 · rw [if_pos h]
   congr 3
   rw [decide_eq_decide]; omega
 · rw [if_neg h]
   have : ¬ (1 ≤ letters ∧ letters ≤ 6) := by omega
   simp [this]
theorem decide_beq (m n : Int) : (m == n) = decide (m = n) := rfl
theorem decide_bne (m n : Int) : (m != n) = !decide (m = n) := rfl
section
variable {C : CallF} {β : Type}
theorem ref3_eq (T : List V) (t i : Int) (n : Node) (h : idx T i = some n.v) (k : Bool → Bool → Int → Int → Int → Int → Option β) :
 s_semigroupref31_Validate_3 C T i k = k (decide (n.op = 5 ∨ n.op = 6 ∨ n.op = 7 ∨ n.op = 8)) (decide (n.op = 5 ∨ n.op = 6 ∨ n.op = 7)) n.op n.letter n.a n.b := by
 unfold s_semigroupref31_Validate_3
 rw [h]
 simp only [Option.bind_some, Node.v, V.cell_agg, V.nth_zero, V.nth_one, V.nth_two, V.nth_three, V.toInt_int, decide_beq]
 by_cases h5 : n.op = 5
 · simp [h5]
 by_cases h6 : n.op = 6
 · simp [h6]
 by_cases h7 : n.op = 7
 · simp [h7]
 simp [h5, h6, h7]
theorem ref4_eq (op : Int) (k : Bool → Option β) : s_semigroupref31_Validate_4 C op k = k (decide (op < 1 ∨ 8 < op)) := by
 unfold s_semigroupref31_Validate_4
 simp only [bif_decide]
 by_cases h : op < 1
 · simp [h]
 · rw [if_neg h]; congr 1; rw [decide_eq_decide]; omega
theorem ref6_eq (letters op le : Int) (k : Bool → Option β) : s_semigroupref31_Validate_6 C letters op le k = k (decide ((op = 3 ∧ (le < 0 ∨ letters ≤ le)) ∨ (op ≠ 3 ∧ le ≠ 0))) := by
 unfold s_semigroupref31_Validate_6
 simp only [bif_decide, bif_beq, decide_bne]
 by_cases h : op = 3
 · by_cases h1 : le < 0
   · simp [h, h1]
   · by_cases h2 : le ≥ letters
     · simp [h, h1, h2]
     · have : ¬ letters ≤ le := by omega
       simp [h, h1, this]
 · simp [h]
theorem ref8_eq (i : Int) (a b : Bool) (x y : Int) (k : Bool → Option β) :
 s_semigroupref31_Validate_8 C i a b x y k = k ((if a then decide (x < 0 ∨ i ≤ x) else decide (x ≠ 0)) || (if b then decide (y < 0 ∨ i ≤ y) else decide (y ≠ 0))) := by
 unfold s_semigroupref31_Validate_8
 simp only [bif_decide, bif_not, decide_bne]
 cases a <;> cases b <;> simp only [cond_true, cond_false, if_true, if_false, Bool.false_eq_true]
 · by_cases h1 : x = 0 <;> simp [h1]
 · by_cases h1 : x = 0
   · by_cases h2 : y < 0
     · simp [h1, h2]
     · by_cases h3 : y ≥ i
       · simp [h1, h2, h3]
       · have : ¬ i ≤ y := by omega
         simp [h1, h2, this]
   · simp [h1]
 · by_cases h1 : x < 0
   · simp [h1]
   · by_cases h2 : x ≥ i
     · simp [h1, h2]
     · have : ¬ i ≤ x := by omega
       simp [h1, this]
 · by_cases h1 : x < 0
   · simp [h1]
   · by_cases h2 : x ≥ i
     · simp [h1, h2]
     · have h2' : ¬ i ≤ x := by omega
       by_cases h3 : y < 0
       · simp [h1, h2', h3]
       · by_cases h4 : y ≥ i
         · simp [h1, h2', h3, h4]
         · have : ¬ i ≤ y := by omega
           simp [h1, h2', h3, this]
end
theorem refValidate_spec (l : List Node) (root letters : Int) (hlen : l.length < 9223372036854775807) :
 CC F_semigroupref31_Validate [graphV l root, .int .i64 letters] [] = some (.int .i64 (validateN l root letters), []) := by
 refine f_semigroupref31_Validate_of ?_
 unfold f_semigroupref31_Validate s_semigroupref31_Validate_1 s_semigroupref31_Validate_21L s_semigroupref31_Validate_23 validateN
 simp only [mayLetters_spec, Option.bind_some, V.toBool_bool, bif_not, bif_decide, List.length_map]
 by_cases h1 : ¬ (1 ≤ letters ∧ letters ≤ 6)
 · rw [if_neg h1, if_pos (by omega)]
 replace h1 : 1 ≤ letters ∧ letters ≤ 6 := by omega
 rw [if_pos h1, if_neg (show ¬ (letters < 1 ∨ 6 < letters) by omega)]
 by_cases h3 : (l.length : Int) > 20000
 · rw [if_pos h3, if_pos (show 20000 < l.length by omega)]
 rw [if_neg h3, if_neg (show ¬ 20000 < l.length by omega)]
 have key : ∀ (k i : Nat), k + i = l.length → Loop (s_semigroupref31_Validate_21L_step CC letters (nodesV l) (l.length : Int)) (i : Int) =
  some (if validFrom letters i (l.drop i) then .inr ((l.length : Int), false) else .inl ()) := by
  intro k
  induction k with
  | zero =>
   intro i hi
   have : i = l.length := by omega
   subst this
   refine Loop_end ?_
   unfold s_semigroupref31_Validate_21L_step
   simp [validFrom]
  | succ k ih =>
   intro i hi
   have hlt : i < l.length := by omega
   rw [List.drop_eq_getElem_cons hlt, validFrom]
   have hs : s_semigroupref31_Validate_21L_step CC letters (nodesV l) (l.length : Int) (i : Int) = if validNodeB l[i] i letters then some (.inl ((i + 1 : Nat) : Int)) else some (.inr (.inl ())) := by
    unfold s_semigroupref31_Validate_21L_step
    simp only [bif_decide]
    rw [if_pos (by omega), ref3_eq _ 0 _ l[i] (idx_map rfl hlt)]
    simp only [ref4_eq, ref6_eq, ref8_eq]
    have hw : IntKind.wrap .i64 ((i : Int) + 1) = ((i + 1 : Nat) : Int) := by rw [wrap64 (by omega) (by omega)]; rfl
    rw [hw]
    cases hv : validNodeB l[i] i letters with
    | true =>
     have ok := nodeOk_iff.1 hv
     have o1 := ok.op
     have o2 := ok.letter
     have o3 := ok.noLetter
     have o4 := ok.a
     have o5 := ok.b
     have o6 := ok.noA
     have o7 := ok.noB
     have e1 : ¬ (l[i].op < 1 ∨ 8 < l[i].op) := by omega
     have e2 : ¬ ((l[i].op = 3 ∧ (l[i].letter < 0 ∨ letters ≤ l[i].letter)) ∨ (l[i].op ≠ 3 ∧ l[i].letter ≠ 0)) := by omega
     simp only [bif_decide, if_neg e1, if_neg e2, if_true]
     have e3 : (if decide (l[i].op = 5 ∨ l[i].op = 6 ∨ l[i].op = 7 ∨ l[i].op = 8) = true then decide (l[i].a < 0 ∨ (i : Int) ≤ l[i].a) else decide (l[i].a ≠ 0)) = false := by
      split
      · rename_i h; simp only [decide_eq_true_eq] at h; rw [decide_eq_false_iff_not]; omega
      · rename_i h; simp only [decide_eq_true_eq] at h; rw [decide_eq_false_iff_not]; omega
     have e4 : (if decide (l[i].op = 5 ∨ l[i].op = 6 ∨ l[i].op = 7) = true then decide (l[i].b < 0 ∨ (i : Int) ≤ l[i].b) else decide (l[i].b ≠ 0)) = false := by
      split
      · rename_i h; simp only [decide_eq_true_eq] at h; rw [decide_eq_false_iff_not]; omega
      · rename_i h; simp only [decide_eq_true_eq] at h; rw [decide_eq_false_iff_not]; omega
     rw [e3, e4]
     rfl
    | false =>
     have nok : ¬ NodeOk l[i] i letters := fun h => by rw [nodeOk_iff.2 h] at hv; cases hv
     simp only [bif_decide, Bool.false_eq_true, if_false]
     by_cases e1 : (l[i].op < 1 ∨ 8 < l[i].op)
     · rw [if_pos e1]
     rw [if_neg e1]
     by_cases e2 : ((l[i].op = 3 ∧ (l[i].letter < 0 ∨ letters ≤ l[i].letter)) ∨ (l[i].op ≠ 3 ∧ l[i].letter ≠ 0))
     · rw [if_pos e2]
     rw [if_neg e2]
     cases e3 : (if decide (l[i].op = 5 ∨ l[i].op = 6 ∨ l[i].op = 7 ∨ l[i].op = 8) = true then decide (l[i].a < 0 ∨ (i : Int) ≤ l[i].a) else decide (l[i].a ≠ 0)) with
     | true => rfl
     | false =>
      cases e4 : (if decide (l[i].op = 5 ∨ l[i].op = 6 ∨ l[i].op = 7) = true then decide (l[i].b < 0 ∨ (i : Int) ≤ l[i].b) else decide (l[i].b ≠ 0)) with
      | true => rfl
      | false =>
       exfalso
       refine nok ⟨by omega, fun h => by omega, fun h => by omega, fun h => ?_, fun h h' => ?_, fun h => ?_, fun h => ?_⟩
       · rw [if_pos (by simp; omega)] at e3; simp only [decide_eq_false_iff_not] at e3; omega
       · rw [if_pos (by simp; omega)] at e4; simp only [decide_eq_false_iff_not] at e4; omega
       · rw [if_neg (by simp; omega)] at e3; simp only [decide_eq_false_iff_not] at e3; omega
       · rw [if_neg (by simp; omega)] at e4; simp only [decide_eq_false_iff_not] at e4; omega
   cases hv : validNodeB l[i] i letters with
   | false =>
    rw [hv] at hs
    rw [Loop_end hs]
    simp
   | true =>
    rw [hv] at hs
    rw [Loop_norm hs, ih (i + 1) (by omega)]
    simp
 have := key l.length 0 (by omega)
 rw [show ((0 : Nat) : Int) = 0 from rfl, List.drop_zero] at this
 rw [this]
 cases hv : validFrom letters 0 l with
 | false => simp
 | true =>
  simp only [if_true, Option.bind_some, Bool.true_and]
  by_cases h4 : root < 0
  · rw [if_pos h4, if_neg (by simp; omega)]
  · rw [if_neg h4]
    by_cases h5 : root ≥ (l.length : Int)
    · rw [if_pos h5, if_neg (by simp; omega)]
    · rw [if_neg h5, if_pos (by simp; omega)]
end Go.AM

/-
 The reference of layer 31: words, depth.
-/
namespace Go.AM
open Go.Proofs
theorem refValid_spec (w : List UInt8) (letters : Int) : CC F_semigroupref01_Valid [.str w, .int .i64 letters] [] = some (.bool (wordValidB w letters), []) := by
 refine f_semigroupref01_Valid_of ?_
 unfold f_semigroupref01_Valid s_semigroupref01_Valid_1 s_semigroupref01_Valid_4L wordValidB
 simp only [mayLetters_spec, Option.bind_some, V.toBool_bool, bif_not, bif_decide]
 by_cases h1 : ¬ (1 ≤ letters ∧ letters ≤ 6)
 · rw [if_neg h1]
   have : ¬ (1 ≤ letters ∧ letters ≤ 6 ∧ w.length ≤ 2048) := by omega
   simp [this]
 replace h1 : 1 ≤ letters ∧ letters ≤ 6 := by omega
 rw [if_pos h1]
 by_cases h3 : (w.length : Int) > 2048
 · rw [if_pos h3]
   have : ¬ (1 ≤ letters ∧ letters ≤ 6 ∧ w.length ≤ 2048) := by omega
   simp [this]
 rw [if_neg h3]
 have h4 : (1 ≤ letters ∧ letters ≤ 6 ∧ w.length ≤ 2048) := by omega
 simp only [h4, and_self, decide_true, Bool.true_and]
 have key : ∀ (k i : Nat), k + i = w.length → Loop (s_semigroupref01_Valid_4L_step CC w letters) (i : Int) =
  some (if wordB letters (w.drop i) then .inr ((w.length : Int), false) else .inl false) := by
  intro k
  induction k with
  | zero =>
   intro i hi
   have : i = w.length := by omega
   subst this
   refine Loop_end ?_
   unfold s_semigroupref01_Valid_4L_step s_semigroupref01_Valid_3
   simp [wordB]
  | succ k ih =>
   intro i hi
   have hlt : i < w.length := by omega
   have hb := w[i].toNat_lt
   rw [List.drop_eq_getElem_cons hlt]
   have hs : s_semigroupref01_Valid_4L_step CC w letters (i : Int) = if 97 ≤ w[i].toNat ∧ (w[i].toNat : Int) - 97 < letters then some (.inl ((i + 1 : Nat) : Int)) else some (.inr (.inl false)) := by
    unfold s_semigroupref01_Valid_4L_step s_semigroupref01_Valid_3
    simp only [bif_decide]
    rw [if_pos (by omega), if_pos (by omega)]
    simp only [Int.toNat_natCast, List.getElem?_eq_getElem hlt, Option.map_some, Option.bind_some, V.toInt_int]
    by_cases h6 : (w[i].toNat : Int) < 97
    · rw [if_pos h6, if_neg (by omega)]
    · rw [if_neg h6]
      simp (disch := omega) only [wrap8, wrap64]
      by_cases h7 : (w[i].toNat : Int) - 97 ≥ letters
      · rw [if_pos h7, if_neg (by omega)]
      · rw [if_neg h7, if_pos (by omega)]
        rfl
   unfold wordB at ih ⊢
   simp only [List.all_cons]
   by_cases hv : 97 ≤ w[i].toNat ∧ (w[i].toNat : Int) - 97 < letters
   · rw [if_pos hv] at hs
     rw [Loop_norm hs, ih (i + 1) (by omega)]
     simp [hv]
   · rw [if_neg hv] at hs
     rw [Loop_end hs]
     simp only [hv, decide_false, Bool.false_and]
     rfl
 have := key w.length 0 (by omega)
 rw [show ((0 : Nat) : Int) = 0 from rfl, List.drop_zero] at this
 rw [this]
 cases wordB letters w <;> rfl
theorem refDepth_spec (l : List Node) (root : Int) (hlen : l.length < 9223372036854775807) :
 CC F_semigroupref31_Depth [graphV l root] [] = some (.int .i64 ((if validateN l root 6 = 0 then depth l root.toNat else 0 : Nat) : Int), []) := by
 refine f_semigroupref31_Depth_of ?_
 unfold f_semigroupref31_Depth s_semigroupref31_Depth_5L
 simp only [refValidate_spec l root 6 hlen, Option.bind_some, V.toInt_int, bif_bne, bif_decide, bif_and, bif_ble]
 by_cases hv : ¬ validateN l root 6 = 0
 · rw [if_neg hv, if_neg hv]; rfl
 replace hv : validateN l root 6 = 0 := by omega
 rw [if_pos hv, if_pos hv]
 obtain ⟨_, hl20, hval, hr0, hr1⟩ := validateN_zero.1 hv
 obtain ⟨r, rfl⟩ : ∃ r : Nat, root = r := ⟨root.toNat, by omega⟩
 have hr : r < l.length := by omega
 simp only [Int.toNat_natCast, List.length_map]
 rw [if_pos (by omega), if_pos (by omega), if_pos (by unfold maxBytes; omega)]
 have key := Loop_inv (step := s_semigroupref31_Depth_5L_step CC (nodesV l) (l.length : Int))
  (fun s => ∃ (i : Nat) (D : List Nat), i ≤ l.length ∧ D.length = l.length ∧ (∀ j, j < i → D[j]? = some (depth l j)) ∧ (∀ j, i ≤ j → j < l.length → D[j]? = some 0) ∧ s = ((i : Int), natsV D))
  (fun s => ((l.length : Int) - s.1).toNat)
  (fun s => ∃ (j : Int) (b : Bool) (D : List Nat), D.length = l.length ∧ (∀ j, j < l.length → D[j]? = some (depth l j)) ∧ s = (j, b, natsV D)) (by
   rintro s ⟨i, D, h1, h2, h3, h4, rfl⟩
   unfold s_semigroupref31_Depth_5L_step s_semigroupref31_Depth_2
   simp only [bif_and, bif_decide, bif_beq, bif_bne, List.length_set]
   by_cases hi : i < l.length
   · left
     have hx : l[i]? = some l[i] := List.getElem?_eq_getElem hi
     have ok := nodeOk_iff.1 (hval.node hx)
     rw [if_pos (by omega), idx_map (n := i) rfl hi]
     simp only [Option.bind_some, Node.v, V.cell_agg, V.nth_zero, V.nth_two, V.nth_three, V.toInt_int, Int.toNat_natCast, List.length_map]
     have hde := depth_eq hval hx
     have hDi : D[i]? = some 0 := h4 i (Nat.le_refl _) hi
     have hDi' : (natsV D)[i]? = some (.int .i64 ((0 : Nat) : Int)) := natsV_of hDi
     have fin : ∀ d, d = depth l i → (∃ y, some (Sum.inl (IntKind.wrap .i64 ((i : Int) + 1), natsV (D.set i d))) = some (Sum.inl (β := Int × Bool × List V) y) ∧
      (∃ (i' : Nat) (D' : List Nat), i' ≤ l.length ∧ D'.length = l.length ∧ (∀ j, j < i' → D'[j]? = some (depth l j)) ∧ (∀ j, i' ≤ j → j < l.length → D'[j]? = some 0) ∧ y = ((i' : Int), natsV D')) ∧ ((l.length : Int) - y.1).toNat < ((l.length : Int) - (i : Int)).toNat) := by
      rintro d rfl
      refine ⟨_, rfl, ⟨i + 1, D.set i (depth l i), by omega, by simp [h2], fun j hj => ?_, fun j hj hj2 => ?_, ?_⟩, ?_⟩
      · by_cases hji : j = i
        · subst hji; exact List.getElem?_set_self (by omega)
        · rw [List.getElem?_set_ne (by omega)]; exact h3 j (by omega)
      · rw [List.getElem?_set_ne (by omega)]; exact h4 j (by omega) hj2
      · rw [wrap64 (by omega) (by omega)]; rfl
      · rw [wrap64 (by omega) (by omega)]; simp; omega
     have same : natsV D = natsV (D.set i 0) := by
      have : D.set i 0 = D := by
       apply List.ext_getElem?
       intro j
       by_cases hji : j = i
       · subst hji; rw [List.getElem?_set_self (by omega), hDi]
       · rw [List.getElem?_set_ne (by omega)]
      rw [this]
     by_cases g5 : l[i].op ≥ 5
     · have oa := ok.a g5
       have hDa : (natsV D)[l[i].a.toNat]? = some (.int .i64 ((depth l l[i].a.toNat : Nat) : Int)) := natsV_of (h3 l[i].a.toNat (by omega))
       rw [if_pos g5, if_pos oa.1, if_pos (by omega), hDa, hDi']
       simp only [Option.bind_some, V.toInt_int]
       rw [if_pos (by omega), if_pos (by omega), if_pos g5, natsV_set]
       have hself : ∀ d, (natsV (D.set i d))[i]? = some (.int .i64 ((d : Nat) : Int)) := by
        intro d
        exact natsV_of (List.getElem?_set_self (by omega))
       by_cases g8 : l[i].op = 8
       · rw [if_pos g8, if_neg (by omega)]
         exact fin _ (by rw [hde, if_neg (by omega), if_neg (by omega), if_pos g8])
       · have ob := ok.b g5 g8
         have hDb : (natsV (D.set i (depth l l[i].a.toNat)))[l[i].b.toNat]? = some (.int .i64 ((depth l l[i].b.toNat : Nat) : Int)) := by
          have := h3 l[i].b.toNat (by omega)
          exact natsV_of (by rw [List.getElem?_set_ne (by omega)]; exact this)
         rw [if_neg g8, if_pos (by omega), if_pos (by omega), hself, Option.bind_some, if_pos ob.1, if_pos (by omega), hDb]
         simp only [Option.bind_some, V.toInt_int]
         have emax : (if ((depth l l[i].b.toNat : Nat) : Int) > ((depth l l[i].a.toNat : Nat) : Int) then ((depth l l[i].b.toNat : Nat) : Int) else ((depth l l[i].a.toNat : Nat) : Int)) =
          ((max (depth l l[i].a.toNat) (depth l l[i].b.toNat) : Nat) : Int) := by
          split <;> omega
         rw [if_pos (by omega), if_pos (by omega), emax, natsV_set, List.set_set, hself]
         simp only [Option.bind_some, V.toInt_int]
         by_cases g7 : l[i].op = 7
         · have hlt : ((max (depth l l[i].a.toNat) (depth l l[i].b.toNat) : Nat) : Int) < 9223372036854775807 := by
            have := depth_le hval l[i].a.toNat
            have := depth_le hval l[i].b.toNat
            omega
           rw [if_pos g7, if_pos (by omega), if_pos (by omega)]
           have ew : IntKind.wrap .i64 (((max (depth l l[i].a.toNat) (depth l l[i].b.toNat) : Nat) : Int) + 1) = ((max (depth l l[i].a.toNat) (depth l l[i].b.toNat) + 1 : Nat) : Int) := by
            rw [wrap64 (by omega) (by omega)]; rfl
           rw [if_pos (by omega), if_pos (by omega), ew, natsV_set, List.set_set]
           exact fin _ (by rw [hde, if_neg (by omega), if_pos g7])
         · rw [if_neg g7]
           exact fin _ (by rw [hde, if_pos (by have := ok.op; omega)])
     · rw [if_neg g5, if_neg g5, if_neg (by omega), same]
       exact fin _ (by rw [hde, if_neg (by omega), if_neg (by omega), if_neg (by omega)])
   · right
     rw [if_neg (by omega)]
     exact ⟨_, rfl, _, _, D, h2, fun j hj => h3 j (by omega), rfl⟩)
 have e3 : List.replicate l.length (V.int .i64 0) = natsV (List.replicate l.length 0) := by simp
 obtain ⟨s, hs, j, b, D, hD1, hD2, rfl⟩ := key ((0 : Int), natsV (List.replicate l.length 0)) ⟨0, List.replicate l.length 0, by omega, by simp, fun j hj => by omega, fun j _ hj => by rw [List.getElem?_replicate, if_pos hj], rfl⟩
 rw [e3, hs]
 simp only [Option.bind_some, List.length_map, hD1]
 have := hD2 r (by omega)
 have : (natsV D)[r]? = some (.int .i64 ((depth l r : Nat) : Int)) := natsV_of this
 rw [if_pos (by omega), if_pos (by omega), this]
 simp
end Go.AM

set_option maxRecDepth 100000
namespace Go.AM
open Go.Proofs
/-! semigroup/semigroupref31.Cut -/
noncomputable def d26_1 (C : CallF) (g_Nodes : List V) (g_Root : Int) {β : Type} (k0 : Int → Option β) (k1 : Option β) : Option β :=
 (C F_semigroupref31_Validate [.agg [.list T_api_SfNode g_Nodes, .int .i64 g_Root], .int .i64 6] []).bind fun r7 =>
  bif (r7.1.toInt : Int) != 0 then
   k0 r7.1.toInt
  else
   bif (decide (0 ≤ (g_Nodes.length : Int))) && ((decide ((g_Nodes.length : Int) ≤ (g_Nodes.length : Int))) && (Nat.ble ((((g_Nodes.length : Int) : Int).toNat) * 1) maxBytes)) then
    bif (decide (0 ≤ g_Root)) && (decide (g_Root < ((List.replicate (((g_Nodes.length : Int) : Int).toNat) (V.bool false)).length : Int))) then
     ((List.replicate (((g_Nodes.length : Int) : Int).toNat) (V.bool false))[(g_Root : Int).toNat]?).bind fun x8 =>
      k1
    else none
   else none
noncomputable abbrev z26_0 (c0 c1 : Int) (c2 : List V) : St :=
 mk [(2, .ptr 0 0 0), (3, .int .i64 c0)] [.var [.whole T_api_SfNode 1, .int .i64 c1], .arr T_api_SfNode c2 false]
noncomputable abbrev z26_1 (c0 : Int) (c1 : List V) (c2 c3 : Int) (c4 c5 : List V) : St :=
 mk [(1, .ptr 0 0 0), (2, .ptr 1 0 0), (5, .whole T_bool 2), (6, .int .i64 c0)] [.var [.list T_api_SfNode c1, .int .i64 c2], .var [.whole T_api_SfNode 3, .int .i64 c3], .arr T_bool c4 false, .arr T_api_SfNode c5 false]
noncomputable abbrev q26_0 : List Code := codesAt Try.prog 26 [[0], [1, 0, 0], [1, 0, 1, 0], [1, 0, 1, 1], [1, 1, 0], [1, 1, 1, 0], [1, 1, 1, 1, 0, 0]]
noncomputable abbrev z26_2 (c0 : List V) (c1 : Int) : St :=
 mk [(0, .agg [.list T_api_SfNode c0, .int .i64 c1])] []
theorem h26_1_eq (C : CallF) (g_Nodes : List V) (g_Root : Int) {β : Type} (K : Out → St → Option β) :
 execL Try.prog ann C 26 111 0 (q26_0) (z26_2 g_Nodes g_Root) K =
  d26_1 C g_Nodes g_Root
   (fun (t30 : Int) => K .ret (z26_0 t30 0 ([] : List V)))
   (K .norm (z26_1 g_Root g_Nodes g_Root 0 ((List.replicate (((g_Nodes.length : Int) : Int).toNat) (V.bool false)).set ((g_Root : Int).toNat) (.bool true)) ([] : List V))) := by kernel_rfl
noncomputable def s_semigroupref31_Cut_2 (C : CallF) (i : Int) (gs_0 needs : List V) {β : Type} (k0 : (List V) → Option β) (k1 : Option β) : Option β :=
 bif decide ((i : Int) ≥ 0) then
  (idx gs_0 i).bind fun x9 =>
   bif (decide (0 ≤ i)) && (decide (i < (needs.length : Int))) then
    (needs[(i : Int).toNat]?).bind fun x10 =>
     bif x10.toBool then
      bif decide ((((x9.cell 0).toInt) : Int) ≥ 5) then
       bif (decide (0 ≤ ((x9.cell 2).toInt))) && (decide (((x9.cell 2).toInt) < (needs.length : Int))) then
        (needs[((x9.cell 2).toInt : Int).toNat]?).bind fun x11 =>
         bif (((x9.cell 0).toInt) : Int) != 8 then
          bif (decide (0 ≤ ((x9.cell 3).toInt))) && (decide (((x9.cell 3).toInt) < ((needs.set (((x9.cell 2).toInt : Int).toNat) (.bool true)).length : Int))) then
           ((needs.set (((x9.cell 2).toInt : Int).toNat) (.bool true))[((x9.cell 3).toInt : Int).toNat]?).bind fun x12 =>
            k0 ((needs.set (((x9.cell 2).toInt : Int).toNat) (.bool true)).set (((x9.cell 3).toInt : Int).toNat) (.bool true))
          else none
         else
          k0 (needs.set (((x9.cell 2).toInt : Int).toNat) (.bool true))
       else none
      else
       k0 needs
     else
      k0 needs
   else none
 else
  k1
noncomputable abbrev z26_3 (c0 : Int) (c1 : Bool) (c2 : List V) (c3 c4 : Int) (c5 c6 : List V) : St :=
 mk [(1, .ptr 0 0 0), (2, .ptr 1 0 0), (5, .whole T_bool 2), (6, .int .i64 c0), (29, .bool c1)] [.var [.list T_api_SfNode c2, .int .i64 c3], .var [.whole T_api_SfNode 3, .int .i64 c4], .arr T_bool c5 false, .arr T_api_SfNode c6 false]
noncomputable abbrev q26_1 : List Code := codesAt Try.prog 26 [[1, 1, 1, 1, 0, 1, 0, 0, 0, 0], [1, 1, 1, 1, 0, 1, 0, 0, 0, 1], [1, 1, 1, 1, 0, 1, 0, 0, 1, 0]]
theorem s_semigroupref31_Cut_2_eq (C : CallF) (i : Int) (gs_0 : List V) (gs_1 t2s_1 : Int) (needs t2_0s : List V) {β : Type} (K : Out → St → Option β) :
 execL Try.prog ann C 26 111 0 (q26_1) (z26_1 i gs_0 gs_1 t2s_1 needs t2_0s) K =
  s_semigroupref31_Cut_2 C i gs_0 needs
   (fun (needs0 : List V) => K .norm (z26_1 i gs_0 gs_1 t2s_1 needs0 t2_0s))
   (K (.exit 0) (z26_3 i (decide ((i : Int) ≥ 0)) gs_0 gs_1 t2s_1 needs t2_0s)) := by kernel_rfl
noncomputable def d26_3 (C : CallF)  {β : Type} (k0 : Option β) : Option β :=
 k0
noncomputable abbrev q26_2 : List Code := codesAt Try.prog 26 [[1, 1, 1, 1, 0, 1, 0, 0, 1, 1]]
theorem h26_3_eq (C : CallF) (i : Int) (gs_0 : List V) (gs_1 t2s_1 : Int) (needs t2_0s : List V) {β : Type} (K : Out → St → Option β) :
 execL Try.prog ann C 26 111 0 (q26_2) (z26_1 i gs_0 gs_1 t2s_1 needs t2_0s) K =
  d26_3 C
   (K .norm (z26_1 (IntKind.wrap .i64 (i - 1)) gs_0 gs_1 t2s_1 needs t2_0s)) := by kernel_rfl
noncomputable def d26_4 (C : CallF) (i : Int) (gs_0 needs : List V) {β : Type} (k0 : (List V) → Option β) (k1 : Option β) : Option β :=
 s_semigroupref31_Cut_2 C i gs_0 needs
  (fun (needs_17 : List V) =>
   d26_3 C
    (
     k0 needs_17))
  (
   k1)
noncomputable abbrev q26_3 : List Code := codesAt Try.prog 26 [[1, 1, 1, 1, 0, 1, 0, 0, 0, 0], [1, 1, 1, 1, 0, 1, 0, 0, 0, 1], [1, 1, 1, 1, 0, 1, 0, 0, 1, 0], [1, 1, 1, 1, 0, 1, 0, 0, 1, 1]]
theorem h26_4_eq (C : CallF) (i : Int) (gs_0 : List V) (gs_1 t2s_1 : Int) (needs t2_0s : List V) {β : Type} (K : Out → St → Option β) :
 execL Try.prog ann C 26 111 0 (q26_3) (z26_1 i gs_0 gs_1 t2s_1 needs t2_0s) K =
  d26_4 C i gs_0 needs
   (fun (needs0 : List V) => K .norm (z26_1 (IntKind.wrap .i64 (i - 1)) gs_0 gs_1 t2s_1 needs0 t2_0s))
   (K (.exit 0) (z26_3 i (decide ((i : Int) ≥ 0)) gs_0 gs_1 t2s_1 needs t2_0s)) := by
 refine Eq.trans (execL_app (P := Try.prog) (A := ann) (C := C) (f := 26) (n := 111) (m := 0) (q26_1) (q26_2) (st := z26_1 i gs_0 gs_1 t2s_1 needs t2_0s) (K := K)) (Eq.trans (s_semigroupref31_Cut_2_eq C i gs_0 gs_1 t2s_1 needs t2_0s (seqK Try.prog ann C 26 111 0 (q26_2) K)) ?_)
 · exact Eq.trans (by kernel_rfl) (Eq.trans (congrArg (fun HOLE : (List V) → Option β => s_semigroupref31_Cut_2 C i gs_0 needs HOLE (K (.exit 0) (z26_3 i (decide ((i : Int) ≥ 0)) gs_0 gs_1 t2s_1 needs t2_0s))) (funext fun (needs0 : List V) => h26_3_eq C i gs_0 gs_1 t2s_1 needs0 t2_0s K)) ((by kernel_rfl)))
noncomputable def s_semigroupref31_Cut_5L_step (C : CallF) (gs_0 : List V) : (Int × (List V)) → Option ((Int × (List V)) ⊕ ((Int × Bool × (List V)))) := fun (i, needs) =>
 s_semigroupref31_Cut_2 C i gs_0 needs
  (fun (needs_18 : List V) =>
   some (.inl (IntKind.wrap .i64 (i - 1), needs_18)))
  (
   some (.inr (i, decide ((i : Int) ≥ 0), needs)))
noncomputable def s_semigroupref31_Cut_5L (C : CallF) (i : Int) (gs_0 needs : List V) {β : Type} (k0 : Int → Bool → (List V) → Option β) : Option β :=
 (Loop (s_semigroupref31_Cut_5L_step C gs_0) (i, needs)).bind fun (i0, t290, needs0) => k0 i0 t290 needs0
noncomputable def s_semigroupref31_Cut_5L_dec : Out → St → Option ((Int × (List V)) ⊕ ((Int × Bool × (List V)))) := fun o st => match o with
 | .norm => some (.inl (V.toInt (st.sl 6), arrOf (st.hp 2)))
 | .exit q => bif Nat.beq q 0 then some (.inr (V.toInt (st.sl 6), V.toBool (st.sl 29), arrOf (st.hp 2))) else none
 | .ret => none
noncomputable def s_semigroupref31_Cut_5L_hd (gs_0 : List V) (gs_1 t2s_1 : Int) (t2_0s : List V) : (Int × (List V)) → St := fun (i, needs) => z26_1 i gs_0 gs_1 t2s_1 needs t2_0s
noncomputable def s_semigroupref31_Cut_5L_enc (gs_0 : List V) (gs_1 t2s_1 : Int) (t2_0s : List V) : ((Int × Bool × (List V))) → Out × St := fun (i0, t290, needs0) => (.exit 0, z26_3 i0 t290 gs_0 gs_1 t2s_1 needs0 t2_0s)
noncomputable abbrev q26_4 : List Code := codesAt Try.prog 26 [[1, 1, 1, 1, 0, 1, 0, 0]]
theorem s_semigroupref31_Cut_5L_eq (C : CallF) (i : Int) (gs_0 : List V) (gs_1 t2s_1 : Int) (needs t2_0s : List V) {β : Type} (K : Out → St → Option β) :
 execL Try.prog ann C 26 111 0 (codesAt Try.prog 26 [[1, 1, 1, 1, 0, 1, 0]]) (z26_1 i gs_0 gs_1 t2s_1 needs t2_0s) K =
  s_semigroupref31_Cut_5L C i gs_0 needs
   (fun (i0 : Int) (t290 : Bool) (needs0 : List V) => K (.exit 0) (z26_3 i0 t290 gs_0 gs_1 t2s_1 needs0 t2_0s)) := by
 have hitems : flatC (codeAt [1, 1, 1, 1, 0, 1, 0, 0] (bodyOf Try.prog 26)) = q26_3 := by kernel_rfl
 have hloop : [codeAt [1, 1, 1, 1, 0, 1, 0] (bodyOf Try.prog 26)] = [Code.loop (codeAt [1, 1, 1, 1, 0, 1, 0, 0] (bodyOf Try.prog 26))] := by kernel_rfl
 have h := loopK_eq (P := Try.prog) (A := ann) (C := C) (f := 26) (n := 111) (m := 0) (c := codeAt [1, 1, 1, 1, 0, 1, 0, 0] (bodyOf Try.prog 26)) (s_semigroupref31_Cut_5L_hd gs_0 gs_1 t2s_1 t2_0s) (s_semigroupref31_Cut_5L_enc gs_0 gs_1 t2s_1 t2_0s) s_semigroupref31_Cut_5L_dec (s_semigroupref31_Cut_5L_step C gs_0)
  (by rintro ⟨i, needs⟩; exact Eq.trans (execK_items hitems) (Eq.trans (h26_4_eq C i gs_0 gs_1 t2s_1 needs t2_0s s_semigroupref31_Cut_5L_dec) (by kernel_rfl)))
  (by rintro ⟨i, needs⟩; exact Eq.trans (execK_items hitems) (Eq.trans (h26_4_eq C i gs_0 gs_1 t2s_1 needs t2_0s (fun o st => some (o, st))) (Eq.trans (by kernel_rfl) (Eq.trans (h26_4_eq C i gs_0 gs_1 t2s_1 needs t2_0s (fun o st => (s_semigroupref31_Cut_5L_dec o st).map (outS (s_semigroupref31_Cut_5L_hd gs_0 gs_1 t2s_1 t2_0s) (s_semigroupref31_Cut_5L_enc gs_0 gs_1 t2s_1 t2_0s)))).symm (execK_items hitems).symm))))
  (by intro r; intro h; cases h) (i, needs) K
 refine Eq.trans (congrArg (fun l => execL Try.prog ann C 26 111 0 l (z26_1 i gs_0 gs_1 t2s_1 needs t2_0s) K) hloop) (Eq.trans h ?_)
 · refine congrArg _ (funext fun r => ?_)
   rfl
noncomputable def d26_6 (C : CallF) (i : Int) (gs_0 needs : List V) {β : Type} (k0 : (List V) → Option β) : Option β :=
 s_semigroupref31_Cut_5L C i gs_0 needs
  (fun (i_19 : Int) (t_20 : Bool) (needs_21 : List V) =>
   k0 needs_21)
noncomputable abbrev z26_4 (c0 : List V) (c1 c2 : Int) (c3 c4 : List V) : St :=
 mk [(1, .ptr 0 0 0), (2, .ptr 1 0 0), (5, .whole T_bool 2)] [.var [.list T_api_SfNode c0, .int .i64 c1], .var [.whole T_api_SfNode 3, .int .i64 c2], .arr T_bool c3 false, .arr T_api_SfNode c4 false]
theorem h26_6_eq (C : CallF) (i : Int) (gs_0 : List V) (gs_1 t2s_1 : Int) (needs t2_0s : List V) {β : Type} (K : Out → St → Option β) :
 execL Try.prog ann C 26 111 0 (codesAt Try.prog 26 [[1, 1, 1, 1, 0, 1]]) (z26_1 i gs_0 gs_1 t2s_1 needs t2_0s) K =
  d26_6 C i gs_0 needs
   (fun (needs0 : List V) => K .norm (z26_4 gs_0 gs_1 t2s_1 needs0 t2_0s)) := Eq.trans (execL_block (P := Try.prog) (A := ann) (C := C) (f := 26) (n := 111) (m := 0) (id := 0) (c := codeAt [1, 1, 1, 1, 0, 1] (bodyOf Try.prog 26)) (d := codeAt [1, 1, 1, 1, 0, 1, 0] (bodyOf Try.prog 26)) (l := codesAt Try.prog 26 [[1, 1, 1, 1, 0, 1, 0]]) (st := z26_1 i gs_0 gs_1 t2s_1 needs t2_0s) (K := K) (by kernel_rfl) (by kernel_rfl)) (Eq.trans (s_semigroupref31_Cut_5L_eq C i gs_0 gs_1 t2s_1 needs t2_0s (blockK ann 26 0 0 K)) (by kernel_rfl))
noncomputable def d26_7 (C : CallF) (gs_0 : List V) {β : Type} (k0 : Option β) : Option β :=
 bif (decide (0 ≤ (gs_0.length : Int))) && ((decide ((gs_0.length : Int) ≤ (gs_0.length : Int))) && (Nat.ble ((((gs_0.length : Int) : Int).toNat) * 8) maxBytes)) then
  k0
 else none
noncomputable abbrev z26_5 (c0 : List V) (c1 c2 c3 : Int) (c4 : List V) (c5 : Int) (c6 c7 c8 : List V) : St :=
 mk [(2, .ptr 0 0 0), (5, .whole T_bool 1), (8, .ptr 2 0 0), (9, .whole T_int 3), (62, .list T_api_SfNode c0), (63, .int .i64 c1), (64, .int .i64 c2)] [.var [.whole T_api_SfNode 4, .int .i64 c3], .arr T_bool c4 false, .var [.whole T_api_SfNode 5, .int .i64 c5], .arr T_int c6 false, .arr T_api_SfNode c7 false, .arr T_api_SfNode c8 false]
noncomputable abbrev q26_5 : List Code := codesAt Try.prog 26 [[1, 1, 1, 1, 1, 0], [1, 1, 1, 1, 1, 1, 0], [1, 1, 1, 1, 1, 1, 1, 0, 0]]
theorem h26_7_eq (C : CallF) (gs_0 : List V) (gs_1 t2s_1 : Int) (needs t2_0s : List V) {β : Type} (K : Out → St → Option β) :
 execL Try.prog ann C 26 111 0 (q26_5) (z26_4 gs_0 gs_1 t2s_1 needs t2_0s) K =
  d26_7 C gs_0
   (K .norm (z26_5 gs_0 (gs_0.length : Int) 0 t2s_1 needs 0 (List.replicate (((gs_0.length : Int) : Int).toNat) (V.int .i64 0)) t2_0s ([] : List V))) := by kernel_rfl
noncomputable def s_semigroupref31_Cut_8 (C : CallF) (t62 : List V) (t63 t64 : Int) (needs at's out_0s : List V) {β : Type} (k0 : (List V) → (List V) → Option β) (k1 : Option β) : Option β :=
 bif decide ((t64 : Int) < t63) then
  (idx t62 t64).bind fun x25 =>
   bif (decide (0 ≤ t64)) && (decide (t64 < (needs.length : Int))) then
    (needs[(t64 : Int).toNat]?).bind fun x26 =>
     bif !x26.toBool then
      k0 at's out_0s
     else
      bif decide ((((x25.cell 0).toInt) : Int) ≥ 5) then
       bif (decide (0 ≤ ((x25.cell 2).toInt))) && (decide (((x25.cell 2).toInt) < (at's.length : Int))) then
        (at's[((x25.cell 2).toInt : Int).toNat]?).bind fun x27 =>
         bif (((x25.cell 0).toInt) : Int) != 8 then
          bif (decide (0 ≤ ((x25.cell 3).toInt))) && (decide (((x25.cell 3).toInt) < (at's.length : Int))) then
           (at's[((x25.cell 3).toInt : Int).toNat]?).bind fun x28 =>
            bif (decide (0 ≤ t64)) && (decide (t64 < (at's.length : Int))) then
             (at's[(t64 : Int).toNat]?).bind fun x29 =>
              bif Nat.ble ((out_0s.length + ([.agg [.int .i64 ((x25.cell 0).toInt), .int .i64 ((x25.cell 1).toInt), .int .i64 x27.toInt, .int .i64 x28.toInt]] : List V).length) * 32) maxBytes then
               k0 (at's.set ((t64 : Int).toNat) (.int .i64 (out_0s.length : Int))) (out_0s ++ ([.agg [.int .i64 ((x25.cell 0).toInt), .int .i64 ((x25.cell 1).toInt), .int .i64 x27.toInt, .int .i64 x28.toInt]] : List V))
              else none
            else none
          else none
         else
          bif (decide (0 ≤ t64)) && (decide (t64 < (at's.length : Int))) then
           (at's[(t64 : Int).toNat]?).bind fun x30 =>
            bif Nat.ble ((out_0s.length + ([.agg [.int .i64 ((x25.cell 0).toInt), .int .i64 ((x25.cell 1).toInt), .int .i64 x27.toInt, .int .i64 ((x25.cell 3).toInt)]] : List V).length) * 32) maxBytes then
             k0 (at's.set ((t64 : Int).toNat) (.int .i64 (out_0s.length : Int))) (out_0s ++ ([.agg [.int .i64 ((x25.cell 0).toInt), .int .i64 ((x25.cell 1).toInt), .int .i64 x27.toInt, .int .i64 ((x25.cell 3).toInt)]] : List V))
            else none
          else none
       else none
      else
       bif (decide (0 ≤ t64)) && (decide (t64 < (at's.length : Int))) then
        (at's[(t64 : Int).toNat]?).bind fun x31 =>
         bif Nat.ble ((out_0s.length + ([.agg [.int .i64 ((x25.cell 0).toInt), .int .i64 ((x25.cell 1).toInt), .int .i64 ((x25.cell 2).toInt), .int .i64 ((x25.cell 3).toInt)]] : List V).length) * 32) maxBytes then
          k0 (at's.set ((t64 : Int).toNat) (.int .i64 (out_0s.length : Int))) (out_0s ++ ([.agg [.int .i64 ((x25.cell 0).toInt), .int .i64 ((x25.cell 1).toInt), .int .i64 ((x25.cell 2).toInt), .int .i64 ((x25.cell 3).toInt)]] : List V))
         else none
       else none
   else none
 else
  k1
noncomputable abbrev z26_6 (c0 : List V) (c1 c2 : Int) (c3 : Bool) (c4 : Int) (c5 : List V) (c6 : Int) (c7 c8 c9 : List V) : St :=
 mk [(2, .ptr 0 0 0), (5, .whole T_bool 1), (8, .ptr 2 0 0), (9, .whole T_int 3), (62, .list T_api_SfNode c0), (63, .int .i64 c1), (64, .int .i64 c2), (65, .bool c3)] [.var [.whole T_api_SfNode 4, .int .i64 c4], .arr T_bool c5 false, .var [.whole T_api_SfNode 5, .int .i64 c6], .arr T_int c7 false, .arr T_api_SfNode c8 false, .arr T_api_SfNode c9 false]
noncomputable abbrev q26_6 : List Code := codesAt Try.prog 26 [[1, 1, 1, 1, 1, 1, 1, 0, 1, 0, 0, 0], [1, 1, 1, 1, 1, 1, 1, 0, 1, 0, 0, 1, 0], [1, 1, 1, 1, 1, 1, 1, 0, 1, 0, 0, 1, 1, 0]]
theorem s_semigroupref31_Cut_8_eq (C : CallF) (t62 : List V) (t63 t64 t2s_1 : Int) (needs : List V) (outs_1 : Int) (at's t2_0s out_0s : List V) {β : Type} (K : Out → St → Option β) :
 execL Try.prog ann C 26 111 0 (q26_6) (z26_5 t62 t63 t64 t2s_1 needs outs_1 at's t2_0s out_0s) K =
  s_semigroupref31_Cut_8 C t62 t63 t64 needs at's out_0s
   (fun (at's0 : List V) (out_0s0 : List V) => K .norm (z26_5 t62 t63 t64 t2s_1 needs outs_1 at's0 t2_0s out_0s0))
   (K (.exit 2) (z26_6 t62 t63 t64 (decide ((t64 : Int) < t63)) t2s_1 needs outs_1 at's t2_0s out_0s)) := by kernel_rfl
noncomputable def d26_9 (C : CallF)  {β : Type} (k0 : Option β) : Option β :=
 k0
noncomputable abbrev q26_7 : List Code := codesAt Try.prog 26 [[1, 1, 1, 1, 1, 1, 1, 0, 1, 0, 0, 1, 1, 1]]
theorem h26_9_eq (C : CallF) (t62 : List V) (t63 t64 t2s_1 : Int) (needs : List V) (outs_1 : Int) (at's t2_0s out_0s : List V) {β : Type} (K : Out → St → Option β) :
 execL Try.prog ann C 26 111 0 (q26_7) (z26_5 t62 t63 t64 t2s_1 needs outs_1 at's t2_0s out_0s) K =
  d26_9 C
   (K .norm (z26_5 t62 t63 (IntKind.wrap .i64 (t64 + 1)) t2s_1 needs outs_1 at's t2_0s out_0s)) := by kernel_rfl
noncomputable def d26_10 (C : CallF) (t62 : List V) (t63 t64 : Int) (needs at's out_0s : List V) {β : Type} (k0 : (List V) → (List V) → Option β) (k1 : Option β) : Option β :=
 s_semigroupref31_Cut_8 C t62 t63 t64 needs at's out_0s
  (fun (at's_39 : List V) (out_0s_40 : List V) =>
   d26_9 C
    (
     k0 at's_39 out_0s_40))
  (
   k1)
noncomputable abbrev q26_8 : List Code := codesAt Try.prog 26 [[1, 1, 1, 1, 1, 1, 1, 0, 1, 0, 0, 0], [1, 1, 1, 1, 1, 1, 1, 0, 1, 0, 0, 1, 0], [1, 1, 1, 1, 1, 1, 1, 0, 1, 0, 0, 1, 1, 0], [1, 1, 1, 1, 1, 1, 1, 0, 1, 0, 0, 1, 1, 1]]
theorem h26_10_eq (C : CallF) (t62 : List V) (t63 t64 t2s_1 : Int) (needs : List V) (outs_1 : Int) (at's t2_0s out_0s : List V) {β : Type} (K : Out → St → Option β) :
 execL Try.prog ann C 26 111 0 (q26_8) (z26_5 t62 t63 t64 t2s_1 needs outs_1 at's t2_0s out_0s) K =
  d26_10 C t62 t63 t64 needs at's out_0s
   (fun (at's0 : List V) (out_0s0 : List V) => K .norm (z26_5 t62 t63 (IntKind.wrap .i64 (t64 + 1)) t2s_1 needs outs_1 at's0 t2_0s out_0s0))
   (K (.exit 2) (z26_6 t62 t63 t64 (decide ((t64 : Int) < t63)) t2s_1 needs outs_1 at's t2_0s out_0s)) := by
 refine Eq.trans (execL_app (P := Try.prog) (A := ann) (C := C) (f := 26) (n := 111) (m := 0) (q26_6) (q26_7) (st := z26_5 t62 t63 t64 t2s_1 needs outs_1 at's t2_0s out_0s) (K := K)) (Eq.trans (s_semigroupref31_Cut_8_eq C t62 t63 t64 t2s_1 needs outs_1 at's t2_0s out_0s (seqK Try.prog ann C 26 111 0 (q26_7) K)) ?_)
 · exact Eq.trans (by kernel_rfl) (Eq.trans (congrArg (fun HOLE : (List V) → (List V) → Option β => s_semigroupref31_Cut_8 C t62 t63 t64 needs at's out_0s HOLE (K (.exit 2) (z26_6 t62 t63 t64 (decide ((t64 : Int) < t63)) t2s_1 needs outs_1 at's t2_0s out_0s))) (funext fun (at's0 : List V) => funext fun (out_0s0 : List V) => h26_9_eq C t62 t63 t64 t2s_1 needs outs_1 at's0 t2_0s out_0s0 K)) ((by kernel_rfl)))
noncomputable def s_semigroupref31_Cut_11L_step (C : CallF) (t62 : List V) (t63 : Int) (needs : List V) : (Int × (List V) × (List V)) → Option ((Int × (List V) × (List V)) ⊕ ((Int × Bool × (List V) × (List V)))) := fun (t64, at's, out_0s) =>
 s_semigroupref31_Cut_8 C t62 t63 t64 needs at's out_0s
  (fun (at's_41 : List V) (out_0s_42 : List V) =>
   some (.inl (IntKind.wrap .i64 (t64 + 1), at's_41, out_0s_42)))
  (
   some (.inr (t64, decide ((t64 : Int) < t63), at's, out_0s)))
noncomputable def s_semigroupref31_Cut_11L (C : CallF) (t62 : List V) (t63 t64 : Int) (needs at's out_0s : List V) {β : Type} (k0 : Int → Bool → (List V) → (List V) → Option β) : Option β :=
 (Loop (s_semigroupref31_Cut_11L_step C t62 t63 needs) (t64, at's, out_0s)).bind fun (t640, t650, at's0, out_0s0) => k0 t640 t650 at's0 out_0s0
noncomputable def s_semigroupref31_Cut_11L_dec : Out → St → Option ((Int × (List V) × (List V)) ⊕ ((Int × Bool × (List V) × (List V)))) := fun o st => match o with
 | .norm => some (.inl (V.toInt (st.sl 64), arrOf (st.hp 3), arrOf (st.hp 5)))
 | .exit q => bif Nat.beq q 2 then some (.inr (V.toInt (st.sl 64), V.toBool (st.sl 65), arrOf (st.hp 3), arrOf (st.hp 5))) else none
 | .ret => none
noncomputable def s_semigroupref31_Cut_11L_hd (t62 : List V) (t63 t2s_1 : Int) (needs : List V) (outs_1 : Int) (t2_0s : List V) : (Int × (List V) × (List V)) → St := fun (t64, at's, out_0s) => z26_5 t62 t63 t64 t2s_1 needs outs_1 at's t2_0s out_0s
noncomputable def s_semigroupref31_Cut_11L_enc (t62 : List V) (t63 t2s_1 : Int) (needs : List V) (outs_1 : Int) (t2_0s : List V) : ((Int × Bool × (List V) × (List V))) → Out × St := fun (t640, t650, at's0, out_0s0) => (.exit 2, z26_6 t62 t63 t640 t650 t2s_1 needs outs_1 at's0 t2_0s out_0s0)
noncomputable abbrev q26_9 : List Code := codesAt Try.prog 26 [[1, 1, 1, 1, 1, 1, 1, 0, 1, 0, 0]]
noncomputable abbrev q26_10 : List Code := codesAt Try.prog 26 [[1, 1, 1, 1, 1, 1, 1, 0, 1, 0]]
theorem s_semigroupref31_Cut_11L_eq (C : CallF) (t62 : List V) (t63 t64 t2s_1 : Int) (needs : List V) (outs_1 : Int) (at's t2_0s out_0s : List V) {β : Type} (K : Out → St → Option β) :
 execL Try.prog ann C 26 111 0 (q26_10) (z26_5 t62 t63 t64 t2s_1 needs outs_1 at's t2_0s out_0s) K =
  s_semigroupref31_Cut_11L C t62 t63 t64 needs at's out_0s
   (fun (t640 : Int) (t650 : Bool) (at's0 : List V) (out_0s0 : List V) => K (.exit 2) (z26_6 t62 t63 t640 t650 t2s_1 needs outs_1 at's0 t2_0s out_0s0)) := by
 have hitems : flatC (codeAt [1, 1, 1, 1, 1, 1, 1, 0, 1, 0, 0] (bodyOf Try.prog 26)) = q26_8 := by kernel_rfl
 have hloop : [codeAt [1, 1, 1, 1, 1, 1, 1, 0, 1, 0] (bodyOf Try.prog 26)] = [Code.loop (codeAt [1, 1, 1, 1, 1, 1, 1, 0, 1, 0, 0] (bodyOf Try.prog 26))] := by kernel_rfl
 have h := loopK_eq (P := Try.prog) (A := ann) (C := C) (f := 26) (n := 111) (m := 0) (c := codeAt [1, 1, 1, 1, 1, 1, 1, 0, 1, 0, 0] (bodyOf Try.prog 26)) (s_semigroupref31_Cut_11L_hd t62 t63 t2s_1 needs outs_1 t2_0s) (s_semigroupref31_Cut_11L_enc t62 t63 t2s_1 needs outs_1 t2_0s) s_semigroupref31_Cut_11L_dec (s_semigroupref31_Cut_11L_step C t62 t63 needs)
  (by rintro ⟨t64, at's, out_0s⟩; exact Eq.trans (execK_items hitems) (Eq.trans (h26_10_eq C t62 t63 t64 t2s_1 needs outs_1 at's t2_0s out_0s s_semigroupref31_Cut_11L_dec) (by kernel_rfl)))
  (by rintro ⟨t64, at's, out_0s⟩; exact Eq.trans (execK_items hitems) (Eq.trans (h26_10_eq C t62 t63 t64 t2s_1 needs outs_1 at's t2_0s out_0s (fun o st => some (o, st))) (Eq.trans (by kernel_rfl) (Eq.trans (h26_10_eq C t62 t63 t64 t2s_1 needs outs_1 at's t2_0s out_0s (fun o st => (s_semigroupref31_Cut_11L_dec o st).map (outS (s_semigroupref31_Cut_11L_hd t62 t63 t2s_1 needs outs_1 t2_0s) (s_semigroupref31_Cut_11L_enc t62 t63 t2s_1 needs outs_1 t2_0s)))).symm (execK_items hitems).symm))))
  (by intro r; intro h; cases h) (t64, at's, out_0s) K
 refine Eq.trans (congrArg (fun l => execL Try.prog ann C 26 111 0 l (z26_5 t62 t63 t64 t2s_1 needs outs_1 at's t2_0s out_0s) K) hloop) (Eq.trans h ?_)
 · refine congrArg _ (funext fun r => ?_)
   rfl
noncomputable def d26_12 (C : CallF) (t62 : List V) (t63 t64 : Int) (needs at's out_0s : List V) {β : Type} (k0 : (List V) → Option β) : Option β :=
 s_semigroupref31_Cut_11L C t62 t63 t64 needs at's out_0s
  (fun (t_43 : Int) (t_44 : Bool) (at's_45 : List V) (out_0s_46 : List V) =>
   k0 out_0s_46)
noncomputable abbrev z26_7 (c0 c1 : Int) (c2 c3 : List V) : St :=
 mk [(2, .ptr 0 0 0), (8, .ptr 1 0 0)] [.var [.whole T_api_SfNode 2, .int .i64 c0], .var [.whole T_api_SfNode 3, .int .i64 c1], .arr T_api_SfNode c2 false, .arr T_api_SfNode c3 false]
noncomputable abbrev q26_11 : List Code := codesAt Try.prog 26 [[1, 1, 1, 1, 1, 1, 1, 0, 1]]
theorem h26_12_eq (C : CallF) (t62 : List V) (t63 t64 t2s_1 : Int) (needs : List V) (outs_1 : Int) (at's t2_0s out_0s : List V) {β : Type} (K : Out → St → Option β) :
 execL Try.prog ann C 26 111 0 (q26_11) (z26_5 t62 t63 t64 t2s_1 needs outs_1 at's t2_0s out_0s) K =
  d26_12 C t62 t63 t64 needs at's out_0s
   (fun (out_0s0 : List V) => K .norm (z26_7 t2s_1 outs_1 t2_0s out_0s0)) := Eq.trans (execL_block (P := Try.prog) (A := ann) (C := C) (f := 26) (n := 111) (m := 0) (id := 2) (c := codeAt [1, 1, 1, 1, 1, 1, 1, 0, 1] (bodyOf Try.prog 26)) (d := codeAt [1, 1, 1, 1, 1, 1, 1, 0, 1, 0] (bodyOf Try.prog 26)) (l := q26_10) (st := z26_5 t62 t63 t64 t2s_1 needs outs_1 at's t2_0s out_0s) (K := K) (by kernel_rfl) (by kernel_rfl)) (Eq.trans (s_semigroupref31_Cut_11L_eq C t62 t63 t64 t2s_1 needs outs_1 at's t2_0s out_0s (blockK ann 26 0 2 K)) (by kernel_rfl))
noncomputable def d26_13 (C : CallF)  {β : Type} (k0 : Option β) : Option β :=
 k0
noncomputable abbrev q26_12 : List Code := codesAt Try.prog 26 [[1, 1, 1, 1, 1, 1, 1, 1, 0], [1, 1, 1, 1, 1, 1, 1, 1, 1, 0], [1, 1, 1, 1, 1, 1, 1, 1, 1, 1]]
theorem h26_13_eq (C : CallF) (t2s_1 outs_1 : Int) (t2_0s out_0s : List V) {β : Type} (K : Out → St → Option β) :
 execL Try.prog ann C 26 111 0 (q26_12) (z26_7 t2s_1 outs_1 t2_0s out_0s) K =
  d26_13 C
   (K .ret (z26_0 0 (IntKind.wrap .i64 ((out_0s.length : Int) - 1)) out_0s)) := by kernel_rfl
noncomputable def d26_14 (C : CallF) (t62 : List V) (t63 t64 : Int) (needs at's out_0s : List V) {β : Type} (k0 : Int → (List V) → Option β) : Option β :=
 d26_12 C t62 t63 t64 needs at's out_0s
  (fun (out_0s_51 : List V) =>
   d26_13 C
    (
     k0 (IntKind.wrap .i64 ((out_0s_51.length : Int) - 1)) out_0s_51))
noncomputable abbrev q26_13 : List Code := codesAt Try.prog 26 [[1, 1, 1, 1, 1, 1, 1, 0, 1], [1, 1, 1, 1, 1, 1, 1, 1, 0], [1, 1, 1, 1, 1, 1, 1, 1, 1, 0], [1, 1, 1, 1, 1, 1, 1, 1, 1, 1]]
theorem h26_14_eq (C : CallF) (t62 : List V) (t63 t64 t2s_1 : Int) (needs : List V) (outs_1 : Int) (at's t2_0s out_0s : List V) {β : Type} (K : Out → St → Option β) :
 execL Try.prog ann C 26 111 0 (q26_13) (z26_5 t62 t63 t64 t2s_1 needs outs_1 at's t2_0s out_0s) K =
  d26_14 C t62 t63 t64 needs at's out_0s
   (fun (t2s_10 : Int) (t2_0s0 : List V) => K .ret (z26_0 0 t2s_10 t2_0s0)) := by
 refine Eq.trans (execL_app (P := Try.prog) (A := ann) (C := C) (f := 26) (n := 111) (m := 0) (q26_11) (q26_12) (st := z26_5 t62 t63 t64 t2s_1 needs outs_1 at's t2_0s out_0s) (K := K)) (Eq.trans (h26_12_eq C t62 t63 t64 t2s_1 needs outs_1 at's t2_0s out_0s (seqK Try.prog ann C 26 111 0 (q26_12) K)) ?_)
 · exact Eq.trans (by kernel_rfl) (Eq.trans (congrArg (fun HOLE : (List V) → Option β => d26_12 C t62 t63 t64 needs at's out_0s HOLE) (funext fun (out_0s0 : List V) => h26_13_eq C t2s_1 outs_1 t2_0s out_0s0 K)) ((by kernel_rfl)))
noncomputable def d26_15 (C : CallF) (gs_0 needs : List V) {β : Type} (k0 : Int → (List V) → Option β) : Option β :=
 d26_7 C gs_0
  (
   d26_14 C gs_0 (gs_0.length : Int) 0 needs (List.replicate (((gs_0.length : Int) : Int).toNat) (V.int .i64 0)) ([] : List V)
    (fun (t2s_52 : Int) (t2_0s_53 : List V) =>
     k0 t2s_52 t2_0s_53))
noncomputable abbrev q26_14 : List Code := codesAt Try.prog 26 [[1, 1, 1, 1, 1, 0], [1, 1, 1, 1, 1, 1, 0], [1, 1, 1, 1, 1, 1, 1, 0, 0], [1, 1, 1, 1, 1, 1, 1, 0, 1], [1, 1, 1, 1, 1, 1, 1, 1, 0], [1, 1, 1, 1, 1, 1, 1, 1, 1, 0], [1, 1, 1, 1, 1, 1, 1, 1, 1, 1]]
theorem h26_15_eq (C : CallF) (gs_0 : List V) (gs_1 t2s_1 : Int) (needs t2_0s : List V) {β : Type} (K : Out → St → Option β) :
 execL Try.prog ann C 26 111 0 (q26_14) (z26_4 gs_0 gs_1 t2s_1 needs t2_0s) K =
  d26_15 C gs_0 needs
   (fun (t2s_10 : Int) (t2_0s0 : List V) => K .ret (z26_0 0 t2s_10 t2_0s0)) := by
 refine Eq.trans (execL_app (P := Try.prog) (A := ann) (C := C) (f := 26) (n := 111) (m := 0) (q26_5) (q26_13) (st := z26_4 gs_0 gs_1 t2s_1 needs t2_0s) (K := K)) (Eq.trans (h26_7_eq C gs_0 gs_1 t2s_1 needs t2_0s (seqK Try.prog ann C 26 111 0 (q26_13) K)) ?_)
 · exact Eq.trans (by kernel_rfl) (Eq.trans (congrArg (fun HOLE : Option β => d26_7 C gs_0 HOLE) (h26_14_eq C gs_0 (gs_0.length : Int) 0 t2s_1 needs 0 (List.replicate (((gs_0.length : Int) : Int).toNat) (V.int .i64 0)) t2_0s ([] : List V) K)) ((by kernel_rfl)))
noncomputable def d26_16 (C : CallF) (i : Int) (gs_0 needs : List V) {β : Type} (k0 : Int → (List V) → Option β) : Option β :=
 d26_6 C i gs_0 needs
  (fun (needs_54 : List V) =>
   d26_15 C gs_0 needs_54
    (fun (t2s_55 : Int) (t2_0s_56 : List V) =>
     k0 t2s_55 t2_0s_56))
noncomputable abbrev q26_15 : List Code := codesAt Try.prog 26 [[1, 1, 1, 1, 0, 1], [1, 1, 1, 1, 1, 0], [1, 1, 1, 1, 1, 1, 0], [1, 1, 1, 1, 1, 1, 1, 0, 0], [1, 1, 1, 1, 1, 1, 1, 0, 1], [1, 1, 1, 1, 1, 1, 1, 1, 0], [1, 1, 1, 1, 1, 1, 1, 1, 1, 0], [1, 1, 1, 1, 1, 1, 1, 1, 1, 1]]
theorem h26_16_eq (C : CallF) (i : Int) (gs_0 : List V) (gs_1 t2s_1 : Int) (needs t2_0s : List V) {β : Type} (K : Out → St → Option β) :
 execL Try.prog ann C 26 111 0 (q26_15) (z26_1 i gs_0 gs_1 t2s_1 needs t2_0s) K =
  d26_16 C i gs_0 needs
   (fun (t2s_10 : Int) (t2_0s0 : List V) => K .ret (z26_0 0 t2s_10 t2_0s0)) := by
 refine Eq.trans (execL_app (P := Try.prog) (A := ann) (C := C) (f := 26) (n := 111) (m := 0) (codesAt Try.prog 26 [[1, 1, 1, 1, 0, 1]]) (q26_14) (st := z26_1 i gs_0 gs_1 t2s_1 needs t2_0s) (K := K)) (Eq.trans (h26_6_eq C i gs_0 gs_1 t2s_1 needs t2_0s (seqK Try.prog ann C 26 111 0 (q26_14) K)) ?_)
 · exact Eq.trans (by kernel_rfl) (Eq.trans (congrArg (fun HOLE : (List V) → Option β => d26_6 C i gs_0 needs HOLE) (funext fun (needs0 : List V) => h26_15_eq C gs_0 gs_1 t2s_1 needs0 t2_0s K)) ((by kernel_rfl)))
noncomputable def d26_17 (C : CallF) (g_Nodes : List V) (g_Root : Int) {β : Type} (k0 : Int → Int → (List V) → Option β) : Option β :=
 d26_1 C g_Nodes g_Root
  (fun (t_57 : Int) =>
   k0 t_57 0 ([] : List V))
  (
   d26_16 C g_Root g_Nodes ((List.replicate (((g_Nodes.length : Int) : Int).toNat) (V.bool false)).set ((g_Root : Int).toNat) (.bool true))
    (fun (t2s_58 : Int) (t2_0s_59 : List V) =>
     k0 0 t2s_58 t2_0s_59))
noncomputable abbrev q26_16 : List Code := codesAt Try.prog 26 [[0], [1, 0, 0], [1, 0, 1, 0], [1, 0, 1, 1], [1, 1, 0], [1, 1, 1, 0], [1, 1, 1, 1, 0, 0], [1, 1, 1, 1, 0, 1], [1, 1, 1, 1, 1, 0], [1, 1, 1, 1, 1, 1, 0], [1, 1, 1, 1, 1, 1, 1, 0, 0], [1, 1, 1, 1, 1, 1, 1, 0, 1], [1, 1, 1, 1, 1, 1, 1, 1, 0], [1, 1, 1, 1, 1, 1, 1, 1, 1, 0], [1, 1, 1, 1, 1, 1, 1, 1, 1, 1]]
theorem h26_17_eq (C : CallF) (g_Nodes : List V) (g_Root : Int) {β : Type} (K : Out → St → Option β) :
 execL Try.prog ann C 26 111 0 (q26_16) (z26_2 g_Nodes g_Root) K =
  d26_17 C g_Nodes g_Root
   (fun (t30 : Int) (t2s_10 : Int) (t2_0s0 : List V) => K .ret (z26_0 t30 t2s_10 t2_0s0)) := by
 refine Eq.trans (execL_app (P := Try.prog) (A := ann) (C := C) (f := 26) (n := 111) (m := 0) (q26_0) (q26_15) (st := z26_2 g_Nodes g_Root) (K := K)) (Eq.trans (h26_1_eq C g_Nodes g_Root (seqK Try.prog ann C 26 111 0 (q26_15) K)) ?_)
 · exact Eq.trans (by kernel_rfl) (Eq.trans (congrArg (fun HOLE : Option β => d26_1 C g_Nodes g_Root (fun (t30 : Int) => K .ret (z26_0 t30 0 ([] : List V))) HOLE) (h26_16_eq C g_Root g_Nodes g_Root 0 ((List.replicate (((g_Nodes.length : Int) : Int).toNat) (V.bool false)).set ((g_Root : Int).toNat) (.bool true)) ([] : List V) K)) ((by kernel_rfl)))
noncomputable def f_semigroupref31_Cut (C : CallF) (g_Nodes : List V) (g_Root : Int) : Option (V × List V) :=
 (C F_semigroupref31_Validate [.agg [.list T_api_SfNode g_Nodes, .int .i64 g_Root], .int .i64 6] []).bind fun r7 =>
  bif (r7.1.toInt : Int) != 0 then
   some (.tup [.agg [.own T_api_SfNode ([] : List V), .int .i64 0], .int .i64 r7.1.toInt], [])
  else
   bif (decide (0 ≤ (g_Nodes.length : Int))) && ((decide ((g_Nodes.length : Int) ≤ (g_Nodes.length : Int))) && (Nat.ble ((((g_Nodes.length : Int) : Int).toNat) * 1) maxBytes)) then
    bif (decide (0 ≤ g_Root)) && (decide (g_Root < ((List.replicate (((g_Nodes.length : Int) : Int).toNat) (V.bool false)).length : Int))) then
     ((List.replicate (((g_Nodes.length : Int) : Int).toNat) (V.bool false))[(g_Root : Int).toNat]?).bind fun x8 =>
      s_semigroupref31_Cut_5L C g_Root g_Nodes ((List.replicate (((g_Nodes.length : Int) : Int).toNat) (V.bool false)).set ((g_Root : Int).toNat) (.bool true))
       (fun (i_22 : Int) (t_23 : Bool) (needs_24 : List V) =>
        bif (decide (0 ≤ (g_Nodes.length : Int))) && ((decide ((g_Nodes.length : Int) ≤ (g_Nodes.length : Int))) && (Nat.ble ((((g_Nodes.length : Int) : Int).toNat) * 8) maxBytes)) then
         s_semigroupref31_Cut_11L C g_Nodes (g_Nodes.length : Int) 0 needs_24 (List.replicate (((g_Nodes.length : Int) : Int).toNat) (V.int .i64 0)) ([] : List V)
          (fun (t_47 : Int) (t_48 : Bool) (at's_49 : List V) (out_0s_50 : List V) =>
           some (.tup [.agg [.own T_api_SfNode out_0s_50, .int .i64 (IntKind.wrap .i64 ((out_0s_50.length : Int) - 1))], .int .i64 0], []))
        else none)
    else none
   else none
theorem f_semigroupref31_Cut_eq (C : CallF) (g_Nodes : List V) (g_Root : Int) : bodyK Try.prog ann C 26 [.agg [.list T_api_SfNode g_Nodes, .int .i64 g_Root]] [] = f_semigroupref31_Cut C g_Nodes g_Root :=
 Eq.trans (bodyK_fin (by kernel_rfl)) (Eq.trans (execK_items (by kernel_rfl)) (Eq.trans (h26_17_eq C g_Nodes g_Root (finK Try.prog ann C 26 [])) (by kernel_rfl)))
theorem f_semigroupref31_Cut_of {g_Nodes : List V} {g_Root : Int} {r : V × List V} (h : f_semigroupref31_Cut CC g_Nodes g_Root = some r) : CC F_semigroupref31_Cut [.agg [.list T_api_SfNode g_Nodes, .int .i64 g_Root]] [] = some r :=
 Call_of_body ((bodyK_eq ..).trans ((f_semigroupref31_Cut_eq ..).trans h))
end Go.AM

/-
 The reference's Cut.
-/
namespace Go.AM
open Go.Proofs
theorem refMarks {letters : Int} {l : List Node} (hl : Valid letters l) {root : Nat} (hr : root < l.length) (hn : l.length ≤ 20000) :
 ∃ (j : Int) (b : Bool) (m : List Bool), m.length = l.length ∧ (∀ i, m[i]? = some true ↔ Reach l root i) ∧
  Loop (s_semigroupref31_Cut_5L_step CC (nodesV l)) ((root : Int), boolsV ((List.replicate l.length false).set root true)) = some (j, b, boolsV m) := by
 have key := Loop_inv (step := s_semigroupref31_Cut_5L_step CC (nodesV l))
  (fun s => ∃ (i : Nat) (m : List Bool), i ≤ root + 1 ∧ m.length = l.length ∧ (∀ j, m[j]? = some true → Reach l root j) ∧ m[root]? = some true ∧ MarksOk l m i ∧ s = ((i : Int) - 1, boolsV m))
  (fun s => (s.1 + 1).toNat)
  (fun r => ∃ (j : Int) (b : Bool) (m : List Bool), m.length = l.length ∧ (∀ j, m[j]? = some true → Reach l root j) ∧ m[root]? = some true ∧ MarksOk l m 0 ∧ r = (j, b, boolsV m)) (by
   rintro s ⟨i, m, h1, h2, h3, h4, h5, rfl⟩
   unfold s_semigroupref31_Cut_5L_step s_semigroupref31_Cut_2
   simp only [bif_and, bif_decide, bif_bne, List.length_map, List.length_set]
   cases i with
   | zero =>
    right
    rw [if_neg (by omega)]
    exact ⟨_, rfl, _, _, m, h2, h3, h4, h5, rfl⟩
   | succ i =>
    left
    have ei : ((i + 1 : Nat) : Int) - 1 = (i : Int) := by omega
    have hil : i < l.length := by omega
    have him : i < m.length := by omega
    rw [ei, if_pos (by omega), idx_map (n := i) rfl hil]
    simp only [Option.bind_some, Node.v, V.cell_agg, V.nth_zero, V.nth_two, V.nth_three, V.toInt_int]
    rw [if_pos (by omega), if_pos (by omega)]
    simp only [Int.toNat_natCast, boolsV_get him, Option.bind_some, V.toBool_bool]
    have hx : l[i]? = some l[i] := List.getElem?_eq_getElem hil
    have ok := nodeOk_iff.1 (hl.node hx)
    have hw : IntKind.wrap .i64 ((i : Int) - 1) = (i : Int) - 1 := wrap64 (by omega) (by omega)
    cases hmi : m[i] with
    | false =>
     refine ⟨((i : Int) - 1, boolsV m), by simp only [cond_false, hw], ⟨i, m, by omega, h2, h3, h4, fun j x hj hxj hmj => ?_, rfl⟩, by simp⟩
     by_cases hji : j = i
     · subst hji
       rw [List.getElem?_eq_getElem him, hmi] at hmj
       cases hmj
     · exact h5 j x (by omega) hxj hmj
    | true =>
     have hri : Reach l root i := h3 i (by rw [List.getElem?_eq_getElem him, hmi])
     simp only [cond_true]
     -- marks that are set
     have set_sound : ∀ (m' : List Bool) (k : Nat), Reach l root k → (∀ j, m'[j]? = some true → Reach l root j) → ∀ j, (m'.set k true)[j]? = some true → Reach l root j := by
      intro m' k hk hm j hj
      by_cases hjk : j = k
      · subst hjk; exact hk
      · rw [List.getElem?_set_ne (by omega)] at hj; exact hm j hj
     have set_keep : ∀ (m' : List Bool) (k j : Nat), m'[j]? = some true → (m'.set k true)[j]? = some true := by
      intro m' k j hj
      have hjl := (List.getElem?_eq_some_iff.1 hj).1
      by_cases hjk : j = k
      · subst hjk; rw [List.getElem?_set_self hjl]
      · rw [List.getElem?_set_ne (by omega)]; exact hj
     have set_self : ∀ (m' : List Bool) (k : Nat), k < m'.length → (m'.set k true)[k]? = some true := fun m' k h => List.getElem?_set_self h
     have set_old : ∀ (m' : List Bool) (k j : Nat), k < j → (m'.set k true)[j]? = some true → m'[j]? = some true := by
      intro m' k j hk hj
      rw [List.getElem?_set_ne (by omega)] at hj; exact hj
     have boolsV_set : ∀ (m' : List Bool) (k : Nat), (boolsV m').set k (.bool true) = boolsV (m'.set k true) := by
      intro m' k; simp [List.map_set]
     by_cases g5 : l[i].op ≥ 5
     · have oa := ok.a g5
       have hla : l[i].a.toNat < m.length := by omega
       have ea : (l[i].a.toNat : Int) = l[i].a := Int.toNat_of_nonneg oa.1
       rw [if_pos g5, if_pos oa.1, if_pos (by omega), boolsV_get hla]
       simp only [Option.bind_some]
       by_cases g8 : l[i].op = 8
       · rw [if_pos g8, boolsV_set]
         refine ⟨((i : Int) - 1, boolsV (m.set l[i].a.toNat true)), by rw [hw], ⟨i, _, by omega, by simp [h2], set_sound m _ (.a hri hx g5) h3, set_keep _ _ _ h4, fun j x hj hxj hmj => ?_, rfl⟩, by simp⟩
         by_cases hji : j = i
         · subst hji
           rw [hx] at hxj
           cases hxj
           exact ⟨fun _ => set_self _ _ hla, fun _ h => absurd g8 h⟩
         · have := h5 j x (by omega) hxj (set_old _ _ _ (by omega) hmj)
           exact ⟨fun h => set_keep _ _ _ (this.1 h), fun h h' => set_keep _ _ _ (this.2 h h')⟩
       · have ob := ok.b g5 g8
         have hlb : l[i].b.toNat < m.length := by omega
         rw [if_neg g8, boolsV_set, if_pos ob.1, if_pos (by omega), boolsV_get (by simp; omega)]
         simp only [Option.bind_some]
         rw [boolsV_set]
         refine ⟨((i : Int) - 1, boolsV ((m.set l[i].a.toNat true).set l[i].b.toNat true)), by rw [hw], ⟨i, _, by omega, by simp [h2], set_sound _ _ (.b hri hx g5 g8) (set_sound m _ (.a hri hx g5) h3), set_keep _ _ _ (set_keep _ _ _ h4), fun j x hj hxj hmj => ?_, rfl⟩, by simp⟩
         by_cases hji : j = i
         · subst hji
           rw [hx] at hxj
           cases hxj
           exact ⟨fun _ => set_keep _ _ _ (set_self _ _ hla), fun _ _ => set_self _ _ (by simp; omega)⟩
         · have := h5 j x (by omega) hxj (set_old _ _ _ (by omega) (set_old _ _ _ (by omega) hmj))
           exact ⟨fun h => set_keep _ _ _ (set_keep _ _ _ (this.1 h)), fun h h' => set_keep _ _ _ (set_keep _ _ _ (this.2 h h'))⟩
     · rw [if_neg g5]
       refine ⟨((i : Int) - 1, boolsV m), by rw [hw], ⟨i, m, by omega, h2, h3, h4, fun j x hj hxj hmj => ?_, rfl⟩, by simp⟩
       by_cases hji : j = i
       · subst hji
         rw [hx] at hxj
         cases hxj
         exact ⟨fun h => absurd h g5, fun h => absurd h g5⟩
       · exact h5 j x (by omega) hxj hmj)
 have hm0 : ∀ j, ((List.replicate l.length false).set root true)[j]? = some true → j = root := by
  intro j hj
  by_cases h : j = root
  · exact h
  · rw [List.getElem?_set_ne (by omega), List.getElem?_replicate] at hj
    split at hj <;> cases hj
 obtain ⟨r, hrr, j, b, m, m1, m2, m3, m4, rfl⟩ := key ((root : Int), boolsV ((List.replicate l.length false).set root true)) ⟨root + 1, (List.replicate l.length false).set root true, Nat.le_refl _, by simp, fun j hj => by rw [hm0 j hj]; exact .root,
  List.getElem?_set_self (by simpa using hr), fun j x hj hx hmj => by have := hm0 j hmj; omega, by simp⟩
 refine ⟨j, b, m, m1, fun i => ⟨m2 i, fun h => ?_⟩, hrr⟩
 induction h with
 | root => exact m3
 | a _ hx h5 ih => exact (m4 _ _ (Nat.zero_le _) hx ih).1 h5
 | b _ hx h5 h8 ih => exact (m4 _ _ (Nat.zero_le _) hx ih).2 h5 h8
theorem refCut_round {l : List Node} {letters : Int} (hl : Valid letters l) (hn : l.length ≤ 20000) {root : Nat} {m : List Bool} (hm1 : m.length = l.length) (hm2 : ∀ i, m[i]? = some true ↔ Reach l root i)
 {i : Nat} (hi : i < l.length) {N : List Nat} (hN : N.length = l.length) (hNj : ∀ j, j < i → m[j]? = some true → N[j]? = some (num m j)) :
 ∃ N' : List Nat, N'.length = l.length ∧ (∀ j, j < i + 1 → m[j]? = some true → N'[j]? = some (num m j)) ∧
  s_semigroupref31_Cut_11L_step CC (nodesV l) (l.length : Int) (boolsV m) ((i : Int), natsV N, nodesV (cutUpto l m i)) = some (.inl (((i + 1 : Nat) : Int), natsV N', nodesV (cutUpto l m (i + 1)))) := by
 have him : i < m.length := by omega
 have hx : l[i]? = some l[i] := List.getElem?_eq_getElem hi
 have ok := nodeOk_iff.1 (hl.node hx)
 unfold s_semigroupref31_Cut_11L_step s_semigroupref31_Cut_8
 simp only [bif_and, bif_decide, bif_bne, bif_ble, List.length_map, List.length_cons, List.length_nil, Nat.zero_add]
 rw [if_pos (by omega), idx_map (n := i) rfl hi, Option.bind_some, if_pos (by omega), if_pos (by omega), Int.toNat_natCast, boolsV_get him]
 simp only [Option.bind_some, V.toBool_bool, bif_not]
 have hw : IntKind.wrap .i64 ((i : Int) + 1) = ((i + 1 : Nat) : Int) := by rw [wrap64 (by omega) (by omega)]; rfl
 rw [hw]
 cases hmi : m[i] with
 | false =>
  have hmi' : m[i]? ≠ some true := by rw [List.getElem?_eq_getElem him, hmi]; simp
  refine ⟨N, hN, fun j hj hmj => hNj j (by have : j ≠ i := fun h => hmi' (h ▸ hmj); omega) hmj, ?_⟩
  rw [cutUpto, if_neg hmi', List.append_nil]
  rfl
 | true =>
  have hmi' : m[i]? = some true := by rw [List.getElem?_eq_getElem him, hmi]
  have hri := (hm2 i).1 hmi'
  simp only [cond_true]
  simp only [Node.v, V.cell_agg, V.nth_zero, V.nth_one, V.nth_two, V.nth_three, V.toInt_int]
  have hNi : (natsV N)[i]? = some (.int .i64 ((N[i]'(by omega) : Nat) : Int)) := natsV_get (by omega)
  have hcl : (cutUpto l m i).length = num m i := cutUpto_length (by omega)
  have hmb : ((cutUpto l m i).length + 1) * 32 ≤ maxBytes := by
   have := num_le m i
   unfold maxBytes
   rw [hcl]
   omega
  have fin : ∀ (a b : Int), (⟨l[i].op, l[i].letter, a, b⟩ : Node) = renum m l[i] →
   (some (Sum.inl (((i + 1 : Nat) : Int), (natsV N).set i (.int .i64 ((cutUpto l m i).length : Int)), nodesV (cutUpto l m i) ++ [V.agg [.int .i64 l[i].op, .int .i64 l[i].letter, .int .i64 a, .int .i64 b]])) : Option ((Int × List V × List V) ⊕ (Int × Bool × List V × List V))) =
    some (.inl (((i + 1 : Nat) : Int), natsV (N.set i (num m i)), nodesV (cutUpto l m (i + 1)))) := by
   intro a b hab
   rw [natsV_set, hcl, cutUpto, if_pos hmi', hx]
   simp only [List.map_append, List.map_cons, List.map_nil, ← hab]
   rfl
  refine ⟨N.set i (num m i), by simp [hN], fun j hj hmj => ?_, ?_⟩
  · by_cases hji : j = i
    · subst hji; exact List.getElem?_set_self (by omega)
    · rw [List.getElem?_set_ne (by omega)]; exact hNj j (by omega) hmj
  by_cases g5 : l[i].op ≥ 5
  · have oa := ok.a g5
    have ra := (hm2 _).2 (.a hri hx g5)
    rw [if_pos g5, if_pos oa.1, if_pos (by omega), natsV_of (hNj _ (by omega) ra)]
    simp only [Option.bind_some, V.toInt_int]
    by_cases g8 : l[i].op = 8
    · rw [if_pos g8, if_pos (by omega), if_pos (by omega), hNi]
      simp only [Option.bind_some]
      rw [if_pos hmb]
      refine fin _ _ ?_
      unfold renum
      rw [if_pos g5, if_neg (by omega)]
    · have ob := ok.b g5 g8
      have rb := (hm2 _).2 (.b hri hx g5 g8)
      rw [if_neg g8, if_pos ob.1, if_pos (by omega), natsV_of (hNj _ (by omega) rb)]
      simp only [Option.bind_some, V.toInt_int]
      rw [if_pos (by omega), if_pos (by omega), hNi]
      simp only [Option.bind_some]
      rw [if_pos hmb]
      refine fin _ _ ?_
      unfold renum
      rw [if_pos g5, if_pos ⟨g5, g8⟩]
  · rw [if_neg g5, if_pos (by omega), if_pos (by omega), hNi]
    simp only [Option.bind_some]
    rw [if_pos hmb]
    refine fin _ _ ?_
    unfold renum
    rw [if_neg g5, if_neg (by omega)]
theorem refCut_spec (l : List Node) (root : Nat) (hv : validateN l root 6 = 0) :
 ∃ m : List Bool, m.length = l.length ∧ (∀ i, m[i]? = some true ↔ Reach l root i) ∧
  CC F_semigroupref31_Cut [graphV l (root : Int)] [] = some (.tup [.agg [.own T_api_SfNode (nodesV (cutUpto l m l.length)), .int .i64 (num m root : Int)], .int .i64 0], []) := by
 obtain ⟨_, hl20, hval, hr0, hr1⟩ := validateN_zero.1 hv
 have hr : root < l.length := by omega
 obtain ⟨j0, b0, m, hm1, hm2, hm3⟩ := refMarks hval hr hl20
 refine ⟨m, hm1, hm2, f_semigroupref31_Cut_of ?_⟩
 unfold f_semigroupref31_Cut s_semigroupref31_Cut_5L s_semigroupref31_Cut_11L
 simp only [refValidate_spec l root 6 (by omega), hv, Option.bind_some, V.toInt_int, bif_bne, bif_and, bif_decide, bif_ble, List.length_map, Int.toNat_natCast, List.length_replicate]
 have f1 : (List.replicate l.length (V.bool false))[root]? = some (.bool false) := by rw [List.getElem?_replicate, if_pos hr]
 have f2 : (List.replicate l.length (V.bool false)).set root (.bool true) = boolsV ((List.replicate l.length false).set root true) := by simp [List.map_set]
 rw [if_pos trivial, if_pos (by omega), if_pos (by omega), if_pos (by unfold maxBytes; omega), if_pos (by omega), if_pos (by omega), f1, f2, Option.bind_some, hm3, Option.bind_some]
 simp only []
 rw [if_pos (by omega), if_pos (by omega), if_pos (by unfold maxBytes; omega)]
 have key := Loop_inv (step := s_semigroupref31_Cut_11L_step CC (nodesV l) (l.length : Int) (boolsV m))
  (fun s => ∃ (i : Nat) (N : List Nat), i ≤ l.length ∧ N.length = l.length ∧ (∀ j, j < i → m[j]? = some true → N[j]? = some (num m j)) ∧ s = ((i : Int), natsV N, nodesV (cutUpto l m i)))
  (fun s => ((l.length : Int) - s.1).toNat)
  (fun s => ∃ (j : Int) (b : Bool) (N : List V), s = (j, b, N, nodesV (cutUpto l m l.length))) (by
   rintro s ⟨i, N, h1, h2, h3, rfl⟩
   by_cases hi : i < l.length
   · left
     obtain ⟨N', a1, a2, a3⟩ := refCut_round hval hl20 hm1 hm2 hi h2 h3
     exact ⟨_, a3, ⟨i + 1, N', by omega, a1, a2, rfl⟩, by simp; omega⟩
   · right
     have : i = l.length := by omega
     subst this
     unfold s_semigroupref31_Cut_11L_step s_semigroupref31_Cut_8
     simp only [bif_decide]
     rw [if_neg (by omega)]
     exact ⟨_, rfl, _, _, _, rfl⟩)
 have e0 : List.replicate l.length (V.int .i64 0) = natsV (List.replicate l.length 0) := by simp
 obtain ⟨s, hs, j, b, N, rfl⟩ := key ((0 : Int), natsV (List.replicate l.length 0), []) ⟨0, List.replicate l.length 0, by omega, by simp, fun j hj => by omega, rfl⟩
 rw [e0, hs]
 simp only [Option.bind_some, List.length_map]
 have e1 : (cutUpto l m l.length).length = num m root + 1 := by
  rw [cutUpto_length (Nat.le_refl _)]
  -- beyond the root nothing is marked
  have : ∀ k, root + 1 + k ≤ l.length → num m (root + 1 + k) = num m (root + 1) := by
   intro k
   induction k with
   | zero => intro _; rfl
   | succ k ih =>
    intro hk
    have hnot : ¬ m[root + 1 + k]? = some true := fun h => by
     have := ((hm2 _).1 h).le hval
     omega
    rw [show root + 1 + (k + 1) = (root + 1 + k) + 1 by omega, num, ih (by omega), if_neg hnot]
    rfl
  have h2 := this (l.length - (root + 1)) (by omega)
  rw [show root + 1 + (l.length - (root + 1)) = l.length by omega] at h2
  rw [h2, num, if_pos ((hm2 root).2 .root)]
 have e2 : ((num m root + 1 : Nat) : Int) - 1 = (num m root : Int) := by omega
 rw [e1, e2, wrap64 (by have := num_le m root; omega) (by have := num_le m root; omega)]
end Go.AM
