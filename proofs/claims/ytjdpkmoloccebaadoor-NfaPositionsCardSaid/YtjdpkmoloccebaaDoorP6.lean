/-
  Functions of the program, lifted to plain data.
-/
import Derived.Test.YtjdpkmoloccebaaDoorP5
set_option linter.unusedVariables false
set_option linter.unusedSimpArgs false
set_option maxRecDepth 100000
set_option linter.unusedSimpArgs false
namespace Go.AM
open Go.Proofs Ex
theorem refMembers_loop {s : Nat} (hs : s < 2 ^ 64) : ∀ (d j : Nat), j + d = 64 → Loop (s_semigroupref02_Members_1L CC (s : Int)) ((j : Int), encI ((List.range j).filter s.testBit)) = some (64, false, encI (mem s)) := by
  intro d
  induction d with
  | zero =>
    intro j hj
    have hj : j = 64 := by omega
    subst hj
    refine Loop_end ?_
    simp only [s_semigroupref02_Members_1L, s_semigroupref02_Members_1, un]
    rw [bif_decide, if_neg (by omega), decide_eq_false (by omega)]
    rfl
  | succ d ih =>
    intro j hj
    have hlen : ((List.range j).filter s.testBit).length ≤ j := Nat.le_trans (List.length_filter_le _ _) (by simp)
    have hst : s_semigroupref02_Members_1L CC (s : Int) ((j : Int), encI ((List.range j).filter s.testBit)) = some (.inl (((j + 1 : Nat) : Int), encI ((List.range (j + 1)).filter s.testBit))) := by
      simp only [s_semigroupref02_Members_1L, s_semigroupref02_Members_1, un]
      rw [bif_decide, if_pos (by omega), Has_spec hs (by omega)]
      simp only [Option.bind_some, V.nth_zero, V.toBool_bool, bif_ble]
      rw [List.range_succ, List.filter_append, wrap64 (by omega) (by omega)]
      cases h : s.testBit j with
      | true =>
        rw [cond_true, if_pos (by rw [maxB]; simp only [encI, List.length_map, List.length_singleton]; omega)]
        simp [encI, h]
      | false =>
        rw [cond_false]
        simp [encI, h]
    rw [Loop_norm hst]
    exact ih (j + 1) (by omega)
theorem refMembers_spec {s : Nat} (hs : s < 2 ^ 64) : CC F_semigroupref02_Members [.int .u64 (s : Int)] = some [.list T_int (encI (mem s))] := by
  refine f_semigroupref02_Members_of ?_
  unfold f_semigroupref02_Members
  have := refMembers_loop hs 64 0 (by omega)
  refine (congrArg (fun o => Option.bind o _) this).trans ?_
  rfl
theorem refPlain_spec (e : Ex) (h : e.Ok) (letters : Int) : CC F_semigroupref06_plain (exA e [.int .i64 letters]) = some [.int .i64 (plainCode e letters)] := by
  refine f_semigroupref06_plain_of ?_
  unfold f_semigroupref06_plain plainCode
  refine (congrArg (fun o => Option.bind o _) (exRefVal_spec e h letters)).trans ?_
  simp only [Option.bind_some, V.nth_zero, V.toInt_int, bif_bne]
  by_cases h1 : e.val letters = 0
  · rw [if_pos h1, if_neg (fun h => h h1)]
    refine (congrArg (fun o => Option.bind o _) (uses_spec (op := 6) e h)).trans ?_
    simp only [Option.bind_some, V.nth_zero, V.toBool_bool]
    rw [boolB_uses]
    cases h6 : e.uses 6 with
    | true => simp
    | false =>
      rw [cond_false]
      refine (congrArg (fun o => Option.bind o _) (uses_spec (op := 8) e h)).trans ?_
      simp only [Option.bind_some, V.nth_zero, V.toBool_bool]
      cases h8 : e.uses 8 <;> simp
  · rw [if_neg h1, if_pos h1]
def lnk (c : List Int) (a : Nat) (l : List Nat) : List Ed := l.map fun (b : Nat) => (⟨(a : Int), c.getD b 0, (b : Int)⟩ : Ed)
def lnks (c : List Int) (x y : Nat) : List Ed := (mem x).flatMap fun a => lnk c a (mem y)
theorem lnks_len {c : List Int} {y : Nat} : ∀ l : List Nat, (l.flatMap fun a => lnk c a (mem y)).length ≤ 64 * l.length
  | [] => by simp
  | a :: l => by
    have h1 := lnks_len (c := c) (y := y) l
    have h2 : (lnk c a (mem y)).length ≤ 64 := by unfold lnk; rw [List.length_map]; exact mem_length _
    rw [List.flatMap_cons, List.length_append, List.length_cons]
    omega
section
variable {c : List Int}
theorem link_row {a : Nat} {l : List Nat} (hl : ∀ j ∈ l, j < c.length) (hc : c.length ≤ 100) (hn : l.length ≤ 64) {p0 p1 p2 : Int} {ts b5 : List V} :
    ∀ (suf pre : List Nat) (acc : List Ed), l = pre ++ suf → acc.length + suf.length ≤ 100000000 →
    Loop (s_semigroupref06_positions_link_1L CC p0 (a : Int) p1 p2 ((encI l).length : Int) ts (encI l) (iV c)) (((pre.length : Nat) : Int), acc.map Ed.enc) =
      some (((encI l).length : Int), false, (acc ++ lnk c a suf).map Ed.enc) := by
  have hel : (encI l).length = l.length := by simp [encI]
  intro suf
  induction suf with
  | nil =>
    intro pre acc e _
    rw [List.append_nil] at e
    subst e
    refine Loop_end ?_
    simp only [s_semigroupref06_positions_link_1L, s_semigroupref06_positions_link_1, un, hel, lnk, List.map_nil, List.append_nil]
    rw [bif_decide, if_neg (by omega), decide_eq_false (by omega)]
  | cons j suf ih =>
    intro pre acc e ha
    rw [List.length_cons] at ha
    have hlt : pre.length < l.length := by rw [e]; simp
    have hjc : j < c.length := hl j (by rw [e]; simp)
    have hg : (encI l)[pre.length]? = some (.int .i64 (j : Int)) := by rw [e]; simp [encI]
    have hcj : (iV c)[j]? = some (.int .i64 (c.getD j 0)) := by simp [iV, hjc]
    have hic : (iV c).length = c.length := by simp [iV]
    have hst : s_semigroupref06_positions_link_1L CC p0 (a : Int) p1 p2 ((encI l).length : Int) ts (encI l) (iV c) (((pre.length : Nat) : Int), acc.map Ed.enc) = some (.inl (((pre.length + 1 : Nat) : Int), (acc ++ ([⟨(a : Int), c.getD j 0, (j : Int)⟩] : List Ed)).map Ed.enc)) := by
      simp only [s_semigroupref06_positions_link_1L, s_semigroupref06_positions_link_1, un, hel]
      have t1 : ((pre.length : Nat) : Int) < (l.length : Int) := by omega
      have t2 : (0 : Int) ≤ ((pre.length : Nat) : Int) := by omega
      have t3 : (0 : Int) ≤ (j : Int) := by omega
      have t4 : (j : Int) < (c.length : Int) := by omega
      simp only [bif_and, bif_decide, bif_ble, Int.toNat_natCast, hg, Option.bind_some, V.toInt_int, hic, hcj, t1, t2, t3, t4, if_true]
      rw [if_pos (by rw [maxB]; simp only [List.length_map, List.length_singleton]; omega), wrap64 (by omega) (by omega), List.map_append]
      rfl
    rw [Loop_norm hst]
    have := ih (pre ++ [j]) (acc ++ ([⟨(a : Int), c.getD j 0, (j : Int)⟩] : List Ed)) (by simp [e]) (by rw [List.length_append]; simp only [List.length_singleton]; omega)
    simpa [lnk] using this
theorem link_rows {y : Nat} (hy : y < 2 ^ 64) (hyc : ∀ j, y.testBit j = true → j < c.length) (hc : c.length ≤ 100) {l : List Nat} (hn : l.length ≤ 64) :
    ∀ (suf pre : List Nat) (acc : List Ed), l = pre ++ suf → acc.length + 64 * suf.length ≤ 10000000 →
    Loop (s_semigroupref06_positions_link_2L CC (y : Int) ((encI l).length : Int) (encI l) (iV c)) (((pre.length : Nat) : Int), acc.map Ed.enc) =
      some (((encI l).length : Int), false, (acc ++ suf.flatMap fun a => lnk c a (mem y)).map Ed.enc) := by
  have hel : (encI l).length = l.length := by simp [encI]
  intro suf
  induction suf with
  | nil =>
    intro pre acc e _
    rw [List.append_nil] at e
    subst e
    refine Loop_end ?_
    simp only [s_semigroupref06_positions_link_2L, s_semigroupref06_positions_link_2, un, hel, List.flatMap_nil, List.append_nil]
    rw [bif_decide, if_neg (by omega), decide_eq_false (by omega)]
  | cons a suf ih =>
    intro pre acc e ha
    rw [List.length_cons] at ha
    have hlt : pre.length < l.length := by rw [e]; simp
    have hg : (encI l)[pre.length]? = some (.int .i64 (a : Int)) := by rw [e]; simp [encI]
    have hml := mem_length y
    have h2 : (lnk c a (mem y)).length ≤ 64 := by unfold lnk; rw [List.length_map]; exact hml
    have hr := link_row (c := c) (a := a) (l := mem y) (fun j hj => hyc j ((mem_iff hy).1 hj)) hc hml (p0 := (y : Int)) (p1 := (l.length : Int)) (p2 := (pre.length : Int)) (ts := encI l) (b5 := []) (mem y) [] acc rfl (by omega)
    have hst : s_semigroupref06_positions_link_2L CC (y : Int) ((encI l).length : Int) (encI l) (iV c) (((pre.length : Nat) : Int), acc.map Ed.enc) = some (.inl (((pre.length + 1 : Nat) : Int), (acc ++ lnk c a (mem y)).map Ed.enc)) := by
      simp only [s_semigroupref06_positions_link_2L, s_semigroupref06_positions_link_2, un, hel]
      have t1 : ((pre.length : Nat) : Int) < (l.length : Int) := by omega
      have t2 : (0 : Int) ≤ ((pre.length : Nat) : Int) := by omega
      simp only [bif_and, bif_decide, Int.toNat_natCast, hg, Option.bind_some, V.toInt_int, t1, t2, if_true]
      rw [refMembers_spec hy]
      simp only [Option.bind_some, V.nth_zero, V.toList_list]
      refine (congrArg (fun o => Option.bind o _) hr).trans ?_
      simp only [Option.bind_some, un]
      rw [wrap64 (by omega) (by omega)]
      rfl
    rw [Loop_norm hst]
    have := ih (pre ++ [a]) (acc ++ lnk c a (mem y)) (by simp [e]) (by rw [List.length_append]; omega)
    simpa using this
theorem link_spec {x y : Nat} {E : List Ed} (hx : x < 2 ^ 64) (hy : y < 2 ^ 64) (hyc : ∀ j, y.testBit j = true → j < c.length) (hc : c.length ≤ 100) (hE : E.length ≤ 5000000) :
    CC F_semigroupref06_positions_link [.int .u64 (x : Int), .int .u64 (y : Int), .list T_int (iV c), .list T_api_Edge (E.map Ed.enc)] = some [.list T_int (iV c), .list T_api_Edge ((E ++ lnks c x y).map Ed.enc)] := by
  refine f_semigroupref06_positions_link_of ?_
  unfold f_semigroupref06_positions_link
  rw [refMembers_spec hx]
  simp only [Option.bind_some, V.nth_zero, V.toList_list]
  have hml := mem_length x
  have := link_rows (c := c) hy hyc hc (l := mem x) hml (mem x) [] E rfl (by omega)
  refine (congrArg (fun o => Option.bind o _) this).trans ?_
  rfl
theorem lnks_mem {x y : Nat} (hx : x < 2 ^ 64) (hy : y < 2 ^ 64) {z : Ed} : z ∈ lnks c x y ↔ ∃ i j : Nat, x.testBit i = true ∧ y.testBit j = true ∧ z = ⟨(i : Int), c.getD j 0, (j : Int)⟩ := by
  unfold lnks lnk
  rw [List.mem_flatMap]
  constructor
  · rintro ⟨i, h1, h2⟩
    obtain ⟨j, h3, rfl⟩ := List.mem_map.1 h2
    exact ⟨i, j, (mem_iff hx).1 h1, (mem_iff hy).1 h3, rfl⟩
  · rintro ⟨i, j, h1, h2, rfl⟩
    exact ⟨i, (mem_iff hx).2 h1, List.mem_map.2 ⟨j, (mem_iff hy).2 h2, rfl⟩⟩
end
def EInv (c : List Int) (fo : Nat → Nat) (E : List Ed) : Prop := ∀ z : Ed, z ∈ E ↔ ∃ i j : Nat, (fo i).testBit j = true ∧ z = ⟨(i : Int), c.getD j 0, (j : Int)⟩
theorem EInv.more {c d : List Int} {fo : Nat → Nat} {E : List Ed} {N : Nat} (h : EInv c fo E) (hf : FoOk N fo) (hc : N < c.length) : EInv (c ++ d) fo E := fun z => by
  rw [h z]
  have e : ∀ i j : Nat, (fo i).testBit j = true → (c ++ d).getD j 0 = c.getD j 0 := fun i j hb => by
    have := hf.b i j hb
    rw [List.getD_eq_getElem?_getD, List.getD_eq_getElem?_getD, List.getElem?_append_left (by omega)]
  constructor
  · rintro ⟨i, j, h1, rfl⟩; exact ⟨i, j, h1, by rw [e i j h1]⟩
  · rintro ⟨i, j, h1, rfl⟩; exact ⟨i, j, h1, by rw [e i j h1]⟩
theorem EInv.join {c : List Int} {fo : Nat → Nat} {E : List Ed} {x y : Nat} (h : EInv c fo E) (hx : x < 2 ^ 64) (hy : y < 2 ^ 64) : EInv c (joinG x y fo) (E ++ lnks c x y) := fun z => by
  rw [List.mem_append, h z, lnks_mem hx hy]
  unfold joinG
  constructor
  · rintro (⟨i, j, h1, rfl⟩ | ⟨i, j, h1, h2, rfl⟩)
    · refine ⟨i, j, ?_, rfl⟩
      split
      · rw [Nat.testBit_or, h1]; rfl
      · exact h1
    · refine ⟨i, j, ?_, rfl⟩
      rw [if_pos h1, Nat.testBit_or, h2]; simp
  · rintro ⟨i, j, h1, rfl⟩
    by_cases hi : x.testBit i = true
    · rw [if_pos hi, Nat.testBit_or, Bool.or_eq_true] at h1
      rcases h1 with h1 | h1
      · exact .inl ⟨i, j, h1, rfl⟩
      · exact .inr ⟨i, j, hi, h1, rfl⟩
    · rw [if_neg hi] at h1
      exact .inl ⟨i, j, h1, rfl⟩
def WalkOk (k : Ex) : Prop := ∀ (c : List Int) (ps : Nat) (fo : Nat → Nat) (E : List Ed), c.length = ps + 1 → FoOk ps fo → EInv c fo E → ps + (ltrs k).length < 64 → E.length + 8192 * k.size ≤ 4000000 →
  ∃ E', CC F_semigroupref06_positions_walk (exA k [.list T_int (iV c), .list T_api_Edge (E.map Ed.enc)]) =
      some [.int .u64 ((glu k ps fo).a : Int), .int .u64 ((glu k ps fo).z : Int), .bool (glu k ps fo).n, .list T_int (iV (c ++ ltrs k)), .list T_api_Edge (E'.map Ed.enc)] ∧
    EInv (c ++ ltrs k) (glu k ps fo).fo E' ∧ E'.length + 4096 ≤ E.length + 8192 * k.size
theorem lnks_le {c : List Int} {x y : Nat} : (lnks c x y).length ≤ 4096 := by
  have h1 := lnks_len (c := c) (y := y) (mem x)
  have h2 := mem_length x
  unfold lnks
  omega
section
variable {ks : List Ex} {letters : Int}
theorem walk_alt (hlen : ks.length ≤ maxLen) (ih : ∀ k ∈ ks, WalkOk k) (hp : ∀ k ∈ ks, Pl letters k) :
    ∀ (suf pre : List Ex) (g : Gl) (c : List Int) (E : List Ed) {lo f0 : Nat}, ks = pre ++ suf → GSt lo f0 g → c.length = g.ps + 1 → EInv c g.fo E → g.ps + (ltrss suf).length < 64 → E.length + 8192 * sizes suf ≤ 4000000 →
    ∃ E', Loop (s_semigroupref06_positions_walk_1L CC (ks.map enc) ((ks.map enc).length : Int) 0 0 false) (((pre.length : Nat) : Int), (g.a : Int), (g.z : Int), g.n, iV c, E.map Ed.enc) =
      some (((ks.map enc).length : Int), false, ((gluAlt suf g).a : Int), ((gluAlt suf g).z : Int), (gluAlt suf g).n, iV (c ++ ltrss suf), E'.map Ed.enc) ∧
      EInv (c ++ ltrss suf) (gluAlt suf g).fo E' ∧ E'.length ≤ E.length + 8192 * sizes suf := by
  have hm := maxLen_le
  intro suf
  induction suf with
  | nil =>
    intro pre g c E lo f0 e hg hc hE _ _
    rw [List.append_nil] at e
    subst e
    refine ⟨E, Loop_end ?_, by simpa [gluAlt, ltrss] using hE, by omega⟩
    simp only [s_semigroupref06_positions_walk_1L, s_semigroupref06_positions_walk_1, un, List.length_map, gluAlt, ltrss, List.append_nil]
    rw [bif_decide, if_neg (by omega), decide_eq_false (by omega)]
  | cons k suf ih2 =>
    intro pre g c E lo f0 e hg hc hE hps hsz
    have hk1 : k ∈ ks := by rw [e]; simp
    have hlt : pre.length < ks.length := by rw [e]; simp
    have hi : idx (ks.map enc) ((pre.length : Nat) : Int) = some k.enc := by rw [e]; exact idx_kid pre suf k
    simp only [ltrss, List.length_append] at hps
    simp only [sizes] at hsz
    obtain ⟨g1, g2⟩ := glu_ok k (hp k hk1) g.ps g.fo hg.fo
    obtain ⟨E1, c1, hE1, hl1⟩ := ih k hk1 c g.ps g.fo E hc hg.fo hE (by omega) (by omega)
    simp only [gluAlt]
    generalize glu k g.ps g.fo = q at c1 g1 g2 hE1 ⊢
    have hst : s_semigroupref06_positions_walk_1L CC (ks.map enc) ((ks.map enc).length : Int) 0 0 false (((pre.length : Nat) : Int), (g.a : Int), (g.z : Int), g.n, iV c, E.map Ed.enc) =
        some (.inl (((pre.length + 1 : Nat) : Int), ((altG g q).a : Int), ((altG g q).z : Int), (altG g q).n, iV (c ++ ltrs k), E1.map Ed.enc)) := by
      simp only [s_semigroupref06_positions_walk_1L, s_semigroupref06_positions_walk_1, un, List.length_map]
      rw [bif_decide, if_pos (by omega), hi]
      simp only [Option.bind_some, enc_0, enc_1, enc_2]
      refine (congrArg (fun o => Option.bind o _) c1).trans ?_
      simp only [Option.bind_some, List.drop_succ_cons, List.drop_zero, V.nth_zero, V.toInt_int, V.toBool_bool, V.toList_list]
      rw [u64_or (hg.a.lt (by omega)) (g1.a.lt (by omega)), u64_or (hg.z.lt (by omega)) (g1.z.lt (by omega)), wrap64 (by omega) (by omega)]
      cases h : g.n <;> simp [altG, h]
    obtain ⟨E', h1, h2, h3⟩ := ih2 (pre ++ [k]) (altG g q) (c ++ ltrs k) E1 (lo := lo) (f0 := f0) (by simp [e]) (hg.alt g1) (by rw [List.length_append]; show _ = q.ps + 1; omega) hE1 (by show q.ps + _ < 64; omega) (by omega)
    refine ⟨E', ?_, by simpa [ltrss] using h2, by simp only [sizes]; omega⟩
    rw [Loop_norm hst]
    simpa [ltrss] using h1
theorem walk_cat (hlen : ks.length ≤ maxLen) (ih : ∀ k ∈ ks, WalkOk k) (hp : ∀ k ∈ ks, Pl letters k) :
    ∀ (suf pre : List Ex) (g : Gl) (c : List Int) (E : List Ed) {lo f0 : Nat}, ks = pre ++ suf → GSt lo f0 g → c.length = g.ps + 1 → EInv c g.fo E → g.ps + (ltrss suf).length < 64 → E.length + 8192 * sizes suf ≤ 4000000 →
    ∃ E', Loop (s_semigroupref06_positions_walk_4L CC (ks.map enc) ((ks.map enc).length : Int) 0 0 false) (((pre.length : Nat) : Int), (g.a : Int), (g.z : Int), g.n, iV c, E.map Ed.enc) =
      some (((ks.map enc).length : Int), false, ((gluCat suf g).a : Int), ((gluCat suf g).z : Int), (gluCat suf g).n, iV (c ++ ltrss suf), E'.map Ed.enc) ∧
      EInv (c ++ ltrss suf) (gluCat suf g).fo E' ∧ E'.length ≤ E.length + 8192 * sizes suf := by
  have hm := maxLen_le
  intro suf
  induction suf with
  | nil =>
    intro pre g c E lo f0 e hg hc hE _ _
    rw [List.append_nil] at e
    subst e
    refine ⟨E, Loop_end ?_, by simpa [gluCat, ltrss] using hE, by omega⟩
    simp only [s_semigroupref06_positions_walk_4L, s_semigroupref06_positions_walk_4, un, List.length_map, gluCat, ltrss, List.append_nil]
    rw [bif_decide, if_neg (by omega), decide_eq_false (by omega)]
  | cons k suf ih2 =>
    intro pre g c E lo f0 e hg hc hE hps hsz
    have hk1 : k ∈ ks := by rw [e]; simp
    have hlt : pre.length < ks.length := by rw [e]; simp
    have hi : idx (ks.map enc) ((pre.length : Nat) : Int) = some k.enc := by rw [e]; exact idx_kid pre suf k
    simp only [ltrss, List.length_append] at hps
    simp only [sizes, List.length_cons] at hsz
    obtain ⟨g1, g2⟩ := glu_ok k (hp k hk1) g.ps g.fo hg.fo
    obtain ⟨E1, c1, hE1, hl1⟩ := ih k hk1 c g.ps g.fo E hc hg.fo hE (by omega) (by omega)
    simp only [gluCat]
    generalize glu k g.ps g.fo = q at c1 g1 g2 hE1 ⊢
    have hcl : (c ++ ltrs k).length = q.ps + 1 := by rw [List.length_append]; omega
    have b1 : g.a < 2 ^ 64 := hg.a.lt (by omega)
    have b2 : g.z < 2 ^ 64 := hg.z.lt (by omega)
    have b3 : q.a < 2 ^ 64 := g1.a.lt (by omega)
    have b4 : q.z < 2 ^ 64 := g1.z.lt (by omega)
    have cl := link_spec (c := c ++ ltrs k) (E := E1) b2 b3 (fun j hj => by have := g1.a j hj; omega) (by omega) (by omega)
    have hl4 := lnks_le (c := c ++ ltrs k) (x := g.z) (y := q.a)
    have z0 : ((0 : Nat) : Int) = 0 := rfl
    have hst : s_semigroupref06_positions_walk_4L CC (ks.map enc) ((ks.map enc).length : Int) 0 0 false (((pre.length : Nat) : Int), (g.a : Int), (g.z : Int), g.n, iV c, E.map Ed.enc) =
        some (.inl (((pre.length + 1 : Nat) : Int), ((catG g q).a : Int), ((catG g q).z : Int), (catG g q).n, iV (c ++ ltrs k), (E1 ++ lnks (c ++ ltrs k) g.z q.a).map Ed.enc)) := by
      simp only [s_semigroupref06_positions_walk_4L, s_semigroupref06_positions_walk_4, s_semigroupref06_positions_walk_2, s_semigroupref06_positions_walk_3, un, List.length_map]
      rw [bif_decide, if_pos (by omega), hi]
      simp only [Option.bind_some, enc_0, enc_1, enc_2]
      refine (congrArg (fun o => Option.bind o _) c1).trans ?_
      simp only [Option.bind_some, List.drop_succ_cons, List.drop_zero, V.nth_zero, V.toInt_int, V.toBool_bool, V.toList_list]
      refine (congrArg (fun o => Option.bind o _) cl).trans ?_
      simp only [Option.bind_some, List.drop_succ_cons, List.drop_zero, V.nth_zero, V.toInt_int, V.toBool_bool, V.toList_list]
      rw [u64_or b1 b3, u64_or b2 b4, wrap64 (by omega) (by omega)]
      cases h : g.n <;> cases h2 : q.n <;> simp [catG, h, h2]
    obtain ⟨E', h1, h2, h3⟩ := ih2 (pre ++ [k]) (catG g q) (c ++ ltrs k) (E1 ++ lnks (c ++ ltrs k) g.z q.a) (lo := lo) (f0 := f0) (by simp [e]) (hg.cat g1) hcl (hE1.join b2 b3) (by show q.ps + _ < 64; omega) (by rw [List.length_append]; omega)
    rw [List.length_append] at h3
    refine ⟨E', ?_, by simpa [ltrss] using h2, by simp only [sizes, List.length_cons]; omega⟩
    rw [Loop_norm hst]
    simpa [ltrss] using h1
end
theorem walk_spec {letters : Int} : ∀ e : Ex, e.Ok → Pl letters e → WalkOk e :=
  Ex.ind fun o l ks ih hok hp c ps fo E hc hfo hE hps hsz => by
    have ih' : ∀ k ∈ ks, WalkOk k := fun k hk => ih k hk (hok.kid k hk) (hp.kid k hk)
    have z0 : ∀ b, GSt ps (fo 0) ⟨0, 0, b, ps, fo⟩ := fun b => ⟨Nat.le_refl _, .zero, .zero, hfo, rfl⟩
    show ∃ E', CC F_semigroupref06_positions_walk [.int .i64 o, .int .i64 l, .list T_api_Expr (ks.map enc), .list T_int (iV c), .list T_api_Edge (E.map Ed.enc)] = _ ∧ _
    have hic : (iV c).length = c.length := by simp [iV]
    rcases hp.shape with ⟨h, rfl⟩ | ⟨rfl, rfl, _⟩ | ⟨rfl, k, rfl⟩ | h
    · rcases h with rfl | rfl
      · refine ⟨E, f_semigroupref06_positions_walk_of ?_, ?_, ?_⟩
        · unfold f_semigroupref06_positions_walk
          simp [glu, ltrs, ltrss]
        · simpa [glu, ltrs, ltrss] using hE
        · simp only [size, sizes]; omega
      · refine ⟨E, f_semigroupref06_positions_walk_of ?_, ?_, ?_⟩
        · unfold f_semigroupref06_positions_walk
          simp [glu, ltrs, ltrss]
        · simpa [glu, ltrs, ltrss] using hE
        · simp only [size, sizes]; omega
    · have hps1 : ps + 1 < 64 := by simpa [ltrs] using hps
      refine ⟨E, f_semigroupref06_positions_walk_of ?_, ?_, ?_⟩
      · unfold f_semigroupref06_positions_walk
        have e1 : iV c ++ ([.int .i64 l] : List V) = iV (c ++ [l]) := by simp [iV]
        have e2 : (iV (c ++ [l])).length = ps + 2 := by simp [iV, hc]
        simp only [bif_beq, bif_ble, e1, e2, hic]
        rw [if_neg (by omega), if_pos trivial, if_pos (by rw [maxB]; simp only [List.length_singleton]; omega), wrap64 (by omega) (by omega)]
        have e3 : (((ps + 2 : Nat) : Int) - 1) = ((ps + 1 : Nat) : Int) := by omega
        rw [e3, Bit_spec (by omega)]
        simp [glu, ltrs]
      · have := hE.more (d := [l]) hfo (by omega)
        simpa [glu, ltrs] using this
      · simp only [size, sizes]; omega
    · obtain ⟨g1, g2⟩ := glu_ok k (hp.kid k (by simp)) ps fo hfo
      have hps : ps + (ltrs k).length < 64 := by simpa [ltrs, ltrss] using hps
      simp only [size, sizes] at hsz
      obtain ⟨E1, c1, hE1, hl1⟩ := ih' k (by simp) c ps fo E hc hfo hE hps (by omega)
      have eg : glu (.node 7 l [k]) ps fo = ⟨(glu k ps fo).a, (glu k ps fo).z, true, (glu k ps fo).ps, joinG (glu k ps fo).z (glu k ps fo).a (glu k ps fo).fo⟩ := by simp [glu, gluStar]
      have el : ltrs (.node 7 l [k]) = ltrs k := by simp [ltrs, ltrss]
      rw [eg, el]
      generalize glu k ps fo = q at c1 g1 g2 hE1 ⊢
      have hcl : (c ++ ltrs k).length = q.ps + 1 := by rw [List.length_append]; omega
      have b3 : q.a < 2 ^ 64 := g1.a.lt (by omega)
      have b4 : q.z < 2 ^ 64 := g1.z.lt (by omega)
      have cl := link_spec (c := c ++ ltrs k) (E := E1) b4 b3 (fun j hj => by have := g1.a j hj; omega) (by omega) (by omega)
      have hl4 := lnks_le (c := c ++ ltrs k) (x := q.z) (y := q.a)
      refine ⟨E1 ++ lnks (c ++ ltrs k) q.z q.a, f_semigroupref06_positions_walk_of ?_, hE1.join b4 b3, by rw [List.length_append]; simp only [size, sizes]; omega⟩
      unfold f_semigroupref06_positions_walk
      simp only [bif_beq]
      rw [if_neg (by omega), if_neg (by omega), if_neg (by omega), if_pos trivial]
      simp only [List.map_cons, List.map_nil, List.getElem?_cons_zero, Option.bind_some, enc_0, enc_1, enc_2]
      refine (congrArg (fun o => Option.bind o _) c1).trans ?_
      simp only [Option.bind_some, List.drop_succ_cons, List.drop_zero, V.nth_zero, V.toInt_int, V.toBool_bool, V.toList_list]
      refine (congrArg (fun o => Option.bind o _) cl).trans ?_
      simp only [Option.bind_some, List.drop_succ_cons, List.drop_zero, V.nth_zero, V.toInt_int, V.toBool_bool, V.toList_list]
    · have hsz2 : E.length + 8192 * sizes ks ≤ 4000000 := by simp only [size] at hsz; omega
      rcases h with rfl | rfl
      · have hps : ps + (ltrss ks).length < 64 := by simpa [ltrs] using hps
        obtain ⟨E', h1, h2, h3⟩ := walk_alt hok.len ih' hp.kid ks [] ⟨0, 0, false, ps, fo⟩ c E rfl (z0 false) hc hE hps hsz2
        have eg : glu (.node 4 l ks) ps fo = gluAlt ks ⟨0, 0, false, ps, fo⟩ := by simp [glu]
        have el : ltrs (.node 4 l ks) = ltrss ks := by simp [ltrs]
        rw [eg, el]
        refine ⟨E', f_semigroupref06_positions_walk_of ?_, h2, by simp only [size]; omega⟩
        unfold f_semigroupref06_positions_walk
        simp only [bif_beq]
        rw [if_neg (by omega), if_neg (by omega), if_pos trivial]
        refine (congrArg (fun o => Option.bind o _) h1).trans ?_
        rfl
      · have hps : ps + (ltrss ks).length < 64 := by simpa [ltrs] using hps
        obtain ⟨E', h1, h2, h3⟩ := walk_cat hok.len ih' hp.kid ks [] ⟨0, 0, true, ps, fo⟩ c E rfl (z0 true) hc hE hps hsz2
        have eg : glu (.node 5 l ks) ps fo = gluCat ks ⟨0, 0, true, ps, fo⟩ := by simp [glu]
        have el : ltrs (.node 5 l ks) = ltrss ks := by simp [ltrs]
        rw [eg, el]
        refine ⟨E', f_semigroupref06_positions_walk_of ?_, h2, by simp only [size]; omega⟩
        unfold f_semigroupref06_positions_walk
        simp only [bif_beq]
        rw [if_neg (by omega), if_neg (by omega), if_neg (by omega), if_neg (by omega), if_pos trivial]
        refine (congrArg (fun o => Option.bind o _) h1).trans ?_
        rfl
end Go.AM
set_option maxRecDepth 100000
set_option linter.unusedSimpArgs false
namespace Go.AM
open Go.Proofs
def U1 (R : List Nat) : List V := R.map fun (x : Nat) => V.int .u64 (x : Int)
def U2 (T : List (List Nat)) : List V := T.map fun R => V.list T_uint64 (U1 R)
@[simp] theorem U1_length (R : List Nat) : (U1 R).length = R.length := by simp [U1]
@[simp] theorem U2_length (T : List (List Nat)) : (U2 T).length = T.length := by simp [U2]
end Go.AM
set_option maxRecDepth 100000
set_option linter.unusedSimpArgs false
namespace Go.AM
open Go.Proofs
structure RelOk (R : List Nat) : Prop where
  len : R.length ≤ 64
  lt : ∀ a ∈ R, a < 2 ^ R.length
theorem RelOk.get {R : List Nat} (h : RelOk R) (i : Nat) : R.getD i 0 < 2 ^ 64 := by
  rw [List.getD_eq_getElem?_getD]
  by_cases hi : i < R.length
  · rw [List.getElem?_eq_getElem hi]
    exact Nat.lt_of_lt_of_le (h.lt _ (List.getElem_mem hi)) (Nat.pow_le_pow_right (by omega) h.len)
  · rw [List.getElem?_eq_none (by omega)]
    exact Nat.pos_of_ne_zero (by simp)
end Go.AM
set_option maxRecDepth 100000
set_option linter.unusedSimpArgs false
namespace Go.AM
open Go.Proofs
def let_ (w : List UInt8) (i : Nat) : Int := ((w.getD i 0).toNat : Int) - 97
def wOk (w : List UInt8) (L : Int) : Prop := 1 ≤ L ∧ L ≤ 6 ∧ w.length ≤ 2048 ∧ ∀ i, i < w.length → 0 ≤ let_ w i ∧ let_ w i < L
instance (w : List UInt8) (L : Int) : Decidable (wOk w L) := by unfold wOk; infer_instance
end Go.AM
set_option maxRecDepth 100000
set_option linter.unusedSimpArgs false
namespace Go.AM
open Go.Proofs
def wlet (b : UInt8) : Int := (b.toNat : Int) - 97
theorem let_get {w : List UInt8} {i : Nat} (h : i < w.length) : let_ w i = wlet w[i] := by unfold let_ wlet; simp [h]
def wAll (L : Int) (w : List UInt8) : Prop := ∀ b ∈ w, 0 ≤ wlet b ∧ wlet b < L
theorem wOk.all {w : List UInt8} {L : Int} (h : wOk w L) : wAll L w := by
  intro b hb
  obtain ⟨i, hi, rfl⟩ := List.getElem_of_mem hb
  have := h.2.2.2 i hi
  rwa [let_get hi] at this
def I1 (R : List Nat) : List V := R.map fun (x : Nat) => V.int .i64 (x : Int)
@[simp] theorem I1_length (R : List Nat) : (I1 R).length = R.length := by simp [I1]
def top31 : Nat := 2147483648
structure Cts (S : Nat) (c : List Nat) : Prop where
  len : c.length = S
  le : ∀ i, c.getD i 0 ≤ top31
theorem getD_set {c : List Nat} {i j a : Nat} : (c.set i a).getD j 0 = if i = j ∧ i < c.length then a else c.getD j 0 := by
  rw [List.getD_eq_getElem?_getD, List.getElem?_set, List.getD_eq_getElem?_getD]
  by_cases h : i = j
  · subst h
    by_cases h2 : i < c.length
    · simp [h2]
    · simp [h2]
  · simp [h]
theorem Cts.set {S i a : Nat} {c : List Nat} (h : Cts S c) (ha : a ≤ top31) : Cts S (c.set i a) where
  len := by simp [h.len]
  le j := by
    rw [getD_set]
    split
    · exact ha
    · exact h.le j
theorem Cts.zero (S : Nat) : Cts S (List.replicate S 0) where
  len := by simp
  le i := by
    rw [List.getD_eq_getElem?_getD, List.getElem?_replicate]
    split <;> simp
end Go.AM
set_option maxRecDepth 100000
namespace Go.AM
open Go.Proofs
theorem awake : CC F_semigrouplaw06_awake [] = some [.bool true] := Call_of_run (N := 60) (n := 60) (by kernel_rfl)
end Go.AM
set_option maxRecDepth 100000
set_option linter.unusedSimpArgs false
set_option maxHeartbeats 1000000
namespace Go.AM
open Go.Proofs
def Ed.rev (e : Ed) : Ed := ⟨e.t, e.l, e.f⟩
@[simp] theorem Ed.rev_rev (e : Ed) : e.rev.rev = e := rfl
theorem Ed.In.rev {L S : Int} {e : Ed} (h : e.In L S) : e.rev.In L S := by unfold Ed.In at *; simp only [Ed.rev]; omega
def Nf.rev (n : Nf) : Nf := ⟨n.L, n.S, n.fin, n.st, sortedN (n.E.map Ed.rev)⟩
def Nf.zero : Nf := ⟨0, 0, 0, 0, []⟩
theorem Nf.len {n : Nf} (h : n.code = 0) : n.E.length ≤ 24576 := srt_len (Nf.good_of h).L6 (Nf.good_of h).S64 (Nf.srt h) (Nf.good_of h).E
theorem Ed.In.ok {L S : Int} {e : Ed} (h : e.In L S) (hL : L ≤ 6) (hS : S ≤ 64) : e.Ok := by unfold Ed.In at h; unfold Ed.Ok; omega
theorem Nf.rev_rev {n : Nf} (h : n.code = 0) : n.rev.rev = n := by
  cases n with
  | mk L S st fin E =>
    have hs : Srt E := Nf.srt h
    unfold Nf.rev
    simp only [Nf.mk.injEq, true_and]
    refine srt_ext (sortedN_srt _) hs fun x => ?_
    rw [sortedN_mem, List.mem_map]
    constructor
    · rintro ⟨a, ha, rfl⟩
      rw [sortedN_mem, List.mem_map] at ha
      obtain ⟨b, hb, rfl⟩ := ha
      exact hb
    · intro hx
      exact ⟨x.rev, sortedN_mem.2 (List.mem_map.2 ⟨x, hx, rfl⟩), rfl⟩
def ind (s : Nat) (q : Nat) : Nat := if s.testBit q = true then 1 else 0
end Go.AM
set_option maxRecDepth 100000
set_option linter.unusedSimpArgs false
namespace Go.AM
open Go.Proofs Ex
theorem Letters_spec {letters : Int} : ∀ e : Ex, e.Ok → Pl letters e → e.size ≤ 400 → CC F_semigroupref04_Letters (exA e []) = some [.int .i64 ((ltrs e).length : Int)] :=
  Ex.ind fun o l ks ih hok hp hsz => by
    have hm := maxLen_le
    have hlen := hok.len
    simp only [size] at hsz
    refine f_semigroupref04_Letters_of ?_
    unfold f_semigroupref04_Letters s_semigroupref04_Letters_1
    simp only [Ex.op, Ex.letter, Ex.kids]
    have go : ∀ (suf pre : List Ex) (n : Nat), ks = pre ++ suf → n ≤ 1 + sizes pre →
        Loop (s_semigroupref04_Letters_2L CC (ks.map enc) ((ks.map enc).length : Int)) ((n : Int), ((pre.length : Nat) : Int)) = some (((n + (ltrss suf).length : Nat) : Int), ((ks.map enc).length : Int), false) := by
      intro suf
      induction suf with
      | nil =>
        intro pre n e _
        rw [List.append_nil] at e
        subst e
        refine Loop_end ?_
        simp only [s_semigroupref04_Letters_2L, s_semigroupref04_Letters_2, un, List.length_map, ltrss, List.length_nil, Nat.add_zero]
        rw [bif_decide, if_neg (by omega), decide_eq_false (by omega)]
      | cons k suf ih2 =>
        intro pre n e ha
        have hk1 : k ∈ ks := by rw [e]; simp
        have hlt : pre.length < ks.length := by rw [e]; simp
        have hi : idx (ks.map enc) ((pre.length : Nat) : Int) = some k.enc := by rw [e]; exact idx_kid pre suf k
        have hss : sizes ks = sizes pre + (k.size + sizes suf) := by rw [e, sizes_append]; simp only [sizes]
        have hl := ltrs_size k
        have c := ih k hk1 (hok.kid k hk1) (hp.kid k hk1) (by omega)
        have hst : s_semigroupref04_Letters_2L CC (ks.map enc) ((ks.map enc).length : Int) ((n : Int), ((pre.length : Nat) : Int)) = some (.inl (((n + (ltrs k).length : Nat) : Int), ((pre.length + 1 : Nat) : Int))) := by
          simp only [s_semigroupref04_Letters_2L, s_semigroupref04_Letters_2, un, List.length_map]
          rw [bif_decide, if_pos (by omega), hi]
          simp only [Option.bind_some, enc_0, enc_1, enc_2]
          refine (congrArg (fun o => Option.bind o _) c).trans ?_
          simp only [Option.bind_some, V.nth_zero, V.toInt_int]
          rw [wrap64 (by omega) (by omega), wrap64 (by omega) (by omega)]
          rfl
        rw [Loop_norm hst]
        have := ih2 (pre ++ [k]) (n + (ltrs k).length) (by simp [e]) (by rw [sizes_append]; simp only [sizes]; omega)
        simpa [ltrss, Nat.add_assoc] using this
    rcases hp.shape with ⟨h, rfl⟩ | ⟨rfl, rfl, _⟩ | ⟨rfl, k, rfl⟩ | h
    · have := go [] [] 0 rfl (by simp)
      rcases h with rfl | rfl
      · rw [show ((1 : Int) == 3) = false from rfl, cond_false]
        refine (congrArg (fun o => Option.bind o _) this).trans ?_
        simp [un, ltrs, ltrss]
      · rw [show ((2 : Int) == 3) = false from rfl, cond_false]
        refine (congrArg (fun o => Option.bind o _) this).trans ?_
        simp [un, ltrs, ltrss]
    · have := go [] [] 1 rfl (by simp)
      rw [show ((3 : Int) == 3) = true from rfl, cond_true]
      refine (congrArg (fun o => Option.bind o _) this).trans ?_
      simp [un, ltrs, ltrss]
    · have := go [k] [] 0 rfl (by simp)
      rw [show ((7 : Int) == 3) = false from rfl, cond_false]
      refine (congrArg (fun o => Option.bind o _) this).trans ?_
      simp [un, ltrs]
    · have := go ks [] 0 rfl (by simp)
      rcases h with rfl | rfl
      · rw [show ((4 : Int) == 3) = false from rfl, cond_false]
        refine (congrArg (fun o => Option.bind o _) this).trans ?_
        simp [un, ltrs]
      · rw [show ((5 : Int) == 3) = false from rfl, cond_false]
        refine (congrArg (fun o => Option.bind o _) this).trans ?_
        simp [un, ltrs]
theorem ltrs_in {letters : Int} : ∀ e : Ex, Pl letters e → ∀ x ∈ ltrs e, 0 ≤ x ∧ x < letters := Ex.ind fun o l ks ih hp => by
  have go : ∀ ks : List Ex, (∀ k ∈ ks, ∀ x ∈ ltrs k, 0 ≤ x ∧ x < letters) → ∀ x ∈ ltrss ks, 0 ≤ x ∧ x < letters := by
    intro ks
    induction ks with
    | nil => intro _ x hx; simp [ltrss] at hx
    | cons k ks ih =>
      intro h x hx
      simp only [ltrss, List.mem_append] at hx
      rcases hx with hx | hx
      · exact h k (by simp) x hx
      · exact ih (fun k hk => h k (by simp [hk])) x hx
  have hk := go ks fun k hk => ih k hk (hp.kid k hk)
  intro x hx
  simp only [ltrs] at hx
  rcases hp.shape with ⟨h, rfl⟩ | ⟨rfl, rfl, h1, h2⟩ | ⟨rfl, k, rfl⟩ | h
  · rcases h with rfl | rfl
    · exact hk x (by simpa using hx)
    · exact hk x (by simpa using hx)
  · simp at hx; omega
  · exact hk x (by simpa using hx)
  · rcases h with rfl | rfl
    · exact hk x (by simpa using hx)
    · exact hk x (by simpa using hx)
theorem edgOk_in {letters : Int} {e : Ex} (hp : Pl letters e) {R : List Ed} (h : EdgOk e R) : ∀ x ∈ R, 1 ≤ x.t ∧ x.In letters (((ltrs e).length + 1 : Nat) : Int) := by
  intro x hx
  obtain ⟨i, j, h1, rfl⟩ := (h x).1 hx
  have hfo := folG_ok hp
  have hj := hfo.b i j h1
  have hi : i ≤ (ltrs e).length := by
    refine Nat.le_of_not_lt fun hi => ?_
    rw [hfo.s i hi] at h1
    simp at h1
  have hl : (0 :: ltrs e).getD j 0 ∈ ltrs e := by
    obtain ⟨k, rfl⟩ : ∃ k, j = k + 1 := ⟨j - 1, by omega⟩
    have hk : k < (ltrs e).length := by omega
    simp [hk]
  have := ltrs_in e hp _ hl
  unfold Ed.In
  exact ⟨by show (1 : Int) ≤ (j : Int); omega, by show (0 : Int) ≤ (i : Int); omega, by show (i : Int) < _; omega, by show (0 : Int) ≤ (j : Int); omega, by show (j : Int) < _; omega, this.1, this.2⟩
theorem finG_lt {letters : Int} {e : Ex} (hp : Pl letters e) : finG e < 2 ^ ((ltrs e).length + 1) := by
  obtain ⟨s1, s2⟩ := gl0_ok hp
  have hz : (gl0 e).z < 2 ^ ((ltrs e).length + 1) := by
    refine Nat.lt_of_not_le fun hx => ?_
    obtain ⟨i, hi, hb⟩ := Nat.exists_ge_and_testBit_of_ge_two_pow hx
    have := s1.z i hb
    omega
  unfold finG
  split
  · exact Nat.or_lt_two_pow hz (Nat.one_lt_two_pow (by omega))
  · exact hz
def posA (e : Ex) (letters : Int) (R : List Ed) : Nf := ⟨letters, (((ltrs e).length + 1 : Nat) : Int), 1, finG e, R⟩
theorem posA_ok {letters : Int} {e : Ex} (hp : Pl letters e) (h1 : 1 ≤ letters) (h6 : letters ≤ 6) (hn : (ltrs e).length + 1 ≤ 64) {R : List Ed} (hs : Srt R) (h : EdgOk e R) : (posA e letters R).Ok where
  L1 := by show _ ≤ letters; omega
  L2 := by show letters ≤ _; omega
  S1 := by show _ ≤ (((ltrs e).length + 1 : Nat) : Int); omega
  S2 := by show (((ltrs e).length + 1 : Nat) : Int) ≤ _; omega
  st := by show 1 < 2 ^ 64; omega
  fin := Nat.lt_of_lt_of_le (finG_lt hp) (Nat.pow_le_pow_right (by omega) hn)
  len := by
    have := srt_len (L := letters) (S := (((ltrs e).length + 1 : Nat) : Int)) h6 (by omega) hs (fun x hx => (edgOk_in hp h x hx).2)
    show R.length ≤ maxLen
    unfold maxLen; omega
  E := fun x hx => by
    obtain ⟨_, a, b, c, d, f, g⟩ := edgOk_in hp h x hx
    unfold Ed.Ok
    omega
end Go.AM
set_option maxRecDepth 100000
namespace Go.AM
open Go.Proofs
noncomputable def f_semigrouplaw06_NfaPositions (C : CallF) (e_0 e_1 : Int) (e_2 : List V) (letters : Int) : Option (List V) :=
  (C F_nfa_Position [.int .i64 e_0, .int .i64 e_1, .list T_api_Expr e_2, .int .i64 letters]).bind fun r1 =>
  (C F_semigroupref06_Position [.int .i64 e_0, .int .i64 e_1, .list T_api_Expr e_2, .int .i64 letters]).bind fun r2 =>
  bif (((V.nth (r1.drop 4) 0).toInt) : Int) == ((V.nth (r2.drop 4) 0).toInt) then
   (C F_semigroupref06_Same [.int .i64 ((V.nth r1 0).toInt), .int .i64 ((V.nth (r1.drop 1) 0).toInt), .int .u64 ((V.nth ((r1.drop 1).drop 1) 0).toInt), .int .u64 ((V.nth (((r1.drop 1).drop 1).drop 1) 0).toInt), .list T_api_Edge ((V.nth (r1.drop 5) 0).toList), .int .i64 ((V.nth r2 0).toInt), .int .i64 ((V.nth (r2.drop 1) 0).toInt), .int .u64 ((V.nth ((r2.drop 1).drop 1) 0).toInt), .int .u64 ((V.nth (((r2.drop 1).drop 1).drop 1) 0).toInt), .list T_api_Edge ((V.nth (r2.drop 5) 0).toList)]).bind fun r3 =>
   bif (V.nth r3 0).toBool then
    (C F_semigrouplaw06_awake []).bind fun r4 =>
    some [.bool ((V.nth r4 0).toBool)]
   else
    some [.bool false]
  else
   some [.bool false]
theorem f_semigrouplaw06_NfaPositions_of {e_0 e_1 : Int} {e_2 : List V} {letters : Int} {r : Option (List V)} (h : f_semigrouplaw06_NfaPositions CC e_0 e_1 e_2 letters = r) : CC F_semigrouplaw06_NfaPositions [.int .i64 e_0, .int .i64 e_1, .list T_api_Expr e_2, .int .i64 letters] = r :=
  func_of (key := 4) (L := LT0) (bs := []) (by kernel_rfl) tells_nil (Eq.trans (by kernel_rfl) h)
end Go.AM
set_option maxRecDepth 100000
set_option linter.unusedSimpArgs false
namespace Go.AM
open Go.Proofs Ex
theorem refPosition_spec (e : Ex) (h : e.Ok) (letters : Int) :
    (plainCode e letters ≠ 0 → CC F_semigroupref06_Position (exA e [.int .i64 letters]) = some [.int .i64 0, .int .i64 0, .int .u64 0, .int .u64 0, .int .i64 (plainCode e letters), .list T_api_Edge []]) ∧
    (plainCode e letters = 0 → (ltrs e).length + 1 > 64 → CC F_semigroupref06_Position (exA e [.int .i64 letters]) = some [.int .i64 0, .int .i64 0, .int .u64 0, .int .u64 0, .int .i64 3, .list T_api_Edge []]) ∧
    (plainCode e letters = 0 → (ltrs e).length + 1 ≤ 64 → ∃ R, CC F_semigroupref06_Position (exA e [.int .i64 letters]) = some [.int .i64 letters, .int .i64 (((ltrs e).length + 1 : Nat) : Int), .int .u64 1, .int .u64 ((finG e : Nat) : Int), .int .i64 0, .list T_api_Edge (R.map Ed.enc)] ∧ Srt R ∧ EdgOk e R) := by
  refine ⟨fun h1 => ?_, fun h1 h2 => ?_, fun h1 h2 => ?_⟩
  · refine f_semigroupref06_Position_of ?_
    unfold f_semigroupref06_Position
    refine (congrArg (fun o => Option.bind o _) (refPlain_spec e h letters)).trans ?_
    simp only [Option.bind_some, V.nth_zero, V.toInt_int, bif_bne]
    rw [if_neg h1]
  · obtain ⟨g1, g2, g3, g4⟩ := plain_good h1
    have hls := ltrs_size e
    refine f_semigroupref06_Position_of ?_
    unfold f_semigroupref06_Position
    refine (congrArg (fun o => Option.bind o _) (refPlain_spec e h letters)).trans ?_
    simp only [Option.bind_some, V.nth_zero, V.toInt_int, bif_bne]
    rw [if_pos h1]
    refine (congrArg (fun o => Option.bind o _) (Letters_spec e h g4 g3)).trans ?_
    simp only [Option.bind_some, V.nth_zero, V.toInt_int, bif_decide]
    rw [wrap64 (by omega) (by omega), if_pos (by omega)]
  · obtain ⟨g1, g2, g3, g4⟩ := plain_good h1
    have hls := ltrs_size e
    obtain ⟨s1, s2⟩ := gl0_ok g4
    have hf0 : FoOk 0 (fun _ => 0) := ⟨fun _ => .zero, fun _ _ => rfl⟩
    obtain ⟨E, c1, hE, hl⟩ := walk_spec e h g4 [0] 0 (fun _ => 0) [] rfl hf0 (fun z => ⟨fun hz => by simp at hz, fun ⟨i, j, hb, _⟩ => by simp at hb⟩) (by omega) (by simp only [List.length_nil]; omega)
    have e4 : glu e 0 (fun _ => 0) = gl0 e := rfl
    rw [e4] at c1 hE
    have b3 : (gl0 e).a < 2 ^ 64 := s1.a.lt (by omega)
    have b4 : (gl0 e).z < 2 ^ 64 := s1.z.lt (by omega)
    have hcl : ([0] ++ ltrs e).length = (ltrs e).length + 1 := by simp
    have cl := link_spec (c := [0] ++ ltrs e) (E := E) (x := 1) (by omega) b3 (fun j hj => by have := s1.a j hj; omega) (by omega) (by simp only [List.length_nil] at hl; omega)
    rw [show ((1 : Nat) : Int) = 1 from rfl] at cl
    have hl4 := lnks_le (c := [0] ++ ltrs e) (x := 1) (y := (gl0 e).a)
    have cs := Sorted_spec (l := E ++ lnks ([0] ++ ltrs e) 1 (gl0 e).a) (by rw [List.length_append]; simp only [List.length_nil] at hl; omega)
    have hJ := hE.join (x := 1) (y := (gl0 e).a) (by omega) b3
    have ef : joinG 1 (gl0 e).a (gl0 e).fo = folG e := by
      funext i
      unfold joinG folG upd1
      have hb : (Nat.testBit 1 i = true) ↔ i = 0 := by
        have := Nat.testBit_two_pow (n := 0) (m := i)
        rw [show (2 : Nat) ^ 0 = 1 from rfl] at this
        rw [this]; simp [eq_comm]
      by_cases hi : i = 0
      · rw [if_pos (hb.2 hi), if_pos hi, hi, s1.f0, Nat.zero_or]
      · rw [if_neg (fun h => hi (hb.1 h)), if_neg hi]
    rw [ef] at hJ
    refine ⟨sortedN (E ++ lnks ([0] ++ ltrs e) 1 (gl0 e).a), f_semigroupref06_Position_of ?_, sortedN_srt _, fun x => ?_⟩
    · unfold f_semigroupref06_Position
      refine (congrArg (fun o => Option.bind o _) (refPlain_spec e h letters)).trans ?_
      simp only [Option.bind_some, V.nth_zero, V.toInt_int, bif_bne]
      rw [if_pos h1]
      refine (congrArg (fun o => Option.bind o _) (Letters_spec e h g4 g3)).trans ?_
      simp only [Option.bind_some, V.nth_zero, V.toInt_int, bif_decide]
      rw [wrap64 (by omega) (by omega), if_neg (by omega)]
      refine (congrArg (fun o => Option.bind o _) c1).trans ?_
      simp only [Option.bind_some, List.drop_succ_cons, List.drop_zero, V.nth_zero, V.toInt_int, V.toBool_bool, V.toList_list]
      refine (congrArg (fun o => Option.bind o _) cl).trans ?_
      simp only [Option.bind_some, List.drop_succ_cons, List.drop_zero, V.nth_zero, V.toInt_int, V.toBool_bool, V.toList_list]
      refine (congrArg (fun o => Option.bind o _) cs).trans ?_
      have hic : (iV ([0] ++ ltrs e)).length = (ltrs e).length + 1 := by simp [iV]
      simp only [Option.bind_some, V.nth_zero, V.toList_list, hic]
      have hw := u64_or (A := (gl0 e).z) (B := 1) b4 (by omega)
      rw [show ((1 : Nat) : Int) = 1 from rfl] at hw
      unfold finG
      cases hn : (gl0 e).n with
      | true => rw [cond_true, hw]; simp
      | false => rw [cond_false]; simp
    · rw [sortedN_mem]; exact hJ x
theorem nfaPositions (e : Ex) (h : e.Ok) (letters : Int) : CC F_semigrouplaw06_NfaPositions (exA e [.int .i64 letters]) = some [.bool true] := by
  obtain ⟨p1, p2, p3⟩ := Position_spec e h letters
  obtain ⟨r1, r2, r3⟩ := refPosition_spec e h letters
  have hz : CC F_semigroupref06_Same [.int .i64 0, .int .i64 0, .int .u64 0, .int .u64 0, .list T_api_Edge [], .int .i64 0, .int .i64 0, .int .u64 0, .int .u64 0, .list T_api_Edge []] = some [.bool true] :=
    Same_refl ⟨0, 0, 0, 0, []⟩ (by simp)
  refine f_semigrouplaw06_NfaPositions_of ?_
  unfold f_semigrouplaw06_NfaPositions
  rw [awake]
  by_cases h1 : plainCode e letters = 0
  case neg =>
    refine (congrArg (fun o => Option.bind o _) (p1 h1)).trans ?_
    simp only [Option.bind_some]
    refine (congrArg (fun o => Option.bind o _) (r1 h1)).trans ?_
    simp only [Option.bind_some, List.drop_succ_cons, List.drop_zero, V.nth_zero, V.toInt_int, V.toList_list, bif_beq]
    rw [if_pos trivial]
    refine (congrArg (fun o => Option.bind o _) hz).trans ?_
    rfl
  by_cases h2 : (ltrs e).length + 1 > 64
  · refine (congrArg (fun o => Option.bind o _) (p2 h1 h2)).trans ?_
    simp only [Option.bind_some]
    refine (congrArg (fun o => Option.bind o _) (r2 h1 h2)).trans ?_
    simp only [Option.bind_some, List.drop_succ_cons, List.drop_zero, V.nth_zero, V.toInt_int, V.toList_list, bif_beq]
    rw [if_pos trivial]
    refine (congrArg (fun o => Option.bind o _) hz).trans ?_
    rfl
  obtain ⟨g1, g2, g3, g4⟩ := plain_good h1
  obtain ⟨R, c1, s1, e1⟩ := p3 h1 (by omega)
  obtain ⟨R', c2, s2, e2⟩ := r3 h1 (by omega)
  have hR : R = R' := srt_ext s1 s2 fun x => (e1 x).trans (e2 x).symm
  subst hR
  refine (congrArg (fun o => Option.bind o _) c1).trans ?_
  simp only [Option.bind_some]
  refine (congrArg (fun o => Option.bind o _) c2).trans ?_
  simp only [Option.bind_some, List.drop_succ_cons, List.drop_zero, V.nth_zero, V.toInt_int, V.toList_list, bif_beq]
  rw [if_pos trivial]
  have hs := Same_refl (posA e letters R) (posA_ok g4 g1 g2 (by omega) s1 e1).len
  refine (congrArg (fun o => Option.bind o _) hs).trans ?_
  rfl
end Go.AM
set_option maxRecDepth 100000
namespace Go.AM
open Go.Proofs
theorem WT.i64_inv {P : Program} {t : TypeId} {x : V} (hu : P.underlying t = some (.int .i64)) (h : WT P t x) : ∃ n : Int, x = .int .i64 n ∧ -9223372036854775808 ≤ n ∧ n ≤ 9223372036854775807 := by
  obtain ⟨n, rfl, h1, h2⟩ := h.int_inv hu
  have e1 : IntKind.min .i64 = -9223372036854775808 := by decide
  have e2 : IntKind.max .i64 = 9223372036854775807 := by decide
  rw [e1] at h1
  rw [e2] at h2
  exact ⟨n, rfl, h1, h2⟩
def Nf.enc (n : Nf) : V := .agg (nfA n [])
end Go.AM
