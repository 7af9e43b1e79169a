/-
  Chapter 4: the text of an expression.
-/
import Derived.Test.YtcgkkhgapeiabaaP4
set_option linter.unusedVariables false
set_option linter.unusedSimpArgs false
set_option maxRecDepth 100000
set_option linter.unusedSimpArgs false
namespace Go.AM
open Go.Proofs Ex
def lev (op : Int) : Int := if op = 4 then 1 else if op = 6 then 2 else if op = 5 then 3 else if op = 8 then 4 else if op = 7 then 5 else 6
def wrapT (op least : Int) (t : List UInt8) : List UInt8 := if lev op < least then 40 :: (t ++ [41]) else t
mutual
def Ex.text : Ex → List UInt8
  | .node o l ks =>
    if o = 1 then [48] else if o = 2 then [49] else if o = 3 then [UInt8.ofNat (97 + l).toNat]
    else if o = 8 then 33 :: texts [] 4 true ks else if o = 7 then texts [] 5 true ks ++ [42]
    else if o = 4 then texts [124] 2 true ks else if o = 6 then texts [38] 3 true ks else texts [] 4 true ks
def Ex.texts (sep : List UInt8) (least : Int) (first : Bool) : List Ex → List UInt8
  | [] => []
  | k :: ks => (if first then [] else sep) ++ (wrapT k.op least (text k) ++ texts sep least false ks)
end
theorem wrapT_len (op least : Int) (t : List UInt8) : (wrapT op least t).length ≤ t.length + 2 := by
  unfold wrapT; split <;> simp
theorem texts_len (sep : List UInt8) (hs : sep.length ≤ 1) (least : Int) : ∀ (ks : List Ex) (f : Bool), (∀ k ∈ ks, k.text.length + 3 ≤ 4 * k.size) → (texts sep least f ks).length ≤ 4 * sizes ks
  | [], f, _ => by simp [texts]
  | k :: ks, f, h => by
    have h1 := h k (by simp)
    have h2 := texts_len sep hs least ks false fun k hk => h k (by simp [hk])
    have h3 := wrapT_len k.op least k.text
    simp only [texts, List.length_append, sizes]
    cases f <;> simp <;> omega
theorem text_len : ∀ e : Ex, e.text.length + 3 ≤ 4 * e.size := ind fun o l ks ih => by
  have h := fun sep hs least => texts_len sep hs least ks true ih
  have h1 := h [] (by simp) 4
  have h2 := h [] (by simp) 5
  have h3 := h [124] (by simp) 2
  have h4 := h [38] (by simp) 3
  simp only [text, size]
  repeat' split
  all_goals simp
  all_goals omega
/-! the builder -/
theorem wb_spec (c : UInt8) (b : List UInt8) (h : b.length < 2 ^ 40) : CC F_strings_Builder_WriteByte [.int .u8 c.toNat, .list T_uint8 (b.map byteV)] = some [.list T_uint8 ((b ++ [c]).map byteV)] := by
  refine f_strings_Builder_WriteByte_of ?_
  unfold f_strings_Builder_WriteByte
  simp only [bif_ble]
  rw [if_pos (by simp [maxBytes]; omega)]
  simp [byteV]
theorem ws_spec (s b : List UInt8) (h : b.length + s.length < 2 ^ 40) : CC F_strings_Builder_WriteString [.str s, .list T_uint8 (b.map byteV)] = some [.int .i64 s.length, .list T_uint8 ((b ++ s).map byteV)] := by
  refine f_strings_Builder_WriteString_of ?_
  unfold f_strings_Builder_WriteString
  simp only [bif_ble]
  rw [if_pos (by simp [maxBytes]; omega)]
  simp
theorem bytes_map (b : List UInt8) : bytesOfV (b.map byteV) = b := by
  unfold bytesOfV
  rw [List.map_map]
  have : ((fun x : V => UInt8.ofNat x.toInt.toNat) ∘ byteV) = id := by
    funext c
    simp [byteV]
  rw [this, List.map_id]
theorem str_spec (b : List UInt8) (h0 : b ≠ []) (h : b.length < 2 ^ 40) : CC F_strings_Builder_String [.list T_uint8 (b.map byteV)] = some [.str b] := by
  refine f_strings_Builder_String_of ?_
  unfold f_strings_Builder_String
  have hp : 0 < b.length := by cases b <;> simp at h0 ⊢
  have h1 : Nat.blt 0 (b.map byteV).length = true := by rw [Nat.blt_eq]; simpa using hp
  have h2 : (((b.map byteV).length : Int)).toNat = (b.map byteV).length := by simp
  have h3 : Nat.ble (b.map byteV).length maxStr = true := Nat.ble_eq_true_of_le (by simp [maxStr]; omega)
  have h4 : (b.map byteV).all inByte = true := by
    rw [List.all_eq_true]
    intro x hx
    obtain ⟨c, _, rfl⟩ := List.mem_map.1 hx
    have := c.toNat_lt
    simp [inByte, byteV]
    omega
  rw [h1, h2, List.take_length, h3, h4, bytes_map]
  simp [hp]
theorem level_spec (op : Int) : CC F_expr_level [.int .i64 op] = some [.int .i64 (lev op)] := by
  refine f_expr_level_of ?_
  unfold f_expr_level lev
  simp only [bif_beq]
  repeat' split
  all_goals rfl
theorem refLevel_spec (op : Int) : CC F_semigroupref04_level [.int .i64 op] = some [.int .i64 (lev op)] := by
  refine f_semigroupref04_level_of ?_
  unfold f_semigroupref04_level lev
  simp only [bif_beq]
  repeat' split
  all_goals rfl
/-! write -/
theorem wk_loop {ks : List Ex} (hlen : ks.length ≤ maxLen) (ih : ∀ k ∈ ks, ∀ b : List UInt8, b.length + k.text.length < 2 ^ 40 → CC F_expr_write (exA k [.list T_uint8 (b.map byteV)]) = some [.list T_uint8 ((b ++ k.text).map byteV)]) (sep : List UInt8) (least : Int) :
    ∀ (suf pre : List Ex) (b : List UInt8), ks = pre ++ suf → b.length + (texts sep least pre.isEmpty suf).length < 2 ^ 40 →
    ∃ i t, Loop (s_expr_writeKids_2L CC sep least (ks.map enc) ((ks.map enc).length : Int)) (((pre.length : Nat) : Int), b.map byteV) = some (i, t, (b ++ texts sep least pre.isEmpty suf).map byteV) := by
  intro suf
  induction suf with
  | nil =>
    intro pre b hks hb
    subst hks
    refine ⟨((pre.length : Nat) : Int), false, Loop_end ?_⟩
    simp only [s_expr_writeKids_2L, s_expr_writeKids_2, un, List.append_nil, List.length_map, bif_decide, texts]
    rw [if_neg (by omega)]
    simp
  | cons k suf ihs =>
    intro pre b hks hb
    have hpl : pre.length < ks.length := by rw [hks]; simp
    have hm : k ∈ ks := by rw [hks]; simp
    have := maxLen_le
    have hix : idx (ks.map enc) (pre.length : Int) = some k.enc := by rw [hks]; exact idx_kid _ _ _
    generalize hsp : (if pre.isEmpty then [] else sep) = sp
    have ht : texts sep least pre.isEmpty (k :: suf) = sp ++ (wrapT k.op least k.text ++ texts sep least false suf) := by simp only [texts, hsp]
    rw [ht] at hb ⊢
    simp only [List.length_append] at hb
    have hstep : s_expr_writeKids_2L CC sep least (ks.map enc) ((ks.map enc).length : Int) (((pre.length : Nat) : Int), b.map byteV) = some (.inl ((((pre ++ [k]).length : Nat) : Int), (b ++ sp ++ wrapT k.op least k.text).map byteV)) := by
      have h1 : ∀ {β : Type} (kr : List V → Option β) (o l : Int) (es : List V), s_expr_writeKids_1 CC sep least (ks.map enc) ((ks.length : Nat) : Int) ((pre.length : Nat) : Int) (decide (((pre.length : Nat) : Int) > 0)) o l es (b.map byteV) kr = kr ((b ++ sp).map byteV) := by
        intro β kr o l es
        unfold s_expr_writeKids_1
        cases pre with
        | nil =>
          simp at hsp
          subst hsp
          simp
        | cons a pre =>
          simp at hsp
          subst hsp
          rw [ws_spec _ _ (by omega)]
          have : (0 : Int) < ((a :: pre).length : Int) := by simp only [List.length_cons]; omega
          simp [this]
      simp only [s_expr_writeKids_2L, s_expr_writeKids_2, un, List.length_map, bif_decide]
      rw [if_pos (by omega), hix]
      simp only [Option.bind_some, enc_0, enc_1, enc_2]
      rw [h1, level_spec]
      simp only [Option.bind_some, V.nth_zero, V.toInt_int, bif_decide]
      unfold wrapT at hb ⊢
      by_cases hl : lev k.op < least
      · rw [if_neg (by omega), if_pos hl]
        rw [if_pos hl] at hb
        simp only [List.length_cons, List.length_append, List.length_nil] at hb
        rw [show (V.int .u8 40) = .int .u8 (((40 : UInt8).toNat : Nat) : Int) by rfl, show (V.int .u8 41) = .int .u8 (((41 : UInt8).toNat : Nat) : Int) by rfl]
        rw [wb_spec _ _ (by simp; omega)]
        simp only [Option.bind_some, V.nth_zero, V.toList_list]
        rw [ih k hm _ (by simp; omega)]
        simp only [Option.bind_some, V.nth_zero, V.toList_list]
        rw [wb_spec _ _ (by simp; omega), wrap64 (by omega) (by omega)]
        simp
      · rw [if_pos (by omega), if_neg hl]
        rw [if_neg hl] at hb
        rw [ih k hm _ (by simp; omega)]
        simp only [Option.bind_some, V.nth_zero, V.toList_list]
        rw [wrap64 (by omega) (by omega)]
        simp
    rw [Loop_norm hstep]
    have hE : (pre ++ [k]).isEmpty = false := by cases pre <;> rfl
    have h3 := ihs (pre ++ [k]) (b ++ sp ++ wrapT k.op least k.text) (by rw [hks]; simp)
    rw [hE] at h3
    obtain ⟨i, t, h2⟩ := h3 (by simp only [List.length_append]; omega)
    refine ⟨i, t, h2.trans ?_⟩
    simp
theorem wk_spec {ks : List Ex} (hlen : ks.length ≤ maxLen) (ih : ∀ k ∈ ks, ∀ b : List UInt8, b.length + k.text.length < 2 ^ 40 → CC F_expr_write (exA k [.list T_uint8 (b.map byteV)]) = some [.list T_uint8 ((b ++ k.text).map byteV)]) (sep : List UInt8) (least : Int) (b : List UInt8)
    (hb : b.length + (texts sep least true ks).length < 2 ^ 40) : CC F_expr_writeKids [.list T_api_Expr (ks.map enc), .str sep, .int .i64 least, .list T_uint8 (b.map byteV)] = some [.list T_uint8 ((b ++ texts sep least true ks).map byteV)] := by
  refine f_expr_writeKids_of ?_
  unfold f_expr_writeKids
  obtain ⟨i, t, h⟩ := wk_loop hlen ih sep least ks [] b rfl hb
  simp only [List.length_nil, Int.ofNat_zero, Int.natCast_zero, List.isEmpty_nil] at h
  erw [h]
  rfl
theorem shape3 {l n : Int} (h : shapeOk 3 l n 6 = true) : 0 ≤ l ∧ l < 6 := by
  simp [shapeOk] at h; omega
theorem shapeBad {o l n letters : Int} (ho : o < 1 ∨ 8 < o) : shapeOk o l n letters = false := by
  have n1 : o ≠ 1 := by omega
  have n2 : o ≠ 2 := by omega
  have n3 : o ≠ 3 := by omega
  have n7 : o ≠ 7 := by omega
  have n8 : o ≠ 8 := by omega
  have n9 : ¬ (4 ≤ o ∧ o ≤ 6 ∧ 2 ≤ n) := by omega
  simp [shapeOk, n1, n2, n3, n7, n8, n9]
theorem write_spec : ∀ e : Ex, e.Ok → e.wf 6 = true → ∀ b : List UInt8, b.length + e.text.length < 2 ^ 40 → CC F_expr_write (exA e [.list T_uint8 (b.map byteV)]) = some [.list T_uint8 ((b ++ e.text).map byteV)] :=
  ind fun o l ks ih hok hwf b hb => by
    obtain ⟨w1, w2⟩ := wf_node hwf
    have hw := fun sep least b => wk_spec hok.len (fun k hk => ih k hk (hok.kid k hk) (w2 k hk)) sep least b
    refine f_expr_write_of ?_
    unfold f_expr_write s_expr_write_5 s_expr_write_4 s_expr_write_3 s_expr_write_2 s_expr_write_1
    simp only [Ex.op, Ex.letter, Ex.kids]
    rcases op_cases o with rfl | rfl | rfl | rfl | rfl | rfl | rfl | rfl | ho
    case inr.inr.inr.inr.inr.inr.inr.inr => rw [shapeBad ho] at w1; cases w1
    · simp [text] at hb ⊢
      rw [show (V.int .u8 48) = .int .u8 (((48 : UInt8).toNat : Nat) : Int) by rfl, wb_spec _ _ (by omega)]
      simp
    · simp [text] at hb ⊢
      rw [show (V.int .u8 49) = .int .u8 (((49 : UInt8).toNat : Nat) : Int) by rfl, wb_spec _ _ (by omega)]
      simp
    · have hl := shape3 w1
      simp [text] at hb ⊢
      rw [wrap8 (x := l) (by omega) (by omega), wrap8 (by omega) (by omega)]
      have : (V.int .u8 (97 + l)) = .int .u8 (((UInt8.ofNat (97 + l).toNat).toNat : Nat) : Int) := by
        have : (97 + l).toNat < 256 := by omega
        simp only [UInt8.toNat_ofNat']
        congr 1
        omega
      rw [this, wb_spec _ _ (by omega)]
      simp
    · simp [text] at hb ⊢
      rw [hw _ _ _ (by omega)]
      simp
    · simp [text] at hb ⊢
      rw [hw _ _ _ (by omega)]
      simp
    · simp [text] at hb ⊢
      rw [hw _ _ _ (by omega)]
      simp
    · simp [text] at hb ⊢
      rw [hw _ _ _ (by omega)]
      simp only [Option.bind_some, V.nth_zero, V.toList_list]
      rw [show (V.int .u8 42) = .int .u8 (((42 : UInt8).toNat : Nat) : Int) by rfl, wb_spec _ _ (by simp; omega)]
      simp
    · simp [text] at hb ⊢
      rw [show (V.int .u8 33) = .int .u8 (((33 : UInt8).toNat : Nat) : Int) by rfl, wb_spec _ _ (by omega)]
      simp only [Option.bind_some, V.nth_zero, V.toList_list]
      rw [hw _ _ _ (by simp; omega)]
      simp
theorem text_ne : ∀ e : Ex, e.wf 6 = true → e.text ≠ [] := ind fun o l ks ih h => by
  obtain ⟨w1, w2⟩ := wf_node h
  rcases op_cases o with rfl | rfl | rfl | rfl | rfl | rfl | rfl | rfl | ho
  case inr.inr.inr.inr.inr.inr.inr.inr => rw [shapeBad ho] at w1; cases w1
  case inr.inr.inr.inl =>
    intro hh
    match ks, w1, hh with
    | [], w1, _ => simp [shapeOk] at w1
    | [a], w1, _ => simp [shapeOk] at w1
    | a :: b :: l, _, hh => simp [text, texts] at hh
  case inr.inr.inr.inr.inr.inl =>
    intro hh
    match ks, w1, hh with
    | [], w1, _ => simp [shapeOk] at w1
    | [a], w1, _ => simp [shapeOk] at w1
    | a :: b :: l, _, hh => simp [text, texts] at hh
  case inr.inr.inr.inr.inl =>
    intro hh
    match ks, w1, w2, hh, ih with
    | [], w1, _, _, _ => simp [shapeOk] at w1
    | a :: ks, _, w2, hh, ih =>
      have := ih a (by simp) (w2 a (by simp))
      simp [text, texts, wrapT] at hh
      split at hh
      · simp at hh
      · exact this hh.1
  all_goals simp [text]
theorem Format_spec (e : Ex) (h : e.Ok) : CC F_expr_Format (exA e []) = some [.str (if e.val 6 = 0 then e.text else [])] := by
  refine f_expr_Format_of ?_
  unfold f_expr_Format
  rw [valid_spec e h]
  by_cases hv : e.val 6 = 0
  · obtain ⟨_, h2, h3⟩ := val0 hv
    have hl := text_len e
    have hw := write_spec e h h3 [] (by simp; omega)
    simp only [List.map_nil, List.nil_append] at hw
    simp only [Option.bind_some, V.nth_zero, V.toBool_bool, hv, decide_true, Bool.not_true, cond_false, if_true]
    rw [hw]
    simp only [Option.bind_some, V.nth_zero, V.toList_list]
    rw [str_spec _ (text_ne e h3) (by omega)]
    simp
  · simp [hv]
/-! the reference -/
theorem part_spec (k : Ex) (least : Int) (hb : k.text.length < 2 ^ 40) (ih : CC F_semigroupref04_Format (exA k []) = some [.str k.text]) : CC F_semigroupref04_part (exA k [.int .i64 least]) = some [.str (wrapT k.op least k.text)] := by
  refine f_semigroupref04_part_of ?_
  unfold f_semigroupref04_part wrapT
  rw [refLevel_spec, ih]
  simp only [Option.bind_some, V.nth_zero, V.toInt_int, V.toStr_str, bif_decide, bif_ble]
  by_cases hl : lev k.op < least
  · rw [if_pos hl, if_pos hl, if_pos (by simp [maxStr]; omega), if_pos (by simp [maxStr]; omega)]
    simp
  · rw [if_neg hl, if_neg hl]
theorem rf_loop {ks : List Ex} (hlen : ks.length ≤ maxLen) (sep : List UInt8) (hsep : sep.length ≤ 1) (least : Int) (ih : ∀ k ∈ ks, k.text.length < 2 ^ 39 ∧ CC F_semigroupref04_Format (exA k []) = some [.str k.text]) :
    ∀ (suf pre : List Ex) (s : List UInt8), ks = pre ++ suf → s.length + (texts sep least pre.isEmpty suf).length < 2 ^ 40 →
    ∃ i t, Loop (s_semigroupref04_Format_3L CC sep least (ks.map enc) ((ks.map enc).length : Int)) (s, ((pre.length : Nat) : Int)) = some (s ++ texts sep least pre.isEmpty suf, i, t) := by
  intro suf
  induction suf with
  | nil =>
    intro pre s hks hb
    subst hks
    refine ⟨((pre.length : Nat) : Int), false, Loop_end ?_⟩
    simp only [s_semigroupref04_Format_3L, s_semigroupref04_Format_3, un, List.append_nil, List.length_map, bif_decide, texts]
    rw [if_neg (by omega)]
    simp
  | cons k suf ihs =>
    intro pre s hks hb
    have hpl : pre.length < ks.length := by rw [hks]; simp
    have hm : k ∈ ks := by rw [hks]; simp
    have := maxLen_le
    have hix : idx (ks.map enc) (pre.length : Int) = some k.enc := by rw [hks]; exact idx_kid _ _ _
    obtain ⟨i1, i2⟩ := ih k hm
    generalize hsp : (if pre.isEmpty then [] else sep) = sp
    have hspl : sp.length ≤ 1 := by rw [← hsp]; split <;> simp [hsep]
    have ht : texts sep least pre.isEmpty (k :: suf) = sp ++ (wrapT k.op least k.text ++ texts sep least false suf) := by simp only [texts, hsp]
    rw [ht] at hb ⊢
    simp only [List.length_append] at hb
    have hstep : s_semigroupref04_Format_3L CC sep least (ks.map enc) ((ks.map enc).length : Int) (s, ((pre.length : Nat) : Int)) = some (.inl (s ++ sp ++ wrapT k.op least k.text, (((pre ++ [k]).length : Nat) : Int))) := by
      have h1 : ∀ {β : Type} (kr : List UInt8 → Option β) (o l : Int) (es : List V), s_semigroupref04_Format_2 CC s sep least (ks.map enc) ((ks.length : Nat) : Int) ((pre.length : Nat) : Int) (decide (((pre.length : Nat) : Int) > 0)) o l es kr = kr (s ++ sp) := by
        intro β kr o l es
        unfold s_semigroupref04_Format_2
        cases pre with
        | nil =>
          simp at hsp
          subst hsp
          simp
        | cons a pre =>
          simp at hsp
          subst hsp
          have : (0 : Int) < ((a :: pre).length : Int) := by simp only [List.length_cons]; omega
          simp only [gt_iff_lt, this, decide_true, cond_true, bif_ble]
          rw [if_pos (by simp [maxStr]; omega)]
      simp only [s_semigroupref04_Format_3L, s_semigroupref04_Format_3, un, List.length_map, bif_decide]
      rw [if_pos (by omega), hix]
      simp only [Option.bind_some, enc_0, enc_1, enc_2]
      rw [h1, part_spec k least (by omega) i2]
      simp only [Option.bind_some, V.nth_zero, V.toStr_str, bif_ble]
      rw [if_pos (by simp [maxStr]; omega), wrap64 (by omega) (by omega)]
      simp
    rw [Loop_norm hstep]
    have hE : (pre ++ [k]).isEmpty = false := by cases pre <;> rfl
    have h3 := ihs (pre ++ [k]) (s ++ sp ++ wrapT k.op least k.text) (by rw [hks]; simp)
    rw [hE] at h3
    obtain ⟨i, t, h2⟩ := h3 (by simp only [List.length_append]; omega)
    refine ⟨i, t, h2.trans ?_⟩
    simp
theorem refFormat_spec : ∀ e : Ex, e.Ok → e.wf 6 = true → e.size ≤ 400 → CC F_semigroupref04_Format (exA e []) = some [.str e.text] :=
  ind fun o l ks ih hok hwf hsz => by
    obtain ⟨w1, w2⟩ := wf_node hwf
    have hs : (Ex.node o l ks).size = 1 + sizes ks := by simp only [size]
    have hkid : ∀ k ∈ ks, k.text.length < 2 ^ 39 ∧ CC F_semigroupref04_Format (exA k []) = some [.str k.text] := fun k hk => by
      have h1 := kid_size hk
      have h2 := text_len k
      exact ⟨by omega, ih k hk (hok.kid k hk) (w2 k hk) (by omega)⟩
    have hr : ∀ (sep : List UInt8) (hsep : sep.length ≤ 1) (least : Int), (Loop (s_semigroupref04_Format_3L CC sep least (ks.map enc) ((ks.map enc).length : Int)) ([], 0)).bind (un fun (s : List UInt8) => un fun (_ : Int) (_ : Bool) => some [V.str s]) = some [.str (texts sep least true ks)] := by
      intro sep hsep least
      have htl := texts_len sep hsep least ks true fun k _ => text_len k
      obtain ⟨i, t, h⟩ := rf_loop hok.len sep hsep least hkid ks [] [] rfl (by simp only [List.isEmpty_nil, List.length_nil]; omega)
      simp only [List.length_nil, Int.ofNat_zero, Int.natCast_zero, List.isEmpty_nil, List.nil_append] at h
      erw [h]
      rfl
    refine f_semigroupref04_Format_of ?_
    unfold f_semigroupref04_Format s_semigroupref04_Format_1
    simp only [Ex.op, Ex.letter, Ex.kids]
    rcases op_cases o with rfl | rfl | rfl | rfl | rfl | rfl | rfl | rfl | ho
    case inr.inr.inr.inr.inr.inr.inr.inr => rw [shapeBad ho] at w1; cases w1
    case inr.inr.inl =>
      have hl := shape3 w1
      simp [text]
      rw [wrap64 (by omega) (by omega), wrap8 (by omega) (by omega)]
      simp [bytesOfV]
    case inr.inr.inr.inr.inr.inr.inl =>
      have h1 : ks.length = 1 := by simp [shapeOk] at w1; omega
      match ks, h1, hkid with
      | [k], _, hkid =>
        obtain ⟨i1, i2⟩ := hkid k (by simp)
        have hwl := wrapT_len k.op 5 k.text
        simp only [List.map_cons, List.map_nil, List.getElem?_cons_zero, Option.bind_some, enc_0, enc_1, enc_2]
        rw [part_spec k 5 (by omega) i2]
        simp [text, texts]
        simp [maxStr]; omega
    case inr.inr.inr.inr.inr.inr.inr.inl =>
      have h1 := shape8 w1
      match ks, h1, hkid with
      | [k], _, hkid =>
        obtain ⟨i1, i2⟩ := hkid k (by simp)
        have hwl := wrapT_len k.op 4 k.text
        simp only [List.map_cons, List.map_nil, List.getElem?_cons_zero, Option.bind_some, enc_0, enc_1, enc_2]
        rw [part_spec k 4 (by omega) i2]
        simp [text, texts]
        simp [maxStr]; omega
    case inr.inr.inr.inl =>
      simp [text, un]
      have := hr [124] (by simp) 2
      simp only [List.length_map] at this
      exact this
    case inr.inr.inr.inr.inl =>
      simp [text, un]
      have := hr [] (by simp) 4
      simp only [List.length_map] at this
      exact this
    case inr.inr.inr.inr.inr.inl =>
      simp [text, un]
      have := hr [38] (by simp) 3
      simp only [List.length_map] at this
      exact this
    all_goals simp [text]
end Go.AM

/-
  The sanity check of chapter 4's laws, run in the kernel.
-/
set_option maxRecDepth 100000
namespace Go.AM
open Go.Proofs
theorem awake : CC F_semigrouplaw04_awake [] = some [.bool true] := Call_of_run (N := 40) (n := 40) (by kernel_rfl)
end Go.AM

set_option maxRecDepth 100000
namespace Go.AM
open Go.Proofs
noncomputable abbrev B_semigrouplaw04_ExprFormats : Code := bodyOf Try.prog (ann.fid 4)
noncomputable def LT_semigrouplaw04_ExprFormats (C : CallF) : LTab := fun β n ds k =>
  none
noncomputable def f_semigrouplaw04_ExprFormats (C : CallF) (e_0 e_1 : Int) (e_2 : List V) : Option (List V) :=
  (C F_expr_Format [.int .i64 e_0, .int .i64 e_1, .list T_api_Expr e_2]).bind fun r1 =>
  (C F_semigroupref04_Valid [.int .i64 e_0, .int .i64 e_1, .list T_api_Expr e_2]).bind fun r2 =>
  bif !((V.nth r2 0).toBool) then
   bif ((V.nth r1 0).toStr) == [] then
    (C F_semigrouplaw04_awake []).bind fun r3 =>
    some [.bool ((V.nth r3 0).toBool)]
   else
    some [.bool false]
  else
   (C F_semigroupref04_Format [.int .i64 e_0, .int .i64 e_1, .list T_api_Expr e_2]).bind fun r4 =>
   bif ((V.nth r1 0).toStr) == ((V.nth r4 0).toStr) then
    (C F_semigrouplaw04_awake []).bind fun r5 =>
    some [.bool ((V.nth r5 0).toBool)]
   else
    some [.bool false]
theorem f_semigrouplaw04_ExprFormats_eq (C : CallF) (e_0 e_1 : Int) (e_2 : List V) : bodyT Try.prog ann C (LT_semigrouplaw04_ExprFormats C) 4 [.int .i64 e_0, .int .i64 e_1, .list T_api_Expr e_2] = f_semigrouplaw04_ExprFormats C e_0 e_1 e_2 := by kernel_rfl
theorem f_semigrouplaw04_ExprFormats_of {e_0 e_1 : Int} {e_2 : List V} {r : Option (List V)} (h : f_semigrouplaw04_ExprFormats CC e_0 e_1 e_2 = r) : CC F_semigrouplaw04_ExprFormats [.int .i64 e_0, .int .i64 e_1, .list T_api_Expr e_2] = r :=
  func_of (key := 4) (L := LT_semigrouplaw04_ExprFormats CC) (bs := []) (by kernel_rfl) tells_nil ((f_semigrouplaw04_ExprFormats_eq CC e_0 e_1 e_2).trans h)
end Go.AM

/-
  ExprFormats, on plain data.
-/
namespace Go.AM
open Go.Proofs Ex
theorem exprFormats (e : Ex) (h : e.Ok) : CC F_semigrouplaw04_ExprFormats (exA e []) = some [.bool true] := by
  refine f_semigrouplaw04_ExprFormats_of ?_
  unfold f_semigrouplaw04_ExprFormats
  rw [refValid_spec e h, Format_spec e h, awake]
  by_cases hv : e.val 6 = 0
  · obtain ⟨_, hs, hw⟩ := val0 hv
    rw [refFormat_spec e h hw hs]
    simp [hv]
  · simp [hv]
end Go.AM
