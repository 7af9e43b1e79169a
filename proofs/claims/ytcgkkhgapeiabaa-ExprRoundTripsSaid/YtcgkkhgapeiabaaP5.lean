/-
  Chapter 4: the text of an expression.
-/
import Derived.Test.YtcgkkhgapeiabaaP4
set_option linter.unusedVariables false
set_option linter.unusedSimpArgs false
set_option maxRecDepth 100000
set_option linter.unusedSimpArgs false
namespace Go.AM
open Go.Proofs Ex
def lev (op : Int) : Int := if op = 4 then 1 else if op = 6 then 2 else if op = 5 then 3 else if op = 8 then 4 else if op = 7 then 5 else 6
def wrapT (op least : Int) (t : List UInt8) : List UInt8 := if lev op < least then 40 :: (t ++ [41]) else t
mutual
def Ex.text : Ex → List UInt8
  | .node o l ks =>
    if o = 1 then [48] else if o = 2 then [49] else if o = 3 then [UInt8.ofNat (97 + l).toNat]
    else if o = 8 then 33 :: texts [] 4 true ks else if o = 7 then texts [] 5 true ks ++ [42]
    else if o = 4 then texts [124] 2 true ks else if o = 6 then texts [38] 3 true ks else texts [] 4 true ks
def Ex.texts (sep : List UInt8) (least : Int) (first : Bool) : List Ex → List UInt8
  | [] => []
  | k :: ks => (if first then [] else sep) ++ (wrapT k.op least (text k) ++ texts sep least false ks)
end
theorem wrapT_len (op least : Int) (t : List UInt8) : (wrapT op least t).length ≤ t.length + 2 := by
  unfold wrapT; split <;> simp
theorem texts_len (sep : List UInt8) (hs : sep.length ≤ 1) (least : Int) : ∀ (ks : List Ex) (f : Bool), (∀ k ∈ ks, k.text.length + 3 ≤ 4 * k.size) → (texts sep least f ks).length ≤ 4 * sizes ks
  | [], f, _ => by simp [texts]
  | k :: ks, f, h => by
    have h1 := h k (by simp)
    have h2 := texts_len sep hs least ks false fun k hk => h k (by simp [hk])
    have h3 := wrapT_len k.op least k.text
    simp only [texts, List.length_append, sizes]
    cases f <;> simp <;> omega
theorem text_len : ∀ e : Ex, e.text.length + 3 ≤ 4 * e.size := ind fun o l ks ih => by
  have h := fun sep hs least => texts_len sep hs least ks true ih
  have h1 := h [] (by simp) 4
  have h2 := h [] (by simp) 5
  have h3 := h [124] (by simp) 2
  have h4 := h [38] (by simp) 3
  simp only [text, size]
  repeat' split
  all_goals simp
  all_goals omega
/-! the builder -/
theorem wb_spec (c : UInt8) (b : List UInt8) (h : b.length < 2 ^ 40) : CC F_strings_Builder_WriteByte [.int .u8 c.toNat, .list T_uint8 (b.map byteV)] = some [.list T_uint8 ((b ++ [c]).map byteV)] := by
  refine f_strings_Builder_WriteByte_of ?_
  unfold f_strings_Builder_WriteByte
  simp only [bif_ble]
  rw [if_pos (by simp [maxBytes]; omega)]
  simp [byteV]
theorem ws_spec (s b : List UInt8) (h : b.length + s.length < 2 ^ 40) : CC F_strings_Builder_WriteString [.str s, .list T_uint8 (b.map byteV)] = some [.int .i64 s.length, .list T_uint8 ((b ++ s).map byteV)] := by
  refine f_strings_Builder_WriteString_of ?_
  unfold f_strings_Builder_WriteString
  simp only [bif_ble]
  rw [if_pos (by simp [maxBytes]; omega)]
  simp
theorem bytes_map (b : List UInt8) : bytesOfV (b.map byteV) = b := by
  unfold bytesOfV
  rw [List.map_map]
  have : ((fun x : V => UInt8.ofNat x.toInt.toNat) ∘ byteV) = id := by
    funext c
    simp [byteV]
  rw [this, List.map_id]
theorem str_spec (b : List UInt8) (h0 : b ≠ []) (h : b.length < 2 ^ 40) : CC F_strings_Builder_String [.list T_uint8 (b.map byteV)] = some [.str b] := by
  refine f_strings_Builder_String_of ?_
  unfold f_strings_Builder_String
  have hp : 0 < b.length := by cases b <;> simp at h0 ⊢
  have h1 : Nat.blt 0 (b.map byteV).length = true := by rw [Nat.blt_eq]; simpa using hp
  have h2 : (((b.map byteV).length : Int)).toNat = (b.map byteV).length := by simp
  have h3 : Nat.ble (b.map byteV).length maxStr = true := Nat.ble_eq_true_of_le (by simp [maxStr]; omega)
  have h4 : (b.map byteV).all inByte = true := by
    rw [List.all_eq_true]
    intro x hx
    obtain ⟨c, _, rfl⟩ := List.mem_map.1 hx
    have := c.toNat_lt
    simp [inByte, byteV]
    omega
  rw [h1, h2, List.take_length, h3, h4, bytes_map]
  simp [hp]
theorem level_spec (op : Int) : CC F_expr_level [.int .i64 op] = some [.int .i64 (lev op)] := by
  refine f_expr_level_of ?_
  unfold f_expr_level lev
  simp only [bif_beq]
  repeat' split
  all_goals rfl
theorem refLevel_spec (op : Int) : CC F_semigroupref04_level [.int .i64 op] = some [.int .i64 (lev op)] := by
  refine f_semigroupref04_level_of ?_
  unfold f_semigroupref04_level lev
  simp only [bif_beq]
  repeat' split
  all_goals rfl
/-! write -/
theorem wk_loop {ks : List Ex} (hlen : ks.length ≤ maxLen) (ih : ∀ k ∈ ks, ∀ b : List UInt8, b.length + k.text.length < 2 ^ 40 → CC F_expr_write (exA k [.list T_uint8 (b.map byteV)]) = some [.list T_uint8 ((b ++ k.text).map byteV)]) (sep : List UInt8) (least : Int) :
    ∀ (suf pre : List Ex) (b : List UInt8), ks = pre ++ suf → b.length + (texts sep least pre.isEmpty suf).length < 2 ^ 40 →
    ∃ i t, Loop (s_expr_writeKids_2L CC sep least (ks.map enc) ((ks.map enc).length : Int)) (((pre.length : Nat) : Int), b.map byteV) = some (i, t, (b ++ texts sep least pre.isEmpty suf).map byteV) := by
  intro suf
  induction suf with
  | nil =>
    intro pre b hks hb
    subst hks
    refine ⟨((pre.length : Nat) : Int), false, Loop_end ?_⟩
    simp only [s_expr_writeKids_2L, s_expr_writeKids_2, un, List.append_nil, List.length_map, bif_decide, texts]
    rw [if_neg (by omega)]
    simp
  | cons k suf ihs =>
    intro pre b hks hb
    have hpl : pre.length < ks.length := by rw [hks]; simp
    have hm : k ∈ ks := by rw [hks]; simp
    have := maxLen_le
    have hix : idx (ks.map enc) (pre.length : Int) = some k.enc := by rw [hks]; exact idx_kid _ _ _
    generalize hsp : (if pre.isEmpty then [] else sep) = sp
    have ht : texts sep least pre.isEmpty (k :: suf) = sp ++ (wrapT k.op least k.text ++ texts sep least false suf) := by simp only [texts, hsp]
    rw [ht] at hb ⊢
    simp only [List.length_append] at hb
    have hstep : s_expr_writeKids_2L CC sep least (ks.map enc) ((ks.map enc).length : Int) (((pre.length : Nat) : Int), b.map byteV) = some (.inl ((((pre ++ [k]).length : Nat) : Int), (b ++ sp ++ wrapT k.op least k.text).map byteV)) := by
      have h1 : ∀ {β : Type} (kr : List V → Option β) (o l : Int) (es : List V), s_expr_writeKids_1 CC sep least (ks.map enc) ((ks.length : Nat) : Int) ((pre.length : Nat) : Int) (decide (((pre.length : Nat) : Int) > 0)) o l es (b.map byteV) kr = kr ((b ++ sp).map byteV) := by
        intro β kr o l es
        unfold s_expr_writeKids_1
        cases pre with
        | nil =>
          simp at hsp
          subst hsp
          simp
        | cons a pre =>
          simp at hsp
          subst hsp
          rw [ws_spec _ _ (by omega)]
          have : (0 : Int) < ((a :: pre).length : Int) := by simp only [List.length_cons]; omega
          simp [this]
      simp only [s_expr_writeKids_2L, s_expr_writeKids_2, un, List.length_map, bif_decide]
      rw [if_pos (by omega), hix]
      simp only [Option.bind_some, enc_0, enc_1, enc_2]
      rw [h1, level_spec]
      simp only [Option.bind_some, V.nth_zero, V.toInt_int, bif_decide]
      unfold wrapT at hb ⊢
      by_cases hl : lev k.op < least
      · rw [if_neg (by omega), if_pos hl]
        rw [if_pos hl] at hb
        simp only [List.length_cons, List.length_append, List.length_nil] at hb
        rw [show (V.int .u8 40) = .int .u8 (((40 : UInt8).toNat : Nat) : Int) by rfl, show (V.int .u8 41) = .int .u8 (((41 : UInt8).toNat : Nat) : Int) by rfl]
        rw [wb_spec _ _ (by simp; omega)]
        simp only [Option.bind_some, V.nth_zero, V.toList_list]
        rw [ih k hm _ (by simp; omega)]
        simp only [Option.bind_some, V.nth_zero, V.toList_list]
        rw [wb_spec _ _ (by simp; omega), wrap64 (by omega) (by omega)]
        simp
      · rw [if_pos (by omega), if_neg hl]
        rw [if_neg hl] at hb
        rw [ih k hm _ (by simp; omega)]
        simp only [Option.bind_some, V.nth_zero, V.toList_list]
        rw [wrap64 (by omega) (by omega)]
        simp
    rw [Loop_norm hstep]
    have hE : (pre ++ [k]).isEmpty = false := by cases pre <;> rfl
    have h3 := ihs (pre ++ [k]) (b ++ sp ++ wrapT k.op least k.text) (by rw [hks]; simp)
    rw [hE] at h3
    obtain ⟨i, t, h2⟩ := h3 (by simp only [List.length_append]; omega)
    refine ⟨i, t, h2.trans ?_⟩
    simp
theorem wk_spec {ks : List Ex} (hlen : ks.length ≤ maxLen) (ih : ∀ k ∈ ks, ∀ b : List UInt8, b.length + k.text.length < 2 ^ 40 → CC F_expr_write (exA k [.list T_uint8 (b.map byteV)]) = some [.list T_uint8 ((b ++ k.text).map byteV)]) (sep : List UInt8) (least : Int) (b : List UInt8)
    (hb : b.length + (texts sep least true ks).length < 2 ^ 40) : CC F_expr_writeKids [.list T_api_Expr (ks.map enc), .str sep, .int .i64 least, .list T_uint8 (b.map byteV)] = some [.list T_uint8 ((b ++ texts sep least true ks).map byteV)] := by
  refine f_expr_writeKids_of ?_
  unfold f_expr_writeKids
  obtain ⟨i, t, h⟩ := wk_loop hlen ih sep least ks [] b rfl hb
  simp only [List.length_nil, Int.ofNat_zero, Int.natCast_zero, List.isEmpty_nil] at h
  erw [h]
  rfl
theorem shape3 {l n : Int} (h : shapeOk 3 l n 6 = true) : 0 ≤ l ∧ l < 6 := by
  simp [shapeOk] at h; omega
theorem shapeBad {o l n letters : Int} (ho : o < 1 ∨ 8 < o) : shapeOk o l n letters = false := by
  have n1 : o ≠ 1 := by omega
  have n2 : o ≠ 2 := by omega
  have n3 : o ≠ 3 := by omega
  have n7 : o ≠ 7 := by omega
  have n8 : o ≠ 8 := by omega
  have n9 : ¬ (4 ≤ o ∧ o ≤ 6 ∧ 2 ≤ n) := by omega
  simp [shapeOk, n1, n2, n3, n7, n8, n9]
theorem write_spec : ∀ e : Ex, e.Ok → e.wf 6 = true → ∀ b : List UInt8, b.length + e.text.length < 2 ^ 40 → CC F_expr_write (exA e [.list T_uint8 (b.map byteV)]) = some [.list T_uint8 ((b ++ e.text).map byteV)] :=
  ind fun o l ks ih hok hwf b hb => by
    obtain ⟨w1, w2⟩ := wf_node hwf
    have hw := fun sep least b => wk_spec hok.len (fun k hk => ih k hk (hok.kid k hk) (w2 k hk)) sep least b
    refine f_expr_write_of ?_
    unfold f_expr_write s_expr_write_5 s_expr_write_4 s_expr_write_3 s_expr_write_2 s_expr_write_1
    simp only [Ex.op, Ex.letter, Ex.kids]
    rcases op_cases o with rfl | rfl | rfl | rfl | rfl | rfl | rfl | rfl | ho
    case inr.inr.inr.inr.inr.inr.inr.inr => rw [shapeBad ho] at w1; cases w1
    · simp [text] at hb ⊢
      rw [show (V.int .u8 48) = .int .u8 (((48 : UInt8).toNat : Nat) : Int) by rfl, wb_spec _ _ (by omega)]
      simp
    · simp [text] at hb ⊢
      rw [show (V.int .u8 49) = .int .u8 (((49 : UInt8).toNat : Nat) : Int) by rfl, wb_spec _ _ (by omega)]
      simp
    · have hl := shape3 w1
      simp [text] at hb ⊢
      rw [wrap8 (x := l) (by omega) (by omega), wrap8 (by omega) (by omega)]
      have : (V.int .u8 (97 + l)) = .int .u8 (((UInt8.ofNat (97 + l).toNat).toNat : Nat) : Int) := by
        have : (97 + l).toNat < 256 := by omega
        simp only [UInt8.toNat_ofNat']
        congr 1
        omega
      rw [this, wb_spec _ _ (by omega)]
      simp
    · simp [text] at hb ⊢
      rw [hw _ _ _ (by omega)]
      simp
    · simp [text] at hb ⊢
      rw [hw _ _ _ (by omega)]
      simp
    · simp [text] at hb ⊢
      rw [hw _ _ _ (by omega)]
      simp
    · simp [text] at hb ⊢
      rw [hw _ _ _ (by omega)]
      simp only [Option.bind_some, V.nth_zero, V.toList_list]
      rw [show (V.int .u8 42) = .int .u8 (((42 : UInt8).toNat : Nat) : Int) by rfl, wb_spec _ _ (by simp; omega)]
      simp
    · simp [text] at hb ⊢
      rw [show (V.int .u8 33) = .int .u8 (((33 : UInt8).toNat : Nat) : Int) by rfl, wb_spec _ _ (by omega)]
      simp only [Option.bind_some, V.nth_zero, V.toList_list]
      rw [hw _ _ _ (by simp; omega)]
      simp
theorem text_ne : ∀ e : Ex, e.wf 6 = true → e.text ≠ [] := ind fun o l ks ih h => by
  obtain ⟨w1, w2⟩ := wf_node h
  rcases op_cases o with rfl | rfl | rfl | rfl | rfl | rfl | rfl | rfl | ho
  case inr.inr.inr.inr.inr.inr.inr.inr => rw [shapeBad ho] at w1; cases w1
  case inr.inr.inr.inl =>
    intro hh
    match ks, w1, hh with
    | [], w1, _ => simp [shapeOk] at w1
    | [a], w1, _ => simp [shapeOk] at w1
    | a :: b :: l, _, hh => simp [text, texts] at hh
  case inr.inr.inr.inr.inr.inl =>
    intro hh
    match ks, w1, hh with
    | [], w1, _ => simp [shapeOk] at w1
    | [a], w1, _ => simp [shapeOk] at w1
    | a :: b :: l, _, hh => simp [text, texts] at hh
  case inr.inr.inr.inr.inl =>
    intro hh
    match ks, w1, w2, hh, ih with
    | [], w1, _, _, _ => simp [shapeOk] at w1
    | a :: ks, _, w2, hh, ih =>
      have := ih a (by simp) (w2 a (by simp))
      simp [text, texts, wrapT] at hh
      split at hh
      · simp at hh
      · exact this hh.1
  all_goals simp [text]
theorem Format_spec (e : Ex) (h : e.Ok) : CC F_expr_Format (exA e []) = some [.str (if e.val 6 = 0 then e.text else [])] := by
  refine f_expr_Format_of ?_
  unfold f_expr_Format
  rw [valid_spec e h]
  by_cases hv : e.val 6 = 0
  · obtain ⟨_, h2, h3⟩ := val0 hv
    have hl := text_len e
    have hw := write_spec e h h3 [] (by simp; omega)
    simp only [List.map_nil, List.nil_append] at hw
    simp only [Option.bind_some, V.nth_zero, V.toBool_bool, hv, decide_true, Bool.not_true, cond_false, if_true]
    rw [hw]
    simp only [Option.bind_some, V.nth_zero, V.toList_list]
    rw [str_spec _ (text_ne e h3) (by omega)]
    simp
  · simp [hv]
/-! the reference -/
theorem part_spec (k : Ex) (least : Int) (hb : k.text.length < 2 ^ 40) (ih : CC F_semigroupref04_Format (exA k []) = some [.str k.text]) : CC F_semigroupref04_part (exA k [.int .i64 least]) = some [.str (wrapT k.op least k.text)] := by
  refine f_semigroupref04_part_of ?_
  unfold f_semigroupref04_part wrapT
  rw [refLevel_spec, ih]
  simp only [Option.bind_some, V.nth_zero, V.toInt_int, V.toStr_str, bif_decide, bif_ble]
  by_cases hl : lev k.op < least
  · rw [if_pos hl, if_pos hl, if_pos (by simp [maxStr]; omega), if_pos (by simp [maxStr]; omega)]
    simp
  · rw [if_neg hl, if_neg hl]
theorem rf_loop {ks : List Ex} (hlen : ks.length ≤ maxLen) (sep : List UInt8) (hsep : sep.length ≤ 1) (least : Int) (ih : ∀ k ∈ ks, k.text.length < 2 ^ 39 ∧ CC F_semigroupref04_Format (exA k []) = some [.str k.text]) :
    ∀ (suf pre : List Ex) (s : List UInt8), ks = pre ++ suf → s.length + (texts sep least pre.isEmpty suf).length < 2 ^ 40 →
    ∃ i t, Loop (s_semigroupref04_Format_3L CC sep least (ks.map enc) ((ks.map enc).length : Int)) (s, ((pre.length : Nat) : Int)) = some (s ++ texts sep least pre.isEmpty suf, i, t) := by
  intro suf
  induction suf with
  | nil =>
    intro pre s hks hb
    subst hks
    refine ⟨((pre.length : Nat) : Int), false, Loop_end ?_⟩
    simp only [s_semigroupref04_Format_3L, s_semigroupref04_Format_3, un, List.append_nil, List.length_map, bif_decide, texts]
    rw [if_neg (by omega)]
    simp
  | cons k suf ihs =>
    intro pre s hks hb
    have hpl : pre.length < ks.length := by rw [hks]; simp
    have hm : k ∈ ks := by rw [hks]; simp
    have := maxLen_le
    have hix : idx (ks.map enc) (pre.length : Int) = some k.enc := by rw [hks]; exact idx_kid _ _ _
    obtain ⟨i1, i2⟩ := ih k hm
    generalize hsp : (if pre.isEmpty then [] else sep) = sp
    have hspl : sp.length ≤ 1 := by rw [← hsp]; split <;> simp [hsep]
    have ht : texts sep least pre.isEmpty (k :: suf) = sp ++ (wrapT k.op least k.text ++ texts sep least false suf) := by simp only [texts, hsp]
    rw [ht] at hb ⊢
    simp only [List.length_append] at hb
    have hstep : s_semigroupref04_Format_3L CC sep least (ks.map enc) ((ks.map enc).length : Int) (s, ((pre.length : Nat) : Int)) = some (.inl (s ++ sp ++ wrapT k.op least k.text, (((pre ++ [k]).length : Nat) : Int))) := by
      have h1 : ∀ {β : Type} (kr : List UInt8 → Option β) (o l : Int) (es : List V), s_semigroupref04_Format_2 CC s sep least (ks.map enc) ((ks.length : Nat) : Int) ((pre.length : Nat) : Int) (decide (((pre.length : Nat) : Int) > 0)) o l es kr = kr (s ++ sp) := by
        intro β kr o l es
        unfold s_semigroupref04_Format_2
        cases pre with
        | nil =>
          simp at hsp
          subst hsp
          simp
        | cons a pre =>
          simp at hsp
          subst hsp
          have : (0 : Int) < ((a :: pre).length : Int) := by simp only [List.length_cons]; omega
          simp only [gt_iff_lt, this, decide_true, cond_true, bif_ble]
          rw [if_pos (by simp [maxStr]; omega)]
      simp only [s_semigroupref04_Format_3L, s_semigroupref04_Format_3, un, List.length_map, bif_decide]
      rw [if_pos (by omega), hix]
      simp only [Option.bind_some, enc_0, enc_1, enc_2]
      rw [h1, part_spec k least (by omega) i2]
      simp only [Option.bind_some, V.nth_zero, V.toStr_str, bif_ble]
      rw [if_pos (by simp [maxStr]; omega), wrap64 (by omega) (by omega)]
      simp
    rw [Loop_norm hstep]
    have hE : (pre ++ [k]).isEmpty = false := by cases pre <;> rfl
    have h3 := ihs (pre ++ [k]) (s ++ sp ++ wrapT k.op least k.text) (by rw [hks]; simp)
    rw [hE] at h3
    obtain ⟨i, t, h2⟩ := h3 (by simp only [List.length_append]; omega)
    refine ⟨i, t, h2.trans ?_⟩
    simp
theorem refFormat_spec : ∀ e : Ex, e.Ok → e.wf 6 = true → e.size ≤ 400 → CC F_semigroupref04_Format (exA e []) = some [.str e.text] :=
  ind fun o l ks ih hok hwf hsz => by
    obtain ⟨w1, w2⟩ := wf_node hwf
    have hs : (Ex.node o l ks).size = 1 + sizes ks := by simp only [size]
    have hkid : ∀ k ∈ ks, k.text.length < 2 ^ 39 ∧ CC F_semigroupref04_Format (exA k []) = some [.str k.text] := fun k hk => by
      have h1 := kid_size hk
      have h2 := text_len k
      exact ⟨by omega, ih k hk (hok.kid k hk) (w2 k hk) (by omega)⟩
    have hr : ∀ (sep : List UInt8) (hsep : sep.length ≤ 1) (least : Int), (Loop (s_semigroupref04_Format_3L CC sep least (ks.map enc) ((ks.map enc).length : Int)) ([], 0)).bind (un fun (s : List UInt8) => un fun (_ : Int) (_ : Bool) => some [V.str s]) = some [.str (texts sep least true ks)] := by
      intro sep hsep least
      have htl := texts_len sep hsep least ks true fun k _ => text_len k
      obtain ⟨i, t, h⟩ := rf_loop hok.len sep hsep least hkid ks [] [] rfl (by simp only [List.isEmpty_nil, List.length_nil]; omega)
      simp only [List.length_nil, Int.ofNat_zero, Int.natCast_zero, List.isEmpty_nil, List.nil_append] at h
      erw [h]
      rfl
    refine f_semigroupref04_Format_of ?_
    unfold f_semigroupref04_Format s_semigroupref04_Format_1
    simp only [Ex.op, Ex.letter, Ex.kids]
    rcases op_cases o with rfl | rfl | rfl | rfl | rfl | rfl | rfl | rfl | ho
    case inr.inr.inr.inr.inr.inr.inr.inr => rw [shapeBad ho] at w1; cases w1
    case inr.inr.inl =>
      have hl := shape3 w1
      simp [text]
      rw [wrap64 (by omega) (by omega), wrap8 (by omega) (by omega)]
      simp [bytesOfV]
    case inr.inr.inr.inr.inr.inr.inl =>
      have h1 : ks.length = 1 := by simp [shapeOk] at w1; omega
      match ks, h1, hkid with
      | [k], _, hkid =>
        obtain ⟨i1, i2⟩ := hkid k (by simp)
        have hwl := wrapT_len k.op 5 k.text
        simp only [List.map_cons, List.map_nil, List.getElem?_cons_zero, Option.bind_some, enc_0, enc_1, enc_2]
        rw [part_spec k 5 (by omega) i2]
        simp [text, texts]
        simp [maxStr]; omega
    case inr.inr.inr.inr.inr.inr.inr.inl =>
      have h1 := shape8 w1
      match ks, h1, hkid with
      | [k], _, hkid =>
        obtain ⟨i1, i2⟩ := hkid k (by simp)
        have hwl := wrapT_len k.op 4 k.text
        simp only [List.map_cons, List.map_nil, List.getElem?_cons_zero, Option.bind_some, enc_0, enc_1, enc_2]
        rw [part_spec k 4 (by omega) i2]
        simp [text, texts]
        simp [maxStr]; omega
    case inr.inr.inr.inl =>
      simp [text, un]
      have := hr [124] (by simp) 2
      simp only [List.length_map] at this
      exact this
    case inr.inr.inr.inr.inl =>
      simp [text, un]
      have := hr [] (by simp) 4
      simp only [List.length_map] at this
      exact this
    case inr.inr.inr.inr.inr.inl =>
      simp [text, un]
      have := hr [38] (by simp) 3
      simp only [List.length_map] at this
      exact this
    all_goals simp [text]
end Go.AM

set_option maxRecDepth 100000
namespace Go.AM
open Go.Proofs
noncomputable abbrev B_expr_Compare : Code := bodyOf Try.prog (ann.fid 19)
noncomputable def LT_expr_Compare (C : CallF) : LTab := fun β n ds k =>
  none
noncomputable def f_expr_Compare (C : CallF) (a_0 a_1 : Int) (a_2 : List V) (b'_0 b'_1 : Int) (b'_2 : List V) : Option (List V) :=
  bif (a_0 : Int) != b'_0 then
   (C F_cmp_Compare_int_ [.int .i64 a_0, .int .i64 b'_0]).bind fun r1 =>
   some [.int .i64 ((V.nth r1 0).toInt)]
  else
   bif (a_1 : Int) != b'_1 then
    (C F_cmp_Compare_int_ [.int .i64 a_1, .int .i64 b'_1]).bind fun r2 =>
    some [.int .i64 ((V.nth r2 0).toInt)]
   else
    (C F_slices_CompareFunc___api_Expr___api_Expr_api_Expr_api_Expr_ [.list T_api_Expr a_2, .list T_api_Expr b'_2]).bind fun r3 =>
    some [.int .i64 ((V.nth r3 0).toInt)]
theorem f_expr_Compare_eq (C : CallF) (a_0 a_1 : Int) (a_2 : List V) (b'_0 b'_1 : Int) (b'_2 : List V) : bodyT Try.prog ann C (LT_expr_Compare C) 19 [.int .i64 a_0, .int .i64 a_1, .list T_api_Expr a_2, .int .i64 b'_0, .int .i64 b'_1, .list T_api_Expr b'_2] = f_expr_Compare C a_0 a_1 a_2 b'_0 b'_1 b'_2 := by kernel_rfl
theorem f_expr_Compare_of {a_0 a_1 : Int} {a_2 : List V} {b'_0 b'_1 : Int} {b'_2 : List V} {r : Option (List V)} (h : f_expr_Compare CC a_0 a_1 a_2 b'_0 b'_1 b'_2 = r) : CC F_expr_Compare [.int .i64 a_0, .int .i64 a_1, .list T_api_Expr a_2, .int .i64 b'_0, .int .i64 b'_1, .list T_api_Expr b'_2] = r :=
  func_of (key := 19) (L := LT_expr_Compare CC) (bs := []) (by kernel_rfl) tells_nil ((f_expr_Compare_eq CC a_0 a_1 a_2 b'_0 b'_1 b'_2).trans h)
end Go.AM

set_option maxRecDepth 100000
namespace Go.AM
open Go.Proofs
noncomputable abbrev B_slices_CompareFunc___api_Expr___api_Expr_api_Expr_api_Expr_ : Code := bodyOf Try.prog (ann.fid 45)
noncomputable def s_slices_CompareFunc___api_Expr___api_Expr_api_Expr_api_Expr__1 (C : CallF) (s1 s2 t11 : List V) (t12 t13 : Int) {β : Type} (kn : Int → Option β) (kr : ((Int) ⊕ (Int × Bool)) → Option β) : Option β :=
  bif decide ((t13 : Int) < t12) then
   (idx t11 t13).bind fun x1 =>
   bif decide ((t13 : Int) ≥ (s2.length : Int)) then
    kr (.inl 1)
   else
    (idx s2 t13).bind fun x2 =>
    (C F_expr_Compare [.int .i64 ((x1.cell 0).toInt), .int .i64 ((x1.cell 1).toInt), .list T_api_Expr ((x1.cell 2).toList), .int .i64 ((x2.cell 0).toInt), .int .i64 ((x2.cell 1).toInt), .list T_api_Expr ((x2.cell 2).toList)]).bind fun r3 =>
    bif (((V.nth r3 0).toInt) : Int) != 0 then
     kr (.inl ((V.nth r3 0).toInt))
    else
     kn (IntKind.wrap .i64 (t13 + 1))
  else
   kr (.inr (t13, decide ((t13 : Int) < t12)))
noncomputable def s_slices_CompareFunc___api_Expr___api_Expr_api_Expr_api_Expr__1L (C : CallF) (s1 s2 t11 : List V) (t12 : Int) : (Int) → Option ((Int) ⊕ ((Int) ⊕ (Int × Bool))) := fun t13 => s_slices_CompareFunc___api_Expr___api_Expr_api_Expr_api_Expr__1 C s1 s2 t11 t12 t13 (fun y => some (.inl y)) (fun r => some (.inr r))
def w_slices_CompareFunc___api_Expr___api_Expr_api_Expr_api_Expr__1 (s1 s2 t11 : List V) (t12 : Int) (β : Type) (k : Nat → List V → Option β) : ((Int) ⊕ (Int × Bool)) → Option β := (way2 (fun (v0 : Int) => k 0 [.int .i64 v0]) (un fun (v4 : Int) (v5 : Bool) => k 1 [.list T_api_Expr s1, .list T_api_Expr s2, .list T_api_Expr t11, .int .i64 t12, .int .i64 v4, .bool v5]))
noncomputable def l_slices_CompareFunc___api_Expr___api_Expr_api_Expr_api_Expr__1 (C : CallF) (β : Type) (ds : List V) (k : Nat → List V → Option β) : Option β :=
  (Loop (s_slices_CompareFunc___api_Expr___api_Expr_api_Expr_api_Expr__1L C ((V.nth ds 0).toList) ((V.nth (ds.drop 1) 0).toList) ((V.nth ((ds.drop 1).drop 1) 0).toList) ((V.nth (((ds.drop 1).drop 1).drop 1) 0).toInt)) ((V.nth ((((ds.drop 1).drop 1).drop 1).drop 1) 0).toInt)).bind (w_slices_CompareFunc___api_Expr___api_Expr_api_Expr_api_Expr__1 ((V.nth ds 0).toList) ((V.nth (ds.drop 1) 0).toList) ((V.nth ((ds.drop 1).drop 1) 0).toList) ((V.nth (((ds.drop 1).drop 1).drop 1) 0).toInt) β k)
noncomputable def LT_slices_CompareFunc___api_Expr___api_Expr_api_Expr_api_Expr_ (C : CallF) : LTab := fun β n ds k =>
  bif Nat.beq n 33 then l_slices_CompareFunc___api_Expr___api_Expr_api_Expr_api_Expr__1 C β ds k else
  none
theorem t_slices_CompareFunc___api_Expr___api_Expr_api_Expr_api_Expr__1 (C : CallF) : Tells Try.prog ann C (LT_slices_CompareFunc___api_Expr___api_Expr_api_Expr_api_Expr_ C) 45 (ntmpsOf Try.prog (ann.fid 45)) (ann.sin 45).blks.length (.loop (codeAt [1, 0, 1, 0, 0] B_slices_CompareFunc___api_Expr___api_Expr_api_Expr_api_Expr_)) :=
  tells_loop2 (I := (List V) × (List V) × (List V) × Int) (X := Int) (R := (Int) ⊕ (Int × Bool)) (S := (⟨[(0, .one (.list T_api_Expr)), (1, .one (.list T_api_Expr)), (2, .fn F_expr_Compare [] []), (11, .one (.list T_api_Expr)), (12, .one (.int .i64)), (13, .one (.int .i64))], []⟩, [(.ret, ⟨[(6, .one (.int .i64))], []⟩), (.exit 0, ⟨[(0, .one (.list T_api_Expr)), (1, .one (.list T_api_Expr)), (2, .fn F_expr_Compare [] []), (11, .one (.list T_api_Expr)), (12, .one (.int .i64)), (13, .one (.int .i64)), (14, .one (.bool))], []⟩)])) (by kernel_rfl) (ltok_of (bs := []) (by kernel_rfl) tells_nil)
    (un fun (s1 : List V) => un fun (s2 : List V) => un fun (t11 : List V) (t12 : Int) => (fun (t13 : Int) => [.list T_api_Expr s1, .list T_api_Expr s2, .list T_api_Expr t11, .int .i64 t12, .int .i64 t13] : (Int) → List V)) (un fun (s1 : List V) => un fun (s2 : List V) => un fun (t11 : List V) (t12 : Int) => w_slices_CompareFunc___api_Expr___api_Expr_api_Expr_api_Expr__1 s1 s2 t11 t12)
    (fun ds => ((V.nth ds 0).toList, (V.nth (ds.drop 1) 0).toList, (V.nth ((ds.drop 1).drop 1) 0).toList, (V.nth (((ds.drop 1).drop 1).drop 1) 0).toInt)) (fun ds => ((V.nth ((((ds.drop 1).drop 1).drop 1).drop 1) 0).toInt)) (fun e => bif Nat.beq e.1 0 then (.inl ((V.nth e.2 0).toInt)) else (.inr ((V.nth ((((e.2.drop 1).drop 1).drop 1).drop 1) 0).toInt, (V.nth (((((e.2.drop 1).drop 1).drop 1).drop 1).drop 1) 0).toBool)))
    (un fun (s1 : List V) => un fun (s2 : List V) => un fun (t11 : List V) (t12 : Int) => (fun (t13 : Int) => fun β kn kr => s_slices_CompareFunc___api_Expr___api_Expr_api_Expr_api_Expr__1 C s1 s2 t11 t12 t13 kn kr : (Int) → (β : Type) → ((Int) → Option β) → (((Int) ⊕ (Int × Bool)) → Option β) → Option β))
    (l_slices_CompareFunc___api_Expr___api_Expr_api_Expr_api_Expr__1 C) (fun ds => by kernel_rfl) (fun i x => by kernel_rfl) (fun i r => by rcases r with r | r <;> kernel_rfl)
    (fun i x β k => by kernel_rfl) (fun β ds k => by kernel_rfl) (fun β ds k => by kernel_rfl) (fun i β k r => by rcases r with r | r <;> kernel_rfl)
noncomputable def f_slices_CompareFunc___api_Expr___api_Expr_api_Expr_api_Expr_ (C : CallF) (s1 s2 : List V) : Option (List V) :=
  (Loop (s_slices_CompareFunc___api_Expr___api_Expr_api_Expr_api_Expr__1L C s1 s2 s1 (s1.length : Int)) 0).bind (way2 (fun (t_4 : Int) =>
    some [.int .i64 t_4]) (un fun (t_5 : Int) (t_6 : Bool) =>
    bif decide (((s1.length : Int) : Int) < (s2.length : Int)) then
     some [.int .i64 (-1)]
    else
     some [.int .i64 0]))
theorem f_slices_CompareFunc___api_Expr___api_Expr_api_Expr_api_Expr__eq (C : CallF) (s1 s2 : List V) : bodyT Try.prog ann C (LT_slices_CompareFunc___api_Expr___api_Expr_api_Expr_api_Expr_ C) 45 [.list T_api_Expr s1, .list T_api_Expr s2] = f_slices_CompareFunc___api_Expr___api_Expr_api_Expr_api_Expr_ C s1 s2 := by kernel_rfl
theorem f_slices_CompareFunc___api_Expr___api_Expr_api_Expr_api_Expr__of {s1 s2 : List V} {r : Option (List V)} (h : f_slices_CompareFunc___api_Expr___api_Expr_api_Expr_api_Expr_ CC s1 s2 = r) : CC F_slices_CompareFunc___api_Expr___api_Expr_api_Expr_api_Expr_ [.list T_api_Expr s1, .list T_api_Expr s2] = r :=
  func_of (key := 45) (L := LT_slices_CompareFunc___api_Expr___api_Expr_api_Expr_api_Expr_ CC) (bs := [.loop (codeAt [1, 0, 1, 0, 0] B_slices_CompareFunc___api_Expr___api_Expr_api_Expr_api_Expr_)]) (by kernel_rfl) (tells_cons (t_slices_CompareFunc___api_Expr___api_Expr_api_Expr_api_Expr__1 CC) tells_nil) ((f_slices_CompareFunc___api_Expr___api_Expr_api_Expr_api_Expr__eq CC s1 s2).trans h)
end Go.AM

set_option maxRecDepth 100000
namespace Go.AM
open Go.Proofs
noncomputable abbrev B_cmp_Compare_int_ : Code := bodyOf Try.prog (ann.fid 44)
noncomputable def LT_cmp_Compare_int_ (C : CallF) : LTab := fun β n ds k =>
  none
noncomputable def f_cmp_Compare_int_ (C : CallF) (x y : Int) : Option (List V) :=
  (C F_cmp_isNaN_int_ [.int .i64 x]).bind fun r1 =>
  (C F_cmp_isNaN_int_ [.int .i64 y]).bind fun r2 =>
  bif (V.nth r1 0).toBool then
   bif (V.nth r2 0).toBool then
    some [.int .i64 0]
   else
    some [.int .i64 (-1)]
  else
   bif (V.nth r2 0).toBool then
    some [.int .i64 1]
   else
    bif decide ((x : Int) < y) then
     some [.int .i64 (-1)]
    else
     bif decide ((x : Int) > y) then
      some [.int .i64 1]
     else
      some [.int .i64 0]
theorem f_cmp_Compare_int__eq (C : CallF) (x y : Int) : bodyT Try.prog ann C (LT_cmp_Compare_int_ C) 44 [.int .i64 x, .int .i64 y] = f_cmp_Compare_int_ C x y := by kernel_rfl
theorem f_cmp_Compare_int__of {x y : Int} {r : Option (List V)} (h : f_cmp_Compare_int_ CC x y = r) : CC F_cmp_Compare_int_ [.int .i64 x, .int .i64 y] = r :=
  func_of (key := 44) (L := LT_cmp_Compare_int_ CC) (bs := []) (by kernel_rfl) tells_nil ((f_cmp_Compare_int__eq CC x y).trans h)
end Go.AM

set_option maxRecDepth 100000
namespace Go.AM
open Go.Proofs
noncomputable abbrev B_cmp_isNaN_int_ : Code := bodyOf Try.prog (ann.fid 64)
noncomputable def LT_cmp_isNaN_int_ (C : CallF) : LTab := fun β n ds k =>
  none
noncomputable def f_cmp_isNaN_int_ (C : CallF) (x : Int) : Option (List V) :=
  some [.bool ((x : Int) != x)]
theorem f_cmp_isNaN_int__eq (C : CallF) (x : Int) : bodyT Try.prog ann C (LT_cmp_isNaN_int_ C) 64 [.int .i64 x] = f_cmp_isNaN_int_ C x := by kernel_rfl
theorem f_cmp_isNaN_int__of {x : Int} {r : Option (List V)} (h : f_cmp_isNaN_int_ CC x = r) : CC F_cmp_isNaN_int_ [.int .i64 x] = r :=
  func_of (key := 64) (L := LT_cmp_isNaN_int_ CC) (bs := []) (by kernel_rfl) tells_nil ((f_cmp_isNaN_int__eq CC x).trans h)
end Go.AM

set_option maxRecDepth 100000
namespace Go.AM
open Go.Proofs
noncomputable abbrev B_semigroupref04_Compare : Code := bodyOf Try.prog (ann.fid 20)
noncomputable def s_semigroupref04_Compare_1 (C : CallF) (as_0 as_1 : Int) (as_2 : List V) (b's_0 b's_1 : Int) (b's_2 : List V) (i : Int) {β : Type} (kn : Int → Option β) (kr : ((Int × Bool) ⊕ (Int)) → Option β) : Option β :=
  bif decide ((i : Int) < (as_2.length : Int)) then
   bif decide ((i : Int) < (b's_2.length : Int)) then
    (idx as_2 i).bind fun x3 =>
    (idx b's_2 i).bind fun x4 =>
    (C F_semigroupref04_Compare [.int .i64 ((x3.cell 0).toInt), .int .i64 ((x3.cell 1).toInt), .list T_api_Expr ((x3.cell 2).toList), .int .i64 ((x4.cell 0).toInt), .int .i64 ((x4.cell 1).toInt), .list T_api_Expr ((x4.cell 2).toList)]).bind fun r5 =>
    bif (((V.nth r5 0).toInt) : Int) != 0 then
     kr (.inr ((V.nth r5 0).toInt))
    else
     kn (IntKind.wrap .i64 (i + 1))
   else
    kr (.inl (i, decide ((i : Int) < (b's_2.length : Int))))
  else
   kr (.inl (i, false))
noncomputable def s_semigroupref04_Compare_1L (C : CallF) (as_0 as_1 : Int) (as_2 : List V) (b's_0 b's_1 : Int) (b's_2 : List V) : (Int) → Option ((Int) ⊕ ((Int × Bool) ⊕ (Int))) := fun i => s_semigroupref04_Compare_1 C as_0 as_1 as_2 b's_0 b's_1 b's_2 i (fun y => some (.inl y)) (fun r => some (.inr r))
def w_semigroupref04_Compare_1 (as_0 as_1 : Int) (as_2 : List V) (b's_0 b's_1 : Int) (b's_2 : List V) (β : Type) (k : Nat → List V → Option β) : ((Int × Bool) ⊕ (Int)) → Option β := (way2 (un fun (v0 : Int) (v1 : Bool) => k 0 [.int .i64 v0, .bool v1, .int .i64 as_0, .int .i64 as_1, .list T_api_Expr as_2, .int .i64 b's_0, .int .i64 b's_1, .list T_api_Expr b's_2]) (fun (v0 : Int) => k 1 [.int .i64 v0]))
noncomputable def l_semigroupref04_Compare_1 (C : CallF) (β : Type) (ds : List V) (k : Nat → List V → Option β) : Option β :=
  (Loop (s_semigroupref04_Compare_1L C ((V.nth (ds.drop 1) 0).toInt) ((V.nth ((ds.drop 1).drop 1) 0).toInt) ((V.nth (((ds.drop 1).drop 1).drop 1) 0).toList) ((V.nth ((ds.drop 1).drop 3) 0).toInt) ((V.nth (((ds.drop 1).drop 3).drop 1) 0).toInt) ((V.nth ((((ds.drop 1).drop 3).drop 1).drop 1) 0).toList)) ((V.nth ds 0).toInt)).bind (w_semigroupref04_Compare_1 ((V.nth (ds.drop 1) 0).toInt) ((V.nth ((ds.drop 1).drop 1) 0).toInt) ((V.nth (((ds.drop 1).drop 1).drop 1) 0).toList) ((V.nth ((ds.drop 1).drop 3) 0).toInt) ((V.nth (((ds.drop 1).drop 3).drop 1) 0).toInt) ((V.nth ((((ds.drop 1).drop 3).drop 1).drop 1) 0).toList) β k)
noncomputable def LT_semigroupref04_Compare (C : CallF) : LTab := fun β n ds k =>
  bif Nat.beq n 97 then l_semigroupref04_Compare_1 C β ds k else
  none
theorem t_semigroupref04_Compare_1 (C : CallF) : Tells Try.prog ann C (LT_semigroupref04_Compare C) 20 (ntmpsOf Try.prog (ann.fid 20)) (ann.sin 20).blks.length (.loop (codeAt [1, 1, 0, 1, 0, 0] B_semigroupref04_Compare)) :=
  tells_loop2 (I := Int × Int × (List V) × Int × Int × (List V)) (X := Int) (R := (Int × Bool) ⊕ (Int)) (S := (⟨[(2, .one (.ptrC 0 0 0)), (3, .one (.ptrC 1 0 0)), (5, .one (.int .i64))], [.var 24 [.one (.int .i64), .one (.int .i64), .one (.list T_api_Expr)], .var 24 [.one (.int .i64), .one (.int .i64), .one (.list T_api_Expr)]]⟩, [(.exit 1, ⟨[(2, .one (.ptrC 0 0 0)), (3, .one (.ptrC 1 0 0)), (5, .one (.int .i64)), (42, .one (.bool))], [.var 24 [.one (.int .i64), .one (.int .i64), .one (.list T_api_Expr)], .var 24 [.one (.int .i64), .one (.int .i64), .one (.list T_api_Expr)]]⟩), (.ret, ⟨[(4, .one (.int .i64))], []⟩)])) (by kernel_rfl) (ltok_of (bs := []) (by kernel_rfl) tells_nil)
    (un fun (as_0 : Int) => un fun (as_1 : Int) => un fun (as_2 : List V) => un fun (b's_0 : Int) => un fun (b's_1 : Int) (b's_2 : List V) => (fun (i : Int) => [.int .i64 i, .int .i64 as_0, .int .i64 as_1, .list T_api_Expr as_2, .int .i64 b's_0, .int .i64 b's_1, .list T_api_Expr b's_2] : (Int) → List V)) (un fun (as_0 : Int) => un fun (as_1 : Int) => un fun (as_2 : List V) => un fun (b's_0 : Int) => un fun (b's_1 : Int) (b's_2 : List V) => w_semigroupref04_Compare_1 as_0 as_1 as_2 b's_0 b's_1 b's_2)
    (fun ds => ((V.nth (ds.drop 1) 0).toInt, (V.nth ((ds.drop 1).drop 1) 0).toInt, (V.nth (((ds.drop 1).drop 1).drop 1) 0).toList, (V.nth ((ds.drop 1).drop 3) 0).toInt, (V.nth (((ds.drop 1).drop 3).drop 1) 0).toInt, (V.nth ((((ds.drop 1).drop 3).drop 1).drop 1) 0).toList)) (fun ds => ((V.nth ds 0).toInt)) (fun e => bif Nat.beq e.1 0 then (.inl ((V.nth e.2 0).toInt, (V.nth (e.2.drop 1) 0).toBool)) else (.inr ((V.nth e.2 0).toInt)))
    (un fun (as_0 : Int) => un fun (as_1 : Int) => un fun (as_2 : List V) => un fun (b's_0 : Int) => un fun (b's_1 : Int) (b's_2 : List V) => (fun (i : Int) => fun β kn kr => s_semigroupref04_Compare_1 C as_0 as_1 as_2 b's_0 b's_1 b's_2 i kn kr : (Int) → (β : Type) → ((Int) → Option β) → (((Int × Bool) ⊕ (Int)) → Option β) → Option β))
    (l_semigroupref04_Compare_1 C) (fun ds => by kernel_rfl) (fun i x => by kernel_rfl) (fun i r => by rcases r with r | r <;> kernel_rfl)
    (fun i x β k => by kernel_rfl) (fun β ds k => by kernel_rfl) (fun β ds k => by kernel_rfl) (fun i β k r => by rcases r with r | r <;> kernel_rfl)
noncomputable def f_semigroupref04_Compare (C : CallF) (a_0 a_1 : Int) (a_2 : List V) (b'_0 b'_1 : Int) (b'_2 : List V) : Option (List V) :=
  bif (a_0 : Int) != b'_0 then
   (C F_semigroupref04_sign [.bool (decide ((a_0 : Int) < b'_0))]).bind fun r1 =>
   some [.int .i64 ((V.nth r1 0).toInt)]
  else
   bif (a_1 : Int) != b'_1 then
    (C F_semigroupref04_sign [.bool (decide ((a_1 : Int) < b'_1))]).bind fun r2 =>
    some [.int .i64 ((V.nth r2 0).toInt)]
   else
    (Loop (s_semigroupref04_Compare_1L C a_0 a_1 a_2 b'_0 b'_1 b'_2) 0).bind (way2 (un fun (i_6 : Int) (t_7 : Bool) =>
      bif ((a_2.length : Int) : Int) == (b'_2.length : Int) then
       some [.int .i64 0]
      else
       (C F_semigroupref04_sign [.bool (decide (((a_2.length : Int) : Int) < (b'_2.length : Int)))]).bind fun r8 =>
       some [.int .i64 ((V.nth r8 0).toInt)]) (fun (t_9 : Int) =>
      some [.int .i64 t_9]))
theorem f_semigroupref04_Compare_eq (C : CallF) (a_0 a_1 : Int) (a_2 : List V) (b'_0 b'_1 : Int) (b'_2 : List V) : bodyT Try.prog ann C (LT_semigroupref04_Compare C) 20 [.int .i64 a_0, .int .i64 a_1, .list T_api_Expr a_2, .int .i64 b'_0, .int .i64 b'_1, .list T_api_Expr b'_2] = f_semigroupref04_Compare C a_0 a_1 a_2 b'_0 b'_1 b'_2 := by kernel_rfl
theorem f_semigroupref04_Compare_of {a_0 a_1 : Int} {a_2 : List V} {b'_0 b'_1 : Int} {b'_2 : List V} {r : Option (List V)} (h : f_semigroupref04_Compare CC a_0 a_1 a_2 b'_0 b'_1 b'_2 = r) : CC F_semigroupref04_Compare [.int .i64 a_0, .int .i64 a_1, .list T_api_Expr a_2, .int .i64 b'_0, .int .i64 b'_1, .list T_api_Expr b'_2] = r :=
  func_of (key := 20) (L := LT_semigroupref04_Compare CC) (bs := [.loop (codeAt [1, 1, 0, 1, 0, 0] B_semigroupref04_Compare)]) (by kernel_rfl) (tells_cons (t_semigroupref04_Compare_1 CC) tells_nil) ((f_semigroupref04_Compare_eq CC a_0 a_1 a_2 b'_0 b'_1 b'_2).trans h)
end Go.AM

set_option maxRecDepth 100000
namespace Go.AM
open Go.Proofs
noncomputable abbrev B_semigroupref04_sign : Code := bodyOf Try.prog (ann.fid 46)
noncomputable def LT_semigroupref04_sign (C : CallF) : LTab := fun β n ds k =>
  none
noncomputable def f_semigroupref04_sign (C : CallF) (less : Bool) : Option (List V) :=
  bif less then
   some [.int .i64 (-1)]
  else
   some [.int .i64 1]
theorem f_semigroupref04_sign_eq (C : CallF) (less : Bool) : bodyT Try.prog ann C (LT_semigroupref04_sign C) 46 [.bool less] = f_semigroupref04_sign C less := by kernel_rfl
theorem f_semigroupref04_sign_of {less : Bool} {r : Option (List V)} (h : f_semigroupref04_sign CC less = r) : CC F_semigroupref04_sign [.bool less] = r :=
  func_of (key := 46) (L := LT_semigroupref04_sign CC) (bs := []) (by kernel_rfl) tells_nil ((f_semigroupref04_sign_eq CC less).trans h)
end Go.AM

/-
  Chapter 4: the order of expressions.
-/
set_option maxRecDepth 100000
set_option linter.unusedSimpArgs false
namespace Go.AM
open Go.Proofs Ex
def sgn (less : Bool) : Int := if less then -1 else 1
mutual
def Ex.cmp : Ex → Ex → Int
  | .node o l ks, e => if o ≠ e.op then sgn (decide (o < e.op)) else if l ≠ e.letter then sgn (decide (l < e.letter)) else cmps ks e.kids
def Ex.cmps : List Ex → List Ex → Int
  | [], [] => 0
  | [], _ :: _ => -1
  | _ :: _, [] => 1
  | k :: ks, k' :: ks' => if cmp k k' ≠ 0 then cmp k k' else cmps ks ks'
end
theorem cmp_node (o l o' l' : Int) (ks ks' : List Ex) : cmp (.node o l ks) (.node o' l' ks') = if o ≠ o' then sgn (decide (o < o')) else if l ≠ l' then sgn (decide (l < l')) else cmps ks ks' := by
  rw [cmp]; rfl
theorem sgn_range (b : Bool) : sgn b = -1 ∨ sgn b = 1 := by cases b <;> simp [sgn]
theorem cmps_range (ks : List Ex) (ih : ∀ k ∈ ks, ∀ e, cmp k e = -1 ∨ cmp k e = 0 ∨ cmp k e = 1) : ∀ ks', cmps ks ks' = -1 ∨ cmps ks ks' = 0 ∨ cmps ks ks' = 1 := by
  induction ks with
  | nil => intro ks'; cases ks' <;> simp [cmps]
  | cons k ks ih2 =>
    intro ks'
    cases ks' with
    | nil => simp [cmps]
    | cons k' ks' =>
      have h1 := ih k (by simp) k'
      have h2 := ih2 (fun k hk => ih k (by simp [hk])) ks'
      simp only [cmps]
      split <;> assumption
theorem cmp_range : ∀ e e' : Ex, cmp e e' = -1 ∨ cmp e e' = 0 ∨ cmp e e' = 1 :=
  ind fun o l ks ih e' => by
    simp only [cmp]
    split
    · have := sgn_range (decide (o < e'.op)); omega
    · split
      · have := sgn_range (decide (l < e'.letter)); omega
      · exact cmps_range ks ih _
theorem cmps_self (ks : List Ex) (ih : ∀ k ∈ ks, cmp k k = 0) : cmps ks ks = 0 := by
  induction ks with
  | nil => simp [cmps]
  | cons k ks ih2 => simp [cmps, ih k (by simp), ih2 fun k hk => ih k (by simp [hk])]
theorem cmp_self : ∀ e : Ex, cmp e e = 0 := ind fun o l ks ih => by
  rw [cmp_node]; simp [cmps_self ks ih]
theorem sgn_flip {a b : Int} (h : a ≠ b) : sgn (decide (b < a)) = - sgn (decide (a < b)) := by
  by_cases h1 : a < b
  · have : ¬ b < a := by omega
    simp [sgn, h1, this]
  · have : b < a := by omega
    simp [sgn, h1, this]
theorem cmps_anti (ks : List Ex) (ih : ∀ k ∈ ks, ∀ e, cmp e k = - cmp k e) : ∀ ks', cmps ks' ks = - cmps ks ks' := by
  induction ks with
  | nil => intro ks'; cases ks' <;> simp [cmps]
  | cons k ks ih2 =>
    intro ks'
    cases ks' with
    | nil => simp [cmps]
    | cons k' ks' =>
      simp only [cmps, ih k (by simp) k', ih2 (fun k hk => ih k (by simp [hk])) ks']
      by_cases h : cmp k k' = 0
      · simp [h]
      · have : - cmp k k' ≠ 0 := by omega
        simp [h, this]
theorem cmp_anti : ∀ e e' : Ex, cmp e' e = - cmp e e' :=
  ind fun o l ks ih e' => by
    obtain ⟨o', l', ks'⟩ := e'
    rw [cmp_node, cmp_node]
    by_cases h1 : o = o'
    · subst h1
      by_cases h2 : l = l'
      · subst h2
        simp [cmps_anti ks ih]
      · have h2' : l' ≠ l := fun e => h2 e.symm
        simp only [ne_eq, not_true_eq_false, if_false, h2, h2', not_false_eq_true, if_true]; exact sgn_flip h2
    · have h1' : o' ≠ o := fun e => h1 e.symm
      simp only [ne_eq, h1, h1', not_false_eq_true, if_true]; exact sgn_flip h1
theorem cmps_eq (ks : List Ex) (ih : ∀ k ∈ ks, ∀ e, cmp k e = 0 → k = e) : ∀ ks', cmps ks ks' = 0 → ks = ks' := by
  induction ks with
  | nil => intro ks' h; cases ks' <;> simp [cmps] at h ⊢
  | cons k ks ih2 =>
    intro ks' h
    cases ks' with
    | nil => simp [cmps] at h
    | cons k' ks' =>
      simp only [cmps] at h
      by_cases h1 : cmp k k' = 0
      · rw [ih k (by simp) k' h1, ih2 (fun k hk => ih k (by simp [hk])) ks' (by simpa [h1] using h)]
      · simp [h1] at h
theorem cmp_eq : ∀ e e' : Ex, cmp e e' = 0 → e = e' :=
  ind fun o l ks ih e' h => by
    obtain ⟨o', l', ks'⟩ := e'
    rw [cmp_node] at h
    have s1 := sgn_range (decide (o < o'))
    have s2 := sgn_range (decide (l < l'))
    by_cases h1 : o = o'
    · by_cases h2 : l = l'
      · rw [h1, h2, cmps_eq ks ih ks' (by simpa [h1, h2] using h)]
      · have hne : sgn (decide (l < l')) ≠ 0 := by omega
        rw [if_neg (by simp [h1]), if_pos h2] at h
        exact absurd h hne
    · have hne : sgn (decide (o < o')) ≠ 0 := by omega
      rw [if_pos h1] at h
      exact absurd h hne
theorem cmps_trans (a : List Ex) (ih : ∀ k ∈ a, ∀ b c, cmp k b ≤ 0 → cmp b c ≤ 0 → cmp k c ≤ 0) : ∀ b c, cmps a b ≤ 0 → cmps b c ≤ 0 → cmps a c ≤ 0 := by
  induction a with
  | nil => intro b c _ _; cases c <;> simp [cmps]
  | cons x a ih2 =>
    intro b c h1 h2
    cases b with
    | nil => simp [cmps] at h1
    | cons y b =>
      cases c with
      | nil => simp [cmps] at h2
      | cons z c =>
        simp only [cmps] at h1 h2 ⊢
        have hxy : cmp x y ≤ 0 := by by_cases h : cmp x y = 0 <;> simp [h] at h1 ⊢; exact h1
        have hyz : cmp y z ≤ 0 := by by_cases h : cmp y z = 0 <;> simp [h] at h2 ⊢; exact h2
        have hxz := ih x (by simp) y z hxy hyz
        by_cases h : cmp x z = 0
        · have := cmp_eq x z h
          subst this
          have h3 := cmp_anti x y
          have h4 : cmp x y = 0 := by omega
          have h5 : cmp y x = 0 := by omega
          simp only [h, ne_eq, not_true_eq_false, if_false]
          simp only [h4, h5, ne_eq, not_true_eq_false, if_false] at h1 h2
          exact ih2 (fun k hk => ih k (by simp [hk])) b c h1 h2
        · simp [h]; exact hxz
theorem sgn_le {x y : Int} : sgn (decide (x < y)) ≤ 0 ↔ x < y := by
  by_cases h : x < y
  · simp [sgn, h]
  · simp [sgn, h]
theorem cmp_trans : ∀ a b c : Ex, cmp a b ≤ 0 → cmp b c ≤ 0 → cmp a c ≤ 0 :=
  ind fun o l ks ih b c h1 h2 => by
    obtain ⟨o', l', ks'⟩ := b
    obtain ⟨o'', l'', ks''⟩ := c
    rw [cmp_node] at h1 h2 ⊢
    by_cases e1 : o = o'
    · subst e1
      by_cases e2 : o = o''
      · subst e2
        simp only [ne_eq, not_true_eq_false, if_false] at h1 h2 ⊢
        by_cases e3 : l = l'
        · subst e3
          by_cases e4 : l = l''
          · subst e4
            simp only [ne_eq, not_true_eq_false, if_false] at h1 h2 ⊢
            exact cmps_trans ks ih _ _ h1 h2
          · simp only [ne_eq, e4, not_false_eq_true, if_true] at h2 ⊢
            exact h2
        · rw [if_pos e3, sgn_le] at h1
          by_cases e5 : l' = l''
          · subst e5
            rw [if_pos e3, sgn_le]
            exact h1
          · rw [if_pos e5, sgn_le] at h2
            rw [if_pos (show l ≠ l'' by omega), sgn_le]
            omega
      · simp only [ne_eq, e2, not_false_eq_true, if_true] at h2 ⊢
        exact h2
    · rw [if_pos e1, sgn_le] at h1
      by_cases e5 : o' = o''
      · subst e5
        rw [if_pos e1, sgn_le]
        exact h1
      · rw [if_pos e5, sgn_le] at h2
        rw [if_pos (show o ≠ o'' by omega), sgn_le]
        omega
/-! the functions -/
theorem cmpInt_spec (x y : Int) : CC F_cmp_Compare_int_ [.int .i64 x, .int .i64 y] = some [.int .i64 (if x < y then -1 else if y < x then 1 else 0)] := by
  refine f_cmp_Compare_int__of ?_
  unfold f_cmp_Compare_int_
  have h : ∀ z : Int, CC F_cmp_isNaN_int_ [.int .i64 z] = some [.bool false] := fun z => f_cmp_isNaN_int__of (by simp [f_cmp_isNaN_int_])
  rw [h, h]
  by_cases h1 : x < y
  · simp [h1]
  · by_cases h2 : y < x
    · simp [h1, h2]
    · simp [h1, h2]
theorem cmpInt_ne {x y : Int} (h : x ≠ y) : CC F_cmp_Compare_int_ [.int .i64 x, .int .i64 y] = some [.int .i64 (sgn (decide (x < y)))] := by
  rw [cmpInt_spec]
  by_cases h1 : x < y
  · simp [sgn, h1]
  · simp [sgn, h1, show y < x by omega]
theorem cmpf_loop {ks ks' : List Ex} (hlen : ks.length ≤ maxLen) (ih : ∀ k ∈ ks, ∀ e : Ex, e.Ok → CC F_expr_Compare (exA k (exA e [])) = some [.int .i64 (cmp k e)]) (hk' : ∀ k ∈ ks', Ex.Ok k) :
    ∀ (suf pre suf' pre' : List Ex), ks = pre ++ suf → ks' = pre' ++ suf' → pre.length = pre'.length →
    (∃ c, Loop (s_slices_CompareFunc___api_Expr___api_Expr_api_Expr_api_Expr__1L CC (ks.map enc) (ks'.map enc) (ks.map enc) ((ks.map enc).length : Int)) ((pre.length : Nat) : Int) = some (.inl c) ∧ cmps suf suf' = c) ∨
    (∃ i b, Loop (s_slices_CompareFunc___api_Expr___api_Expr_api_Expr_api_Expr__1L CC (ks.map enc) (ks'.map enc) (ks.map enc) ((ks.map enc).length : Int)) ((pre.length : Nat) : Int) = some (.inr (i, b)) ∧ cmps suf suf' = if ks.length < ks'.length then -1 else 0) := by
  intro suf
  induction suf with
  | nil =>
    intro pre suf' pre' hks hks' hpp
    subst hks
    refine .inr ⟨((pre.length : Nat) : Int), false, Loop_end ?_, ?_⟩
    · simp only [s_slices_CompareFunc___api_Expr___api_Expr_api_Expr_api_Expr__1L, s_slices_CompareFunc___api_Expr___api_Expr_api_Expr_api_Expr__1, List.append_nil, List.length_map, bif_decide]
      rw [if_neg (by omega)]
      simp
    · cases suf' with
      | nil => simp [cmps, hks', hpp]
      | cons a l => simp [cmps, hks', hpp]
  | cons k suf ihs =>
    intro pre suf' pre' hks hks' hpp
    have hpl : pre.length < ks.length := by rw [hks]; simp
    have := maxLen_le
    have hix : idx (ks.map enc) (pre.length : Int) = some k.enc := by rw [hks]; exact idx_kid _ _ _
    cases suf' with
    | nil =>
      refine .inl ⟨1, Loop_end ?_, by simp [cmps]⟩
      have hl : ks'.length = pre.length := by rw [hks', hpp]; simp
      simp only [s_slices_CompareFunc___api_Expr___api_Expr_api_Expr_api_Expr__1L, s_slices_CompareFunc___api_Expr___api_Expr_api_Expr_api_Expr__1, List.length_map, bif_decide]
      rw [if_pos (by omega), hix]
      simp only [Option.bind_some]
      rw [if_pos (by omega)]
    | cons k' suf' =>
      have hl : pre.length < ks'.length := by rw [hks', hpp]; simp
      have hix' : idx (ks'.map enc) (pre.length : Int) = some k'.enc := by rw [hks', hpp]; exact idx_kid _ _ _
      have e1 := ih k (by rw [hks]; simp) k' (hk' k' (by rw [hks']; simp))
      by_cases hc : cmp k k' = 0
      · have hstep : s_slices_CompareFunc___api_Expr___api_Expr_api_Expr_api_Expr__1L CC (ks.map enc) (ks'.map enc) (ks.map enc) ((ks.map enc).length : Int) ((pre.length : Nat) : Int) = some (.inl (((pre ++ [k]).length : Nat) : Int)) := by
          simp only [s_slices_CompareFunc___api_Expr___api_Expr_api_Expr_api_Expr__1L, s_slices_CompareFunc___api_Expr___api_Expr_api_Expr_api_Expr__1, List.length_map, bif_decide]
          rw [if_pos (by omega), hix]
          simp only [Option.bind_some]
          rw [if_neg (by omega), hix']
          simp only [Option.bind_some, enc_0, enc_1, enc_2]
          rw [e1, hc]
          simp only [Option.bind_some, V.nth_zero, V.toInt_int, bif_bne, if_true]
          rw [wrap64 (by omega) (by omega)]
          simp
        rw [Loop_norm hstep]
        simp only [cmps, hc, ne_eq, not_true_eq_false, if_false]
        exact ihs (pre ++ [k]) suf' (pre' ++ [k']) (by rw [hks]; simp) (by rw [hks']; simp) (by simp [hpp])
      · refine .inl ⟨cmp k k', Loop_end ?_, by simp [cmps, hc]⟩
        simp only [s_slices_CompareFunc___api_Expr___api_Expr_api_Expr_api_Expr__1L, s_slices_CompareFunc___api_Expr___api_Expr_api_Expr_api_Expr__1, List.length_map, bif_decide]
        rw [if_pos (by omega), hix]
        simp only [Option.bind_some]
        rw [if_neg (by omega), hix']
        simp only [Option.bind_some, enc_0, enc_1, enc_2]
        rw [e1]
        simp only [Option.bind_some, V.nth_zero, V.toInt_int, bif_bne, if_neg hc]
theorem Compare_spec : ∀ a : Ex, a.Ok → ∀ b : Ex, b.Ok → CC F_expr_Compare (exA a (exA b [])) = some [.int .i64 (cmp a b)] :=
  ind fun o l ks ih hok b hb => by
    obtain ⟨o', l', ks'⟩ := b
    refine f_expr_Compare_of ?_
    unfold f_expr_Compare
    rw [cmp_node]
    simp only [Ex.op, Ex.letter, Ex.kids, bif_bne]
    by_cases h1 : o = o'
    · by_cases h2 : l = l'
      · rw [if_pos h1, if_pos h2, if_neg (by simp [h1]), if_neg (by simp [h2])]
        have hcf : CC F_slices_CompareFunc___api_Expr___api_Expr_api_Expr_api_Expr_ [.list T_api_Expr (ks.map enc), .list T_api_Expr (ks'.map enc)] = some [.int .i64 (cmps ks ks')] := by
          refine f_slices_CompareFunc___api_Expr___api_Expr_api_Expr_api_Expr__of ?_
          unfold f_slices_CompareFunc___api_Expr___api_Expr_api_Expr_api_Expr_
          rcases cmpf_loop hok.len (fun k hk e he => ih k hk (hok.kid k hk) e he) hb.kid ks [] ks' [] rfl rfl rfl with ⟨c, q1, q2⟩ | ⟨i, b, q1, q2⟩
          · simp only [List.length_nil, Int.ofNat_zero, Int.natCast_zero] at q1
            erw [q1]; rw [q2]; rfl
          · simp only [List.length_nil, Int.ofNat_zero, Int.natCast_zero] at q1
            erw [q1]; rw [q2]
            simp only [Option.bind_some, way2, un, List.length_map, bif_decide]
            by_cases hl : ks.length < ks'.length
            · rw [if_pos (by omega), if_pos hl]
            · rw [if_neg (by omega), if_neg hl]
        rw [hcf]
        simp
      · rw [if_pos h1, if_neg h2, if_neg (by simp [h1]), if_pos h2, cmpInt_ne h2]
        simp
    · rw [if_neg h1, if_pos h1, cmpInt_ne h1]
      simp
theorem sign_spec (b : Bool) : CC F_semigroupref04_sign [.bool b] = some [.int .i64 (sgn b)] := by
  refine f_semigroupref04_sign_of ?_
  cases b <;> rfl
theorem cmpr_loop {ks ks' : List Ex} {a0 a1 b0 b1 : Int} (hlen : ks.length ≤ maxLen) (ih : ∀ k ∈ ks, ∀ e : Ex, e.Ok → CC F_semigroupref04_Compare (exA k (exA e [])) = some [.int .i64 (cmp k e)]) (hk' : ∀ k ∈ ks', Ex.Ok k) :
    ∀ (suf pre suf' pre' : List Ex), ks = pre ++ suf → ks' = pre' ++ suf' → pre.length = pre'.length →
    (∃ c, Loop (s_semigroupref04_Compare_1L CC a0 a1 (ks.map enc) b0 b1 (ks'.map enc)) ((pre.length : Nat) : Int) = some (.inr c) ∧ cmps suf suf' = c) ∨
    (∃ i b, Loop (s_semigroupref04_Compare_1L CC a0 a1 (ks.map enc) b0 b1 (ks'.map enc)) ((pre.length : Nat) : Int) = some (.inl (i, b)) ∧ cmps suf suf' = if ks.length = ks'.length then 0 else sgn (decide (ks.length < ks'.length))) := by
  intro suf
  induction suf with
  | nil =>
    intro pre suf' pre' hks hks' hpp
    subst hks
    refine .inr ⟨((pre.length : Nat) : Int), false, Loop_end ?_, ?_⟩
    · simp only [s_semigroupref04_Compare_1L, s_semigroupref04_Compare_1, List.append_nil, List.length_map, bif_decide]
      rw [if_neg (by omega)]
    · cases suf' with
      | nil => simp [cmps, hks', hpp]
      | cons a l => simp [cmps, hks', hpp, sgn]
  | cons k suf ihs =>
    intro pre suf' pre' hks hks' hpp
    have hpl : pre.length < ks.length := by rw [hks]; simp
    have := maxLen_le
    have hix : idx (ks.map enc) (pre.length : Int) = some k.enc := by rw [hks]; exact idx_kid _ _ _
    cases suf' with
    | nil =>
      have hl : ks'.length = pre.length := by rw [hks', hpp]; simp
      refine .inr ⟨((pre.length : Nat) : Int), false, Loop_end ?_, ?_⟩
      · simp only [s_semigroupref04_Compare_1L, s_semigroupref04_Compare_1, List.length_map, bif_decide]
        rw [if_pos (by omega), if_neg (by omega)]
        simp [hl]
      · rw [if_neg (by omega)]
        simp [cmps, sgn, show ¬ ks.length < ks'.length by omega]
    | cons k' suf' =>
      have hl : pre.length < ks'.length := by rw [hks', hpp]; simp
      have hix' : idx (ks'.map enc) (pre.length : Int) = some k'.enc := by rw [hks', hpp]; exact idx_kid _ _ _
      have e1 := ih k (by rw [hks]; simp) k' (hk' k' (by rw [hks']; simp))
      by_cases hc : cmp k k' = 0
      · have hstep : s_semigroupref04_Compare_1L CC a0 a1 (ks.map enc) b0 b1 (ks'.map enc) ((pre.length : Nat) : Int) = some (.inl (((pre ++ [k]).length : Nat) : Int)) := by
          simp only [s_semigroupref04_Compare_1L, s_semigroupref04_Compare_1, List.length_map, bif_decide]
          rw [if_pos (by omega), if_pos (by omega), hix, hix']
          simp only [Option.bind_some, enc_0, enc_1, enc_2]
          rw [e1, hc]
          simp only [Option.bind_some, V.nth_zero, V.toInt_int, bif_bne, if_true]
          rw [wrap64 (by omega) (by omega)]
          simp
        rw [Loop_norm hstep]
        simp only [cmps, hc, ne_eq, not_true_eq_false, if_false]
        exact ihs (pre ++ [k]) suf' (pre' ++ [k']) (by rw [hks]; simp) (by rw [hks']; simp) (by simp [hpp])
      · refine .inl ⟨cmp k k', Loop_end ?_, by simp [cmps, hc]⟩
        simp only [s_semigroupref04_Compare_1L, s_semigroupref04_Compare_1, List.length_map, bif_decide]
        rw [if_pos (by omega), if_pos (by omega), hix, hix']
        simp only [Option.bind_some, enc_0, enc_1, enc_2]
        rw [e1]
        simp only [Option.bind_some, V.nth_zero, V.toInt_int, bif_bne, if_neg hc]
theorem refCompare_spec : ∀ a : Ex, a.Ok → ∀ b : Ex, b.Ok → CC F_semigroupref04_Compare (exA a (exA b [])) = some [.int .i64 (cmp a b)] :=
  ind fun o l ks ih hok b hb => by
    obtain ⟨o', l', ks'⟩ := b
    refine f_semigroupref04_Compare_of ?_
    unfold f_semigroupref04_Compare
    rw [cmp_node]
    simp only [Ex.op, Ex.letter, Ex.kids, bif_bne]
    by_cases h1 : o = o'
    · by_cases h2 : l = l'
      · rw [if_pos h1, if_pos h2, if_neg (by simp [h1]), if_neg (by simp [h2])]
        rcases cmpr_loop (a0 := o) (a1 := l) (b0 := o') (b1 := l') hok.len (fun k hk e he => ih k hk (hok.kid k hk) e he) hb.kid ks [] ks' [] rfl rfl rfl with ⟨c, q1, q2⟩ | ⟨i, b, q1, q2⟩
        · simp only [List.length_nil, Int.ofNat_zero, Int.natCast_zero] at q1
          erw [q1]; rw [q2]; rfl
        · simp only [List.length_nil, Int.ofNat_zero, Int.natCast_zero] at q1
          erw [q1]; rw [q2]
          simp only [Option.bind_some, way2, un, List.length_map, bif_beq]
          by_cases hl : ks.length = ks'.length
          · rw [if_pos (by omega), if_pos hl]
          · rw [if_neg (by omega), if_neg hl, sign_spec]
            simp
      · rw [if_pos h1, if_neg h2, if_neg (by simp [h1]), if_pos h2, sign_spec]
        simp only [Option.bind_some, V.nth_zero, V.toInt_int]; rfl
    · rw [if_neg h1, if_pos h1, sign_spec]
      simp only [Option.bind_some, V.nth_zero, V.toInt_int]; rfl
end Go.AM

set_option maxRecDepth 100000
namespace Go.AM
open Go.Proofs
noncomputable abbrev B_expr_Parse : Code := bodyOf Try.prog (ann.fid 17)
noncomputable def LT_expr_Parse (C : CallF) : LTab := fun β n ds k =>
  none
noncomputable def f_expr_Parse (C : CallF) (s : List UInt8) (letters : Int) : Option (List V) :=
  bif decide ((letters : Int) < 1) then
   some [.int .i64 0, .int .i64 0, .list T_api_Expr ([] : List V), .int .i64 0, .int .i64 1]
  else
   bif decide ((letters : Int) > 6) then
    some [.int .i64 0, .int .i64 0, .list T_api_Expr ([] : List V), .int .i64 0, .int .i64 1]
   else
    bif decide (((s.length : Int) : Int) > 4096) then
     some [.int .i64 0, .int .i64 0, .list T_api_Expr ([] : List V), .int .i64 0, .int .i64 3]
    else
     (C F_expr_parseText [.str s, .int .i64 letters]).bind fun r1 =>
     bif !((V.nth ((r1.drop 3).drop 1) 0).toBool) then
      some [.int .i64 0, .int .i64 0, .list T_api_Expr ([] : List V), .int .i64 ((V.nth (r1.drop 3) 0).toInt), .int .i64 2]
     else
      (C F_expr_withinLimits [.int .i64 ((V.nth r1 0).toInt), .int .i64 ((V.nth (r1.drop 1) 0).toInt), .list T_api_Expr ((V.nth ((r1.drop 1).drop 1) 0).toList)]).bind fun r2 =>
      bif !((V.nth r2 0).toBool) then
       some [.int .i64 0, .int .i64 0, .list T_api_Expr ([] : List V), .int .i64 0, .int .i64 3]
      else
       some [.int .i64 ((V.nth r1 0).toInt), .int .i64 ((V.nth (r1.drop 1) 0).toInt), .list T_api_Expr ((V.nth ((r1.drop 1).drop 1) 0).toList), .int .i64 0, .int .i64 0]
theorem f_expr_Parse_eq (C : CallF) (s : List UInt8) (letters : Int) : bodyT Try.prog ann C (LT_expr_Parse C) 17 [.str s, .int .i64 letters] = f_expr_Parse C s letters := by kernel_rfl
theorem f_expr_Parse_of {s : List UInt8} {letters : Int} {r : Option (List V)} (h : f_expr_Parse CC s letters = r) : CC F_expr_Parse [.str s, .int .i64 letters] = r :=
  func_of (key := 17) (L := LT_expr_Parse CC) (bs := []) (by kernel_rfl) tells_nil ((f_expr_Parse_eq CC s letters).trans h)
end Go.AM

set_option maxRecDepth 100000
namespace Go.AM
open Go.Proofs
noncomputable abbrev B_expr_node : Code := bodyOf Try.prog (ann.fid 79)
noncomputable def LT_expr_node (C : CallF) : LTab := fun β n ds k =>
  none
noncomputable def f_expr_node (C : CallF) (op : Int) (parts : List V) : Option (List V) :=
  bif ((parts.length : Int) : Int) == 1 then
   (parts[0]?).bind fun x1 =>
   some [.int .i64 ((x1.cell 0).toInt), .int .i64 ((x1.cell 1).toInt), .list T_api_Expr ((x1.cell 2).toList)]
  else
   some [.int .i64 op, .int .i64 0, .list T_api_Expr parts]
theorem f_expr_node_eq (C : CallF) (op : Int) (parts : List V) : bodyT Try.prog ann C (LT_expr_node C) 79 [.int .i64 op, .list T_api_Expr parts] = f_expr_node C op parts := by kernel_rfl
theorem f_expr_node_of {op : Int} {parts : List V} {r : Option (List V)} (h : f_expr_node CC op parts = r) : CC F_expr_node [.int .i64 op, .list T_api_Expr parts] = r :=
  func_of (key := 79) (L := LT_expr_node CC) (bs := []) (by kernel_rfl) tells_nil ((f_expr_node_eq CC op parts).trans h)
end Go.AM

set_option maxRecDepth 100000
namespace Go.AM
open Go.Proofs
noncomputable abbrev B_expr_parseText : Code := bodyOf Try.prog (ann.fid 43)
noncomputable def LT_expr_parseText (C : CallF) : LTab := fun β n ds k =>
  none
noncomputable def f_expr_parseText (C : CallF) (s : List UInt8) (letters : Int) : Option (List V) :=
  (C F_expr_parser_union [.str s, .int .i64 0, .int .i64 letters]).bind fun r1 =>
  (C F_expr_parser_peek [.str ((V.nth (r1.drop 3) 0).toStr), .int .i64 ((V.nth ((r1.drop 3).drop 1) 0).toInt), .int .i64 ((V.nth (((r1.drop 3).drop 1).drop 1) 0).toInt)]).bind fun r2 =>
  bif decide ((((V.nth ((r2.drop 1).drop 1) 0).toInt) : Int) < (s.length : Int)) then
   none
  else
   some [.int .i64 ((V.nth r1 0).toInt), .int .i64 ((V.nth (r1.drop 1) 0).toInt), .list T_api_Expr ((V.nth ((r1.drop 1).drop 1) 0).toList), .int .i64 0, .bool true]
theorem f_expr_parseText_eq (C : CallF) (s : List UInt8) (letters : Int) : bodyT Try.prog ann C (LT_expr_parseText C) 43 [.str s, .int .i64 letters] = f_expr_parseText C s letters := by kernel_rfl
theorem f_expr_parseText_of {s : List UInt8} {letters : Int} {r : Option (List V)} (h : f_expr_parseText CC s letters = r) : CC F_expr_parseText [.str s, .int .i64 letters] = r :=
  func_of (key := 43) (L := LT_expr_parseText CC) (bs := []) (by kernel_rfl) tells_nil ((f_expr_parseText_eq CC s letters).trans h)
end Go.AM

set_option maxRecDepth 100000
namespace Go.AM
open Go.Proofs
noncomputable abbrev B_expr_parser_and : Code := bodyOf Try.prog (ann.fid 71)
noncomputable def LT_expr_parser_and (C : CallF) : LTab := fun β n ds k =>
  none
noncomputable def f_expr_parser_and (C : CallF) (ps_0 : List UInt8) (ps_1 ps_2 : Int) : Option (List V) :=
  (C K_expr_parser_list_k132 [.int .i64 6, .int .u8 38, .str ps_0, .int .i64 ps_1, .int .i64 ps_2]).bind fun r1 =>
  some [.int .i64 ((V.nth r1 0).toInt), .int .i64 ((V.nth (r1.drop 1) 0).toInt), .list T_api_Expr ((V.nth ((r1.drop 1).drop 1) 0).toList), .str ((V.nth (r1.drop 3) 0).toStr), .int .i64 ((V.nth ((r1.drop 3).drop 1) 0).toInt), .int .i64 ((V.nth (((r1.drop 3).drop 1).drop 1) 0).toInt)]
theorem f_expr_parser_and_eq (C : CallF) (ps_0 : List UInt8) (ps_1 ps_2 : Int) : bodyT Try.prog ann C (LT_expr_parser_and C) 71 [.str ps_0, .int .i64 ps_1, .int .i64 ps_2] = f_expr_parser_and C ps_0 ps_1 ps_2 := by kernel_rfl
theorem f_expr_parser_and_of {ps_0 : List UInt8} {ps_1 ps_2 : Int} {r : Option (List V)} (h : f_expr_parser_and CC ps_0 ps_1 ps_2 = r) : CC F_expr_parser_and [.str ps_0, .int .i64 ps_1, .int .i64 ps_2] = r :=
  func_of (key := 71) (L := LT_expr_parser_and CC) (bs := []) (by kernel_rfl) tells_nil ((f_expr_parser_and_eq CC ps_0 ps_1 ps_2).trans h)
end Go.AM

set_option maxRecDepth 100000
namespace Go.AM
open Go.Proofs
noncomputable abbrev B_expr_parser_atom : Code := bodyOf Try.prog (ann.fid 98)
noncomputable def s_expr_parser_atom_1 (C : CallF) (c : Int) (t13 : Bool) (ps_0 : List UInt8) (ps_1 ps_2 t2s_0 t2s_1 es_0 es_1 : Int) (es_2 b3_ : List V) {β : Type} (kr : ((List UInt8) × Int × Int × Int × Int × (List V)) → Option β) : Option β :=
  bif t13 then
   kr (ps_0, ps_1, ps_2, 2, es_1, es_2)
  else
   (C F_expr_parser_isLetter [.int .u8 c, .str ps_0, .int .i64 ps_1, .int .i64 ps_2]).bind fun r2 =>
   bif (V.nth r2 0).toBool then
    kr ((V.nth (r2.drop 1) 0).toStr, (V.nth ((r2.drop 1).drop 1) 0).toInt, (V.nth (((r2.drop 1).drop 1).drop 1) 0).toInt, 3, IntKind.wrap .i64 (IntKind.wrap .u8 (c - 97)), es_2)
   else
    bif (c : Int) == 40 then
     (C F_expr_parser_union [.str ((V.nth (r2.drop 1) 0).toStr), .int .i64 (IntKind.wrap .i64 (((V.nth ((r2.drop 1).drop 1) 0).toInt) + 1)), .int .i64 ((V.nth (((r2.drop 1).drop 1).drop 1) 0).toInt)]).bind fun r3 =>
     (C F_expr_parser_peek [.str ((V.nth (r3.drop 3) 0).toStr), .int .i64 ((V.nth ((r3.drop 3).drop 1) 0).toInt), .int .i64 ((V.nth (((r3.drop 3).drop 1).drop 1) 0).toInt)]).bind fun r4 =>
     bif (((V.nth r4 0).toInt) : Int) != 41 then
      none
     else
      kr ((V.nth (r4.drop 1) 0).toStr, (V.nth ((r4.drop 1).drop 1) 0).toInt, (V.nth (((r4.drop 1).drop 1).drop 1) 0).toInt, (V.nth r3 0).toInt, (V.nth (r3.drop 1) 0).toInt, (V.nth ((r3.drop 1).drop 1) 0).toList)
    else none
def w_expr_parser_atom_1 (c : Int) (t13 : Bool) (ps_0 : List UInt8) (ps_1 ps_2 t2s_0 t2s_1 es_0 es_1 : Int) (es_2 b3_ : List V) (β : Type) (k : Nat → List V → Option β) : ((List UInt8) × Int × Int × Int × Int × (List V)) → Option β := (un fun (v0 : List UInt8) => un fun (v1 : Int) => un fun (v2 : Int) => un fun (v5 : Int) => un fun (v6 : Int) (v7 : List V) => k 0 [.str v0, .int .i64 v1, .int .i64 v2, .int .i64 t2s_0, .int .i64 t2s_1, .int .i64 v5, .int .i64 v6, .list T_api_Expr v7, .list T_api_Expr b3_])
noncomputable def l_expr_parser_atom_1 (C : CallF) (β : Type) (ds : List V) (k : Nat → List V → Option β) : Option β :=
  s_expr_parser_atom_1 C ((V.nth ds 0).toInt) ((V.nth (ds.drop 1) 0).toBool) ((V.nth (ds.drop 2) 0).toStr) ((V.nth ((ds.drop 2).drop 1) 0).toInt) ((V.nth (((ds.drop 2).drop 1).drop 1) 0).toInt) ((V.nth ((ds.drop 2).drop 3) 0).toInt) ((V.nth (((ds.drop 2).drop 3).drop 1) 0).toInt) ((V.nth (((ds.drop 2).drop 3).drop 2) 0).toInt) ((V.nth ((((ds.drop 2).drop 3).drop 2).drop 1) 0).toInt) ((V.nth (((((ds.drop 2).drop 3).drop 2).drop 1).drop 1) 0).toList) ((V.nth ((((ds.drop 2).drop 3).drop 2).drop 3) 0).toList) (w_expr_parser_atom_1 ((V.nth ds 0).toInt) ((V.nth (ds.drop 1) 0).toBool) ((V.nth (ds.drop 2) 0).toStr) ((V.nth ((ds.drop 2).drop 1) 0).toInt) ((V.nth (((ds.drop 2).drop 1).drop 1) 0).toInt) ((V.nth ((ds.drop 2).drop 3) 0).toInt) ((V.nth (((ds.drop 2).drop 3).drop 1) 0).toInt) ((V.nth (((ds.drop 2).drop 3).drop 2) 0).toInt) ((V.nth ((((ds.drop 2).drop 3).drop 2).drop 1) 0).toInt) ((V.nth (((((ds.drop 2).drop 3).drop 2).drop 1).drop 1) 0).toList) ((V.nth ((((ds.drop 2).drop 3).drop 2).drop 3) 0).toList) β k)
noncomputable def s_expr_parser_atom_2 (C : CallF) (c : Int) (t9 : Bool) (ps_0 : List UInt8) (ps_1 ps_2 t2s_0 t2s_1 es_0 es_1 : Int) (es_2 b3_ : List V) {β : Type} (kr : ((List UInt8) × Int × Int × Int × Int × (List V)) → Option β) : Option β :=
  bif t9 then
   kr (ps_0, ps_1, ps_2, 1, es_1, es_2)
  else
   s_expr_parser_atom_1 C c ((c : Int) == 49) ps_0 ps_1 ps_2 t2s_0 t2s_1 es_0 es_1 es_2 b3_ (un fun (ps_5 : List UInt8) => un fun (ps_6 : Int) => un fun (ps_7 : Int) => un fun (es_8 : Int) => un fun (es_9 : Int) (es_10 : List V) =>
     kr (ps_5, ps_6, ps_7, es_8, es_9, es_10))
def w_expr_parser_atom_2 (c : Int) (t9 : Bool) (ps_0 : List UInt8) (ps_1 ps_2 t2s_0 t2s_1 es_0 es_1 : Int) (es_2 b3_ : List V) (β : Type) (k : Nat → List V → Option β) : ((List UInt8) × Int × Int × Int × Int × (List V)) → Option β := (un fun (v0 : List UInt8) => un fun (v1 : Int) => un fun (v2 : Int) => un fun (v5 : Int) => un fun (v6 : Int) (v7 : List V) => k 0 [.str v0, .int .i64 v1, .int .i64 v2, .int .i64 t2s_0, .int .i64 t2s_1, .int .i64 v5, .int .i64 v6, .list T_api_Expr v7, .list T_api_Expr b3_])
noncomputable def l_expr_parser_atom_2 (C : CallF) (β : Type) (ds : List V) (k : Nat → List V → Option β) : Option β :=
  s_expr_parser_atom_2 C ((V.nth ds 0).toInt) ((V.nth (ds.drop 1) 0).toBool) ((V.nth (ds.drop 2) 0).toStr) ((V.nth ((ds.drop 2).drop 1) 0).toInt) ((V.nth (((ds.drop 2).drop 1).drop 1) 0).toInt) ((V.nth ((ds.drop 2).drop 3) 0).toInt) ((V.nth (((ds.drop 2).drop 3).drop 1) 0).toInt) ((V.nth (((ds.drop 2).drop 3).drop 2) 0).toInt) ((V.nth ((((ds.drop 2).drop 3).drop 2).drop 1) 0).toInt) ((V.nth (((((ds.drop 2).drop 3).drop 2).drop 1).drop 1) 0).toList) ((V.nth ((((ds.drop 2).drop 3).drop 2).drop 3) 0).toList) (w_expr_parser_atom_2 ((V.nth ds 0).toInt) ((V.nth (ds.drop 1) 0).toBool) ((V.nth (ds.drop 2) 0).toStr) ((V.nth ((ds.drop 2).drop 1) 0).toInt) ((V.nth (((ds.drop 2).drop 1).drop 1) 0).toInt) ((V.nth ((ds.drop 2).drop 3) 0).toInt) ((V.nth (((ds.drop 2).drop 3).drop 1) 0).toInt) ((V.nth (((ds.drop 2).drop 3).drop 2) 0).toInt) ((V.nth ((((ds.drop 2).drop 3).drop 2).drop 1) 0).toInt) ((V.nth (((((ds.drop 2).drop 3).drop 2).drop 1).drop 1) 0).toList) ((V.nth ((((ds.drop 2).drop 3).drop 2).drop 3) 0).toList) β k)
noncomputable def LT_expr_parser_atom (C : CallF) : LTab := fun β n ds k =>
  bif Nat.beq n 223 then l_expr_parser_atom_1 C β ds k else
  bif Nat.beq n 159 then l_expr_parser_atom_2 C β ds k else
  none
theorem t_expr_parser_atom_1 (C : CallF) : Tells Try.prog ann C (LT_expr_parser_atom C) 98 (ntmpsOf Try.prog (ann.fid 98)) (ann.sin 98).blks.length (.cond 13 (codeAt [1, 1, 0, 1, 0, 1, 1, 1, 0] B_expr_parser_atom) (codeAt [1, 1, 0, 1, 0, 1, 1, 1, 1] B_expr_parser_atom)) :=
  tells_cond2 (I := Int × Bool × (List UInt8) × Int × Int × Int × Int × Int × Int × (List V) × (List V)) (R := (List UInt8) × Int × Int × Int × Int × (List V)) (S := (⟨[(0, .one (.ptrC 0 0 0)), (2, .one (.ptrC 1 0 0)), (3, .one (.ptrC 2 0 0)), (4, .one (.int .u8)), (13, .one (.bool))], [.var 68 [.one (.str), .one (.int .i64), .one (.int .i64)], .var 24 [.one (.int .i64), .one (.int .i64), .one (.whole T_api_Expr 3)], .var 24 [.one (.int .i64), .one (.int .i64), .one (.list T_api_Expr)], .arr T_api_Expr false]⟩, [(.norm, ⟨[(0, .one (.ptrC 0 0 0)), (2, .one (.ptrC 1 0 0)), (3, .one (.ptrC 2 0 0))], [.var 68 [.one (.str), .one (.int .i64), .one (.int .i64)], .var 24 [.one (.int .i64), .one (.int .i64), .one (.whole T_api_Expr 3)], .var 24 [.one (.int .i64), .one (.int .i64), .one (.list T_api_Expr)], .arr T_api_Expr false]⟩)])) (by kernel_rfl) (ltok_of (bs := []) (by kernel_rfl) tells_nil) (ltok_of (bs := []) (by kernel_rfl) tells_nil)
    (un fun (c : Int) => un fun (t13 : Bool) => un fun (ps_0 : List UInt8) => un fun (ps_1 : Int) => un fun (ps_2 : Int) => un fun (t2s_0 : Int) => un fun (t2s_1 : Int) => un fun (es_0 : Int) => un fun (es_1 : Int) => un fun (es_2 : List V) (b3_ : List V) => [.int .u8 c, .bool t13, .str ps_0, .int .i64 ps_1, .int .i64 ps_2, .int .i64 t2s_0, .int .i64 t2s_1, .int .i64 es_0, .int .i64 es_1, .list T_api_Expr es_2, .list T_api_Expr b3_]) (un fun (c : Int) => un fun (t13 : Bool) => un fun (ps_0 : List UInt8) => un fun (ps_1 : Int) => un fun (ps_2 : Int) => un fun (t2s_0 : Int) => un fun (t2s_1 : Int) => un fun (es_0 : Int) => un fun (es_1 : Int) => un fun (es_2 : List V) (b3_ : List V) => w_expr_parser_atom_1 c t13 ps_0 ps_1 ps_2 t2s_0 t2s_1 es_0 es_1 es_2 b3_)
    (fun ds => ((V.nth ds 0).toInt, (V.nth (ds.drop 1) 0).toBool, (V.nth (ds.drop 2) 0).toStr, (V.nth ((ds.drop 2).drop 1) 0).toInt, (V.nth (((ds.drop 2).drop 1).drop 1) 0).toInt, (V.nth ((ds.drop 2).drop 3) 0).toInt, (V.nth (((ds.drop 2).drop 3).drop 1) 0).toInt, (V.nth (((ds.drop 2).drop 3).drop 2) 0).toInt, (V.nth ((((ds.drop 2).drop 3).drop 2).drop 1) 0).toInt, (V.nth (((((ds.drop 2).drop 3).drop 2).drop 1).drop 1) 0).toList, (V.nth ((((ds.drop 2).drop 3).drop 2).drop 3) 0).toList)) (un fun (c : Int) => un fun (t13 : Bool) => un fun (ps_0 : List UInt8) => un fun (ps_1 : Int) => un fun (ps_2 : Int) => un fun (t2s_0 : Int) => un fun (t2s_1 : Int) => un fun (es_0 : Int) => un fun (es_1 : Int) => un fun (es_2 : List V) (b3_ : List V) => fun β kr => s_expr_parser_atom_1 C c t13 ps_0 ps_1 ps_2 t2s_0 t2s_1 es_0 es_1 es_2 b3_ kr)
    (l_expr_parser_atom_1 C) (fun ds => by kernel_rfl)
    (fun i β k => by kernel_rfl) (fun β ds k => by kernel_rfl) (fun β ds k => by kernel_rfl) (fun i β k r => by skip <;> kernel_rfl)
theorem t_expr_parser_atom_2 (C : CallF) : Tells Try.prog ann C (LT_expr_parser_atom C) 98 (ntmpsOf Try.prog (ann.fid 98)) (ann.sin 98).blks.length (.cond 9 (codeAt [1, 1, 0, 1, 0, 1, 0] B_expr_parser_atom) (codeAt [1, 1, 0, 1, 0, 1, 1] B_expr_parser_atom)) :=
  tells_cond2 (I := Int × Bool × (List UInt8) × Int × Int × Int × Int × Int × Int × (List V) × (List V)) (R := (List UInt8) × Int × Int × Int × Int × (List V)) (S := (⟨[(0, .one (.ptrC 0 0 0)), (2, .one (.ptrC 1 0 0)), (3, .one (.ptrC 2 0 0)), (4, .one (.int .u8)), (9, .one (.bool))], [.var 68 [.one (.str), .one (.int .i64), .one (.int .i64)], .var 24 [.one (.int .i64), .one (.int .i64), .one (.whole T_api_Expr 3)], .var 24 [.one (.int .i64), .one (.int .i64), .one (.list T_api_Expr)], .arr T_api_Expr false]⟩, [(.norm, ⟨[(0, .one (.ptrC 0 0 0)), (2, .one (.ptrC 1 0 0)), (3, .one (.ptrC 2 0 0))], [.var 68 [.one (.str), .one (.int .i64), .one (.int .i64)], .var 24 [.one (.int .i64), .one (.int .i64), .one (.whole T_api_Expr 3)], .var 24 [.one (.int .i64), .one (.int .i64), .one (.list T_api_Expr)], .arr T_api_Expr false]⟩)])) (by kernel_rfl) (ltok_of (bs := []) (by kernel_rfl) tells_nil) (ltok_of (bs := [.cond 13 (codeAt [1, 1, 0, 1, 0, 1, 1, 1, 0] B_expr_parser_atom) (codeAt [1, 1, 0, 1, 0, 1, 1, 1, 1] B_expr_parser_atom)]) (by kernel_rfl) (tells_cons (t_expr_parser_atom_1 C) tells_nil))
    (un fun (c : Int) => un fun (t9 : Bool) => un fun (ps_0 : List UInt8) => un fun (ps_1 : Int) => un fun (ps_2 : Int) => un fun (t2s_0 : Int) => un fun (t2s_1 : Int) => un fun (es_0 : Int) => un fun (es_1 : Int) => un fun (es_2 : List V) (b3_ : List V) => [.int .u8 c, .bool t9, .str ps_0, .int .i64 ps_1, .int .i64 ps_2, .int .i64 t2s_0, .int .i64 t2s_1, .int .i64 es_0, .int .i64 es_1, .list T_api_Expr es_2, .list T_api_Expr b3_]) (un fun (c : Int) => un fun (t9 : Bool) => un fun (ps_0 : List UInt8) => un fun (ps_1 : Int) => un fun (ps_2 : Int) => un fun (t2s_0 : Int) => un fun (t2s_1 : Int) => un fun (es_0 : Int) => un fun (es_1 : Int) => un fun (es_2 : List V) (b3_ : List V) => w_expr_parser_atom_2 c t9 ps_0 ps_1 ps_2 t2s_0 t2s_1 es_0 es_1 es_2 b3_)
    (fun ds => ((V.nth ds 0).toInt, (V.nth (ds.drop 1) 0).toBool, (V.nth (ds.drop 2) 0).toStr, (V.nth ((ds.drop 2).drop 1) 0).toInt, (V.nth (((ds.drop 2).drop 1).drop 1) 0).toInt, (V.nth ((ds.drop 2).drop 3) 0).toInt, (V.nth (((ds.drop 2).drop 3).drop 1) 0).toInt, (V.nth (((ds.drop 2).drop 3).drop 2) 0).toInt, (V.nth ((((ds.drop 2).drop 3).drop 2).drop 1) 0).toInt, (V.nth (((((ds.drop 2).drop 3).drop 2).drop 1).drop 1) 0).toList, (V.nth ((((ds.drop 2).drop 3).drop 2).drop 3) 0).toList)) (un fun (c : Int) => un fun (t9 : Bool) => un fun (ps_0 : List UInt8) => un fun (ps_1 : Int) => un fun (ps_2 : Int) => un fun (t2s_0 : Int) => un fun (t2s_1 : Int) => un fun (es_0 : Int) => un fun (es_1 : Int) => un fun (es_2 : List V) (b3_ : List V) => fun β kr => s_expr_parser_atom_2 C c t9 ps_0 ps_1 ps_2 t2s_0 t2s_1 es_0 es_1 es_2 b3_ kr)
    (l_expr_parser_atom_2 C) (fun ds => by kernel_rfl)
    (fun i β k => by kernel_rfl) (fun β ds k => by kernel_rfl) (fun β ds k => by kernel_rfl) (fun i β k r => by skip <;> kernel_rfl)
noncomputable def f_expr_parser_atom (C : CallF) (ps_0 : List UInt8) (ps_1 ps_2 : Int) : Option (List V) :=
  (C F_expr_parser_peek [.str ps_0, .int .i64 ps_1, .int .i64 ps_2]).bind fun r1 =>
  s_expr_parser_atom_2 C ((V.nth r1 0).toInt) ((((V.nth r1 0).toInt) : Int) == 48) ((V.nth (r1.drop 1) 0).toStr) ((V.nth ((r1.drop 1).drop 1) 0).toInt) ((V.nth (((r1.drop 1).drop 1).drop 1) 0).toInt) 0 0 0 0 ([] : List V) ([] : List V) (un fun (ps_11 : List UInt8) => un fun (ps_12 : Int) => un fun (ps_13 : Int) => un fun (es_14 : Int) => un fun (es_15 : Int) (es_16 : List V) =>
    some [.int .i64 es_14, .int .i64 es_15, .list T_api_Expr es_16, .str ps_11, .int .i64 (IntKind.wrap .i64 (ps_12 + 1)), .int .i64 ps_13])
theorem f_expr_parser_atom_eq (C : CallF) (ps_0 : List UInt8) (ps_1 ps_2 : Int) : bodyT Try.prog ann C (LT_expr_parser_atom C) 98 [.str ps_0, .int .i64 ps_1, .int .i64 ps_2] = f_expr_parser_atom C ps_0 ps_1 ps_2 := by kernel_rfl
theorem f_expr_parser_atom_of {ps_0 : List UInt8} {ps_1 ps_2 : Int} {r : Option (List V)} (h : f_expr_parser_atom CC ps_0 ps_1 ps_2 = r) : CC F_expr_parser_atom [.str ps_0, .int .i64 ps_1, .int .i64 ps_2] = r :=
  func_of (key := 98) (L := LT_expr_parser_atom CC) (bs := [.cond 9 (codeAt [1, 1, 0, 1, 0, 1, 0] B_expr_parser_atom) (codeAt [1, 1, 0, 1, 0, 1, 1] B_expr_parser_atom)]) (by kernel_rfl) (tells_cons (t_expr_parser_atom_2 CC) tells_nil) ((f_expr_parser_atom_eq CC ps_0 ps_1 ps_2).trans h)
end Go.AM

set_option maxRecDepth 100000
namespace Go.AM
open Go.Proofs
noncomputable abbrev B_expr_parser_begins : Code := bodyOf Try.prog (ann.fid 90)
noncomputable def LT_expr_parser_begins (C : CallF) : LTab := fun β n ds k =>
  none
noncomputable def f_expr_parser_begins (C : CallF) (ps_0 : List UInt8) (ps_1 ps_2 : Int) : Option (List V) :=
  (C F_expr_parser_peek [.str ps_0, .int .i64 ps_1, .int .i64 ps_2]).bind fun r1 =>
  bif (((V.nth r1 0).toInt) : Int) == 33 then
   some [.bool true, .str ((V.nth (r1.drop 1) 0).toStr), .int .i64 ((V.nth ((r1.drop 1).drop 1) 0).toInt), .int .i64 ((V.nth (((r1.drop 1).drop 1).drop 1) 0).toInt)]
  else
   bif (((V.nth r1 0).toInt) : Int) == 40 then
    some [.bool true, .str ((V.nth (r1.drop 1) 0).toStr), .int .i64 ((V.nth ((r1.drop 1).drop 1) 0).toInt), .int .i64 ((V.nth (((r1.drop 1).drop 1).drop 1) 0).toInt)]
   else
    bif (((V.nth r1 0).toInt) : Int) == 48 then
     some [.bool true, .str ((V.nth (r1.drop 1) 0).toStr), .int .i64 ((V.nth ((r1.drop 1).drop 1) 0).toInt), .int .i64 ((V.nth (((r1.drop 1).drop 1).drop 1) 0).toInt)]
    else
     bif (((V.nth r1 0).toInt) : Int) == 49 then
      some [.bool true, .str ((V.nth (r1.drop 1) 0).toStr), .int .i64 ((V.nth ((r1.drop 1).drop 1) 0).toInt), .int .i64 ((V.nth (((r1.drop 1).drop 1).drop 1) 0).toInt)]
     else
      (C F_expr_parser_isLetter [.int .u8 ((V.nth r1 0).toInt), .str ((V.nth (r1.drop 1) 0).toStr), .int .i64 ((V.nth ((r1.drop 1).drop 1) 0).toInt), .int .i64 ((V.nth (((r1.drop 1).drop 1).drop 1) 0).toInt)]).bind fun r2 =>
      some [.bool ((V.nth r2 0).toBool), .str ((V.nth (r2.drop 1) 0).toStr), .int .i64 ((V.nth ((r2.drop 1).drop 1) 0).toInt), .int .i64 ((V.nth (((r2.drop 1).drop 1).drop 1) 0).toInt)]
theorem f_expr_parser_begins_eq (C : CallF) (ps_0 : List UInt8) (ps_1 ps_2 : Int) : bodyT Try.prog ann C (LT_expr_parser_begins C) 90 [.str ps_0, .int .i64 ps_1, .int .i64 ps_2] = f_expr_parser_begins C ps_0 ps_1 ps_2 := by kernel_rfl
theorem f_expr_parser_begins_of {ps_0 : List UInt8} {ps_1 ps_2 : Int} {r : Option (List V)} (h : f_expr_parser_begins CC ps_0 ps_1 ps_2 = r) : CC F_expr_parser_begins [.str ps_0, .int .i64 ps_1, .int .i64 ps_2] = r :=
  func_of (key := 90) (L := LT_expr_parser_begins CC) (bs := []) (by kernel_rfl) tells_nil ((f_expr_parser_begins_eq CC ps_0 ps_1 ps_2).trans h)
end Go.AM

set_option maxRecDepth 100000
namespace Go.AM
open Go.Proofs
noncomputable abbrev B_expr_parser_cat : Code := bodyOf Try.prog (ann.fid 80)
noncomputable def s_expr_parser_cat_1 (C : CallF) (t2s_0 t2s_1 : Int) (b3_ : List V) (ps_0 : List UInt8) (ps_1 ps_2 : Int) (partss : List V) {β : Type} (kn : ((List UInt8) × Int × Int × (List V)) → Option β) (kr : (Bool × (List UInt8) × Int × Int × (List V)) → Option β) : Option β :=
  (C F_expr_parser_begins [.str ps_0, .int .i64 ps_1, .int .i64 ps_2]).bind fun r2 =>
  bif (V.nth r2 0).toBool then
   (C F_expr_parser_unary [.str ((V.nth (r2.drop 1) 0).toStr), .int .i64 ((V.nth ((r2.drop 1).drop 1) 0).toInt), .int .i64 ((V.nth (((r2.drop 1).drop 1).drop 1) 0).toInt)]).bind fun r3 =>
   bif Nat.ble ((partss.length + ([.agg [.int .i64 ((V.nth r3 0).toInt), .int .i64 ((V.nth (r3.drop 1) 0).toInt), .list T_api_Expr ((V.nth ((r3.drop 1).drop 1) 0).toList)]] : List V).length) * 40) maxBytes then
    kn ((V.nth (r3.drop 3) 0).toStr, (V.nth ((r3.drop 3).drop 1) 0).toInt, (V.nth (((r3.drop 3).drop 1).drop 1) 0).toInt, partss ++ ([.agg [.int .i64 ((V.nth r3 0).toInt), .int .i64 ((V.nth (r3.drop 1) 0).toInt), .list T_api_Expr ((V.nth ((r3.drop 1).drop 1) 0).toList)]] : List V))
   else none
  else
   kr ((V.nth r2 0).toBool, (V.nth (r2.drop 1) 0).toStr, (V.nth ((r2.drop 1).drop 1) 0).toInt, (V.nth (((r2.drop 1).drop 1).drop 1) 0).toInt, partss)
noncomputable def s_expr_parser_cat_1L (C : CallF) (t2s_0 t2s_1 : Int) (b3_ : List V) : ((List UInt8) × Int × Int × (List V)) → Option (((List UInt8) × Int × Int × (List V)) ⊕ (Bool × (List UInt8) × Int × Int × (List V))) := un fun ps_0 => un fun ps_1 => un fun ps_2 partss => s_expr_parser_cat_1 C t2s_0 t2s_1 b3_ ps_0 ps_1 ps_2 partss (fun y => some (.inl y)) (fun r => some (.inr r))
def w_expr_parser_cat_1 (t2s_0 t2s_1 : Int) (b3_ : List V) (β : Type) (k : Nat → List V → Option β) : (Bool × (List UInt8) × Int × Int × (List V)) → Option β := (un fun (v0 : Bool) => un fun (v1 : List UInt8) => un fun (v2 : Int) => un fun (v3 : Int) (v6 : List V) => k 0 [.bool v0, .str v1, .int .i64 v2, .int .i64 v3, .int .i64 t2s_0, .int .i64 t2s_1, .list T_api_Expr v6, .list T_api_Expr b3_])
noncomputable def l_expr_parser_cat_1 (C : CallF) (β : Type) (ds : List V) (k : Nat → List V → Option β) : Option β :=
  (Loop (s_expr_parser_cat_1L C ((V.nth (ds.drop 3) 0).toInt) ((V.nth ((ds.drop 3).drop 1) 0).toInt) ((V.nth (((ds.drop 3).drop 2).drop 1) 0).toList)) ((V.nth ds 0).toStr, (V.nth (ds.drop 1) 0).toInt, (V.nth ((ds.drop 1).drop 1) 0).toInt, (V.nth ((ds.drop 3).drop 2) 0).toList)).bind (w_expr_parser_cat_1 ((V.nth (ds.drop 3) 0).toInt) ((V.nth ((ds.drop 3).drop 1) 0).toInt) ((V.nth (((ds.drop 3).drop 2).drop 1) 0).toList) β k)
noncomputable def LT_expr_parser_cat (C : CallF) : LTab := fun β n ds k =>
  bif Nat.beq n 33 then l_expr_parser_cat_1 C β ds k else
  none
theorem t_expr_parser_cat_1 (C : CallF) : Tells Try.prog ann C (LT_expr_parser_cat C) 80 (ntmpsOf Try.prog (ann.fid 80)) (ann.sin 80).blks.length (.loop (codeAt [1, 1, 0, 0, 0] B_expr_parser_cat)) :=
  tells_loop2 (I := Int × Int × (List V)) (X := (List UInt8) × Int × Int × (List V)) (R := Bool × (List UInt8) × Int × Int × (List V)) (S := (⟨[(0, .one (.ptrC 0 0 0)), (2, .one (.ptrC 1 0 0)), (3, .one (.whole T_api_Expr 2))], [.var 68 [.one (.str), .one (.int .i64), .one (.int .i64)], .var 24 [.one (.int .i64), .one (.int .i64), .one (.whole T_api_Expr 3)], .arr T_api_Expr false, .arr T_api_Expr false]⟩, [(.exit 0, ⟨[(0, .one (.ptrC 0 0 0)), (2, .one (.ptrC 1 0 0)), (3, .one (.whole T_api_Expr 2)), (8, .one (.bool))], [.var 68 [.one (.str), .one (.int .i64), .one (.int .i64)], .var 24 [.one (.int .i64), .one (.int .i64), .one (.whole T_api_Expr 3)], .arr T_api_Expr false, .arr T_api_Expr false]⟩)])) (by kernel_rfl) (ltok_of (bs := []) (by kernel_rfl) tells_nil)
    (un fun (t2s_0 : Int) => un fun (t2s_1 : Int) (b3_ : List V) => (un fun (ps_0 : List UInt8) => un fun (ps_1 : Int) => un fun (ps_2 : Int) (partss : List V) => [.str ps_0, .int .i64 ps_1, .int .i64 ps_2, .int .i64 t2s_0, .int .i64 t2s_1, .list T_api_Expr partss, .list T_api_Expr b3_] : ((List UInt8) × Int × Int × (List V)) → List V)) (un fun (t2s_0 : Int) => un fun (t2s_1 : Int) (b3_ : List V) => w_expr_parser_cat_1 t2s_0 t2s_1 b3_)
    (fun ds => ((V.nth (ds.drop 3) 0).toInt, (V.nth ((ds.drop 3).drop 1) 0).toInt, (V.nth (((ds.drop 3).drop 2).drop 1) 0).toList)) (fun ds => ((V.nth ds 0).toStr, (V.nth (ds.drop 1) 0).toInt, (V.nth ((ds.drop 1).drop 1) 0).toInt, (V.nth ((ds.drop 3).drop 2) 0).toList)) (fun e => ((V.nth e.2 0).toBool, (V.nth (e.2.drop 1) 0).toStr, (V.nth ((e.2.drop 1).drop 1) 0).toInt, (V.nth (((e.2.drop 1).drop 1).drop 1) 0).toInt, (V.nth (((e.2.drop 1).drop 3).drop 2) 0).toList))
    (un fun (t2s_0 : Int) => un fun (t2s_1 : Int) (b3_ : List V) => (un fun (ps_0 : List UInt8) => un fun (ps_1 : Int) => un fun (ps_2 : Int) (partss : List V) => fun β kn kr => s_expr_parser_cat_1 C t2s_0 t2s_1 b3_ ps_0 ps_1 ps_2 partss kn kr : ((List UInt8) × Int × Int × (List V)) → (β : Type) → (((List UInt8) × Int × Int × (List V)) → Option β) → ((Bool × (List UInt8) × Int × Int × (List V)) → Option β) → Option β))
    (l_expr_parser_cat_1 C) (fun ds => by kernel_rfl) (fun i x => by kernel_rfl) (fun i r => by skip <;> kernel_rfl)
    (fun i x β k => by kernel_rfl) (fun β ds k => by kernel_rfl) (fun β ds k => by kernel_rfl) (fun i β k r => by skip <;> kernel_rfl)
noncomputable def f_expr_parser_cat (C : CallF) (ps_0 : List UInt8) (ps_1 ps_2 : Int) : Option (List V) :=
  (C F_expr_parser_unary [.str ps_0, .int .i64 ps_1, .int .i64 ps_2]).bind fun r1 =>
  (Loop (s_expr_parser_cat_1L C 0 0 ([] : List V)) ((V.nth (r1.drop 3) 0).toStr, (V.nth ((r1.drop 3).drop 1) 0).toInt, (V.nth (((r1.drop 3).drop 1).drop 1) 0).toInt, ([.agg [.int .i64 ((V.nth r1 0).toInt), .int .i64 ((V.nth (r1.drop 1) 0).toInt), .list T_api_Expr ((V.nth ((r1.drop 1).drop 1) 0).toList)]] : List V))).bind (un fun (t_4 : Bool) => un fun (ps_5 : List UInt8) => un fun (ps_6 : Int) => un fun (ps_7 : Int) (partss_8 : List V) =>
    (C F_expr_node [.int .i64 5, .list T_api_Expr partss_8]).bind fun r9 =>
    some [.int .i64 ((V.nth r9 0).toInt), .int .i64 ((V.nth (r9.drop 1) 0).toInt), .list T_api_Expr ((V.nth ((r9.drop 1).drop 1) 0).toList), .str ps_5, .int .i64 ps_6, .int .i64 ps_7])
theorem f_expr_parser_cat_eq (C : CallF) (ps_0 : List UInt8) (ps_1 ps_2 : Int) : bodyT Try.prog ann C (LT_expr_parser_cat C) 80 [.str ps_0, .int .i64 ps_1, .int .i64 ps_2] = f_expr_parser_cat C ps_0 ps_1 ps_2 := by kernel_rfl
theorem f_expr_parser_cat_of {ps_0 : List UInt8} {ps_1 ps_2 : Int} {r : Option (List V)} (h : f_expr_parser_cat CC ps_0 ps_1 ps_2 = r) : CC F_expr_parser_cat [.str ps_0, .int .i64 ps_1, .int .i64 ps_2] = r :=
  func_of (key := 80) (L := LT_expr_parser_cat CC) (bs := [.loop (codeAt [1, 1, 0, 0, 0] B_expr_parser_cat)]) (by kernel_rfl) (tells_cons (t_expr_parser_cat_1 CC) tells_nil) ((f_expr_parser_cat_eq CC ps_0 ps_1 ps_2).trans h)
end Go.AM

set_option maxRecDepth 100000
namespace Go.AM
open Go.Proofs
noncomputable abbrev B_expr_parser_isLetter : Code := bodyOf Try.prog (ann.fid 95)
noncomputable def LT_expr_parser_isLetter (C : CallF) : LTab := fun β n ds k =>
  none
noncomputable def f_expr_parser_isLetter (C : CallF) (c : Int) (ps_0 : List UInt8) (ps_1 ps_2 : Int) : Option (List V) :=
  bif decide ((c : Int) ≥ 97) then
   some [.bool (decide (((IntKind.wrap .i64 (IntKind.wrap .u8 (c - 97))) : Int) < ps_2)), .str ps_0, .int .i64 ps_1, .int .i64 ps_2]
  else
   some [.bool false, .str ps_0, .int .i64 ps_1, .int .i64 ps_2]
theorem f_expr_parser_isLetter_eq (C : CallF) (c : Int) (ps_0 : List UInt8) (ps_1 ps_2 : Int) : bodyT Try.prog ann C (LT_expr_parser_isLetter C) 95 [.int .u8 c, .str ps_0, .int .i64 ps_1, .int .i64 ps_2] = f_expr_parser_isLetter C c ps_0 ps_1 ps_2 := by kernel_rfl
theorem f_expr_parser_isLetter_of {c : Int} {ps_0 : List UInt8} {ps_1 ps_2 : Int} {r : Option (List V)} (h : f_expr_parser_isLetter CC c ps_0 ps_1 ps_2 = r) : CC F_expr_parser_isLetter [.int .u8 c, .str ps_0, .int .i64 ps_1, .int .i64 ps_2] = r :=
  func_of (key := 95) (L := LT_expr_parser_isLetter CC) (bs := []) (by kernel_rfl) tells_nil ((f_expr_parser_isLetter_eq CC c ps_0 ps_1 ps_2).trans h)
end Go.AM

set_option maxRecDepth 100000
namespace Go.AM
open Go.Proofs
noncomputable abbrev B_expr_parser_list : Code := bodyOf Try.prog (ann.fid 70)
noncomputable def s_expr_parser_list_1 (C : CallF) (op separator t8s_0 t8s_1 : Int) (b3_ : List V) (ps_0 : List UInt8) (ps_1 ps_2 : Int) (partss : List V) {β : Type} (kn : ((List UInt8) × Int × Int × (List V)) → Option β) (kr : (Bool × (List UInt8) × Int × Int × (List V)) → Option β) : Option β :=
  (C F_expr_parser_peek [.str ps_0, .int .i64 ps_1, .int .i64 ps_2]).bind fun r2 =>
  bif (((V.nth r2 0).toInt) : Int) == separator then
   (C F_expr_parser_and [.str ((V.nth (r2.drop 1) 0).toStr), .int .i64 (IntKind.wrap .i64 (((V.nth ((r2.drop 1).drop 1) 0).toInt) + 1)), .int .i64 ((V.nth (((r2.drop 1).drop 1).drop 1) 0).toInt)]).bind fun r3 =>
   bif Nat.ble ((partss.length + ([.agg [.int .i64 ((V.nth r3 0).toInt), .int .i64 ((V.nth (r3.drop 1) 0).toInt), .list T_api_Expr ((V.nth ((r3.drop 1).drop 1) 0).toList)]] : List V).length) * 40) maxBytes then
    kn ((V.nth (r3.drop 3) 0).toStr, (V.nth ((r3.drop 3).drop 1) 0).toInt, (V.nth (((r3.drop 3).drop 1).drop 1) 0).toInt, partss ++ ([.agg [.int .i64 ((V.nth r3 0).toInt), .int .i64 ((V.nth (r3.drop 1) 0).toInt), .list T_api_Expr ((V.nth ((r3.drop 1).drop 1) 0).toList)]] : List V))
   else none
  else
   kr ((((V.nth r2 0).toInt) : Int) == separator, (V.nth (r2.drop 1) 0).toStr, (V.nth ((r2.drop 1).drop 1) 0).toInt, (V.nth (((r2.drop 1).drop 1).drop 1) 0).toInt, partss)
noncomputable def s_expr_parser_list_1L (C : CallF) (op separator t8s_0 t8s_1 : Int) (b3_ : List V) : ((List UInt8) × Int × Int × (List V)) → Option (((List UInt8) × Int × Int × (List V)) ⊕ (Bool × (List UInt8) × Int × Int × (List V))) := un fun ps_0 => un fun ps_1 => un fun ps_2 partss => s_expr_parser_list_1 C op separator t8s_0 t8s_1 b3_ ps_0 ps_1 ps_2 partss (fun y => some (.inl y)) (fun r => some (.inr r))
def w_expr_parser_list_1 (op separator t8s_0 t8s_1 : Int) (b3_ : List V) (β : Type) (k : Nat → List V → Option β) : (Bool × (List UInt8) × Int × Int × (List V)) → Option β := (un fun (v2 : Bool) => un fun (v3 : List UInt8) => un fun (v4 : Int) => un fun (v5 : Int) (v8 : List V) => k 0 [.int .i64 op, .int .u8 separator, .bool v2, .str v3, .int .i64 v4, .int .i64 v5, .int .i64 t8s_0, .int .i64 t8s_1, .list T_api_Expr v8, .list T_api_Expr b3_])
noncomputable def l_expr_parser_list_1 (C : CallF) (β : Type) (ds : List V) (k : Nat → List V → Option β) : Option β :=
  (Loop (s_expr_parser_list_1L C ((V.nth ds 0).toInt) ((V.nth (ds.drop 1) 0).toInt) ((V.nth ((ds.drop 2).drop 3) 0).toInt) ((V.nth (((ds.drop 2).drop 3).drop 1) 0).toInt) ((V.nth ((((ds.drop 2).drop 3).drop 2).drop 1) 0).toList)) ((V.nth (ds.drop 2) 0).toStr, (V.nth ((ds.drop 2).drop 1) 0).toInt, (V.nth (((ds.drop 2).drop 1).drop 1) 0).toInt, (V.nth (((ds.drop 2).drop 3).drop 2) 0).toList)).bind (w_expr_parser_list_1 ((V.nth ds 0).toInt) ((V.nth (ds.drop 1) 0).toInt) ((V.nth ((ds.drop 2).drop 3) 0).toInt) ((V.nth (((ds.drop 2).drop 3).drop 1) 0).toInt) ((V.nth ((((ds.drop 2).drop 3).drop 2).drop 1) 0).toList) β k)
noncomputable def LT_expr_parser_list (C : CallF) : LTab := fun β n ds k =>
  bif Nat.beq n 33 then l_expr_parser_list_1 C β ds k else
  none
theorem t_expr_parser_list_1 (C : CallF) : Tells Try.prog ann C (LT_expr_parser_list C) 70 (ntmpsOf Try.prog (ann.fid 70)) (ann.sin 70).blks.length (.loop (codeAt [1, 1, 0, 0, 0] B_expr_parser_list)) :=
  tells_loop2 (I := Int × Int × Int × Int × (List V)) (X := (List UInt8) × Int × Int × (List V)) (R := Bool × (List UInt8) × Int × Int × (List V)) (S := (⟨[(0, .one (.ptrC 0 0 0)), (1, .one (.int .i64)), (2, .one (.int .u8)), (3, .fn F_expr_parser_and [.ptrC 0 0 0] []), (8, .one (.ptrC 1 0 0)), (9, .one (.whole T_api_Expr 2))], [.var 68 [.one (.str), .one (.int .i64), .one (.int .i64)], .var 24 [.one (.int .i64), .one (.int .i64), .one (.whole T_api_Expr 3)], .arr T_api_Expr false, .arr T_api_Expr false]⟩, [(.exit 0, ⟨[(0, .one (.ptrC 0 0 0)), (1, .one (.int .i64)), (2, .one (.int .u8)), (3, .fn F_expr_parser_and [.ptrC 0 0 0] []), (8, .one (.ptrC 1 0 0)), (9, .one (.whole T_api_Expr 2)), (16, .one (.bool))], [.var 68 [.one (.str), .one (.int .i64), .one (.int .i64)], .var 24 [.one (.int .i64), .one (.int .i64), .one (.whole T_api_Expr 3)], .arr T_api_Expr false, .arr T_api_Expr false]⟩)])) (by kernel_rfl) (ltok_of (bs := []) (by kernel_rfl) tells_nil)
    (un fun (op : Int) => un fun (separator : Int) => un fun (t8s_0 : Int) => un fun (t8s_1 : Int) (b3_ : List V) => (un fun (ps_0 : List UInt8) => un fun (ps_1 : Int) => un fun (ps_2 : Int) (partss : List V) => [.int .i64 op, .int .u8 separator, .str ps_0, .int .i64 ps_1, .int .i64 ps_2, .int .i64 t8s_0, .int .i64 t8s_1, .list T_api_Expr partss, .list T_api_Expr b3_] : ((List UInt8) × Int × Int × (List V)) → List V)) (un fun (op : Int) => un fun (separator : Int) => un fun (t8s_0 : Int) => un fun (t8s_1 : Int) (b3_ : List V) => w_expr_parser_list_1 op separator t8s_0 t8s_1 b3_)
    (fun ds => ((V.nth ds 0).toInt, (V.nth (ds.drop 1) 0).toInt, (V.nth ((ds.drop 2).drop 3) 0).toInt, (V.nth (((ds.drop 2).drop 3).drop 1) 0).toInt, (V.nth ((((ds.drop 2).drop 3).drop 2).drop 1) 0).toList)) (fun ds => ((V.nth (ds.drop 2) 0).toStr, (V.nth ((ds.drop 2).drop 1) 0).toInt, (V.nth (((ds.drop 2).drop 1).drop 1) 0).toInt, (V.nth (((ds.drop 2).drop 3).drop 2) 0).toList)) (fun e => ((V.nth ((e.2.drop 1).drop 1) 0).toBool, (V.nth (e.2.drop 3) 0).toStr, (V.nth ((e.2.drop 3).drop 1) 0).toInt, (V.nth (((e.2.drop 3).drop 1).drop 1) 0).toInt, (V.nth (((e.2.drop 3).drop 3).drop 2) 0).toList))
    (un fun (op : Int) => un fun (separator : Int) => un fun (t8s_0 : Int) => un fun (t8s_1 : Int) (b3_ : List V) => (un fun (ps_0 : List UInt8) => un fun (ps_1 : Int) => un fun (ps_2 : Int) (partss : List V) => fun β kn kr => s_expr_parser_list_1 C op separator t8s_0 t8s_1 b3_ ps_0 ps_1 ps_2 partss kn kr : ((List UInt8) × Int × Int × (List V)) → (β : Type) → (((List UInt8) × Int × Int × (List V)) → Option β) → ((Bool × (List UInt8) × Int × Int × (List V)) → Option β) → Option β))
    (l_expr_parser_list_1 C) (fun ds => by kernel_rfl) (fun i x => by kernel_rfl) (fun i r => by skip <;> kernel_rfl)
    (fun i x β k => by kernel_rfl) (fun β ds k => by kernel_rfl) (fun β ds k => by kernel_rfl) (fun i β k r => by skip <;> kernel_rfl)
noncomputable def f_expr_parser_list (C : CallF) (op separator : Int) (ps_0 : List UInt8) (ps_1 ps_2 : Int) : Option (List V) :=
  (C F_expr_parser_and [.str ps_0, .int .i64 ps_1, .int .i64 ps_2]).bind fun r1 =>
  (Loop (s_expr_parser_list_1L C op separator 0 0 ([] : List V)) ((V.nth (r1.drop 3) 0).toStr, (V.nth ((r1.drop 3).drop 1) 0).toInt, (V.nth (((r1.drop 3).drop 1).drop 1) 0).toInt, ([.agg [.int .i64 ((V.nth r1 0).toInt), .int .i64 ((V.nth (r1.drop 1) 0).toInt), .list T_api_Expr ((V.nth ((r1.drop 1).drop 1) 0).toList)]] : List V))).bind (un fun (t_4 : Bool) => un fun (ps_5 : List UInt8) => un fun (ps_6 : Int) => un fun (ps_7 : Int) (partss_8 : List V) =>
    (C F_expr_node [.int .i64 op, .list T_api_Expr partss_8]).bind fun r9 =>
    some [.int .i64 ((V.nth r9 0).toInt), .int .i64 ((V.nth (r9.drop 1) 0).toInt), .list T_api_Expr ((V.nth ((r9.drop 1).drop 1) 0).toList), .str ps_5, .int .i64 ps_6, .int .i64 ps_7])
theorem f_expr_parser_list_eq (C : CallF) (op separator : Int) (ps_0 : List UInt8) (ps_1 ps_2 : Int) : bodyT Try.prog ann C (LT_expr_parser_list C) 70 [.int .i64 op, .int .u8 separator, .str ps_0, .int .i64 ps_1, .int .i64 ps_2] = f_expr_parser_list C op separator ps_0 ps_1 ps_2 := by kernel_rfl
theorem f_expr_parser_list_of {op separator : Int} {ps_0 : List UInt8} {ps_1 ps_2 : Int} {r : Option (List V)} (h : f_expr_parser_list CC op separator ps_0 ps_1 ps_2 = r) : CC F_expr_parser_list [.int .i64 op, .int .u8 separator, .str ps_0, .int .i64 ps_1, .int .i64 ps_2] = r :=
  func_of (key := 70) (L := LT_expr_parser_list CC) (bs := [.loop (codeAt [1, 1, 0, 0, 0] B_expr_parser_list)]) (by kernel_rfl) (tells_cons (t_expr_parser_list_1 CC) tells_nil) ((f_expr_parser_list_eq CC op separator ps_0 ps_1 ps_2).trans h)
end Go.AM

set_option maxRecDepth 100000
namespace Go.AM
open Go.Proofs
noncomputable abbrev B_expr_parser_list_k132 : Code := bodyOf Try.prog (ann.fid 132)
noncomputable def s_expr_parser_list_k132_1 (C : CallF) (op separator t8s_0 t8s_1 : Int) (b3_ : List V) (ps_0 : List UInt8) (ps_1 ps_2 : Int) (partss : List V) {β : Type} (kn : ((List UInt8) × Int × Int × (List V)) → Option β) (kr : (Bool × (List UInt8) × Int × Int × (List V)) → Option β) : Option β :=
  (C F_expr_parser_peek [.str ps_0, .int .i64 ps_1, .int .i64 ps_2]).bind fun r2 =>
  bif (((V.nth r2 0).toInt) : Int) == separator then
   (C F_expr_parser_cat [.str ((V.nth (r2.drop 1) 0).toStr), .int .i64 (IntKind.wrap .i64 (((V.nth ((r2.drop 1).drop 1) 0).toInt) + 1)), .int .i64 ((V.nth (((r2.drop 1).drop 1).drop 1) 0).toInt)]).bind fun r3 =>
   bif Nat.ble ((partss.length + ([.agg [.int .i64 ((V.nth r3 0).toInt), .int .i64 ((V.nth (r3.drop 1) 0).toInt), .list T_api_Expr ((V.nth ((r3.drop 1).drop 1) 0).toList)]] : List V).length) * 40) maxBytes then
    kn ((V.nth (r3.drop 3) 0).toStr, (V.nth ((r3.drop 3).drop 1) 0).toInt, (V.nth (((r3.drop 3).drop 1).drop 1) 0).toInt, partss ++ ([.agg [.int .i64 ((V.nth r3 0).toInt), .int .i64 ((V.nth (r3.drop 1) 0).toInt), .list T_api_Expr ((V.nth ((r3.drop 1).drop 1) 0).toList)]] : List V))
   else none
  else
   kr ((((V.nth r2 0).toInt) : Int) == separator, (V.nth (r2.drop 1) 0).toStr, (V.nth ((r2.drop 1).drop 1) 0).toInt, (V.nth (((r2.drop 1).drop 1).drop 1) 0).toInt, partss)
noncomputable def s_expr_parser_list_k132_1L (C : CallF) (op separator t8s_0 t8s_1 : Int) (b3_ : List V) : ((List UInt8) × Int × Int × (List V)) → Option (((List UInt8) × Int × Int × (List V)) ⊕ (Bool × (List UInt8) × Int × Int × (List V))) := un fun ps_0 => un fun ps_1 => un fun ps_2 partss => s_expr_parser_list_k132_1 C op separator t8s_0 t8s_1 b3_ ps_0 ps_1 ps_2 partss (fun y => some (.inl y)) (fun r => some (.inr r))
def w_expr_parser_list_k132_1 (op separator t8s_0 t8s_1 : Int) (b3_ : List V) (β : Type) (k : Nat → List V → Option β) : (Bool × (List UInt8) × Int × Int × (List V)) → Option β := (un fun (v2 : Bool) => un fun (v3 : List UInt8) => un fun (v4 : Int) => un fun (v5 : Int) (v8 : List V) => k 0 [.int .i64 op, .int .u8 separator, .bool v2, .str v3, .int .i64 v4, .int .i64 v5, .int .i64 t8s_0, .int .i64 t8s_1, .list T_api_Expr v8, .list T_api_Expr b3_])
noncomputable def l_expr_parser_list_k132_1 (C : CallF) (β : Type) (ds : List V) (k : Nat → List V → Option β) : Option β :=
  (Loop (s_expr_parser_list_k132_1L C ((V.nth ds 0).toInt) ((V.nth (ds.drop 1) 0).toInt) ((V.nth ((ds.drop 2).drop 3) 0).toInt) ((V.nth (((ds.drop 2).drop 3).drop 1) 0).toInt) ((V.nth ((((ds.drop 2).drop 3).drop 2).drop 1) 0).toList)) ((V.nth (ds.drop 2) 0).toStr, (V.nth ((ds.drop 2).drop 1) 0).toInt, (V.nth (((ds.drop 2).drop 1).drop 1) 0).toInt, (V.nth (((ds.drop 2).drop 3).drop 2) 0).toList)).bind (w_expr_parser_list_k132_1 ((V.nth ds 0).toInt) ((V.nth (ds.drop 1) 0).toInt) ((V.nth ((ds.drop 2).drop 3) 0).toInt) ((V.nth (((ds.drop 2).drop 3).drop 1) 0).toInt) ((V.nth ((((ds.drop 2).drop 3).drop 2).drop 1) 0).toList) β k)
noncomputable def LT_expr_parser_list_k132 (C : CallF) : LTab := fun β n ds k =>
  bif Nat.beq n 33 then l_expr_parser_list_k132_1 C β ds k else
  none
theorem t_expr_parser_list_k132_1 (C : CallF) : Tells Try.prog ann C (LT_expr_parser_list_k132 C) 132 (ntmpsOf Try.prog (ann.fid 132)) (ann.sin 132).blks.length (.loop (codeAt [1, 1, 0, 0, 0] B_expr_parser_list_k132)) :=
  tells_loop2 (I := Int × Int × Int × Int × (List V)) (X := (List UInt8) × Int × Int × (List V)) (R := Bool × (List UInt8) × Int × Int × (List V)) (S := (⟨[(0, .one (.ptrC 0 0 0)), (1, .one (.int .i64)), (2, .one (.int .u8)), (3, .fn F_expr_parser_cat [.ptrC 0 0 0] []), (8, .one (.ptrC 1 0 0)), (9, .one (.whole T_api_Expr 2))], [.var 68 [.one (.str), .one (.int .i64), .one (.int .i64)], .var 24 [.one (.int .i64), .one (.int .i64), .one (.whole T_api_Expr 3)], .arr T_api_Expr false, .arr T_api_Expr false]⟩, [(.exit 0, ⟨[(0, .one (.ptrC 0 0 0)), (1, .one (.int .i64)), (2, .one (.int .u8)), (3, .fn F_expr_parser_cat [.ptrC 0 0 0] []), (8, .one (.ptrC 1 0 0)), (9, .one (.whole T_api_Expr 2)), (16, .one (.bool))], [.var 68 [.one (.str), .one (.int .i64), .one (.int .i64)], .var 24 [.one (.int .i64), .one (.int .i64), .one (.whole T_api_Expr 3)], .arr T_api_Expr false, .arr T_api_Expr false]⟩)])) (by kernel_rfl) (ltok_of (bs := []) (by kernel_rfl) tells_nil)
    (un fun (op : Int) => un fun (separator : Int) => un fun (t8s_0 : Int) => un fun (t8s_1 : Int) (b3_ : List V) => (un fun (ps_0 : List UInt8) => un fun (ps_1 : Int) => un fun (ps_2 : Int) (partss : List V) => [.int .i64 op, .int .u8 separator, .str ps_0, .int .i64 ps_1, .int .i64 ps_2, .int .i64 t8s_0, .int .i64 t8s_1, .list T_api_Expr partss, .list T_api_Expr b3_] : ((List UInt8) × Int × Int × (List V)) → List V)) (un fun (op : Int) => un fun (separator : Int) => un fun (t8s_0 : Int) => un fun (t8s_1 : Int) (b3_ : List V) => w_expr_parser_list_k132_1 op separator t8s_0 t8s_1 b3_)
    (fun ds => ((V.nth ds 0).toInt, (V.nth (ds.drop 1) 0).toInt, (V.nth ((ds.drop 2).drop 3) 0).toInt, (V.nth (((ds.drop 2).drop 3).drop 1) 0).toInt, (V.nth ((((ds.drop 2).drop 3).drop 2).drop 1) 0).toList)) (fun ds => ((V.nth (ds.drop 2) 0).toStr, (V.nth ((ds.drop 2).drop 1) 0).toInt, (V.nth (((ds.drop 2).drop 1).drop 1) 0).toInt, (V.nth (((ds.drop 2).drop 3).drop 2) 0).toList)) (fun e => ((V.nth ((e.2.drop 1).drop 1) 0).toBool, (V.nth (e.2.drop 3) 0).toStr, (V.nth ((e.2.drop 3).drop 1) 0).toInt, (V.nth (((e.2.drop 3).drop 1).drop 1) 0).toInt, (V.nth (((e.2.drop 3).drop 3).drop 2) 0).toList))
    (un fun (op : Int) => un fun (separator : Int) => un fun (t8s_0 : Int) => un fun (t8s_1 : Int) (b3_ : List V) => (un fun (ps_0 : List UInt8) => un fun (ps_1 : Int) => un fun (ps_2 : Int) (partss : List V) => fun β kn kr => s_expr_parser_list_k132_1 C op separator t8s_0 t8s_1 b3_ ps_0 ps_1 ps_2 partss kn kr : ((List UInt8) × Int × Int × (List V)) → (β : Type) → (((List UInt8) × Int × Int × (List V)) → Option β) → ((Bool × (List UInt8) × Int × Int × (List V)) → Option β) → Option β))
    (l_expr_parser_list_k132_1 C) (fun ds => by kernel_rfl) (fun i x => by kernel_rfl) (fun i r => by skip <;> kernel_rfl)
    (fun i x β k => by kernel_rfl) (fun β ds k => by kernel_rfl) (fun β ds k => by kernel_rfl) (fun i β k r => by skip <;> kernel_rfl)
noncomputable def f_expr_parser_list_k132 (C : CallF) (op separator : Int) (ps_0 : List UInt8) (ps_1 ps_2 : Int) : Option (List V) :=
  (C F_expr_parser_cat [.str ps_0, .int .i64 ps_1, .int .i64 ps_2]).bind fun r1 =>
  (Loop (s_expr_parser_list_k132_1L C op separator 0 0 ([] : List V)) ((V.nth (r1.drop 3) 0).toStr, (V.nth ((r1.drop 3).drop 1) 0).toInt, (V.nth (((r1.drop 3).drop 1).drop 1) 0).toInt, ([.agg [.int .i64 ((V.nth r1 0).toInt), .int .i64 ((V.nth (r1.drop 1) 0).toInt), .list T_api_Expr ((V.nth ((r1.drop 1).drop 1) 0).toList)]] : List V))).bind (un fun (t_4 : Bool) => un fun (ps_5 : List UInt8) => un fun (ps_6 : Int) => un fun (ps_7 : Int) (partss_8 : List V) =>
    (C F_expr_node [.int .i64 op, .list T_api_Expr partss_8]).bind fun r9 =>
    some [.int .i64 ((V.nth r9 0).toInt), .int .i64 ((V.nth (r9.drop 1) 0).toInt), .list T_api_Expr ((V.nth ((r9.drop 1).drop 1) 0).toList), .str ps_5, .int .i64 ps_6, .int .i64 ps_7])
theorem f_expr_parser_list_k132_eq (C : CallF) (op separator : Int) (ps_0 : List UInt8) (ps_1 ps_2 : Int) : bodyT Try.prog ann C (LT_expr_parser_list_k132 C) 132 [.int .i64 op, .int .u8 separator, .str ps_0, .int .i64 ps_1, .int .i64 ps_2] = f_expr_parser_list_k132 C op separator ps_0 ps_1 ps_2 := by kernel_rfl
theorem f_expr_parser_list_k132_of {op separator : Int} {ps_0 : List UInt8} {ps_1 ps_2 : Int} {r : Option (List V)} (h : f_expr_parser_list_k132 CC op separator ps_0 ps_1 ps_2 = r) : CC K_expr_parser_list_k132 [.int .i64 op, .int .u8 separator, .str ps_0, .int .i64 ps_1, .int .i64 ps_2] = r :=
  func_of (key := 132) (L := LT_expr_parser_list_k132 CC) (bs := [.loop (codeAt [1, 1, 0, 0, 0] B_expr_parser_list_k132)]) (by kernel_rfl) (tells_cons (t_expr_parser_list_k132_1 CC) tells_nil) ((f_expr_parser_list_k132_eq CC op separator ps_0 ps_1 ps_2).trans h)
end Go.AM

set_option maxRecDepth 100000
namespace Go.AM
open Go.Proofs
noncomputable abbrev B_expr_parser_peek : Code := bodyOf Try.prog (ann.fid 62)
noncomputable def s_expr_parser_peek_1 (C : CallF) (ps_0 : List UInt8) (ps_2 ps_1 : Int) {β : Type} (kn : Int → Option β) (kr : (Bool × Int) → Option β) : Option β :=
  bif decide ((ps_1 : Int) < (ps_0.length : Int)) then
   (bif decide (0 ≤ ps_1) then (ps_0[(ps_1 : Int).toNat]?).map fun b => V.int .u8 b.toNat else none).bind fun x1 =>
   bif (x1.toInt : Int) == 32 then
    kn (IntKind.wrap .i64 (ps_1 + 1))
   else
    kr ((x1.toInt : Int) == 32, ps_1)
  else
   kr (false, ps_1)
noncomputable def s_expr_parser_peek_1L (C : CallF) (ps_0 : List UInt8) (ps_2 : Int) : (Int) → Option ((Int) ⊕ (Bool × Int)) := fun ps_1 => s_expr_parser_peek_1 C ps_0 ps_2 ps_1 (fun y => some (.inl y)) (fun r => some (.inr r))
def w_expr_parser_peek_1 (ps_0 : List UInt8) (ps_2 : Int) (β : Type) (k : Nat → List V → Option β) : (Bool × Int) → Option β := (un fun (v0 : Bool) (v2 : Int) => k 0 [.bool v0, .str ps_0, .int .i64 v2, .int .i64 ps_2])
noncomputable def l_expr_parser_peek_1 (C : CallF) (β : Type) (ds : List V) (k : Nat → List V → Option β) : Option β :=
  (Loop (s_expr_parser_peek_1L C ((V.nth ds 0).toStr) ((V.nth ((ds.drop 1).drop 1) 0).toInt)) ((V.nth (ds.drop 1) 0).toInt)).bind (w_expr_parser_peek_1 ((V.nth ds 0).toStr) ((V.nth ((ds.drop 1).drop 1) 0).toInt) β k)
noncomputable def LT_expr_parser_peek (C : CallF) : LTab := fun β n ds k =>
  bif Nat.beq n 17 then l_expr_parser_peek_1 C β ds k else
  none
theorem t_expr_parser_peek_1 (C : CallF) : Tells Try.prog ann C (LT_expr_parser_peek C) 62 (ntmpsOf Try.prog (ann.fid 62)) (ann.sin 62).blks.length (.loop (codeAt [1, 0, 0, 0] B_expr_parser_peek)) :=
  tells_loop2 (I := (List UInt8) × Int) (X := Int) (R := Bool × Int) (S := (⟨[(0, .one (.ptrC 0 0 0))], [.var 68 [.one (.str), .one (.int .i64), .one (.int .i64)]]⟩, [(.exit 0, ⟨[(0, .one (.ptrC 0 0 0)), (24, .one (.bool))], [.var 68 [.one (.str), .one (.int .i64), .one (.int .i64)]]⟩)])) (by kernel_rfl) (ltok_of (bs := []) (by kernel_rfl) tells_nil)
    (un fun (ps_0 : List UInt8) (ps_2 : Int) => (fun (ps_1 : Int) => [.str ps_0, .int .i64 ps_1, .int .i64 ps_2] : (Int) → List V)) (un fun (ps_0 : List UInt8) (ps_2 : Int) => w_expr_parser_peek_1 ps_0 ps_2)
    (fun ds => ((V.nth ds 0).toStr, (V.nth ((ds.drop 1).drop 1) 0).toInt)) (fun ds => ((V.nth (ds.drop 1) 0).toInt)) (fun e => ((V.nth e.2 0).toBool, (V.nth ((e.2.drop 1).drop 1) 0).toInt))
    (un fun (ps_0 : List UInt8) (ps_2 : Int) => (fun (ps_1 : Int) => fun β kn kr => s_expr_parser_peek_1 C ps_0 ps_2 ps_1 kn kr : (Int) → (β : Type) → ((Int) → Option β) → ((Bool × Int) → Option β) → Option β))
    (l_expr_parser_peek_1 C) (fun ds => by kernel_rfl) (fun i x => by kernel_rfl) (fun i r => by skip <;> kernel_rfl)
    (fun i x β k => by kernel_rfl) (fun β ds k => by kernel_rfl) (fun β ds k => by kernel_rfl) (fun i β k r => by skip <;> kernel_rfl)
noncomputable def f_expr_parser_peek (C : CallF) (ps_0 : List UInt8) (ps_1 ps_2 : Int) : Option (List V) :=
  (Loop (s_expr_parser_peek_1L C ps_0 ps_2) ps_1).bind (un fun (t_2 : Bool) (ps_3 : Int) =>
    bif (ps_3 : Int) == (ps_0.length : Int) then
     some [.int .u8 0, .str ps_0, .int .i64 ps_3, .int .i64 ps_2]
    else
     (bif decide (0 ≤ ps_3) then (ps_0[(ps_3 : Int).toNat]?).map fun b => V.int .u8 b.toNat else none).bind fun x4 =>
     some [.int .u8 x4.toInt, .str ps_0, .int .i64 ps_3, .int .i64 ps_2])
theorem f_expr_parser_peek_eq (C : CallF) (ps_0 : List UInt8) (ps_1 ps_2 : Int) : bodyT Try.prog ann C (LT_expr_parser_peek C) 62 [.str ps_0, .int .i64 ps_1, .int .i64 ps_2] = f_expr_parser_peek C ps_0 ps_1 ps_2 := by kernel_rfl
theorem f_expr_parser_peek_of {ps_0 : List UInt8} {ps_1 ps_2 : Int} {r : Option (List V)} (h : f_expr_parser_peek CC ps_0 ps_1 ps_2 = r) : CC F_expr_parser_peek [.str ps_0, .int .i64 ps_1, .int .i64 ps_2] = r :=
  func_of (key := 62) (L := LT_expr_parser_peek CC) (bs := [.loop (codeAt [1, 0, 0, 0] B_expr_parser_peek)]) (by kernel_rfl) (tells_cons (t_expr_parser_peek_1 CC) tells_nil) ((f_expr_parser_peek_eq CC ps_0 ps_1 ps_2).trans h)
end Go.AM

set_option maxRecDepth 100000
namespace Go.AM
open Go.Proofs
noncomputable abbrev B_expr_parser_postfix : Code := bodyOf Try.prog (ann.fid 94)
noncomputable def s_expr_parser_postfix_1 (C : CallF) (t2s_0 t2s_1 : Int) (b3_ : List V) (ps_0 : List UInt8) (ps_1 ps_2 es_0 es_1 : Int) (es_2 : List V) {β : Type} (kn : ((List UInt8) × Int × Int × Int × Int × (List V)) → Option β) (kr : (Bool × (List UInt8) × Int × Int × Int × Int × (List V)) → Option β) : Option β :=
  (C F_expr_parser_peek [.str ps_0, .int .i64 ps_1, .int .i64 ps_2]).bind fun r2 =>
  bif (((V.nth r2 0).toInt) : Int) == 42 then
   kn ((V.nth (r2.drop 1) 0).toStr, IntKind.wrap .i64 (((V.nth ((r2.drop 1).drop 1) 0).toInt) + 1), (V.nth (((r2.drop 1).drop 1).drop 1) 0).toInt, 7, 0, ([.agg [.int .i64 es_0, .int .i64 es_1, .list T_api_Expr es_2]] : List V))
  else
   kr ((((V.nth r2 0).toInt) : Int) == 42, (V.nth (r2.drop 1) 0).toStr, (V.nth ((r2.drop 1).drop 1) 0).toInt, (V.nth (((r2.drop 1).drop 1).drop 1) 0).toInt, es_0, es_1, es_2)
noncomputable def s_expr_parser_postfix_1L (C : CallF) (t2s_0 t2s_1 : Int) (b3_ : List V) : ((List UInt8) × Int × Int × Int × Int × (List V)) → Option (((List UInt8) × Int × Int × Int × Int × (List V)) ⊕ (Bool × (List UInt8) × Int × Int × Int × Int × (List V))) := un fun ps_0 => un fun ps_1 => un fun ps_2 => un fun es_0 => un fun es_1 es_2 => s_expr_parser_postfix_1 C t2s_0 t2s_1 b3_ ps_0 ps_1 ps_2 es_0 es_1 es_2 (fun y => some (.inl y)) (fun r => some (.inr r))
def w_expr_parser_postfix_1 (t2s_0 t2s_1 : Int) (b3_ : List V) (β : Type) (k : Nat → List V → Option β) : (Bool × (List UInt8) × Int × Int × Int × Int × (List V)) → Option β := (un fun (v0 : Bool) => un fun (v1 : List UInt8) => un fun (v2 : Int) => un fun (v3 : Int) => un fun (v6 : Int) => un fun (v7 : Int) (v8 : List V) => k 0 [.bool v0, .str v1, .int .i64 v2, .int .i64 v3, .int .i64 t2s_0, .int .i64 t2s_1, .int .i64 v6, .int .i64 v7, .list T_api_Expr v8, .list T_api_Expr b3_])
noncomputable def l_expr_parser_postfix_1 (C : CallF) (β : Type) (ds : List V) (k : Nat → List V → Option β) : Option β :=
  (Loop (s_expr_parser_postfix_1L C ((V.nth (ds.drop 3) 0).toInt) ((V.nth ((ds.drop 3).drop 1) 0).toInt) ((V.nth (((ds.drop 3).drop 2).drop 3) 0).toList)) ((V.nth ds 0).toStr, (V.nth (ds.drop 1) 0).toInt, (V.nth ((ds.drop 1).drop 1) 0).toInt, (V.nth ((ds.drop 3).drop 2) 0).toInt, (V.nth (((ds.drop 3).drop 2).drop 1) 0).toInt, (V.nth ((((ds.drop 3).drop 2).drop 1).drop 1) 0).toList)).bind (w_expr_parser_postfix_1 ((V.nth (ds.drop 3) 0).toInt) ((V.nth ((ds.drop 3).drop 1) 0).toInt) ((V.nth (((ds.drop 3).drop 2).drop 3) 0).toList) β k)
noncomputable def LT_expr_parser_postfix (C : CallF) : LTab := fun β n ds k =>
  bif Nat.beq n 33 then l_expr_parser_postfix_1 C β ds k else
  none
theorem t_expr_parser_postfix_1 (C : CallF) : Tells Try.prog ann C (LT_expr_parser_postfix C) 94 (ntmpsOf Try.prog (ann.fid 94)) (ann.sin 94).blks.length (.loop (codeAt [1, 1, 0, 0, 0] B_expr_parser_postfix)) :=
  tells_loop2 (I := Int × Int × (List V)) (X := (List UInt8) × Int × Int × Int × Int × (List V)) (R := Bool × (List UInt8) × Int × Int × Int × Int × (List V)) (S := (⟨[(0, .one (.ptrC 0 0 0)), (2, .one (.ptrC 1 0 0)), (3, .one (.ptrC 2 0 0))], [.var 68 [.one (.str), .one (.int .i64), .one (.int .i64)], .var 24 [.one (.int .i64), .one (.int .i64), .one (.whole T_api_Expr 3)], .var 24 [.one (.int .i64), .one (.int .i64), .one (.list T_api_Expr)], .arr T_api_Expr false]⟩, [(.exit 0, ⟨[(0, .one (.ptrC 0 0 0)), (2, .one (.ptrC 1 0 0)), (3, .one (.ptrC 2 0 0)), (8, .one (.bool))], [.var 68 [.one (.str), .one (.int .i64), .one (.int .i64)], .var 24 [.one (.int .i64), .one (.int .i64), .one (.whole T_api_Expr 3)], .var 24 [.one (.int .i64), .one (.int .i64), .one (.list T_api_Expr)], .arr T_api_Expr false]⟩)])) (by kernel_rfl) (ltok_of (bs := []) (by kernel_rfl) tells_nil)
    (un fun (t2s_0 : Int) => un fun (t2s_1 : Int) (b3_ : List V) => (un fun (ps_0 : List UInt8) => un fun (ps_1 : Int) => un fun (ps_2 : Int) => un fun (es_0 : Int) => un fun (es_1 : Int) (es_2 : List V) => [.str ps_0, .int .i64 ps_1, .int .i64 ps_2, .int .i64 t2s_0, .int .i64 t2s_1, .int .i64 es_0, .int .i64 es_1, .list T_api_Expr es_2, .list T_api_Expr b3_] : ((List UInt8) × Int × Int × Int × Int × (List V)) → List V)) (un fun (t2s_0 : Int) => un fun (t2s_1 : Int) (b3_ : List V) => w_expr_parser_postfix_1 t2s_0 t2s_1 b3_)
    (fun ds => ((V.nth (ds.drop 3) 0).toInt, (V.nth ((ds.drop 3).drop 1) 0).toInt, (V.nth (((ds.drop 3).drop 2).drop 3) 0).toList)) (fun ds => ((V.nth ds 0).toStr, (V.nth (ds.drop 1) 0).toInt, (V.nth ((ds.drop 1).drop 1) 0).toInt, (V.nth ((ds.drop 3).drop 2) 0).toInt, (V.nth (((ds.drop 3).drop 2).drop 1) 0).toInt, (V.nth ((((ds.drop 3).drop 2).drop 1).drop 1) 0).toList)) (fun e => ((V.nth e.2 0).toBool, (V.nth (e.2.drop 1) 0).toStr, (V.nth ((e.2.drop 1).drop 1) 0).toInt, (V.nth (((e.2.drop 1).drop 1).drop 1) 0).toInt, (V.nth (((e.2.drop 1).drop 3).drop 2) 0).toInt, (V.nth ((((e.2.drop 1).drop 3).drop 2).drop 1) 0).toInt, (V.nth (((((e.2.drop 1).drop 3).drop 2).drop 1).drop 1) 0).toList))
    (un fun (t2s_0 : Int) => un fun (t2s_1 : Int) (b3_ : List V) => (un fun (ps_0 : List UInt8) => un fun (ps_1 : Int) => un fun (ps_2 : Int) => un fun (es_0 : Int) => un fun (es_1 : Int) (es_2 : List V) => fun β kn kr => s_expr_parser_postfix_1 C t2s_0 t2s_1 b3_ ps_0 ps_1 ps_2 es_0 es_1 es_2 kn kr : ((List UInt8) × Int × Int × Int × Int × (List V)) → (β : Type) → (((List UInt8) × Int × Int × Int × Int × (List V)) → Option β) → ((Bool × (List UInt8) × Int × Int × Int × Int × (List V)) → Option β) → Option β))
    (l_expr_parser_postfix_1 C) (fun ds => by kernel_rfl) (fun i x => by kernel_rfl) (fun i r => by skip <;> kernel_rfl)
    (fun i x β k => by kernel_rfl) (fun β ds k => by kernel_rfl) (fun β ds k => by kernel_rfl) (fun i β k r => by skip <;> kernel_rfl)
noncomputable def f_expr_parser_postfix (C : CallF) (ps_0 : List UInt8) (ps_1 ps_2 : Int) : Option (List V) :=
  (C F_expr_parser_atom [.str ps_0, .int .i64 ps_1, .int .i64 ps_2]).bind fun r1 =>
  (Loop (s_expr_parser_postfix_1L C 0 0 ([] : List V)) ((V.nth (r1.drop 3) 0).toStr, (V.nth ((r1.drop 3).drop 1) 0).toInt, (V.nth (((r1.drop 3).drop 1).drop 1) 0).toInt, (V.nth r1 0).toInt, (V.nth (r1.drop 1) 0).toInt, (V.nth ((r1.drop 1).drop 1) 0).toList)).bind (un fun (t_3 : Bool) => un fun (ps_4 : List UInt8) => un fun (ps_5 : Int) => un fun (ps_6 : Int) => un fun (es_7 : Int) => un fun (es_8 : Int) (es_9 : List V) =>
    some [.int .i64 es_7, .int .i64 es_8, .list T_api_Expr es_9, .str ps_4, .int .i64 ps_5, .int .i64 ps_6])
theorem f_expr_parser_postfix_eq (C : CallF) (ps_0 : List UInt8) (ps_1 ps_2 : Int) : bodyT Try.prog ann C (LT_expr_parser_postfix C) 94 [.str ps_0, .int .i64 ps_1, .int .i64 ps_2] = f_expr_parser_postfix C ps_0 ps_1 ps_2 := by kernel_rfl
theorem f_expr_parser_postfix_of {ps_0 : List UInt8} {ps_1 ps_2 : Int} {r : Option (List V)} (h : f_expr_parser_postfix CC ps_0 ps_1 ps_2 = r) : CC F_expr_parser_postfix [.str ps_0, .int .i64 ps_1, .int .i64 ps_2] = r :=
  func_of (key := 94) (L := LT_expr_parser_postfix CC) (bs := [.loop (codeAt [1, 1, 0, 0, 0] B_expr_parser_postfix)]) (by kernel_rfl) (tells_cons (t_expr_parser_postfix_1 CC) tells_nil) ((f_expr_parser_postfix_eq CC ps_0 ps_1 ps_2).trans h)
end Go.AM

set_option maxRecDepth 100000
namespace Go.AM
open Go.Proofs
noncomputable abbrev B_expr_parser_unary : Code := bodyOf Try.prog (ann.fid 89)
noncomputable def LT_expr_parser_unary (C : CallF) : LTab := fun β n ds k =>
  none
noncomputable def f_expr_parser_unary (C : CallF) (ps_0 : List UInt8) (ps_1 ps_2 : Int) : Option (List V) :=
  (C F_expr_parser_peek [.str ps_0, .int .i64 ps_1, .int .i64 ps_2]).bind fun r1 =>
  bif (((V.nth r1 0).toInt) : Int) != 33 then
   (C F_expr_parser_postfix [.str ((V.nth (r1.drop 1) 0).toStr), .int .i64 ((V.nth ((r1.drop 1).drop 1) 0).toInt), .int .i64 ((V.nth (((r1.drop 1).drop 1).drop 1) 0).toInt)]).bind fun r2 =>
   some [.int .i64 ((V.nth r2 0).toInt), .int .i64 ((V.nth (r2.drop 1) 0).toInt), .list T_api_Expr ((V.nth ((r2.drop 1).drop 1) 0).toList), .str ((V.nth (r2.drop 3) 0).toStr), .int .i64 ((V.nth ((r2.drop 3).drop 1) 0).toInt), .int .i64 ((V.nth (((r2.drop 3).drop 1).drop 1) 0).toInt)]
  else
   (C F_expr_parser_unary [.str ((V.nth (r1.drop 1) 0).toStr), .int .i64 (IntKind.wrap .i64 (((V.nth ((r1.drop 1).drop 1) 0).toInt) + 1)), .int .i64 ((V.nth (((r1.drop 1).drop 1).drop 1) 0).toInt)]).bind fun r3 =>
   some [.int .i64 8, .int .i64 0, .list T_api_Expr ([.agg [.int .i64 ((V.nth r3 0).toInt), .int .i64 ((V.nth (r3.drop 1) 0).toInt), .list T_api_Expr ((V.nth ((r3.drop 1).drop 1) 0).toList)]] : List V), .str ((V.nth (r3.drop 3) 0).toStr), .int .i64 ((V.nth ((r3.drop 3).drop 1) 0).toInt), .int .i64 ((V.nth (((r3.drop 3).drop 1).drop 1) 0).toInt)]
theorem f_expr_parser_unary_eq (C : CallF) (ps_0 : List UInt8) (ps_1 ps_2 : Int) : bodyT Try.prog ann C (LT_expr_parser_unary C) 89 [.str ps_0, .int .i64 ps_1, .int .i64 ps_2] = f_expr_parser_unary C ps_0 ps_1 ps_2 := by kernel_rfl
theorem f_expr_parser_unary_of {ps_0 : List UInt8} {ps_1 ps_2 : Int} {r : Option (List V)} (h : f_expr_parser_unary CC ps_0 ps_1 ps_2 = r) : CC F_expr_parser_unary [.str ps_0, .int .i64 ps_1, .int .i64 ps_2] = r :=
  func_of (key := 89) (L := LT_expr_parser_unary CC) (bs := []) (by kernel_rfl) tells_nil ((f_expr_parser_unary_eq CC ps_0 ps_1 ps_2).trans h)
end Go.AM

set_option maxRecDepth 100000
namespace Go.AM
open Go.Proofs
noncomputable abbrev B_expr_parser_union : Code := bodyOf Try.prog (ann.fid 61)
noncomputable def LT_expr_parser_union (C : CallF) : LTab := fun β n ds k =>
  none
noncomputable def f_expr_parser_union (C : CallF) (ps_0 : List UInt8) (ps_1 ps_2 : Int) : Option (List V) :=
  (C F_expr_parser_list [.int .i64 4, .int .u8 124, .str ps_0, .int .i64 ps_1, .int .i64 ps_2]).bind fun r1 =>
  some [.int .i64 ((V.nth r1 0).toInt), .int .i64 ((V.nth (r1.drop 1) 0).toInt), .list T_api_Expr ((V.nth ((r1.drop 1).drop 1) 0).toList), .str ((V.nth (r1.drop 3) 0).toStr), .int .i64 ((V.nth ((r1.drop 3).drop 1) 0).toInt), .int .i64 ((V.nth (((r1.drop 3).drop 1).drop 1) 0).toInt)]
theorem f_expr_parser_union_eq (C : CallF) (ps_0 : List UInt8) (ps_1 ps_2 : Int) : bodyT Try.prog ann C (LT_expr_parser_union C) 61 [.str ps_0, .int .i64 ps_1, .int .i64 ps_2] = f_expr_parser_union C ps_0 ps_1 ps_2 := by kernel_rfl
theorem f_expr_parser_union_of {ps_0 : List UInt8} {ps_1 ps_2 : Int} {r : Option (List V)} (h : f_expr_parser_union CC ps_0 ps_1 ps_2 = r) : CC F_expr_parser_union [.str ps_0, .int .i64 ps_1, .int .i64 ps_2] = r :=
  func_of (key := 61) (L := LT_expr_parser_union CC) (bs := []) (by kernel_rfl) tells_nil ((f_expr_parser_union_eq CC ps_0 ps_1 ps_2).trans h)
end Go.AM

set_option maxRecDepth 100000
namespace Go.AM
open Go.Proofs
noncomputable abbrev B_semigrouplaw04_same : Code := bodyOf Try.prog (ann.fid 18)
noncomputable def LT_semigrouplaw04_same (C : CallF) : LTab := fun β n ds k =>
  none
noncomputable def f_semigrouplaw04_same (C : CallF) (a_0 a_1 : Int) (a_2 : List V) (b'_0 b'_1 : Int) (b'_2 : List V) : Option (List V) :=
  (C F_semigroupref04_Compare [.int .i64 a_0, .int .i64 a_1, .list T_api_Expr a_2, .int .i64 b'_0, .int .i64 b'_1, .list T_api_Expr b'_2]).bind fun r1 =>
  some [.bool ((((V.nth r1 0).toInt) : Int) == 0)]
theorem f_semigrouplaw04_same_eq (C : CallF) (a_0 a_1 : Int) (a_2 : List V) (b'_0 b'_1 : Int) (b'_2 : List V) : bodyT Try.prog ann C (LT_semigrouplaw04_same C) 18 [.int .i64 a_0, .int .i64 a_1, .list T_api_Expr a_2, .int .i64 b'_0, .int .i64 b'_1, .list T_api_Expr b'_2] = f_semigrouplaw04_same C a_0 a_1 a_2 b'_0 b'_1 b'_2 := by kernel_rfl
theorem f_semigrouplaw04_same_of {a_0 a_1 : Int} {a_2 : List V} {b'_0 b'_1 : Int} {b'_2 : List V} {r : Option (List V)} (h : f_semigrouplaw04_same CC a_0 a_1 a_2 b'_0 b'_1 b'_2 = r) : CC F_semigrouplaw04_same [.int .i64 a_0, .int .i64 a_1, .list T_api_Expr a_2, .int .i64 b'_0, .int .i64 b'_1, .list T_api_Expr b'_2] = r :=
  func_of (key := 18) (L := LT_semigrouplaw04_same CC) (bs := []) (by kernel_rfl) tells_nil ((f_semigrouplaw04_same_eq CC a_0 a_1 a_2 b'_0 b'_1 b'_2).trans h)
end Go.AM

/-
  Chapter 4: the text of an expression is parsed as that expression.
-/
set_option maxRecDepth 100000
set_option linter.unusedSimpArgs false
namespace Go.AM
open Go.Proofs Ex
/-- The parser's leaves. -/
abbrev pS (T : List UInt8) (p : Nat) : List V := [.str T, .int .i64 (p : Int), .int .i64 6]
/-- The next byte, or 0. -/
def hd (r : List UInt8) : Int := ((r.head?.getD 0).toNat : Int)
def noB (r : List UInt8) : Prop := r.head? ≠ some 32
/-- The rest of the text behind a place. -/
structure At4 (T : List UInt8) (p : Nat) (r : List UInt8) : Prop where
  short : T.length ≤ 4096
  le : p ≤ T.length
  rest : T.drop p = r
theorem At4.move {T : List UInt8} {p : Nat} {a r : List UInt8} (h : At4 T p (a ++ r)) : At4 T (p + a.length) r := by
  refine ⟨h.short, ?_, ?_⟩
  · have := congrArg List.length h.rest
    simp at this
    have := h.le
    omega
  · rw [← List.drop_drop, h.rest, List.drop_left]
theorem At4.one {T : List UInt8} {p : Nat} {c : UInt8} {r : List UInt8} (h : At4 T p (c :: r)) : At4 T (p + 1) r := At4.move (a := [c]) h
theorem At4.get {T : List UInt8} {p : Nat} {r : List UInt8} (h : At4 T p r) : T[p]? = r.head? := by
  rw [← h.rest, List.head?_drop]
theorem hd_range (r : List UInt8) : 0 ≤ hd r ∧ hd r < 256 := by
  unfold hd
  have := (r.head?.getD 0).toNat_lt
  omega
@[simp] theorem hd_cons (c : UInt8) (r : List UInt8) : hd (c :: r) = (c.toNat : Int) := rfl
@[simp] theorem hd_nil : hd [] = 0 := rfl
theorem peek_spec {T : List UInt8} {p : Nat} {r : List UInt8} (h : At4 T p r) (hb : noB r) : CC F_expr_parser_peek (pS T p) = some (.int .u8 (hd r) :: pS T p) := by
  have hg := h.get
  have h1 := h.short
  have h2 := h.le
  refine f_expr_parser_peek_of ?_
  unfold f_expr_parser_peek
  cases hr : r with
  | nil =>
    rw [hr] at hg
    have hl : T.length ≤ p := by
      have := List.getElem?_eq_none_iff.1 hg
      exact this
    have hs : s_expr_parser_peek_1L CC T 6 (p : Int) = some (.inr (false, (p : Int))) := by
      simp only [s_expr_parser_peek_1L, s_expr_parser_peek_1, bif_decide]
      rw [if_neg (by omega)]
    rw [Loop_end hs]
    have : (p : Int) = (T.length : Int) := by omega
    simp [un, this]
  | cons c l =>
    rw [hr] at hg
    have hl : p < T.length := by
      have := (List.getElem?_eq_some_iff.1 hg).1
      exact this
    have hc : (c.toNat : Int) ≠ 32 := by
      intro e
      apply hb
      rw [hr]
      simp only [List.head?_cons]
      congr 1
      apply UInt8.toNat_inj.1
      have : (32 : UInt8).toNat = 32 := rfl
      omega
    have hg' : T[p]? = some c := hg
    have hs : s_expr_parser_peek_1L CC T 6 (p : Int) = some (.inr (false, (p : Int))) := by
      simp only [s_expr_parser_peek_1L, s_expr_parser_peek_1, bif_decide]
      rw [if_pos (by omega), if_pos (by omega)]
      simp only [Int.toNat_natCast, hg', Option.map_some, Option.bind_some, V.toInt_int, bif_beq]
      rw [if_neg hc]
      simp [hc]
    rw [Loop_end hs]
    have : ¬ (p : Int) = (T.length : Int) := by omega
    simp only [Option.bind_some, un, bif_beq, if_neg this, bif_decide]
    rw [if_pos (by omega)]
    simp [hg']
theorem isLetter_spec {T : List UInt8} {p : Nat} {c : Int} (hc : 0 ≤ c ∧ c < 256) : CC F_expr_parser_isLetter (.int .u8 c :: pS T p) = some (.bool (decide (97 ≤ c ∧ c < 103)) :: pS T p) := by
  refine f_expr_parser_isLetter_of ?_
  unfold f_expr_parser_isLetter
  simp only [bif_decide]
  by_cases h : 97 ≤ c
  · rw [if_pos h, wrap8 (by omega) (by omega), wrap64 (by omega) (by omega)]
    congr 3
    rw [decide_eq_decide]
    omega
  · rw [if_neg h]
    simp [h]
def bg (c : Int) : Bool := decide (c = 33 ∨ c = 40 ∨ c = 48 ∨ c = 49 ∨ (97 ≤ c ∧ c < 103))
theorem begins_spec {T : List UInt8} {p : Nat} {r : List UInt8} (h : At4 T p r) (hb : noB r) : CC F_expr_parser_begins (pS T p) = some (.bool (bg (hd r)) :: pS T p) := by
  refine f_expr_parser_begins_of ?_
  unfold f_expr_parser_begins
  rw [peek_spec h hb]
  simp only [Option.bind_some, V.nth_zero, V.toInt_int, bif_beq, List.drop_succ_cons, List.drop_zero, V.toStr_str]
  have hh := hd_range r
  by_cases h1 : hd r = 33
  · simp [h1, bg]
  · by_cases h2 : hd r = 40
    · simp [h2, bg]
    · by_cases h3 : hd r = 48
      · simp [h3, bg]
      · by_cases h4 : hd r = 49
        · simp [h4, bg]
        · rw [if_neg h1, if_neg h2, if_neg h3, if_neg h4, isLetter_spec hh]
          simp [bg, h1, h2, h3, h4]
/-! What follows may not go on with what was read. -/
def F5 (r : List UInt8) : Prop := noB r ∧ hd r ≠ 42
def F3 (r : List UInt8) : Prop := F5 r ∧ bg (hd r) = false
def F2 (r : List UInt8) : Prop := F3 r ∧ hd r ≠ 38
def F1 (r : List UInt8) : Prop := F2 r ∧ hd r ≠ 124
def R6 (e : Ex) (t : List UInt8) : Prop := ∀ T p r, At4 T p (t ++ r) → noB r → CC F_expr_parser_atom (pS T p) = some (exA e (pS T (p + t.length)))
def R5 (e : Ex) (t : List UInt8) : Prop := ∀ T p r, At4 T p (t ++ r) → F5 r → CC F_expr_parser_postfix (pS T p) = some (exA e (pS T (p + t.length)))
def R4 (e : Ex) (t : List UInt8) : Prop := ∀ T p r, At4 T p (t ++ r) → F5 r → CC F_expr_parser_unary (pS T p) = some (exA e (pS T (p + t.length)))
def R3 (e : Ex) (t : List UInt8) : Prop := ∀ T p r, At4 T p (t ++ r) → F3 r → CC F_expr_parser_cat (pS T p) = some (exA e (pS T (p + t.length)))
def R2 (e : Ex) (t : List UInt8) : Prop := ∀ T p r, At4 T p (t ++ r) → F2 r → CC F_expr_parser_and (pS T p) = some (exA e (pS T (p + t.length)))
def R1 (e : Ex) (t : List UInt8) : Prop := ∀ T p r, At4 T p (t ++ r) → F1 r → CC F_expr_parser_union (pS T p) = some (exA e (pS T (p + t.length)))
theorem noB_of {t r : List UInt8} (h : bg (hd t) = true) : noB (t ++ r) := by
  intro e
  cases t with
  | nil => simp [bg] at h
  | cons c t =>
    simp at e
    subst e
    simp [bg] at h
theorem hd_app {t r : List UInt8} (h : bg (hd t) = true) : hd (t ++ r) = hd t := by
  cases t with
  | nil => simp [bg] at h
  | cons c t => rfl
theorem bg_ne {t : List UInt8} (h : bg (hd t) = true) : hd t ≠ 42 ∧ hd t ≠ 38 ∧ hd t ≠ 124 ∧ hd t ≠ 41 ∧ hd t ≠ 0 := by
  simp only [bg, decide_eq_true_eq] at h
  omega
/-! atoms -/
theorem int_add_one {T : List UInt8} {p : Nat} {r : List UInt8} (h : At4 T p r) : IntKind.wrap .i64 ((p : Int) + 1) = ((p + 1 : Nat) : Int) := by
  have := h.short
  have := h.le
  rw [wrap64 (by omega) (by omega)]
  omega
theorem atom0 : R6 (.node 1 0 []) [48] := by
  intro T p r h hb
  refine f_expr_parser_atom_of ?_
  unfold f_expr_parser_atom
  rw [peek_spec h (noB_of (by decide))]
  simp only [Option.bind_some, V.nth_zero, V.toInt_int, List.drop_succ_cons, List.drop_zero, V.toStr_str, List.cons_append, hd_cons]
  simp only [s_expr_parser_atom_2, un]
  rw [int_add_one h]
  rfl
theorem atom1 : R6 (.node 2 0 []) [49] := by
  intro T p r h hb
  refine f_expr_parser_atom_of ?_
  unfold f_expr_parser_atom
  rw [peek_spec h (noB_of (by decide))]
  simp only [Option.bind_some, V.nth_zero, V.toInt_int, List.drop_succ_cons, List.drop_zero, V.toStr_str, List.cons_append, hd_cons]
  simp only [s_expr_parser_atom_2, s_expr_parser_atom_1, un]
  rw [int_add_one h]
  rfl
theorem atomL {l : Int} (hl : 0 ≤ l ∧ l < 6) : R6 (.node 3 l []) [UInt8.ofNat (97 + l).toNat] := by
  intro T p r h hb
  have hc : ((UInt8.ofNat (97 + l).toNat).toNat : Int) = 97 + l := by
    have : (97 + l).toNat < 256 := by omega
    simp only [UInt8.toNat_ofNat']
    omega
  refine f_expr_parser_atom_of ?_
  unfold f_expr_parser_atom
  rw [peek_spec h (noB_of (by simp only [hd_cons, hc, bg, decide_eq_true_eq]; omega))]
  simp only [Option.bind_some, V.nth_zero, V.toInt_int, List.drop_succ_cons, List.drop_zero, V.toStr_str, List.cons_append, hd_cons, hc]
  simp only [s_expr_parser_atom_2, s_expr_parser_atom_1, un, bif_beq]
  rw [if_neg (by omega), if_neg (by omega), isLetter_spec (by omega)]
  simp only [Option.bind_some, V.nth_zero, V.toBool_bool, List.drop_succ_cons, List.drop_zero, V.toStr_str, V.toInt_int, bif_decide]
  rw [if_pos (by omega), wrap8 (by omega) (by omega), wrap64 (by omega) (by omega), int_add_one h, show 97 + l - 97 = l by omega]
  rfl
theorem paren {e : Ex} {t : List UInt8} (h1 : R1 e t) (hbt : bg (hd t) = true) : R6 e (40 :: (t ++ [41])) := by
  intro T p r h hb
  have h2 : At4 T (p + 1) (t ++ (41 :: r)) := by
    have := At4.one (c := 40) (r := t ++ (41 :: r)) (by simpa using h)
    exact this
  have h3 : At4 T (p + 1 + t.length) (41 :: r) := h2.move
  have hu := h1 T (p + 1) (41 :: r) h2 ⟨⟨⟨⟨by simp [noB], by simp⟩, by simp [bg]⟩, by simp⟩, by simp⟩
  refine f_expr_parser_atom_of ?_
  unfold f_expr_parser_atom
  rw [peek_spec h (by simp [noB])]
  simp only [Option.bind_some, V.nth_zero, V.toInt_int, List.drop_succ_cons, List.drop_zero, V.toStr_str, List.cons_append, hd_cons]
  simp only [s_expr_parser_atom_2, s_expr_parser_atom_1, un, bif_beq]
  rw [if_neg (by decide), if_neg (by decide), isLetter_spec (by decide)]
  simp only [Option.bind_some, V.nth_zero, V.toBool_bool, List.drop_succ_cons, List.drop_zero, V.toStr_str, V.toInt_int, bif_decide]
  rw [if_neg (by decide), if_pos (by decide), int_add_one h, hu]
  simp only [Option.bind_some, V.nth_zero, List.drop_succ_cons, List.drop_zero, V.toStr_str, V.toInt_int, V.toList_list]
  rw [peek_spec h3 (by simp [noB])]
  simp only [Option.bind_some, V.nth_zero, V.toInt_int, List.drop_succ_cons, List.drop_zero, V.toStr_str, hd_cons, bif_bne]
  rw [if_pos (by decide), int_add_one h3]
  simp only [List.length_cons, List.length_append, List.length_nil]
  rw [show p + 1 + t.length + 1 = p + (t.length + (0 + 1) + 1) by omega]
/-! stars -/
inductive P5 : Ex → List UInt8 → Prop
  | atom {e : Ex} {t : List UInt8} : R6 e t → bg (hd t) = true → hd t ≠ 33 → P5 e t
  | star {k : Ex} {t : List UInt8} : P5 k t → P5 (.node 7 0 [k]) (t ++ [42])
theorem P5.bg {e : Ex} {t : List UInt8} (h : P5 e t) : bg (hd t) = true := by
  induction h with
  | atom _ h _ => exact h
  | star _ ih => rw [hd_app ih]; exact ih
theorem P5.h33 {e : Ex} {t : List UInt8} (h : P5 e t) : hd t ≠ 33 := by
  induction h with
  | atom _ _ h => exact h
  | star hk ih => rw [hd_app hk.bg]; exact ih
/-- The state of the postfix loop. -/
abbrev pfS (T : List UInt8) (p : Nat) (e : Ex) : List UInt8 × Int × Int × Int × Int × List V := (T, (p : Int), 6, e.op, e.letter, e.kids.map enc)
theorem encs_one (k : Ex) : ([V.agg [.int .i64 k.op, .int .i64 k.letter, .list T_api_Expr (k.kids.map enc)]] : List V) = [k].map enc := by
  simp [enc_eq]
theorem P5.loop {e : Ex} {t : List UInt8} (h : P5 e t) : ∃ a ta s, R6 a ta ∧ t = ta ++ s ∧ (s = [] ∨ hd s = 42) ∧ ∀ T p r, At4 T p (t ++ r) → noB r →
    Loop (s_expr_parser_postfix_1L CC 0 0 []) (pfS T (p + ta.length) a) = Loop (s_expr_parser_postfix_1L CC 0 0 []) (pfS T (p + t.length) e) := by
  induction h with
  | @atom e t h6 hb _ => exact ⟨e, t, [], h6, by simp, .inl rfl, fun T p r _ _ => rfl⟩
  | @star k t hk ih =>
    obtain ⟨a, ta, s, h6, hts, hs, hl⟩ := ih
    refine ⟨a, ta, s ++ [42], h6, by rw [hts]; simp, .inr ?_, fun T p r h hb => ?_⟩
    · rcases hs with rfl | hs
      · rfl
      · cases s with
        | nil => rfl
        | cons c s => exact hs
    · have h' : At4 T p (t ++ (42 :: r)) := by simpa using h
      rw [hl T p (42 :: r) h' (by simp [noB])]
      have h2 := h'.move
      refine Eq.trans (Loop_norm (y := pfS T (p + (t ++ [42]).length) (.node 7 0 [k])) ?_) rfl
      simp only [s_expr_parser_postfix_1L, s_expr_parser_postfix_1, un, pfS]
      rw [peek_spec h2 (by simp [noB])]
      simp only [Option.bind_some, V.nth_zero, V.toInt_int, List.drop_succ_cons, List.drop_zero, V.toStr_str, hd_cons, bif_beq]
      rw [if_pos (by decide), int_add_one h2, encs_one]
      simp only [List.length_append, List.length_singleton, Ex.op, Ex.letter, Ex.kids, Nat.add_assoc]
theorem R5_of {e : Ex} {t : List UInt8} (h : P5 e t) : R5 e t := by
  obtain ⟨a, ta, s, h6, hts, hs, hl⟩ := h.loop
  intro T p r hat hF
  have hat' : At4 T p (ta ++ (s ++ r)) := by rw [← List.append_assoc, ← hts]; exact hat
  have hnb : noB (s ++ r) := by
    cases s with
    | nil => exact hF.1
    | cons c s =>
      rcases hs with hs | hs
      · cases hs
      · intro e
        simp at e
        subst e
        simp at hs
  refine f_expr_parser_postfix_of ?_
  unfold f_expr_parser_postfix
  rw [h6 T p _ hat' hnb]
  simp only [Option.bind_some, V.nth_zero, V.toInt_int, List.drop_succ_cons, List.drop_zero, V.toStr_str, V.toList_list]
  have hl' := hl T p r hat hF.1
  simp only [pfS] at hl'
  rw [hl']
  have h2 := hat.move
  have hstep : s_expr_parser_postfix_1L CC 0 0 [] (pfS T (p + t.length) e) = some (.inr (false, T, ((p + t.length : Nat) : Int), 6, e.op, e.letter, e.kids.map enc)) := by
    simp only [s_expr_parser_postfix_1L, s_expr_parser_postfix_1, un, pfS]
    rw [peek_spec h2 hF.1]
    simp only [Option.bind_some, V.nth_zero, V.toInt_int, List.drop_succ_cons, List.drop_zero, V.toStr_str, bif_beq]
    rw [if_neg hF.2]
    simp [hF.2]
  rw [Loop_end hstep]
  rfl
/-! unary -/
theorem R4_of {e : Ex} {t : List UInt8} (h : R5 e t) (hb : bg (hd t) = true) (h33 : hd t ≠ 33) : R4 e t := by
  intro T p r hat hF
  refine f_expr_parser_unary_of ?_
  unfold f_expr_parser_unary
  rw [peek_spec hat (noB_of hb)]
  simp only [Option.bind_some, V.nth_zero, V.toInt_int, List.drop_succ_cons, List.drop_zero, V.toStr_str, bif_bne]
  rw [hd_app hb, if_neg h33, h T p r hat hF]
  rfl
theorem R4_not {k : Ex} {t : List UInt8} (h : R4 k t) : R4 (.node 8 0 [k]) (33 :: t) := by
  intro T p r hat hF
  have hat' : At4 T p (33 :: (t ++ r)) := by simpa using hat
  refine f_expr_parser_unary_of ?_
  unfold f_expr_parser_unary
  rw [peek_spec hat' (by simp [noB])]
  simp only [Option.bind_some, V.nth_zero, V.toInt_int, List.drop_succ_cons, List.drop_zero, V.toStr_str, bif_bne, hd_cons]
  rw [if_pos (by decide), int_add_one hat', h T (p + 1) r hat'.one hF]
  simp only [Option.bind_some, V.nth_zero, V.toInt_int, List.drop_succ_cons, List.drop_zero, V.toStr_str, V.toList_list, encs_one]
  simp only [List.length_cons, Ex.op, Ex.letter, Ex.kids]
  rw [show p + 1 + t.length = p + (t.length + 1) by omega]
  rfl
/-! concatenations -/
theorem node_one (op : Int) (e : Ex) : CC F_expr_node [.int .i64 op, .list T_api_Expr ([e].map enc)] = some (exA e []) := by
  refine f_expr_node_of ?_
  unfold f_expr_node
  simp [enc_0, enc_1, enc_2]
theorem node_many (op : Int) (ks : List Ex) (h : 2 ≤ ks.length) : CC F_expr_node [.int .i64 op, .list T_api_Expr (ks.map enc)] = some (exA (.node op 0 ks) []) := by
  refine f_expr_node_of ?_
  unfold f_expr_node
  simp only [List.length_map, bif_beq]
  rw [if_neg (by omega)]
  rfl
/-- Texts one behind the other. -/
def cats : List (Ex × List UInt8) → List UInt8
  | [] => []
  | (_, t) :: l => t ++ cats l
def exsOf (l : List (Ex × List UInt8)) : List Ex := l.map (·.1)
theorem cats_next {l : List (Ex × List UInt8)} {r : List UInt8} (hb : ∀ q ∈ l, bg (hd q.2) = true) (hF : F5 r) : F5 (cats l ++ r) := by
  cases l with
  | nil => exact hF
  | cons q l =>
    have h := hb q (by simp)
    simp only [cats, List.append_assoc]
    exact ⟨noB_of h, by rw [hd_app h]; exact (bg_ne h).1⟩
theorem cat_loop : ∀ (l : List (Ex × List UInt8)) (ps : List Ex) (T : List UInt8) (p : Nat) (r : List UInt8), (∀ q ∈ l, R4 q.1 q.2 ∧ bg (hd q.2) = true) → At4 T p (cats l ++ r) → F3 r → ps.length + l.length ≤ 5000 →
    Loop (s_expr_parser_cat_1L CC 0 0 []) (T, (p : Int), 6, ps.map enc) = some (false, T, ((p + (cats l).length : Nat) : Int), 6, (ps ++ exsOf l).map enc)
  | [], ps, T, p, r, hl, hat, hF, hlen => by
    refine Loop_end ?_
    simp only [s_expr_parser_cat_1L, s_expr_parser_cat_1, un]
    have hat' : At4 T p r := by simpa [cats] using hat
    rw [begins_spec hat' hF.1.1, hF.2]
    simp [cats, exsOf]
  | (e, t) :: l, ps, T, p, r, hl, hat, hF, hlen => by
    obtain ⟨h4, hb⟩ := hl (e, t) (by simp)
    have hat' : At4 T p (t ++ (cats l ++ r)) := by simpa [cats] using hat
    have hnx : F5 (cats l ++ r) := cats_next (fun q hq => (hl q (by simp [hq])).2) hF.1
    have hstep : s_expr_parser_cat_1L CC 0 0 [] (T, (p : Int), 6, ps.map enc) = some (.inl (T, ((p + t.length : Nat) : Int), 6, (ps ++ [e]).map enc)) := by
      simp only [s_expr_parser_cat_1L, s_expr_parser_cat_1, un]
      rw [begins_spec hat' (noB_of hb), hd_app hb, hb]
      simp only [Option.bind_some, V.nth_zero, V.toBool_bool, cond_true, List.drop_succ_cons, List.drop_zero, V.toStr_str, V.toInt_int]
      rw [h4 T p _ hat' hnx]
      simp only [Option.bind_some, V.nth_zero, V.toInt_int, List.drop_succ_cons, List.drop_zero, V.toStr_str, V.toList_list, encs_one, bif_ble]
      rw [if_pos (by simp [maxBytes] at hlen ⊢; omega)]
      simp
    rw [Loop_norm hstep, cat_loop l (ps ++ [e]) T (p + t.length) r (fun q hq => hl q (by simp [hq])) hat'.move hF (by simp at hlen ⊢; omega)]
    simp [cats, exsOf, Nat.add_assoc]
theorem cat_run {e : Ex} {t : List UInt8} {l : List (Ex × List UInt8)} (h4 : R4 e t) (hl : ∀ q ∈ l, R4 q.1 q.2 ∧ bg (hd q.2) = true) (hlen : l.length ≤ 4000) {x : Ex} (hx : CC F_expr_node [.int .i64 5, .list T_api_Expr ((e :: exsOf l).map enc)] = some (exA x [])) :
    R3 x (t ++ cats l) := by
  intro T p r hat hF
  have hat' : At4 T p (t ++ (cats l ++ r)) := by simpa using hat
  have hnx : F5 (cats l ++ r) := cats_next (fun q hq => (hl q hq).2) hF.1
  refine f_expr_parser_cat_of ?_
  unfold f_expr_parser_cat
  rw [h4 T p _ hat' hnx]
  simp only [Option.bind_some, V.nth_zero, V.toInt_int, List.drop_succ_cons, List.drop_zero, V.toStr_str, V.toList_list, encs_one]
  have := cat_loop l [e] T (p + t.length) r hl hat'.move hF (by simp; omega)
  rw [this]
  simp only [Option.bind_some, un, List.singleton_append]
  rw [hx]
  simp [Nat.add_assoc]
theorem R3_of {e : Ex} {t : List UInt8} (h : R4 e t) : R3 e t := by
  have := cat_run (l := []) h (by simp) (by simp) (x := e) (node_one 5 e)
  simpa [cats] using this
/-- Texts, each behind a separator. -/
def seps (c : UInt8) : List (Ex × List UInt8) → List UInt8
  | [] => []
  | (_, t) :: l => c :: (t ++ seps c l)
theorem seps_nextA {l : List (Ex × List UInt8)} {r : List UInt8} (hF : F2 r) : F3 (seps 38 l ++ r) := by
  cases l with
  | nil => exact hF.1
  | cons q l => exact ⟨⟨by simp [seps, noB], by simp [seps]⟩, by simp [seps, bg]⟩
theorem seps_nextU {l : List (Ex × List UInt8)} {r : List UInt8} (hF : F1 r) : F2 (seps 124 l ++ r) := by
  cases l with
  | nil => exact hF.1
  | cons q l => exact ⟨⟨⟨by simp [seps, noB], by simp [seps]⟩, by simp [seps, bg]⟩, by simp [seps]⟩
/-! lists with A -/
theorem list_loopA : ∀ (l : List (Ex × List UInt8)) (ps : List Ex) (T : List UInt8) (p : Nat) (r : List UInt8), (∀ q ∈ l, R3 q.1 q.2) → At4 T p (seps 38 l ++ r) → F2 r → ps.length + l.length ≤ 5000 →
    Loop (s_expr_parser_list_k132_1L CC 6 38 0 0 []) (T, (p : Int), 6, ps.map enc) = some (false, T, ((p + (seps 38 l).length : Nat) : Int), 6, (ps ++ exsOf l).map enc)
  | [], ps, T, p, r, hl, hat, hF, hlen => by
    refine Loop_end ?_
    simp only [s_expr_parser_list_k132_1L, s_expr_parser_list_k132_1, un]
    have hat' : At4 T p r := by simpa [seps] using hat
    rw [peek_spec hat' hF.1.1.1]
    simp only [Option.bind_some, V.nth_zero, V.toInt_int, List.drop_succ_cons, List.drop_zero, V.toStr_str, bif_beq]
    rw [if_neg hF.2]
    simp [seps, exsOf, hF.2]
  | (e, t) :: l, ps, T, p, r, hl, hat, hF, hlen => by
    have h4 := hl (e, t) (by simp)
    have hat' : At4 T p (38 :: (t ++ (seps 38 l ++ r))) := by simpa [seps] using hat
    have hnx : F3 (seps 38 l ++ r) := seps_nextA hF
    have hstep : s_expr_parser_list_k132_1L CC 6 38 0 0 [] (T, (p : Int), 6, ps.map enc) = some (.inl (T, ((p + 1 + t.length : Nat) : Int), 6, (ps ++ [e]).map enc)) := by
      simp only [s_expr_parser_list_k132_1L, s_expr_parser_list_k132_1, un]
      rw [peek_spec hat' (by simp [noB])]
      simp only [Option.bind_some, V.nth_zero, V.toInt_int, List.drop_succ_cons, List.drop_zero, V.toStr_str, bif_beq, hd_cons]
      rw [if_pos (by decide), int_add_one hat', h4 T (p + 1) _ hat'.one hnx]
      simp only [Option.bind_some, V.nth_zero, V.toInt_int, List.drop_succ_cons, List.drop_zero, V.toStr_str, V.toList_list, encs_one, bif_ble]
      rw [if_pos (by simp [maxBytes] at hlen ⊢; omega)]
      simp
    rw [Loop_norm hstep, list_loopA l (ps ++ [e]) T (p + 1 + t.length) r (fun q hq => hl q (by simp [hq])) hat'.one.move hF (by simp at hlen ⊢; omega)]
    simp [seps, exsOf]
    omega
theorem list_runA {e : Ex} {t : List UInt8} {l : List (Ex × List UInt8)} (h4 : R3 e t) (hl : ∀ q ∈ l, R3 q.1 q.2) (hlen : l.length ≤ 4000) {x : Ex} (hx : CC F_expr_node [.int .i64 6, .list T_api_Expr ((e :: exsOf l).map enc)] = some (exA x [])) :
    R2 x (t ++ seps 38 l) := by
  intro T p r hat hF
  have hat' : At4 T p (t ++ (seps 38 l ++ r)) := by simpa using hat
  have hnx : F3 (seps 38 l ++ r) := seps_nextA hF
  refine f_expr_parser_and_of ?_
  unfold f_expr_parser_and
  have hlist : CC K_expr_parser_list_k132 (.int .i64 6 :: .int .u8 38 :: pS T p) = some (exA x (pS T (p + (t ++ seps 38 l).length))) := by
    refine f_expr_parser_list_k132_of ?_
    unfold f_expr_parser_list_k132
    rw [h4 T p _ hat' hnx]
    simp only [Option.bind_some, V.nth_zero, V.toInt_int, List.drop_succ_cons, List.drop_zero, V.toStr_str, V.toList_list, encs_one]
    have := list_loopA l [e] T (p + t.length) r hl hat'.move hF (by simp; omega)
    rw [this]
    simp only [Option.bind_some, un, List.singleton_append]
    rw [hx]
    simp [Nat.add_assoc]
  rw [hlist]
  rfl
theorem RA_of {e : Ex} {t : List UInt8} (h : R3 e t) : R2 e t := by
  have := list_runA (l := []) h (by simp) (by simp) (x := e) (node_one 6 e)
  simpa [seps] using this
/-! lists with U -/
theorem list_loopU : ∀ (l : List (Ex × List UInt8)) (ps : List Ex) (T : List UInt8) (p : Nat) (r : List UInt8), (∀ q ∈ l, R2 q.1 q.2) → At4 T p (seps 124 l ++ r) → F1 r → ps.length + l.length ≤ 5000 →
    Loop (s_expr_parser_list_1L CC 4 124 0 0 []) (T, (p : Int), 6, ps.map enc) = some (false, T, ((p + (seps 124 l).length : Nat) : Int), 6, (ps ++ exsOf l).map enc)
  | [], ps, T, p, r, hl, hat, hF, hlen => by
    refine Loop_end ?_
    simp only [s_expr_parser_list_1L, s_expr_parser_list_1, un]
    have hat' : At4 T p r := by simpa [seps] using hat
    rw [peek_spec hat' hF.1.1.1.1]
    simp only [Option.bind_some, V.nth_zero, V.toInt_int, List.drop_succ_cons, List.drop_zero, V.toStr_str, bif_beq]
    rw [if_neg hF.2]
    simp [seps, exsOf, hF.2]
  | (e, t) :: l, ps, T, p, r, hl, hat, hF, hlen => by
    have h4 := hl (e, t) (by simp)
    have hat' : At4 T p (124 :: (t ++ (seps 124 l ++ r))) := by simpa [seps] using hat
    have hnx : F2 (seps 124 l ++ r) := seps_nextU hF
    have hstep : s_expr_parser_list_1L CC 4 124 0 0 [] (T, (p : Int), 6, ps.map enc) = some (.inl (T, ((p + 1 + t.length : Nat) : Int), 6, (ps ++ [e]).map enc)) := by
      simp only [s_expr_parser_list_1L, s_expr_parser_list_1, un]
      rw [peek_spec hat' (by simp [noB])]
      simp only [Option.bind_some, V.nth_zero, V.toInt_int, List.drop_succ_cons, List.drop_zero, V.toStr_str, bif_beq, hd_cons]
      rw [if_pos (by decide), int_add_one hat', h4 T (p + 1) _ hat'.one hnx]
      simp only [Option.bind_some, V.nth_zero, V.toInt_int, List.drop_succ_cons, List.drop_zero, V.toStr_str, V.toList_list, encs_one, bif_ble]
      rw [if_pos (by simp [maxBytes] at hlen ⊢; omega)]
      simp
    rw [Loop_norm hstep, list_loopU l (ps ++ [e]) T (p + 1 + t.length) r (fun q hq => hl q (by simp [hq])) hat'.one.move hF (by simp at hlen ⊢; omega)]
    simp [seps, exsOf]
    omega
theorem list_runU {e : Ex} {t : List UInt8} {l : List (Ex × List UInt8)} (h4 : R2 e t) (hl : ∀ q ∈ l, R2 q.1 q.2) (hlen : l.length ≤ 4000) {x : Ex} (hx : CC F_expr_node [.int .i64 4, .list T_api_Expr ((e :: exsOf l).map enc)] = some (exA x [])) :
    R1 x (t ++ seps 124 l) := by
  intro T p r hat hF
  have hat' : At4 T p (t ++ (seps 124 l ++ r)) := by simpa using hat
  have hnx : F2 (seps 124 l ++ r) := seps_nextU hF
  refine f_expr_parser_union_of ?_
  unfold f_expr_parser_union
  have hlist : CC F_expr_parser_list (.int .i64 4 :: .int .u8 124 :: pS T p) = some (exA x (pS T (p + (t ++ seps 124 l).length))) := by
    refine f_expr_parser_list_of ?_
    unfold f_expr_parser_list
    rw [h4 T p _ hat' hnx]
    simp only [Option.bind_some, V.nth_zero, V.toInt_int, List.drop_succ_cons, List.drop_zero, V.toStr_str, V.toList_list, encs_one]
    have := list_loopU l [e] T (p + t.length) r hl hat'.move hF (by simp; omega)
    rw [this]
    simp only [Option.bind_some, un, List.singleton_append]
    rw [hx]
    simp [Nat.add_assoc]
  rw [hlist]
  rfl
theorem RU_of {e : Ex} {t : List UInt8} (h : R2 e t) : R1 e t := by
  have := list_runU (l := []) h (by simp) (by simp) (x := e) (node_one 4 e)
  simpa [seps] using this
/-! every expression -/
theorem wrapT_hi {o L : Int} {t : List UInt8} (h : ¬ lev o < L) : wrapT o L t = t := if_neg h
theorem wrapT_lo {o L : Int} {t : List UInt8} (h : lev o < L) : wrapT o L t = 40 :: (t ++ [41]) := if_pos h
theorem wrapT_bg {o L : Int} {t : List UInt8} (h : bg (hd t) = true) : bg (hd (wrapT o L t)) = true := by
  unfold wrapT
  split
  · rfl
  · exact h
def prs (L : Int) (ks : List Ex) : List (Ex × List UInt8) := ks.map fun k => (k, wrapT k.op L k.text)
theorem exs_prs (L : Int) (ks : List Ex) : exsOf (prs L ks) = ks := by simp [exsOf, prs, Function.comp_def]
theorem texts_seps (c : UInt8) (L : Int) : ∀ ks, texts [c] L false ks = seps c (prs L ks)
  | [] => by simp [texts, seps, prs]
  | k :: ks => by
    have := texts_seps c L ks
    simp [texts, seps, prs, this] at this ⊢
theorem texts_cats (L : Int) : ∀ ks, texts [] L false ks = cats (prs L ks)
  | [] => by simp [texts, cats, prs]
  | k :: ks => by
    have := texts_cats L ks
    simp [texts, cats, prs, this] at this ⊢
structure Good (e : Ex) : Prop where
  b : bg (hd e.text) = true
  a1 : R1 e e.text
  a2 : R2 e (wrapT e.op 2 e.text)
  a3 : R3 e (wrapT e.op 3 e.text)
  a4 : R4 e (wrapT e.op 4 e.text)
  a5 : P5 e (wrapT e.op 5 e.text)
theorem up4 {e : Ex} {t : List UInt8} (h : P5 e t) : R4 e t := R4_of (R5_of h) h.bg h.h33
theorem par5 {e : Ex} (h1 : R1 e e.text) (hb : bg (hd e.text) = true) : P5 e (40 :: (e.text ++ [41])) := .atom (paren h1 hb) rfl (by simp)
/-- An expression of the highest level. -/
theorem good6 {e : Ex} (h : P5 e e.text) (hl : 5 ≤ lev e.op) : Good e := by
  have h4 := up4 h
  have h3 := R3_of h4
  have h2 := RA_of h3
  exact ⟨h.bg, RU_of h2, by rw [wrapT_hi (by omega)]; exact h2, by rw [wrapT_hi (by omega)]; exact h3, by rw [wrapT_hi (by omega)]; exact h4, by rw [wrapT_hi (by omega)]; exact h⟩
theorem many {n : Int} {o l : Int} (ho : o = 4 ∨ o = 5 ∨ o = 6) (h : shapeOk o l n 6 = true) : l = 0 ∧ 2 ≤ n := by
  have n3 : o ≠ 3 := by omega
  have n1 : ¬ (o = 1 ∨ o = 2) := by omega
  have n7 : ¬ (o = 7 ∨ o = 8) := by omega
  simp [shapeOk, n3, n1, n7] at h
  omega
theorem single {n : Int} {o l : Int} (ho : o = 7 ∨ o = 8) (h : shapeOk o l n 6 = true) : l = 0 ∧ n = 1 := by
  have n3 : o ≠ 3 := by omega
  have n1 : ¬ (o = 1 ∨ o = 2) := by omega
  simp [shapeOk, n3, n1, ho] at h
  exact h
theorem leaf {n : Int} {o l : Int} (ho : o = 1 ∨ o = 2) (h : shapeOk o l n 6 = true) : l = 0 ∧ n = 0 := by
  have n3 : o ≠ 3 := by omega
  simp [shapeOk, n3, ho] at h
  exact h
theorem len_sizes : ∀ ks : List Ex, ks.length ≤ sizes ks
  | [] => by simp
  | k :: ks => by
    have := len_sizes ks
    have := size_pos k
    simp only [sizes, List.length_cons]; omega
theorem good : ∀ e : Ex, e.wf 6 = true → e.size ≤ 400 → Good e :=
  ind fun o l ks ih hwf hsz => by
    obtain ⟨w1, w2⟩ := wf_node hwf
    have hs : (Ex.node o l ks).size = 1 + sizes ks := by simp only [size]
    have hg : ∀ k ∈ ks, Good k := fun k hk => ih k hk (w2 k hk) (by have := kid_size hk; omega)
    have hlen := len_sizes ks
    rcases op_cases o with rfl | rfl | rfl | rfl | rfl | rfl | rfl | rfl | ho
    case inr.inr.inr.inr.inr.inr.inr.inr => rw [shapeBad ho] at w1; cases w1
    case inl =>
      obtain ⟨rfl, h0⟩ := leaf (.inl rfl) w1
      obtain rfl : ks = [] := List.eq_nil_of_length_eq_zero (by omega)
      exact good6 (by simp only [text, if_true]; exact .atom atom0 rfl (by simp)) (by simp [Ex.op, lev])
    case inr.inl =>
      obtain ⟨rfl, h0⟩ := leaf (.inr rfl) w1
      obtain rfl : ks = [] := List.eq_nil_of_length_eq_zero (by omega)
      refine good6 ?_ (by simp [Ex.op, lev])
      have : (Ex.node 2 0 []).text = [49] := by simp [text]
      rw [this]
      exact .atom atom1 rfl (by simp)
    case inr.inr.inl =>
      have hl := shape3 w1
      have h0 : ks.length = 0 := by simp [shapeOk] at w1; simp [w1]
      obtain rfl : ks = [] := List.eq_nil_of_length_eq_zero h0
      refine good6 ?_ (by simp [Ex.op, lev])
      have : (Ex.node 3 l []).text = [UInt8.ofNat (97 + l).toNat] := by simp [text]
      rw [this]
      have hc : ((UInt8.ofNat (97 + l).toNat).toNat : Int) = 97 + l := by
        have : (97 + l).toNat < 256 := by omega
        simp only [UInt8.toNat_ofNat']
        omega
      exact .atom (atomL hl) (by simp only [hd_cons, hc, bg, decide_eq_true_eq]; omega) (by simp only [hd_cons, hc]; omega)
    case inr.inr.inr.inr.inr.inr.inl =>
      obtain ⟨rfl, h1⟩ := single (.inl rfl) w1
      match ks, h1, hg with
      | [k], _, hg =>
        have hk := hg k (by simp)
        refine good6 ?_ (by simp [Ex.op, lev])
        have : (Ex.node 7 0 [k]).text = wrapT k.op 5 k.text ++ [42] := by simp [text, texts]
        rw [this]
        exact .star hk.a5
    case inr.inr.inr.inr.inr.inr.inr.inl =>
      obtain ⟨rfl, h1⟩ := single (.inr rfl) w1
      match ks, h1, hg with
      | [k], _, hg =>
        have hk := hg k (by simp)
        have ht : (Ex.node 8 0 [k]).text = 33 :: wrapT k.op 4 k.text := by simp [text, texts]
        have h4 : R4 (.node 8 0 [k]) (Ex.node 8 0 [k]).text := by rw [ht]; exact R4_not hk.a4
        have hb : bg (hd (Ex.node 8 0 [k]).text) = true := by rw [ht]; rfl
        have h3 := R3_of h4
        have h2 := RA_of h3
        have h1 := RU_of h2
        exact ⟨hb, h1, by rw [wrapT_hi (by simp [Ex.op, lev])]; exact h2, by rw [wrapT_hi (by simp [Ex.op, lev])]; exact h3, by rw [wrapT_hi (by simp [Ex.op, lev])]; exact h4, by rw [wrapT_lo (by simp [Ex.op, lev])]; exact par5 h1 hb⟩
    case inr.inr.inr.inr.inl =>
      obtain ⟨rfl, h1⟩ := many (.inr (.inl rfl)) w1
      match ks, h1, hg, hlen, hs with
      | k :: ks, h1, hg, hlen, hs =>
        have hk := hg k (by simp)
        have ht : (Ex.node 5 0 (k :: ks)).text = wrapT k.op 4 k.text ++ cats (prs 4 ks) := by simp [text, texts, texts_cats]
        have hb : bg (hd (Ex.node 5 0 (k :: ks)).text) = true := by rw [ht, hd_app (wrapT_bg hk.b)]; exact wrapT_bg hk.b
        have h3 : R3 (.node 5 0 (k :: ks)) (Ex.node 5 0 (k :: ks)).text := by
          rw [ht]
          refine cat_run hk.a4 (fun q hq => ?_) (by simp [prs] at hlen ⊢; omega) (by rw [exs_prs]; exact node_many 5 _ (by omega))
          obtain ⟨k', hk', rfl⟩ := List.mem_map.1 hq
          have := hg k' (by simp [hk'])
          exact ⟨this.a4, wrapT_bg this.b⟩
        have h2 := RA_of h3
        have h1' := RU_of h2
        have h5 := par5 h1' hb
        exact ⟨hb, h1', by rw [wrapT_hi (by simp [Ex.op, lev])]; exact h2, by rw [wrapT_hi (by simp [Ex.op, lev])]; exact h3, by rw [wrapT_lo (by simp [Ex.op, lev])]; exact up4 h5, by rw [wrapT_lo (by simp [Ex.op, lev])]; exact h5⟩
    case inr.inr.inr.inr.inr.inl =>
      obtain ⟨rfl, h1⟩ := many (.inr (.inr rfl)) w1
      match ks, h1, hg, hlen, hs with
      | k :: ks, h1, hg, hlen, hs =>
        have hk := hg k (by simp)
        have ht : (Ex.node 6 0 (k :: ks)).text = wrapT k.op 3 k.text ++ seps 38 (prs 3 ks) := by simp [text, texts, texts_seps]
        have hb : bg (hd (Ex.node 6 0 (k :: ks)).text) = true := by rw [ht, hd_app (wrapT_bg hk.b)]; exact wrapT_bg hk.b
        have h2 : R2 (.node 6 0 (k :: ks)) (Ex.node 6 0 (k :: ks)).text := by
          rw [ht]
          refine list_runA hk.a3 (fun q hq => ?_) (by simp [prs] at hlen ⊢; omega) (by rw [exs_prs]; exact node_many 6 _ (by omega))
          obtain ⟨k', hk', rfl⟩ := List.mem_map.1 hq
          exact (hg k' (by simp [hk'])).a3
        have h1' := RU_of h2
        have h5 := par5 h1' hb
        have h4 := up4 h5
        exact ⟨hb, h1', by rw [wrapT_hi (by simp [Ex.op, lev])]; exact h2, by rw [wrapT_lo (by simp [Ex.op, lev])]; exact R3_of h4, by rw [wrapT_lo (by simp [Ex.op, lev])]; exact h4, by rw [wrapT_lo (by simp [Ex.op, lev])]; exact h5⟩
    case inr.inr.inr.inl =>
      obtain ⟨rfl, h1⟩ := many (.inl rfl) w1
      match ks, h1, hg, hlen, hs with
      | k :: ks, h1, hg, hlen, hs =>
        have hk := hg k (by simp)
        have ht : (Ex.node 4 0 (k :: ks)).text = wrapT k.op 2 k.text ++ seps 124 (prs 2 ks) := by simp [text, texts, texts_seps]
        have hb : bg (hd (Ex.node 4 0 (k :: ks)).text) = true := by rw [ht, hd_app (wrapT_bg hk.b)]; exact wrapT_bg hk.b
        have h1' : R1 (.node 4 0 (k :: ks)) (Ex.node 4 0 (k :: ks)).text := by
          rw [ht]
          refine list_runU hk.a2 (fun q hq => ?_) (by simp [prs] at hlen ⊢; omega) (by rw [exs_prs]; exact node_many 4 _ (by omega))
          obtain ⟨k', hk', rfl⟩ := List.mem_map.1 hq
          exact (hg k' (by simp [hk'])).a2
        have h5 := par5 h1' hb
        have h4 := up4 h5
        have h3 := R3_of h4
        exact ⟨hb, h1', by rw [wrapT_lo (by simp [Ex.op, lev])]; exact RA_of h3, by rw [wrapT_lo (by simp [Ex.op, lev])]; exact h3, by rw [wrapT_lo (by simp [Ex.op, lev])]; exact h4, by rw [wrapT_lo (by simp [Ex.op, lev])]; exact h5⟩
theorem Parse_spec (e : Ex) (h : e.Ok) (hv : e.val 6 = 0) : CC F_expr_Parse [.str e.text, .int .i64 6] = some (exA e [.int .i64 0, .int .i64 0]) := by
  obtain ⟨hd1, hs, hw⟩ := val0 hv
  have hg := good e hw hs
  have hl := text_len e
  have hat : At4 e.text 0 (e.text ++ []) := ⟨by omega, by omega, by simp⟩
  have hu := hg.a1 e.text 0 [] hat ⟨⟨⟨⟨by simp [noB], by simp⟩, by simp [bg]⟩, by simp⟩, by simp⟩
  have hpt : CC F_expr_parseText [.str e.text, .int .i64 6] = some (exA e [.int .i64 0, .bool true]) := by
    refine f_expr_parseText_of ?_
    unfold f_expr_parseText
    have hu' : CC F_expr_parser_union [.str e.text, .int .i64 0, .int .i64 6] = some (exA e (pS e.text (0 + e.text.length))) := hu
    rw [hu']
    simp only [Option.bind_some, V.nth_zero, V.toInt_int, List.drop_succ_cons, List.drop_zero, V.toStr_str, V.toList_list]
    rw [peek_spec hat.move (by simp [noB])]
    simp
  refine f_expr_Parse_of ?_
  unfold f_expr_Parse
  simp only [bif_decide]
  rw [if_neg (by omega), if_neg (by omega), if_neg (by omega), hpt]
  simp only [Option.bind_some, V.nth_zero, V.toInt_int, V.toBool_bool, List.drop_succ_cons, List.drop_zero, V.toList_list]
  rw [withinLimits_spec e h]
  simp [hd1, hs]
theorem same_spec (a b : Ex) (ha : a.Ok) (hb : b.Ok) : CC F_semigrouplaw04_same (exA a (exA b [])) = some [.bool (decide (cmp a b = 0))] := by
  refine f_semigrouplaw04_same_of ?_
  unfold f_semigrouplaw04_same
  rw [refCompare_spec a ha b hb]
  simp only [Option.bind_some, V.nth_zero, V.toInt_int, beqd]
end Go.AM

/-
  The sanity check of chapter 4's laws, run in the kernel.
-/
set_option maxRecDepth 100000
namespace Go.AM
open Go.Proofs
theorem awake : CC F_semigrouplaw04_awake [] = some [.bool true] := Call_of_run (N := 40) (n := 40) (by kernel_rfl)
end Go.AM

set_option maxRecDepth 100000
namespace Go.AM
open Go.Proofs
noncomputable abbrev B_semigrouplaw04_ExprRoundTrips : Code := bodyOf Try.prog (ann.fid 5)
noncomputable def LT_semigrouplaw04_ExprRoundTrips (C : CallF) : LTab := fun β n ds k =>
  none
noncomputable def f_semigrouplaw04_ExprRoundTrips (C : CallF) (e_0 e_1 : Int) (e_2 : List V) : Option (List V) :=
  (C F_semigroupref04_Valid [.int .i64 e_0, .int .i64 e_1, .list T_api_Expr e_2]).bind fun r1 =>
  bif !((V.nth r1 0).toBool) then
   (C F_semigrouplaw04_awake []).bind fun r2 =>
   some [.bool ((V.nth r2 0).toBool)]
  else
   (C F_expr_Format [.int .i64 e_0, .int .i64 e_1, .list T_api_Expr e_2]).bind fun r3 =>
   (C F_expr_Parse [.str ((V.nth r3 0).toStr), .int .i64 6]).bind fun r4 =>
   bif decide (((((V.nth r3 0).toStr).length : Int) : Int) > 4096) then
    bif (((V.nth ((r4.drop 3).drop 1) 0).toInt) : Int) == 3 then
     (C F_semigrouplaw04_awake []).bind fun r5 =>
     some [.bool ((V.nth r5 0).toBool)]
    else
     some [.bool false]
   else
    bif (((V.nth ((r4.drop 3).drop 1) 0).toInt) : Int) == 0 then
     (C F_semigrouplaw04_same [.int .i64 ((V.nth r4 0).toInt), .int .i64 ((V.nth (r4.drop 1) 0).toInt), .list T_api_Expr ((V.nth ((r4.drop 1).drop 1) 0).toList), .int .i64 e_0, .int .i64 e_1, .list T_api_Expr e_2]).bind fun r6 =>
     bif (V.nth r6 0).toBool then
      (C F_semigrouplaw04_awake []).bind fun r7 =>
      some [.bool ((V.nth r7 0).toBool)]
     else
      some [.bool false]
    else
     some [.bool false]
theorem f_semigrouplaw04_ExprRoundTrips_eq (C : CallF) (e_0 e_1 : Int) (e_2 : List V) : bodyT Try.prog ann C (LT_semigrouplaw04_ExprRoundTrips C) 5 [.int .i64 e_0, .int .i64 e_1, .list T_api_Expr e_2] = f_semigrouplaw04_ExprRoundTrips C e_0 e_1 e_2 := by kernel_rfl
theorem f_semigrouplaw04_ExprRoundTrips_of {e_0 e_1 : Int} {e_2 : List V} {r : Option (List V)} (h : f_semigrouplaw04_ExprRoundTrips CC e_0 e_1 e_2 = r) : CC F_semigrouplaw04_ExprRoundTrips [.int .i64 e_0, .int .i64 e_1, .list T_api_Expr e_2] = r :=
  func_of (key := 5) (L := LT_semigrouplaw04_ExprRoundTrips CC) (bs := []) (by kernel_rfl) tells_nil ((f_semigrouplaw04_ExprRoundTrips_eq CC e_0 e_1 e_2).trans h)
end Go.AM

/-
  ExprRoundTrips, on plain data.
-/
namespace Go.AM
open Go.Proofs Ex
theorem exprRoundTrips (e : Ex) (h : e.Ok) : CC F_semigrouplaw04_ExprRoundTrips (exA e []) = some [.bool true] := by
  refine f_semigrouplaw04_ExprRoundTrips_of ?_
  unfold f_semigrouplaw04_ExprRoundTrips
  rw [refValid_spec e h, Format_spec e h, awake]
  by_cases hv : e.val 6 = 0
  · have hl := text_len e
    have hs := (val0 hv).2.1
    simp only [Option.bind_some, V.nth_zero, V.toBool_bool, hv, decide_true, Bool.not_true, cond_false, if_true, V.toStr_str]
    rw [Parse_spec e h hv]
    simp only [Option.bind_some, V.nth_zero, V.toInt_int, List.drop_succ_cons, List.drop_zero, V.toList_list, bif_decide, bif_beq]
    rw [if_neg (by omega), if_pos trivial, same_spec e e h h, cmp_self]
    simp
  · simp [hv]
end Go.AM
