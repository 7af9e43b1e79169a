/-
  Functions of the program, lifted to plain data.
-/
import Derived.Great.BuildSlice
import Derived.Lib.AppendStr
import Derived.Laws.BytesString
import Derived.Lib.Builder
import Derived.Lib.UnsafeStr
import Derived.Conc.MuLone
import Derived.Defers
import Derived.Test.YtjdpkmoloccebaaDoorP1
set_option linter.unusedVariables false
set_option linter.unusedSimpArgs false
namespace Go.AM
section
variable {P : Program} {w w' : World} {I I' : Nat → Prop} {β β' : Nat → Option Nat} {hp hp' : Nat → Option Blk} {C : CallF} {B : Nat} {M : Nat → Prop} {w0 : Start}
theorem constCells_get : ∀ {ts : List TypeId} {vs : List Value} {j : Nat} {y : V}, (constCells P ts vs)[j]? = some y → ∃ t v, ts[j]? = some t ∧ vs[j]? = some v ∧ y = constV P t v
  | [], vs, j, y, h => by simp [constCells] at h
  | _ :: _, [], j, y, h => by simp [constCells] at h
  | t :: ts, v :: vs, 0, y, h => by simp [constCells] at h; exact ⟨t, v, rfl, rfl, h.symm⟩
  | t :: ts, v :: vs, j + 1, y, h => by
    simp only [constCells, List.getElem?_cons_succ] at h
    obtain ⟨t', v', a, b, c⟩ := constCells_get h
    exact ⟨t', v', by simpa using a, by simpa using b, c⟩
theorem constCells_length : ∀ {ts : List TypeId} {vs : List Value}, ts.length = vs.length → (constCells P ts vs).length = vs.length
  | [], [], _ => rfl
  | [], _ :: _, h => by simp at h
  | _ :: _, [], h => by simp at h
  | t :: ts, v :: vs, h => by simp [constCells, constCells_length (ts := ts) (vs := vs) (by simpa using h)]
theorem okTy_zero {e : TypeId} (h : okTy P e = true) : ∃ i z, P.info? e = some i ∧ i.zero = some z ∧ i.size = P.cellsOf e ∧ z.cells.size = P.cellsOf e ∧ zeroCells P e = constCells P (flat P e) z.cells.toList := by
  unfold okTy at h
  simp only [Bool.and_eq_true, Nat.beq_eq, Nat.blt_eq] at h
  obtain ⟨h1, h2, _, h3⟩ := h
  cases hi : P.info? e with
  | none => rw [hi] at h3; cases h3
  | some i =>
    rw [hi] at h3
    simp only [Option.bind_some] at h3
    cases hz : i.zero with
    | none => rw [hz] at h3; cases h3
    | some z =>
      rw [hz] at h3
      simp only [Nat.beq_eq] at h3
      exact ⟨i, z, rfl, hz, by simp [Program.cellsOf, hi], h3, by simp [zeroCells, hi, hz]⟩
theorem zeroCells_rel {e : TypeId} (h : okTy P e = true) : ∃ i z, P.info? e = some i ∧ i.zero = some z ∧ z.cells.size = (zeroCells P e).length ∧ z.cells.size = P.cellsOf e ∧
    ∀ (j : Nat) v x, z.cells[j]? = some v → (zeroCells P e)[j]? = some x → VRel P w I β hp v x := by
  obtain ⟨i, z, h1, h2, h3, h4, h5⟩ := okTy_zero h
  have hl : (flat P e).length = z.cells.toList.length := by rw [(okTy_len h).1]; simpa using h4.symm
  refine ⟨i, z, h1, h2, ?_, h4, fun j v x hv hx => ?_⟩
  · rw [h5, constCells_length hl]; simp
  · rw [h5] at hx
    obtain ⟨t, v', _, hv', rfl⟩ := constCells_get hx
    have : v' = v := by
      have e1 : z.cells[j]? = some v' := by simpa using hv'
      rw [hv] at e1; exact (Option.some.inj e1).symm
    subst this
    exact VRel.const t v'
theorem newRd_run {nb : Nat} {b : Blk} {v : V} {upd : List (Nat × Blk)} {r : R} {rd : List Nat} (h : (newRd nb b v upd).run C hp = some (r, rd)) : hp nb = none ∧ r = ⟨v, (nb, b) :: upd⟩ := by
  obtain ⟨l, h⟩ := run_get h
  cases hn : hp nb with
  | none => rw [hn] at h; exact ⟨rfl, (run_ret' h).symm⟩
  | some x => rw [hn] at h; cases h
theorem newVar_sim (S : Sim P w I β hp B M w0) {nb : Nat} {xs : List V} {C0 : Array Value} {T : TypeId} (hn : hp nb = none) (hs : C0.size = xs.length)
    (hx : ∀ (j : Nat) v x, C0[j]? = some v → xs[j]? = some x → VRel P w I β hp v x) (hself : SelfOk P w.heap.size T C0) :
    Le P w I β hp (w.alloc (.cells C0 T)) I (setN β nb (some w.heap.size)) (setN hp nb (some (.var T xs))) ∧ Sim P (w.alloc (.cells C0 T)) I (setN β nb (some w.heap.size)) (setN hp nb (some (.var T xs))) B M w0 ∧
    VRel P (w.alloc (.cells C0 T)) I (setN β nb (some w.heap.size)) (setN hp nb (some (.var T xs))) (.pointer (some ⟨w.heap.size, 0, none⟩)) (.ptr nb 0 0) := by
  obtain ⟨h1, h2⟩ := alloc_sim S (blk := .var T xs) (c := C0) (T := T) hn (fun b' h => (Option.some.inj (h.flat (by simp))).symm) (fun hle hnew hnI => .var rfl hnew hs hnI (fun j v x a b => (hx j v x a b).mono hle) hself)
  refine ⟨h1, h2, ?_⟩
  have := VRel.ptr (P := P) (w := w.alloc (.cells C0 T)) (I := I) (β := setN β nb (some w.heap.size)) (hp := setN hp nb (some (.var T xs))) (i := 0) (c := 0) (blk := .var T xs) (setN_same _ _ _) (by simp) (setN_same _ _ _)
  simpa using this
theorem alloc_op_sim (S : Sim P w I β hp B M w0) {e : TypeId} {nb : Nat} {r : R} {rd : List Nat}
    (h : (Rd.chk (okTy P e && (!(selfTy P e) || nilFirst (zeroCells P e))) (newRd nb (.var e (zeroCells P e)) (.ptr nb 0 0) [])).run C hp = some (r, rd)) : ValOk P ((Instr.alloc e true (.tuple #[])).run P w) w I β hp B M w0 r := by
  obtain ⟨hok, h⟩ := run_chk h
  rw [Bool.and_eq_true] at hok
  obtain ⟨hok, hsf⟩ := hok
  obtain ⟨hn, rfl⟩ := newRd_run h
  obtain ⟨i, z, h1, h2, h3, h4, h5⟩ := zeroCells_rel (w := w) (I := I) (β := β) (hp := hp) hok
  obtain ⟨a, b, c⟩ := newVar_sim S (T := e) hn h3 h5 fun hst => by
    rw [hst, Bool.not_true, Bool.false_or] at hsf
    cases hz : zeroCells P e with
    | nil => rw [hz] at hsf; cases hsf
    | cons y l =>
      rw [hz] at hsf h3 h5
      cases y <;> first | (cases hsf; done) | skip
      have hlt : 0 < z.cells.size := by rw [h3]; simp
      have := h5 0 z.cells[0] .nilp (Array.getElem?_eq_getElem hlt) rfl
      left
      rw [Array.getElem?_eq_getElem hlt]
      generalize z.cells[0] = u at this
      cases this; rfl
  exact ⟨_, _, _, _, by simp [Instr.alloc, zeroValue, typeInfo, h1, h2, newVar, newRow], a, b, c⟩
theorem box_op_sim (S : Sim P w I β hp B M w0) {e : TypeId} {nb : Nat} {x : V} {v : Value} {r : R} {rd : List Nat} (hv : VRel P w I β hp v x)
    (h : (Rd.chk (!(selfTy P e)) <| solidL x.cells (newRd nb (.var e x.cells) (.ptr nb 0 0) [])).run C hp = some (r, rd)) : ValOk P ((Instr.box e v).run P w) w I β hp B M w0 r := by
  obtain ⟨hsf, h⟩ := run_chk h
  obtain ⟨e1, e2⟩ := cells_rel hv h
  obtain ⟨_, l, h⟩ := solidL_run h (vs := v.cells.toList) (by simpa using e1) (fun j u y a b => e2 j u y (by simpa using a) b)
  obtain ⟨hn, rfl⟩ := newRd_run h
  obtain ⟨a, b, c⟩ := newVar_sim S (T := e) hn e1 e2 fun hst => by rw [hst] at hsf; cases hsf
  exact ⟨_, _, _, _, by simp [Instr.box, newVar, newRow], a, b, c⟩
theorem foldl_set (off : Nat) : ∀ (vs : List Value) (k : Nat) (cs : Array Value) (i : Nat), off + k + vs.length ≤ cs.size →
    ((vs.zipIdx k).foldl (fun cs p => cs.setIfInBounds (off + p.2) p.1) cs)[i]? = if i < off + k then cs[i]? else if i < off + k + vs.length then vs[i - (off + k)]? else cs[i]?
  | [], k, cs, i, h => by simp; intro h1 h2; omega
  | v :: vs, k, cs, i, h => by
    simp only [List.zipIdx_cons, List.foldl_cons]
    simp only [List.length_cons] at h ⊢
    rw [foldl_set off vs (k + 1) _ i (by simp; omega)]
    by_cases h1 : i < off + k
    · rw [if_pos (by omega), if_pos h1]
      rw [Array.getElem?_setIfInBounds_ne (by omega)]
    · rw [if_neg h1]
      by_cases h2 : i = off + k
      · subst h2
        rw [if_pos (by omega), if_pos (by omega)]
        rw [Array.getElem?_setIfInBounds_self_of_lt (by omega)]
        simp
      · rw [if_neg (by omega)]
        by_cases h3 : i < off + k + (vs.length + 1)
        · rw [if_pos (by omega), if_pos h3, show i - (off + k) = (i - (off + (k + 1))) + 1 by omega]
          simp
        · rw [if_neg (by omega), if_neg h3, Array.getElem?_setIfInBounds_ne (by omega)]
theorem foldl_set_size (off : Nat) : ∀ (vs : List Value) (k : Nat) (cs : Array Value), ((vs.zipIdx k).foldl (fun cs p => cs.setIfInBounds (off + p.2) p.1) cs).size = cs.size
  | [], k, cs => rfl
  | v :: vs, k, cs => by
    simp only [List.zipIdx_cons, List.foldl_cons]
    rw [foldl_set_size off vs (k + 1)]
    simp
theorem fill_one {cells : Array Value} {off : Nat} {v : Value} (h : off + v.cells.size ≤ cells.size) (i : Nat) :
    (v.cells.zipIdx.foldl (fun cs (p : Value × Nat) => cs.setIfInBounds (off + p.2) p.1) cells)[i]? = if i < off then cells[i]? else if i < off + v.cells.size then v.cells[i - off]? else cells[i]? := by
  have := foldl_set off v.cells.toList 0 cells i (by simpa using h)
  rw [← Array.foldl_toList]
  simpa [Array.toList_zipIdx] using this
theorem fill_one_size {cells : Array Value} {off : Nat} {v : Value} : (v.cells.zipIdx.foldl (fun cs (p : Value × Nat) => cs.setIfInBounds (off + p.2) p.1) cells).size = cells.size := by
  have := foldl_set_size off v.cells.toList 0 cells
  rw [← Array.foldl_toList]
  simpa [Array.toList_zipIdx] using this
inductive PartsRel (P : Program) (w : World) (I : Nat → Prop) (β : Nat → Option Nat) (hp : Nat → Option Blk) : List (Nat × Value) → List (Nat × V) → Prop
  | nil : PartsRel P w I β hp [] []
  | cons {i : Nat} {v : Value} {x : V} {vs : List (Nat × Value)} {xs : List (Nat × V)} : v.cells.size = x.cells.length → (∀ (j : Nat) u y, v.cells[j]? = some u → x.cells[j]? = some y → VRel P w I β hp u y) →
      PartsRel P w I β hp vs xs → PartsRel P w I β hp ((i, v) :: vs) ((i, x) :: xs)
theorem fill_sim (place : Nat → Option (Nat × Nat)) : ∀ {vs : List (Nat × Value)} {px : List (Nat × V)} {cells : Array Value} {xs ys : List V}, PartsRel P w I β hp vs px → cells.size = xs.length →
    (∀ (j : Nat) v x, cells[j]? = some v → xs[j]? = some x → VRel P w I β hp v x) → fillCells place xs px = some ys →
    ∃ cells' : Array Value, Instr.fill place cells vs = some cells' ∧ cells'.size = ys.length ∧ ∀ (j : Nat) v x, cells'[j]? = some v → ys[j]? = some x → VRel P w I β hp v x
  | _, _, cells, xs, ys, .nil, hs, hx, h => by
    simp only [fillCells, Option.some.injEq] at h
    subst h
    exact ⟨cells, by simp [Instr.fill], hs, hx⟩
  | _, _, cells, xs, ys, @PartsRel.cons _ _ _ _ _ i v x vs px h1 h2 h3, hs, hx, h => by
    simp only [fillCells] at h
    cases hpl : place i with
    | none => rw [hpl] at h; cases h
    | some os =>
      obtain ⟨off, size⟩ := os
      rw [hpl] at h
      simp only at h
      cases hc : (Nat.beq x.cells.length size && Nat.ble (off + size) xs.length) with
      | false => rw [hc] at h; cases h
      | true =>
        rw [hc] at h
        simp only [cond_true] at h
        simp only [Bool.and_eq_true, Nat.beq_eq, Nat.ble_eq] at hc
        have hv : off + v.cells.size ≤ cells.size := by omega
        have hb : off + x.cells.length ≤ xs.length := by omega
        have hl : (splice xs off x.cells).length = xs.length := splice_length _ _ _ hb
        obtain ⟨cells', f1, f2, f3⟩ := fill_sim place (cells := v.cells.zipIdx.foldl (fun cs (p : Value × Nat) => cs.setIfInBounds (off + p.2) p.1) cells) (xs := splice xs off x.cells) h3 (by rw [fill_one_size, hl, hs])
          (fun j u y hu hy => by
            rw [fill_one hv] at hu
            unfold splice at hy
            rw [splice_get _ _ _ _ hb] at hy
            by_cases j1 : j < off
            · rw [if_pos j1] at hu hy; exact hx j u y hu hy
            · rw [if_neg j1] at hu hy
              by_cases j2 : j < off + x.cells.length
              · rw [if_pos (by omega)] at hu
                rw [if_pos j2] at hy
                exact h2 (j - off) u y hu hy
              · rw [if_neg (by omega)] at hu
                rw [if_neg j2] at hy
                exact hx j u y hu hy) h
        refine ⟨cells', ?_, f2, f3⟩
        simp only [Instr.fill, hpl]
        rw [if_neg (by simp; omega)]
        exact f1
theorem build_run {t : TypeId} {parts : Array (Nat × Value)} {cells : Array Value} {z : Value} {i : TypeInfo} (hi : P.info? t = some i) (hz : i.zero = some z) (h : Instr.fill (placeOf P t) z.cells parts.toList = some cells) (ha : isAggT P t = true)
    (hpl : ∀ fs, P.underlying t = some (.struct fs) → (fs.toList.mapM fun f => (P.info? f.type).map fun i => (f.offset, i.size)).isSome = true) (hpa : ∀ n e, P.underlying t = some (.array n e) → (P.info? e).isSome = true) :
    (Instr.build t parts).run P w = .ok (.agg cells) w := by
  refine run_build w t parts cells ?_
  unfold Program.built
  unfold isAggT at ha
  rw [hi]
  split at ha
  · rename_i fs hu
    have := hpl fs hu
    cases hm : fs.toList.mapM fun f => (P.info? f.type).map fun i => (f.offset, i.size) with
    | none => rw [hm] at this; cases this
    | some places =>
      simp only [hu, hz, hm]
      have hq : placeOf P t = fun i => places[i]? := by simp [placeOf, hu, hm]
      rw [hq] at h
      simpa using h
  · rename_i n e hu
    have := hpa n e hu
    cases hie : P.info? e with
    | none => rw [hie] at this; cases this
    | some ie =>
      simp only [hu, hz, hie]
      have hq : placeOf P t = fun i => some (i * ie.size, ie.size) := by simp [placeOf, hu, hie]
      rw [hq] at h
      exact h
  · cases ha
theorem solidL_append {α : Type} : ∀ (xs ys : List V) (k : Rd α), solidL (xs ++ ys) k = solidL xs (solidL ys k)
  | [], _, _ => rfl
  | x :: xs, ys, k => by simp only [List.cons_append, solidL, solidL_append xs ys k]
theorem parts_rel {a : Act} {sl : Nat → V} (hs : SRel P w I β hp a sl) {G : Nat → V} (hg : GlobOk P G w I) (t : TypeId) {α : Type} : ∀ {l : List (Nat × Operand)} {k : Rd α} {r : α} {rd : List Nat},
    (solidL ((l.map fun p => (evO P G t sl p.2).cells).flatten) k).run C hp = some (r, rd) →
    PartsRel P w I β hp (l.map fun p => (p.1, a.eval p.2)) (l.map fun p => (p.1, evO P G t sl p.2)) ∧ ∃ rd', k.run C hp = some (r, rd')
  | [], k, r, rd, h => ⟨.nil, rd, h⟩
  | (i, x) :: l, k, r, rd, h => by
    simp only [List.map_cons, List.flatten_cons, solidL_append] at h
    obtain ⟨e1, e2⟩ := cells_rel (hs.ev hg t x) h
    obtain ⟨_, l1, h⟩ := solidL_run h (vs := (a.eval x).cells.toList) (by simpa using e1) (fun j u y a b => e2 j u y (by simpa using a) b)
    obtain ⟨h1, h2⟩ := parts_rel hs hg t h
    exact ⟨.cons e1 e2 h1, h2⟩
theorem build_op_sim (S : Sim P w I β hp B M w0) {a : Act} {sl : Nat → V} (hs : SRel P w I β hp a sl) {G : Nat → V} (hg : GlobOk P G w I) {t ty : TypeId} {ps : Array (Nat × Operand)} {r : R} {rd : List Nat}
    (h : (Rd.chk (okTy P t && (isAggT P t && placesOk P t)) (solidL ((ps.toList.map fun p => (evO P G ty sl p.2).cells).flatten)
      (optRd (fillCells (placeOf P t) (zeroCells P t) (ps.toList.map fun p => (p.1, evO P G ty sl p.2))) fun cs => .ret ⟨.agg cs, []⟩))).run C hp = some (r, rd)) :
    ValOk P ((Instr.build t (ps.map fun (i, x) => (i, a.eval x))).run P w) w I β hp B M w0 r := by
  obtain ⟨hok, h⟩ := run_chk h
  simp only [Bool.and_eq_true] at hok
  obtain ⟨h1, l, h⟩ := parts_rel hs hg ty h
  cases hf : fillCells (placeOf P t) (zeroCells P t) (ps.toList.map fun p => (p.1, evO P G ty sl p.2)) with
  | none => rw [hf] at h; cases h
  | some cs =>
    rw [hf] at h
    obtain rfl := run_ret' h
    obtain ⟨i, z, hi, hz, h3, h4, h5⟩ := zeroCells_rel (w := w) (I := I) (β := β) (hp := hp) hok.1
    obtain ⟨cells, f1, f2, f3⟩ := fill_sim (placeOf P t) h1 h3 h5 hf
    have hpo := hok.2.2
    refine .same S (v := .agg cells) (build_run hi hz (by simpa using f1) hok.2.1 (fun fs hu => ?_) (fun n e hu => ?_)) (.agg f2 f3)
    · simpa [placesOk, hu] using hpo
    · simpa [placesOk, hu] using hpo
theorem pure_cells (hrel : ∀ id blk, hp id = some blk → BlkRel P w I β hp (β id) blk) {x : V} {v : Value} {ys : List V} {fr : List (Nat × Blk)} {rd : List Nat} {ts : List TypeId} (hv : VRel P w I β hp v x)
    (h : (pureL P x.cells).run C hp = some ((ys, fr), rd)) (ht : typedAll P ts ys = true) :
    v.cells.size = x.cells.length ∧ ∀ (j : Nat) u y, v.cells.toList[j]? = some u → x.cells[j]? = some y → VRel P w I β hp u y := by
  cases x with
  | agg xs =>
    obtain ⟨cs, rfl, h1, h2⟩ := hv.agg_inv
    exact ⟨h1, fun j u y a b => h2 j u y (by simpa [Value.cells] using a) b⟩
  | _ =>
    simp only [V.cells] at h ⊢
    simp only [pureL] at h
    obtain ⟨⟨y1, u1⟩, l3, l4, hq, h⟩ := run_bnd h
    obtain ⟨q1, q2⟩ := pure1_sim hrel hq hv
    obtain ⟨⟨y2, u2⟩, l5, l6, hq2, h⟩ := run_bnd h
    cases hq2
    have := run_ret' h
    cases this
    obtain ⟨tl, tg⟩ := typedAll_get ht
    have hty := tg 0 _ y1 (List.getElem?_eq_getElem (by rw [tl]; exact Nat.one_pos)) rfl
    have hpl := q2 (IFrz P w I β hp u1) (fun _ h => .inl h) (fun p hp b h => .inr ⟨p, hp, h⟩)
    have ho := hpl.pure hty
    have hvcell : v.cells = #[v] := by cases ho <;> rfl
    rw [hvcell]
    refine ⟨rfl, fun j u y hu hy => ?_⟩
    cases j with
    | zero => simp at hu hy; subst hu; subst hy; exact hv
    | succ j => simp at hy
def ElemsRel (P : Program) (w : World) (I : Nat → Prop) (e : TypeId) (cells : Array Value) (es : List V) : Prop :=
  cells.size = es.length * P.cellsOf e ∧ ∀ (i j : Nat) (x : V) (t' : TypeId), es[i]? = some x → (etys P e)[j]? = some t' → j < P.cellsOf e → ∃ v, cells[i * P.cellsOf e + j]? = some v ∧ Pure P w I t' v (epart P e x j)
theorem ElemsRel.set {e : TypeId} {cells : Array Value} {es ys : List V} {i : Nat} {v : Value} (h : ElemsRel P w I e cells es) (hi : i < es.length) (hv : v.cells.size = P.cellsOf e) (hy : ys.length = P.cellsOf e)
    (hr : ∀ (j : Nat) (t' : TypeId) (u : Value) (y : V), (etys P e)[j]? = some t' → v.cells[j]? = some u → ys[j]? = some y → Pure P w I t' u y) :
    ElemsRel P w I e (v.cells.zipIdx.foldl (fun cs (p : Value × Nat) => cs.setIfInBounds (i * P.cellsOf e + p.2) p.1) cells) (es.set i (mkElem P e ys)) := by
  obtain ⟨h1, h2⟩ := h
  have hb : i * P.cellsOf e + v.cells.size ≤ cells.size := by
    have : (i + 1) * P.cellsOf e ≤ es.length * P.cellsOf e := Nat.mul_le_mul_right _ hi
    rw [Nat.add_mul] at this
    omega
  refine ⟨by rw [fill_one_size, List.length_set, h1], fun i' j x t' hx ht hj => ?_⟩
  rw [fill_one hb]
  rw [List.getElem?_set] at hx
  by_cases hii : i = i'
  · subst hii
    rw [if_pos rfl, if_pos hi] at hx
    cases hx
    rw [if_neg (by omega), if_pos (by omega), show i * P.cellsOf e + j - i * P.cellsOf e = j by omega]
    have h3 : j < v.cells.size := by omega
    have h4 : j < ys.length := by omega
    refine ⟨v.cells[j], Array.getElem?_eq_getElem h3, ?_⟩
    rw [epart_mkElem (List.getElem?_eq_getElem h4) ht]
    exact hr j t' _ _ ht (Array.getElem?_eq_getElem h3) (List.getElem?_eq_getElem h4)
  · rw [if_neg hii] at hx
    have hne : i' * P.cellsOf e + j < i * P.cellsOf e ∨ i * P.cellsOf e + v.cells.size ≤ i' * P.cellsOf e + j := by
      rcases Nat.lt_or_ge i' i with hlt | hge
      · left
        have : (i' + 1) * P.cellsOf e ≤ i * P.cellsOf e := Nat.mul_le_mul_right _ hlt
        rw [Nat.add_mul] at this
        omega
      · right
        have : (i + 1) * P.cellsOf e ≤ i' * P.cellsOf e := Nat.mul_le_mul_right _ (by omega)
        rw [Nat.add_mul] at this
        omega
    rcases hne with hne | hne
    · rw [if_pos hne]; exact h2 i' j x t' hx ht hj
    · rw [if_neg (by omega), if_neg (by omega)]; exact h2 i' j x t' hx ht hj
theorem const_pure {t' : TypeId} {v : Value} (hty : typed1 P t' (plain0 (constV P t' v)) = true) : Pure P w I t' v (plain0 (constV P t' v)) := by
  have hc := VRel.const (P := P) (w := w) (I := I) (β := fun _ => none) (hp := fun _ => none) t' v
  cases hcv : constV P t' v <;> rw [hcv] at hty hc <;> simp only [plain0] at hty ⊢
  case int k n => rw [hc.int_inv]; exact Plain.pure (v := .int k n) (y := .int k n) rfl hty
  case bool b => rw [hc.bool_inv]; exact Plain.pure (v := .bool b) (y := .bool b) rfl hty
  case str l => obtain ⟨s, e1, e2⟩ := hc.str_inv; rw [e1]; exact Plain.pure (v := .string s) (y := .str l) ⟨s, rfl, e2⟩ hty
  case nilS e' =>
    cases hc
    exact Plain.pure (y := .list e' []) (PList.any fun _ => rfl) hty
  case list e' es =>
    cases hc with
    | list hp => exact Plain.pure (y := .list e' es) hp hty
  all_goals (unfold typed1 at hty; split at hty <;> simp_all)
theorem zero_pure {e : TypeId} (h : okElem P e = true) : ∃ i z, P.info? e = some i ∧ i.zero = some z ∧ i.size = P.cellsOf e ∧ z.cells.size = P.cellsOf e ∧
    ∀ (j : Nat) (t' : TypeId), (etys P e)[j]? = some t' → j < P.cellsOf e → ∃ v, z.cells[j]? = some v ∧ Pure P w I t' v (epart P e (mkElem P e (zeroElem P e)) j) := by
  unfold okElem at h
  simp only [Bool.and_eq_true] at h
  obtain ⟨i, z, h1, h2, h3, h4, h5⟩ := okTy_zero h.1
  refine ⟨i, z, h1, h2, h3, h4, fun j t' ht hj => ?_⟩
  obtain ⟨tl, tg⟩ := typedAll_get h.2
  have hjl : j < (zeroElem P e).length := by rw [← tl, (okTy_len h.1).1]; exact hj
  have hz := List.getElem?_eq_getElem hjl
  have hty := tg j t' _ (by rw [← etys_flat]; exact ht) hz
  refine ⟨z.cells[j], Array.getElem?_eq_getElem (by omega), ?_⟩
  rw [epart_mkElem hz ht]
  have hzc : (zeroElem P e)[j] = plain0 (constV P t' z.cells[j]) := by
    have : (zeroElem P e)[j]? = ((zeroCells P e)[j]?).map plain0 := by simp [zeroElem]
    rw [hz] at this
    cases hc : (zeroCells P e)[j]? with
    | none => rw [hc] at this; cases this
    | some y =>
      rw [hc] at this
      simp only [Option.map_some, Option.some.injEq] at this
      rw [h5] at hc
      obtain ⟨t2, v2, a1, a2, rfl⟩ := constCells_get hc
      have ht2 : t2 = t' := by
        rw [← etys_flat, ht] at a1; exact (Option.some.inj a1).symm
      have hv2 : v2 = z.cells[j] := by
        have hjz : j < z.cells.size := by omega
        have : z.cells.toList[j]? = some z.cells[j] := by simp [hjz]
        rw [this] at a2; exact (Option.some.inj a2).symm
      rw [this, ht2, hv2]
  rw [hzc] at hty ⊢
  exact const_pure hty
end
end Go.AM
namespace Go.AM
section
variable {P : Program} {w w' : World} {I I' : Nat → Prop} {β β' : Nat → Option Nat} {hp hp' : Nat → Option Blk} {C : CallF} {B : Nat} {M : Nat → Prop} {w0 : Start}
theorem newArr_sim (S : Sim P w I β hp B M w0) {nb cap : Nat} {e : TypeId} {es : List V} {C0 : Array Value} (hok : okTy P e = true) (hn : hp nb = none) (hs : C0.size = cap * P.cellsOf e) (hl : es.length ≤ cap) (hm : cap ≤ maxLen)
    (hx : ∀ (i j : Nat) (x : V) (t' : TypeId), es[i]? = some x → (etys P e)[j]? = some t' → j < P.cellsOf e → ∃ v, C0[i * P.cellsOf e + j]? = some v ∧ Pure P w I t' v (epart P e x j)) :
    Le P w I β hp (w.alloc (.cells C0 e)) I (setN β nb (some w.heap.size)) (setN hp nb (some (.arr e es false))) ∧ Sim P (w.alloc (.cells C0 e)) I (setN β nb (some w.heap.size)) (setN hp nb (some (.arr e es false))) B M w0 ∧
    VRel P (w.alloc (.cells C0 e)) I (setN β nb (some w.heap.size)) (setN hp nb (some (.arr e es false))) (.slice (some ⟨w.heap.size, 0, none⟩) es.length cap) (.whole e nb) := by
  obtain ⟨h1, h2⟩ := alloc_sim S (blk := .arr e es false) (c := C0) (T := e) hn (fun b' h => (Option.some.inj (h.flat (by simp))).symm) (fun hle hnew hnI => .arr hok rfl hnew (by rw [hs]; exact Nat.mul_le_mul_right _ hl) (fun h => by cases h) (fun _ => hnI) fun i j x t' a b c => by
    obtain ⟨v, hv, hp⟩ := hx i j x t' a b c
    exact ⟨v, hv, hp.mono hle.imm hle.keep⟩)
  refine ⟨h1, h2, .whole (setN_same _ _ _) (setN_same _ _ _) ?_ hl hm⟩
  rw [bsize_cells (heap_alloc_new w (.cells C0 e)), hs]
theorem At.only {b b' : Nat} {e e' : TypeId} {es es' : List V} {q : Path} (hz : ∀ (i j : Nat) x t' e1 l, es[i]? = some x → (etys P e)[j]? = some t' → epart P e x j = .list e1 l → l = [])
    (h : At P w b e es q b' e' es') : q = [] ∧ b' = b ∧ e' = e ∧ es' = es := by
  cases h with
  | here => exact ⟨rfl, rfl, rfl, rfl⟩
  | step h1 h2 h3 h4 h5 h6 => have := hz _ _ _ _ _ _ h2 h3 h5; subst this; simp at h6
theorem CellOk.of_pure {t : TypeId} {v : Value} {x : V} (h : Pure P w I t v x) (hz : ∀ e1 l, x = .list e1 l → l = []) : CellOk P w I t v x := by
  cases h with
  | int h => exact .scal (by unfold scalarT; rw [h]) (.int h)
  | bool h => exact .scal (by unfold scalarT; rw [h]) (.bool h)
  | str h hl => exact .scal (by unfold scalarT; rw [h]) (.str h hl)
  | nil h => exact .emp h fun _ => rfl
  | emp h => exact .emp h fun h => by cases h
  | list g hu hl _ _ _ _ =>
    have := hz _ _ rfl
    subst this
    simp at hl
    subst hl
    exact .emp hu fun h => by cases h
theorem newNest_sim (S : Sim P w I β hp B M w0) {nb cap : Nat} {e : TypeId} {es : List V} {C0 : Array Value} (hok : okTy P e = true) (hn : hp nb = none) (hs : C0.size = cap * P.cellsOf e) (hl : es.length ≤ cap) (hm : cap ≤ maxLen)
    (hx : ∀ (i j : Nat) (x : V) (t' : TypeId), es[i]? = some x → (etys P e)[j]? = some t' → j < P.cellsOf e → ∃ v, C0[i * P.cellsOf e + j]? = some v ∧ Pure P w I t' v (epart P e x j))
    (hz : ∀ (i j : Nat) x t' e1 l, es[i]? = some x → (etys P e)[j]? = some t' → epart P e x j = .list e1 l → l = []) :
    Le P w I β hp (w.alloc (.cells C0 e)) I (setN β nb (some w.heap.size)) (setN hp nb (some (.nest e es [0, 0, 0]))) ∧ Sim P (w.alloc (.cells C0 e)) I (setN β nb (some w.heap.size)) (setN hp nb (some (.nest e es [0, 0, 0]))) B M w0 ∧
    VRel P (w.alloc (.cells C0 e)) I (setN β nb (some w.heap.size)) (setN hp nb (some (.nest e es [0, 0, 0]))) (.slice (some ⟨w.heap.size, 0, none⟩) es.length cap) (.whole e nb) := by
  obtain ⟨h1, h2⟩ := alloc_sim S (blk := .nest e es [0, 0, 0]) (c := C0) (T := e) hn (fun b' h => by
      cases h with
      | root _ h => exact (Option.some.inj h).symm
      | row h ha => cases h; exact (At.only hz ha).2.1)
    (fun hle hnew hnI => .nest rfl (fun q b' e' es' ha => by
      obtain ⟨rfl, rfl, rfl, rfl⟩ := At.only hz ha
      refine ⟨hok, ⟨C0, hnew, by rw [hs]; exact Nat.mul_le_mul_right _ hl, fun i j x t' a b c => ?_⟩, hnI⟩
      obtain ⟨v, hv, hp⟩ := hx i j x t' a b c
      exact ⟨v, hv, .of_pure (hp.mono hle.imm hle.keep) fun e1 l h => hz i j x t' e1 l a b h⟩)
      fun q1 q2 b' e1 es1 e2 es2 a1 a2 => (At.only hz a1).1.trans (At.only hz a2).1.symm)
  refine ⟨h1, h2, .wholeN (setN_same _ _ _) (setN_same _ _ _) ?_ hl hm⟩
  rw [bsize_cells (heap_alloc_new w (.cells C0 e)), hs]
theorem partsPure_sim (hrel : ∀ id blk, hp id = some blk → BlkRel P w I β hp (β id) blk) {a : Act} {sl : Nat → V} (hs : SRel P w I β hp a sl) {G : Nat → V} (hg : GlobOk P G w I) {e : TypeId} {len : Nat} : ∀ {l : List (Nat × Operand)} {ps : List (Nat × V)} {upd : List (Nat × Blk)} {rd : List Nat},
    (partsPure P e len (l.map fun p => (p.1, evO P G e sl p.2))).run C hp = some ((ps, upd), rd) → okTy P e = true → (∀ p ∈ upd, Frz hp p) ∧ ∀ I' : Nat → Prop, (∀ b, I b → I' b) → (∀ p ∈ upd, ∀ b, Held P w β hp p.1 b → I' b) →
      ∀ (cells : Array Value) (es : List V), es.length = len → ElemsRel P w I' e cells es → ∃ cells', Instr.fill (fun i => some (i * P.cellsOf e, P.cellsOf e)) cells (l.map fun p => (p.1, a.eval p.2)) = some cells' ∧ ElemsRel P w I' e cells' (setElems es ps) ∧ (setElems es ps).length = len
  | [], ps, upd, rd, h, _ => by
    cases h
    exact ⟨by simp, fun I' _ _ cells es hl he => ⟨cells, by simp [Instr.fill], he, hl⟩⟩
  | (i, x) :: l, ps, upd, rd, h, hok => by
    simp only [List.map_cons, partsPure] at h
    obtain ⟨⟨ys, u1⟩, l1, l2, h1, h⟩ := run_bnd h
    obtain ⟨hc, h⟩ := run_chk h
    obtain ⟨⟨ps', u2⟩, l3, l4, h2, h⟩ := run_bnd h
    have := run_ret' h
    cases this
    simp only [Bool.and_eq_true, Nat.blt_eq] at hc
    obtain ⟨hi, hty⟩ := hc
    obtain ⟨tl, tg⟩ := typedAll_get hty
    have hvr := hs.ev hg e x
    obtain ⟨v1, v2⟩ := pure_cells hrel hvr h1 hty
    obtain ⟨k1, k2, k3⟩ := pureL_sim hrel h1 (vs := (a.eval x).cells.toList) (by simpa using v1) v2
    obtain ⟨m1, m2⟩ := partsPure_sim hrel hs hg h2 hok
    refine ⟨fun p hp => ?_, fun I' i1 i2 cells es hl he => ?_⟩
    · rcases List.mem_append.1 hp with h | h
      · exact k2 p h
      · exact m1 p h
    · have hpl := k3 I' i1 (fun p hp => i2 p (List.mem_append.2 (.inl hp)))
      have hsz := (okTy_len hok).1
      have hyl : ys.length = P.cellsOf e := by rw [← tl, hsz]
      have hvs : (a.eval x).cells.size = P.cellsOf e := by rw [v1, ← k1, hyl]
      have he' := he.set (i := i) (ys := ys) (by omega) hvs hyl (fun j t' u y ht hu hy => by
        exact (hpl j u y (by simpa using hu) hy).pure (tg j t' y (by rw [← etys_flat]; exact ht) hy))
      obtain ⟨cells', f1, f2, f3⟩ := m2 I' i1 (fun p hp => i2 p (List.mem_append.2 (.inr hp))) _ (es.set i (mkElem P e ys)) (by simpa using hl) he'
      refine ⟨cells', ?_, f2, f3⟩
      have hb : i * P.cellsOf e + P.cellsOf e ≤ cells.size := by
        rw [he.1, hl]
        have : (i + 1) * P.cellsOf e ≤ len * P.cellsOf e := Nat.mul_le_mul_right _ hi
        rw [Nat.add_mul] at this
        omega
      simp only [List.map_cons, Instr.fill]
      rw [if_neg (by simp; omega)]
      exact f1
theorem zeros_get {z : Array Value} {n k : Nat} (hk : k < n) (hz : 0 < z.size) : ((Array.range n).map (z[· % z.size]!))[k]? = z[k % z.size]? := by
  have hm : k % z.size < z.size := Nat.mod_lt _ hz
  simp [hk, hm]
theorem zeros_rel {e : TypeId} (h : okElem P e = true) {i : TypeInfo} {z : Value} (hi : P.info? e = some i) (hz : i.zero = some z) (n m : Nat) (hnm : n ≤ m) :
    ∀ (k j : Nat) (x : V) (t' : TypeId), (List.replicate n (mkElem P e (zeroElem P e)))[k]? = some x → (etys P e)[j]? = some t' → j < P.cellsOf e →
      ∃ v, ((Array.range (m * P.cellsOf e)).map (z.cells[· % z.cells.size]!))[k * P.cellsOf e + j]? = some v ∧ Pure P w I t' v (epart P e x j) := by
  intro k j x t' hx ht hj
  obtain ⟨i2, z2, h1, h2, h3, h4, h5⟩ := zero_pure (w := w) (I := I) h
  rw [hi] at h1; cases h1
  rw [hz] at h2; cases h2
  rw [List.getElem?_replicate] at hx
  split at hx
  · rename_i hk
    cases hx
    obtain ⟨v, hv, hp⟩ := h5 j t' ht hj
    refine ⟨v, ?_, hp⟩
    have hb : k * P.cellsOf e + j < m * P.cellsOf e := by
      have : (k + 1) * P.cellsOf e ≤ m * P.cellsOf e := Nat.mul_le_mul_right _ (by omega)
      rw [Nat.add_mul] at this
      omega
    rw [zeros_get hb (by omega), h4, show (k * P.cellsOf e + j) % P.cellsOf e = j by rw [Nat.mul_comm, Nat.mul_add_mod]; exact Nat.mod_eq_of_lt hj]
    exact hv
  · cases hx
theorem run_buildSliceAny {P : Program} (w : World) (t e : TypeId) (len : Nat) (parts : Array (Nat × Value)) (cells : Array Value) (ie : TypeInfo) (z : Value)
    (hu : P.underlying t = some (.slice e)) (hie : P.info? e = some ie) (hz : ie.zero = some z) (hsmall : ¬ len * ie.size > 2 ^ 24)
    (h : Instr.fill (fun i => some (i * ie.size, ie.size)) ((Array.range (len * ie.size)).map (z.cells[· % z.cells.size]!)) parts.toList = some cells) :
    (Instr.buildSlice t len parts).run P w = .ok (.slice (some ⟨w.heap.size, 0, none⟩) len len) (w.alloc (.cells cells e)) := by
  by_cases hnm : len * ie.size = 0
  · have h0 : ∀ g : Nat → Value, (Array.range (len * ie.size)).map g = #[] := by intro g; exact Array.eq_empty_of_size_eq_zero (by simp [hnm])
    have hp : ∀ (u : Array Value), (Pure.pure u : Sem (Array Value)).run P w = .ok u w := fun _ => rfl
    rw [h0] at h
    simp only [Instr.buildSlice, Sem.run_bind, run_underlying hu, Result.andThen_ok, sizeOf, typeInfo, hie]
    have h1 : (Array.range (len * ie.size)).map (fun _ : Nat => (default : Value)) = #[] := h0 _
    have hs : ¬ 16777216 < len * ie.size := by omega
    simp [hie, hs, hnm]
    simp only [hnm] at h1
    simp [h1, h, newRow]
  · exact run_buildSlice w t e len parts cells ie z hu hie hz hsmall hnm h
theorem buildSlice_op_sim (S : Sim P w I β hp B M w0) {a : Act} {sl : Nat → V} (hs : SRel P w I β hp a sl) {G : Nat → V} (hg : GlobOk P G w I) {t e : TypeId} {len nb : Nat} {ps : Array (Nat × Operand)} {r : R} {rd : List Nat} (hu : P.underlying t = some (.slice e))
    (h : (Rd.chk (okElem P e && Nat.ble (len * P.cellsOf e) (2 ^ 24)) ((partsPure P e len (ps.toList.map fun p => (p.1, evO P G e sl p.2))).bind fun r =>
        newRd nb (.arr e (setElems (List.replicate len (mkElem P e (zeroElem P e))) r.1) false) (.whole e nb) r.2)).run C hp = some (r, rd)) :
    ValOk P ((Instr.buildSlice t len (ps.map fun (i, x) => (i, a.eval x))).run P w) w I β hp B M w0 r := by
  obtain ⟨hc, h⟩ := run_chk h
  simp only [Bool.and_eq_true, Nat.ble_eq] at hc
  obtain ⟨hel, hl1⟩ := hc
  have hok : okTy P e = true := by
    unfold okElem at hel; simp only [Bool.and_eq_true] at hel; exact hel.1
  obtain ⟨⟨pv, upd⟩, l1, l2, h1, h⟩ := run_bnd h
  obtain ⟨hn, rfl⟩ := newRd_run h
  obtain ⟨m1, m2⟩ := partsPure_sim S.h.rel hs hg h1 hok
  obtain ⟨hle1, S1⟩ := freeze_sim S m1
  obtain ⟨i, z, hi, hz, h3, h4, _⟩ := zero_pure (w := w) (I := I) hel
  have hpos := (okTy_len hok).2
  have h0 : ElemsRel P w (IFrz P w I β hp upd) e ((Array.range (len * P.cellsOf e)).map (z.cells[· % z.cells.size]!)) (List.replicate len (mkElem P e (zeroElem P e))) :=
    ⟨by simp, zeros_rel hel hi hz len len (Nat.le_refl _)⟩
  obtain ⟨cells, f1, f2, f3⟩ := m2 (IFrz P w I β hp upd) (fun _ h => .inl h) (fun p hp b h => .inr ⟨p, hp, h⟩) _ _ (by simp) h0
  have hn1 : updH hp upd nb = none := by
    rcases updH_of (hp := hp) (l := upd) (id := nb) with h | ⟨b', hm, _⟩
    · exact h.trans hn
    · obtain ⟨e1, es1, _, h5⟩ := m1 _ hm
      simp only [hn] at h5
      rcases h5 with ⟨_, h5⟩ | ⟨_, h5⟩ <;> cases h5
  have hmx : len ≤ maxLen := by
    have : len * 1 ≤ len * P.cellsOf e := Nat.mul_le_mul_left _ hpos
    simp only [maxLen]
    omega
  obtain ⟨n1, n2, n3⟩ := newArr_sim S1 (cap := len) hok hn1 (by rw [f2.1, f3]) (by rw [f3]; exact Nat.le_refl _) hmx f2.2
  have hrun := run_buildSliceAny w t e len (ps.map fun (i, x) => (i, a.eval x)) cells i z hu hi hz (by rw [h3]; omega) (by rw [h3]; simpa using f1)
  refine ⟨_, _, _, _, hrun, hle1.trans n1, n2, ?_⟩
  rw [f3] at n3
  exact n3
theorem makeSlice_op_sim (S : Sim P w I β hp B M w0) {t e : TypeId} {nb : Nat} {kl kc : IntKind} {n m : Int} {r : R} {rd : List Nat} (hu : P.underlying t = some (.slice e))
    (h : (Rd.chk (okElem P e && (decide (0 ≤ n) && (decide (n ≤ m) && Nat.ble (m.toNat * P.bytesOf e) maxBytes)))
        (newRd nb (.arr e (List.replicate n.toNat (mkElem P e (zeroElem P e))) false) (.whole e nb) [])).run C hp = some (r, rd)) :
    ValOk P ((Instr.makeSlice t (.int kl n) (.int kc m)).run P w) w I β hp B M w0 r := by
  obtain ⟨hc, h⟩ := run_chk h
  simp only [Bool.and_eq_true, Nat.ble_eq, decide_eq_true_eq] at hc
  obtain ⟨hel, h0, hnm, hby⟩ := hc
  have hok : okTy P e = true := by
    unfold okElem at hel; simp only [Bool.and_eq_true] at hel; exact hel.1
  obtain ⟨hn, rfl⟩ := newRd_run h
  obtain ⟨i, z, hi, hz, h3, h4, _⟩ := zero_pure (w := w) (I := I) hel
  have hbi : P.bytesOf e = i.bytes := by simp [Program.bytesOf, hi]
  have hm63 : m ≤ 9223372036854775807 := by
    have h1 : m.toNat * 1 ≤ m.toNat * P.bytesOf e := Nat.mul_le_mul_left _ (okTy_bytes hok)
    simp only [maxBytes] at hby
    omega
  have hrun := run_make (P := P) w t e i z hu hi hz kl kc n m h0 hnm (by
    rw [hbi] at hby
    simp only [maxBytes] at hby
    have : (i.bytes : Int) * m = ((m.toNat * i.bytes : Nat) : Int) := by
      rw [Int.natCast_mul, Int.toNat_of_nonneg (by omega), Int.mul_comm]
    rw [this]
    omega) hm63
  have hlen : (List.replicate n.toNat (mkElem P e (zeroElem P e))).length = n.toNat := by simp
  obtain ⟨n1, n2, n3⟩ := newArr_sim S (cap := m.toNat) (es := List.replicate n.toNat (mkElem P e (zeroElem P e))) (C0 := madeCells z.cells (m.toNat * i.size)) hok hn (by rw [size_madeCells, h3]) (by rw [hlen]; omega) (by simp only [maxLen]; omega)
    (by rw [h3]; exact zeros_rel hel hi hz n.toNat m.toNat (by omega))
  refine ⟨_, _, _, _, hrun, n1, n2, ?_⟩
  rw [hlen] at n3
  exact n3
theorem noRows_nth : ∀ {l : List V} {j : Nat} {e1 : TypeId} {k : List V}, noRows l = true → V.nth l j = .list e1 k → k = []
  | [], j, e1, k, _, h => by cases j <;> cases h
  | x :: l, 0, e1, k, hn, h => by
    simp only [V.nth] at h
    subst h
    cases k with
    | nil => rfl
    | cons _ _ => cases hn
  | x :: l, j + 1, e1, k, hn, h => by
    refine noRows_nth (l := l) (j := j) ?_ h
    cases x with
    | list e2 k2 =>
      cases k2 with
      | nil => exact hn
      | cons _ _ => cases hn
    | _ => exact hn
theorem noRows_elem {e : TypeId} {n : Nat} (hok : okTy P e = true) (h : noRows (zeroElem P e) = true) :
    ∀ (i j : Nat) x t' e1 l, (List.replicate n (mkElem P e (zeroElem P e)))[i]? = some x → (etys P e)[j]? = some t' → epart P e x j = .list e1 l → l = [] := by
  intro i j x t' e1 l hx ht hl
  have := List.eq_of_mem_replicate (List.mem_of_getElem? hx)
  subst this
  unfold epart mkElem at hl
  cases ha : isAggT P e with
  | true => rw [ha] at hl; exact noRows_nth h hl
  | false => rw [ha] at hl; exact noRows_nth h hl
theorem makeNest_op_sim (S : Sim P w I β hp B M w0) {t e : TypeId} {nb : Nat} {kl kc : IntKind} {n m : Int} {r : R} {rd : List Nat} (hu : P.underlying t = some (.slice e))
    (h : (Rd.chk (okElem P e && (decide (0 ≤ n) && (decide (n ≤ m) && Nat.ble (m.toNat * P.bytesOf e) maxBytes)))
        (Rd.chk (noRows (zeroElem P e)) (newRd nb (.nest e (List.replicate n.toNat (mkElem P e (zeroElem P e))) [0, 0, 0]) (.whole e nb) []))).run C hp = some (r, rd)) :
    ValOk P ((Instr.makeSlice t (.int kl n) (.int kc m)).run P w) w I β hp B M w0 r := by
  obtain ⟨hc, h⟩ := run_chk h
  simp only [Bool.and_eq_true, Nat.ble_eq, decide_eq_true_eq] at hc
  obtain ⟨hel, h0, hnm, hby⟩ := hc
  have hok : okTy P e = true := by
    unfold okElem at hel; simp only [Bool.and_eq_true] at hel; exact hel.1
  obtain ⟨hnr, h⟩ := run_chk h
  obtain ⟨hn, rfl⟩ := newRd_run h
  obtain ⟨i, z, hi, hz, h3, h4, _⟩ := zero_pure (w := w) (I := I) hel
  have hbi : P.bytesOf e = i.bytes := by simp [Program.bytesOf, hi]
  have hm63 : m ≤ 9223372036854775807 := by
    have h1 : m.toNat * 1 ≤ m.toNat * P.bytesOf e := Nat.mul_le_mul_left _ (okTy_bytes hok)
    simp only [maxBytes] at hby
    omega
  have hrun := run_make (P := P) w t e i z hu hi hz kl kc n m h0 hnm (by
    rw [hbi] at hby
    simp only [maxBytes] at hby
    have : (i.bytes : Int) * m = ((m.toNat * i.bytes : Nat) : Int) := by
      rw [Int.natCast_mul, Int.toNat_of_nonneg (by omega), Int.mul_comm]
    rw [this]
    omega) hm63
  have hlen : (List.replicate n.toNat (mkElem P e (zeroElem P e))).length = n.toNat := by simp
  obtain ⟨n1, n2, n3⟩ := newNest_sim S (cap := m.toNat) (es := List.replicate n.toNat (mkElem P e (zeroElem P e))) (C0 := madeCells z.cells (m.toNat * i.size)) hok hn (by rw [size_madeCells, h3]) (by rw [hlen]; omega) (by simp only [maxLen]; omega)
    (by rw [h3]; exact zeros_rel hel hi hz n.toNat m.toNat (by omega))
    (noRows_elem hok hnr)
  refine ⟨_, _, _, _, hrun, n1, n2, ?_⟩
  rw [hlen] at n3
  exact n3
theorem Pure.one {t : TypeId} {v : Value} {x : V} (h : Pure P w I t v x) : v.oneCell' = true := by cases h <;> rfl
structure Row (P : Program) (w : World) (I : Nat → Prop) (e : TypeId) (v : Value) (xs : List V) (a : Addr) (c : Nat) (news : List Value) : Prop where
  val : v = .slice (some a) xs.length c
  len : news.length = xs.length * P.cellsOf e
  cell : ∀ (j : Nat) u, news[j]? = some u → w.cell? (a.add j) = some u
  el : ∀ (i j : Nat) (x : V) (t' : TypeId), xs[i]? = some x → (etys P e)[j]? = some t' → j < P.cellsOf e → ∃ u, news[i * P.cellsOf e + j]? = some u ∧ Pure P w I t' u (epart P e x j)
theorem Row.one {e : TypeId} {v : Value} {xs : List V} {a : Addr} {c : Nat} {news : List Value} (h : Row P w I e v xs a c news) (hok : okTy P e = true) : ∀ u ∈ news, u.oneCell' = true := by
  intro u hu
  obtain ⟨k, hk⟩ := List.getElem?_of_mem hu
  have hkl := (List.getElem?_eq_some_iff.1 hk).1
  have hpos := (okTy_len hok).2
  rw [h.len] at hkl
  have hi : k / P.cellsOf e < xs.length := Nat.div_lt_of_lt_mul (by rw [Nat.mul_comm]; exact hkl)
  have hj : k % P.cellsOf e < P.cellsOf e := Nat.mod_lt _ hpos
  have hj' : k % P.cellsOf e < (etys P e).length := by rw [okTy_etys hok]; exact hj
  obtain ⟨u', hu', hp⟩ := h.el (k / P.cellsOf e) (k % P.cellsOf e) _ _ (List.getElem?_eq_getElem hi) (List.getElem?_eq_getElem hj') hj
  rw [Nat.div_add_mod'] at hu'
  rw [hk] at hu'
  cases hu'
  exact hp.one
theorem row_of_arr {e : TypeId} {es : List V} {b : Nat} {Ca : Array Value} {off len cap o : Nat} (hh : w.heap[b]? = some (.cells Ca e (0, 0))) (hs : es.length * P.cellsOf e ≤ Ca.size)
    (hx : ∀ (i j : Nat) (x : V) (t' : TypeId), es[i]? = some x → (etys P e)[j]? = some t' → j < P.cellsOf e → ∃ v, Ca[i * P.cellsOf e + j]? = some v ∧ Pure P w I t' v (epart P e x j))
    (hol : off + len ≤ es.length) (ho : 0 < len → o = off * P.cellsOf e) :
    Row P w I e (.slice (some ⟨b, o, none⟩) len cap) ((es.drop off).take len) ⟨b, o, none⟩ cap ((Ca.toList.drop (off * P.cellsOf e)).take (len * P.cellsOf e)) := by
  have hlen : ((es.drop off).take len).length = len := by simp; omega
  have hb : (off + len) * P.cellsOf e ≤ Ca.size := Nat.le_trans (Nat.mul_le_mul_right _ hol) hs
  rw [Nat.add_mul] at hb
  refine ⟨by rw [hlen], by rw [hlen]; simp; omega, fun j u hj => ?_, fun i j x t' hxi ht hj => ?_⟩
  · have hjl := (List.getElem?_eq_some_iff.1 hj).1
    have hjl2 : j < len * P.cellsOf e := by
      rw [List.length_take] at hjl; omega
    have hl0 : 0 < len := by
      rcases Nat.eq_zero_or_pos len with h | h
      · rw [h] at hjl2; simp at hjl2
      · exact h
    rw [List.getElem?_take_of_lt hjl2, List.getElem?_drop] at hj
    rw [add_none, cell?_cells hh, ho hl0]
    simpa using hj
  · have hi : i < len := by rw [← hlen]; exact (List.getElem?_eq_some_iff.1 hxi).1
    rw [List.getElem?_take_of_lt hi, List.getElem?_drop] at hxi
    obtain ⟨u, hu, hp⟩ := hx (off + i) j x t' hxi ht hj
    refine ⟨u, ?_, hp⟩
    have : i * P.cellsOf e + j < len * P.cellsOf e := by
      have : (i + 1) * P.cellsOf e ≤ len * P.cellsOf e := Nat.mul_le_mul_right _ hi
      rw [Nat.add_mul] at this
      omega
    rw [List.getElem?_take_of_lt this, List.getElem?_drop]
    rw [Nat.add_mul] at hu
    rw [← Nat.add_assoc]
    simpa using hu
theorem elems_sim (hrel : ∀ id blk, hp id = some blk → BlkRel P w I β hp (β id) blk) {e : TypeId} {v : Value} {x : V} {k : List V → Rd R} {r : R} {rd : List Nat} (hok : okTy P e = true) (hv : VRel P w I β hp v x)
    (h : (elemsRd e x k).run C hp = some (r, rd)) : ∃ xs, (((∃ a, v = .slice a 0 0) ∧ xs = []) ∨ ∃ a c news, Row P w I e v xs a c news) ∧ ∃ l, (k xs).run C hp = some (r, l) := by
  cases hv with
  | list hp' =>
    obtain ⟨hc, h2⟩ := run_chk h
    clear h
    rw [Nat.beq_eq] at hc
    subst hc
    cases hp' with
    | nil => exact ⟨[], .inl ⟨⟨_, rfl⟩, rfl⟩, rd, h2⟩
    | @emp a cap => exact ⟨[], .inr ⟨a, cap, [], ⟨rfl, by simp, fun j u hj => by simp at hj, fun i j x t' hx _ _ => by simp at hx⟩⟩, rd, h2⟩
    | @list b o len cap es g hl hcap hI hcell hx =>
      refine ⟨_, .inr ⟨⟨b, o, none⟩, cap, (List.range (len * P.cellsOf e)).map fun k => g (k / P.cellsOf e) (k % P.cellsOf e), ⟨by rw [hl], by rw [hl]; simp, fun j u hj => ?_, fun i j x t' hxi ht hj => ?_⟩⟩, rd, h2⟩
      · obtain ⟨hjl, hje⟩ := List.getElem?_eq_some_iff.1 hj
        simp at hjl hje
        have hpos := (okTy_len hok).2
        have hi : j / P.cellsOf e < len := Nat.div_lt_of_lt_mul (by rw [Nat.mul_comm]; exact hjl)
        have hj2 : j % P.cellsOf e < P.cellsOf e := Nat.mod_lt _ hpos
        rw [add_none, ← hje]
        have := hcell (j / P.cellsOf e) (j % P.cellsOf e) hi hj2
        rwa [Nat.div_add_mod'] at this
      · have hi : i < len := by rw [← hl]; exact (List.getElem?_eq_some_iff.1 hxi).1
        have hb : i * P.cellsOf e + j < len * P.cellsOf e := by
          have : (i + 1) * P.cellsOf e ≤ len * P.cellsOf e := Nat.mul_le_mul_right _ hi
          rw [Nat.add_mul] at this
          omega
        refine ⟨g i j, ?_, hx i j x t' hxi ht⟩
        have e1 : (i * P.cellsOf e + j) / P.cellsOf e = i := by
          rw [Nat.mul_comm, Nat.mul_add_div (okTy_len hok).2, Nat.div_eq_of_lt hj, Nat.add_zero]
        have e2 : (i * P.cellsOf e + j) % P.cellsOf e = j := by
          rw [Nat.mul_comm, Nat.mul_add_mod]; exact Nat.mod_eq_of_lt hj
        simp [hb, e1, e2]
  | nilS =>
    obtain ⟨hc, h⟩ := run_chk h
    exact ⟨[], .inl ⟨⟨_, rfl⟩, rfl⟩, rd, h⟩
  | wholeNil hid hb =>
    obtain ⟨l, h⟩ := run_get h
    simp only [hid] at h
    obtain ⟨hc, h⟩ := run_chk h
    exact ⟨[], .inl ⟨⟨_, rfl⟩, rfl⟩, l, h⟩
  | @whole e' id es fz b cap hid hb hsz hcap hm =>
    obtain ⟨l, h⟩ := run_get h
    simp only [hid] at h
    obtain ⟨hc, h2⟩ := run_chk h
    clear h
    simp only [Bool.and_eq_true, Nat.beq_eq] at hc
    obtain ⟨rfl, _⟩ := hc
    have hr := hrel _ _ hid
    cases hr with
    | arrNil hb' => rw [hb'] at hb; cases hb
    | arr hok' hb' hh hs hf hnf hx =>
      rw [hb] at hb'; cases hb'
      have := row_of_arr (cap := cap) (off := 0) (len := es.length) (o := 0) hh hs hx (by omega) (fun _ => by simp)
      exact ⟨es, .inr ⟨_, _, _, by simpa using this⟩, l, h2⟩
  | subNil hid hb =>
    obtain ⟨l, h⟩ := run_get h
    simp only [hid] at h
    obtain ⟨hc, h⟩ := run_chk h
    exact ⟨[], .inl ⟨⟨_, rfl⟩, rfl⟩, l, by simpa using h⟩
  | @sub e' id off len es fz b o cap hid hb hol hcap ho =>
    obtain ⟨l, h⟩ := run_get h
    simp only [hid] at h
    obtain ⟨hc, h2⟩ := run_chk h
    clear h
    simp only [Bool.and_eq_true, Nat.beq_eq] at hc
    obtain ⟨rfl, _⟩ := hc
    have hr := hrel _ _ hid
    cases hr with
    | arrNil hb' => rw [hb'] at hb; cases hb
    | arr hok' hb' hh hs hf hnf hx =>
      rw [hb] at hb'; cases hb'
      exact ⟨_, .inr ⟨_, _, _, row_of_arr (cap := cap) hh hs hx hol ho⟩, l, h2⟩
  | wholeDead hid =>
    obtain ⟨l, h⟩ := run_get h
    simp only [hid] at h
    cases h
  | subDead hid =>
    obtain ⟨l, h⟩ := run_get h
    simp only [hid] at h
    cases h
  | undef => cases h
  | int => cases h
  | bool => cases h
  | str => cases h
  | agg => cases h
  | tup => cases h
  | nilp => cases h
  | fn => cases h
  | pref => cases h
  | ptrDead => cases h
  | ptr => cases h
  | rowPast => cases h
  | atPast => cases h
  | row => cases h
  | elt => cases h
  | wholeN hid =>
    obtain ⟨l, h⟩ := run_get h
    simp only [hid] at h
    cases h
theorem run_append_empty {t ty e : TypeId} {i : TypeInfo} (ht : P.underlying t = some (.slice e)) (hi : P.info? e = some i) (a : Option Addr) (n cap : Nat) (x : Value) (hx : ∃ a c, x = .slice a 0 c) (hn : n ≤ cap) :
    (Builtin.append_ #[t, t] ty #[.slice a n cap, x]).run P w = .ok (.slice a n cap) w := by
  obtain ⟨a', c, rfl⟩ := hx
  cases a' with
  | none => cases a <;> simp [Builtin.append_, run_underlying ht, sizeOf, typeInfo, hi, Builtin.lenOf, Builtin.firstCells, hn, storeCells]
  | some a' => cases a <;> simp [Builtin.append_, run_underlying ht, sizeOf, typeInfo, hi, Builtin.lenOf, Builtin.firstCells, hn, storeCells, loadCells, loadCellsFrom]
theorem append_elems {e : TypeId} {es xs : List V} {n : Nat} {c : List Value} {news : List Value} (hn : es.length = n)
    (h1 : ∀ (i j : Nat) (x : V) (t' : TypeId), es[i]? = some x → (etys P e)[j]? = some t' → j < P.cellsOf e → ∃ v, c[i * P.cellsOf e + j]? = some v ∧ Pure P w I t' v (epart P e x j))
    (h2 : ∀ (i j : Nat) (x : V) (t' : TypeId), xs[i]? = some x → (etys P e)[j]? = some t' → j < P.cellsOf e → ∃ v, news[i * P.cellsOf e + j]? = some v ∧ Pure P w I t' v (epart P e x j))
    (hb : n * P.cellsOf e ≤ c.length) (rest : List Value) :
    ∀ (i j : Nat) (x : V) (t' : TypeId), (es ++ xs)[i]? = some x → (etys P e)[j]? = some t' → j < P.cellsOf e → ∃ v, (c.take (n * P.cellsOf e) ++ news ++ rest)[i * P.cellsOf e + j]? = some v ∧ Pure P w I t' v (epart P e x j) := by
  intro i j x t' hx ht hj
  have hl : (c.take (n * P.cellsOf e)).length = n * P.cellsOf e := by simp; omega
  by_cases hi : i < n
  · rw [List.getElem?_append_left (by omega)] at hx
    obtain ⟨v, hv, hp⟩ := h1 i j x t' hx ht hj
    have : i * P.cellsOf e + j < n * P.cellsOf e := by
      have : (i + 1) * P.cellsOf e ≤ n * P.cellsOf e := Nat.mul_le_mul_right _ hi
      rw [Nat.add_mul] at this
      omega
    exact ⟨v, by rw [List.append_assoc, List.getElem?_append_left (by omega), List.getElem?_take_of_lt this]; exact hv, hp⟩
  · rw [List.getElem?_append_right (by omega), hn] at hx
    obtain ⟨v, hv, hp⟩ := h2 (i - n) j x t' hx ht hj
    have hi2 : i - n < xs.length := (List.getElem?_eq_some_iff.1 hx).1
    have e1 : i * P.cellsOf e + j - n * P.cellsOf e = (i - n) * P.cellsOf e + j := by
      rw [Nat.sub_mul]
      have : n * P.cellsOf e ≤ i * P.cellsOf e := Nat.mul_le_mul_right _ (by omega)
      omega
    have h3 : (i - n) * P.cellsOf e + j < news.length := (List.getElem?_eq_some_iff.1 hv).1
    refine ⟨v, ?_, hp⟩
    have h4 : n * P.cellsOf e ≤ i * P.cellsOf e + j := by
      have : n * P.cellsOf e ≤ i * P.cellsOf e := Nat.mul_le_mul_right _ (by omega)
      omega
    rw [List.append_assoc, List.getElem?_append_right (by omega), hl, e1, List.getElem?_append_left h3]
    exact hv
theorem Pure.drew {t : TypeId} {v : Value} {x : V} (h : Pure P w I t v x) : Pure P w.drew I t v x := Pure.mono (w := w) (w' := w.drew) (fun _ h => h) (fun _ _ => rfl) h
theorem run_append_cap0 (w : World) (t ty e : TypeId) (i : TypeInfo) (z : Value) (ht : P.underlying t = some (.slice e)) (hi : P.info? e = some i) (hz : i.zero = some z)
    (a0 : Option Addr) (a : Addr) (n c : Nat) (news : List Value) (hl : news.length = n * i.size) (hnews : ∀ j v, news[j]? = some v → w.cell? (a.add j) = some v)
    (h0 : 0 < n) (h63 : (n : Int) ≤ 9223372036854775807) (h48 : n * i.bytes ≤ 281474976710656) :
    (Builtin.append_ #[t, t] ty #[.slice a0 0 0, .slice (some a) n c]).run P w =
      .ok (.slice (some ⟨w.heap.size, 0, none⟩) n (grownCap w n 0 e)) (w.drew.alloc (.cells (news.toArray ++ Builtin.zeroCells z.cells (grownCap w n 0 e - n)) e)) := by
  cases a0 with
  | none => exact run_append_nil w t ty e i z ht hi hz a n c news hl hnews h0 h63 h48
  | some b =>
    have := run_append_grow (P := P) w t ty e i z ht hi hz b 0 0 [] (by simp) (by simp) a n c news hl hnews (by omega) (by omega) (by rw [Nat.zero_add, nextslicecap_zero h0]; omega)
    simpa using this
theorem append_nil_sim (S : Sim P w I β hp B M w0) {t ty e : TypeId} {nb : Nat} {x : Value} {xs : List V} (hu : P.underlying t = some (.slice e)) (hok : okTy P e = true) (hn : hp nb = none)
    (hby : xs.length * P.bytesOf e ≤ maxBytes) {a0 : Option Addr} (hx : ((∃ a, x = .slice a 0 0) ∧ xs = []) ∨ ∃ a c news, Row P w I e x xs a c news) :
    ∃ v w' β', (Builtin.append_ #[t, t] ty #[.slice a0 0 0, x]).run P w = .ok v w' ∧ Le P w I β hp w' I β' (setN hp nb (some (.arr e xs false))) ∧ Sim P w' I β' (setN hp nb (some (.arr e xs false))) B M w0 ∧
      VRel P w' I β' (setN hp nb (some (.arr e xs false))) v (.whole e nb) := by
  obtain ⟨i, z, hi, hz, h3, h4, _⟩ := okTy_zero hok
  have hbp := okTy_bytes hok
  have hbi : P.bytesOf e = i.bytes := by simp [Program.bytesOf, hi]
  have hlen : xs.length ≤ 2 ^ 45 := by
    have : xs.length * 1 ≤ xs.length * P.bytesOf e := Nat.mul_le_mul_left _ hbp
    simp only [maxBytes] at hby
    omega
  have empty : xs = [] → (∃ a c, x = .slice a 0 c) → ∃ v w' β', (Builtin.append_ #[t, t] ty #[.slice a0 0 0, x]).run P w = .ok v w' ∧ Le P w I β hp w' I β' (setN hp nb (some (.arr e xs false))) ∧ Sim P w' I β' (setN hp nb (some (.arr e xs false))) B M w0 ∧
      VRel P w' I β' (setN hp nb (some (.arr e xs false))) v (.whole e nb) := by
    intro hxs hxx
    subst hxs
    obtain ⟨a1, a2⟩ := adoptNil_sim S e hn
    exact ⟨_, _, _, run_append_empty hu hi a0 0 0 x hxx (Nat.le_refl _), a1, a2, .wholeNil (setN_same _ _ _) (setN_same _ _ _)⟩
  rcases hx with ⟨⟨_, rfl⟩, rfl⟩ | ⟨a, c, news, hr⟩
  · exact empty rfl ⟨_, _, rfl⟩
  · by_cases h0 : xs.length = 0
    · have hxs : xs = [] := List.eq_nil_of_length_eq_zero h0
      refine empty hxs ⟨some a, c, ?_⟩
      rw [hr.val, h0]
    · have hrun := run_append_cap0 (P := P) w t ty e i z hu hi hz a0 a xs.length c news (by rw [hr.len, h3]) hr.cell (by omega) (by omega) (by rw [← hbi]; simp only [maxBytes] at hby; omega)
      have hge := grownCap_ge w xs.length 0 e
      have hcm : grownCap w xs.length 0 e ≤ maxLen := grownCap_le_maxLen w xs.length 0 e (by simp only [maxLen]; omega)
      obtain ⟨n1, n2, n3⟩ := newArr_sim S.drew (nb := nb) (cap := grownCap w xs.length 0 e) (es := xs) (C0 := news.toArray ++ Builtin.zeroCells z.cells (grownCap w xs.length 0 e - xs.length)) hok hn
        (by simp only [Array.size_append, List.size_toArray, size_zeroCells, h4, hr.len, ← Nat.add_mul]; congr 1; omega) hge hcm
        (fun i' j y t' hy ht hj => by
          obtain ⟨u, hu', hp⟩ := hr.el i' j y t' hy ht hj
          have hlt := (List.getElem?_eq_some_iff.1 hu').1
          refine ⟨u, ?_, Pure.drew hp⟩
          rw [Array.getElem?_append_left (by simpa using hlt)]
          simpa using hu')
      rw [hr.val]
      exact ⟨_, _, _, hrun, (Le.drew w I β hp).trans n1, n2, n3⟩
theorem append_sim (S : Sim P w I β hp B M w0) {t ty e : TypeId} {nb : Nat} {s x : Value} {sv xv : V} {r : R} {rd : List Nat} (hu : P.underlying t = some (.slice e)) (hs : VRel P w I β hp s sv) (hx : VRel P w I β hp x xv)
    (h : (appendRd P nb e sv xv).run C hp = some (r, rd)) : ValOk P ((Builtin.append_ #[t, t] ty #[s, x]).run P w) w I β hp B M w0 r := by
  unfold appendRd at h
  obtain ⟨hok, h⟩ := run_chk h
  obtain ⟨xs, hxr, l0, h⟩ := elems_sim S.h.rel hok hx h
  cases sv with
  | nilS e' =>
    obtain ⟨hc, h⟩ := run_chk h
    simp only [Bool.and_eq_true, Nat.beq_eq, Nat.ble_eq] at hc
    obtain ⟨hn, rfl⟩ := newRd_run h
    obtain ⟨a0, rfl⟩ : ∃ a0, s = .slice a0 0 0 := by cases hs; exact ⟨_, rfl⟩
    obtain ⟨v, w', β', a1, a2, a3, a4⟩ := append_nil_sim (ty := ty) S hu hok hn hc.2 hxr
    exact ⟨v, w', I, β', a1, a2, a3, a4⟩
  | whole e' id =>
    obtain ⟨l, h⟩ := run_get h
    cases hid : hp id with
    | none => rw [hid] at h; cases h
    | some blk =>
      rw [hid] at h
      cases blk with
      | dead => cases h
      | var _ => cases h
      | nest _ _ _ => cases h
      | arr e'' es fz =>
        cases fz with
        | true => cases h
        | false =>
          obtain ⟨hc, h⟩ := run_chk h
          obtain ⟨hn, rfl⟩ := newRd_run h
          simp only [Bool.and_eq_true, Nat.beq_eq, Nat.ble_eq] at hc
          obtain ⟨he1, he2, hby⟩ := hc
          subst he1
          subst he2
          have hne : nb ≠ id := fun e => by rw [e, hid] at hn; cases hn
          obtain ⟨k1, k2⟩ := kill_sim S hid
          have hn1 : setN hp id (some Blk.dead) nb = none := by rw [setN_ne _ _ hne]; exact hn
          cases hs with
          | wholeDead hd => rw [hid] at hd; cases hd
          | wholeN hd => rw [hid] at hd; cases hd
          | wholeNil hd hb =>
            rw [hid] at hd
            cases hd
            simp only [List.length_nil, Nat.zero_add] at hby
            have hxr' : ((∃ a, x = .slice a 0 0) ∧ xs = []) ∨ ∃ a c news, Row P w I e x xs a c news := hxr
            obtain ⟨v, w', β', a1, a2, a3, a4⟩ := append_nil_sim (ty := ty) k2 hu hok hn1 hby hxr'
            exact ⟨v, w', I, β', a1, k1.trans a2, a3, a4⟩
          | @whole _ _ es' fz' b cap hd hb hsz hcap hm =>
            rw [hid] at hd
            cases hd
            have hr := S.h.rel id _ hid
            cases hr with
            | arrNil hb' => rw [hb'] at hb; cases hb
            | @arr _ _ _ b' Ca _ hb' hh hsA hf hnf hxA =>
              rw [hb] at hb'
              cases hb'
              obtain ⟨i, z, hi, hz, h3, h4, _⟩ := okTy_zero hok
              have hbp := okTy_bytes hok
              have hbi : P.bytesOf e = i.bytes := by simp [Program.bytesOf, hi]
              have hlen : es.length + xs.length ≤ 2 ^ 45 := by
                have : (es.length + xs.length) * 1 ≤ (es.length + xs.length) * P.bytesOf e := Nat.mul_le_mul_left _ hbp
                simp only [maxBytes] at hby
                omega
              rw [bsize_cells hh] at hsz
              have hfree : ∀ id' blk', setN hp id (some Blk.dead) id' = some blk' → ¬ Owns P w (β id') blk' b := by
                intro id' blk' h1 h2
                by_cases hii : id' = id
                · subst hii; rw [setN_same] at h1; cases h1; exact h2.alive rfl
                · rw [setN_ne _ _ hii] at h1
                  exact hii (S.h.inj id' id blk' _ b h1 hid h2 (.root (by simp) hb))
              have hMb := S.h.own0 id _ b hid (by simp) hb
              have room : ∀ (C' : Array Value) (w' : World) (ys : List V), w'.heap[b]? = some (.cells C' e (0, 0)) → C'.size = Ca.size → (∀ b', b' ≠ b → w'.heap[b']? = w.heap[b']?) → w.heap.size ≤ w'.heap.size → (w'.os = w.os ∧ w'.output = w.output) → ys.length ≤ cap →
                  (∀ (i j : Nat) (y : V) (t' : TypeId), ys[i]? = some y → (etys P e)[j]? = some t' → j < P.cellsOf e → ∃ v, C'[i * P.cellsOf e + j]? = some v ∧ Pure P w I t' v (epart P e y j)) →
                  Le P w I β hp w' I (setN β nb (some b)) (setN (setN hp id (some .dead)) nb (some (.arr e ys false))) ∧ Sim P w' I (setN β nb (some b)) (setN (setN hp id (some .dead)) nb (some (.arr e ys false))) B M w0 ∧
                  VRel P w' I (setN β nb (some b)) (setN (setN hp id (some .dead)) nb (some (.arr e ys false))) (.slice (some ⟨b, 0, none⟩) ys.length cap) (.whole e nb) := by
                intro C' w' ys hC hCs hw' hwz hwio hyl hy
                obtain ⟨a1, a2⟩ := adopt_sim k2 (blk := .arr e ys false) (w' := w') hn1 hfree (hnf rfl) (fun b' h _ => hw' b' h) hwz hwio hMb
                  (fun b' h => (Option.some.inj (h.flat (by simp))).symm) (fun hle => .arr hok rfl hC (by rw [hCs, ← hsz]; exact Nat.mul_le_mul_right _ hyl) (fun h => by cases h) (fun _ => hnf rfl) fun i j y t' a b c => by
                    obtain ⟨v, hv, hp⟩ := hy i j y t' a b c
                    exact ⟨v, hv, hp.mono hle.imm hle.keep⟩)
                refine ⟨k1.trans a1, a2, .whole (setN_same _ _ _) (setN_same _ _ _) ?_ hyl hm⟩
                rw [bsize_cells hC, hCs, hsz]
              have same : xs = [] → (∃ a c, x = .slice a 0 c) → ValOk P ((Builtin.append_ #[t, t] ty #[.slice (some ⟨b, 0, none⟩) es.length cap, x]).run P w) w I β hp B M w0 ⟨.whole e nb, [(nb, .arr e (es ++ xs) false), (id, .dead)]⟩ := by
                intro hxs hxx
                subst hxs
                rw [List.append_nil]
                obtain ⟨a1, a2, a3⟩ := room Ca w es hh rfl (fun _ _ => rfl) (Nat.le_refl _) ⟨rfl, rfl⟩ hcap hxA
                exact ⟨_, _, _, _, run_append_empty hu hi _ _ _ x hxx hcap, a1, a2, a3⟩
              rcases hxr with ⟨⟨_, rfl⟩, rfl⟩ | ⟨a, c, news, hrow⟩
              · exact same rfl ⟨_, _, rfl⟩
              · have h1 := hrow.one hok
                have hb1 : es.length * P.cellsOf e ≤ Ca.toList.length := by simpa using hsA
                by_cases hroom : es.length + xs.length ≤ cap
                · have hfit : es.length * P.cellsOf e + news.length ≤ Ca.size := by rw [hrow.len, ← Nat.add_mul, ← hsz]; exact Nat.mul_le_mul_right _ hroom
                  have hrun := run_append_room (P := P) w t ty e i hu hi b es.length cap Ca hh a xs.length c news (by rw [hrow.len, h3]) hrow.cell h1 hroom (by rw [h3]; exact hfit)
                  rw [h3] at hrun
                  have hel := append_elems (P := P) (w := w) (I := I) (n := es.length) (c := Ca.toList) rfl (fun i j y t' a b c => by
                    obtain ⟨v, hv, hp⟩ := hxA i j y t' a b c
                    exact ⟨v, by simpa using hv, hp⟩) hrow.el hb1 (Ca.toList.drop (es.length * P.cellsOf e + news.length))
                  obtain ⟨a1, a2, a3⟩ := room (Ca.toList.take (es.length * P.cellsOf e) ++ news ++ Ca.toList.drop (es.length * P.cellsOf e + news.length)).toArray (w.setRow b _) (es ++ xs)
                    (setRow_heap w b Ca _ e _ hh) (by simp; omega) (fun b' hb' => setRow_other w b b' _ hb') (by simp) ⟨rfl, rfl⟩ (by simpa using hroom)
                    (fun i j y t' a b c => by
                      obtain ⟨v, hv, hp⟩ := hel i j y t' a b c
                      exact ⟨v, by simpa using hv, hp⟩)
                  rw [hrow.val]
                  rw [List.length_append] at a3
                  exact ⟨_, _, _, _, hrun, a1, a2, a3⟩
                · have hold : ∀ (j : Nat) v, (Ca.toList.take (es.length * P.cellsOf e))[j]? = some v → w.cell? ((⟨b, 0, none⟩ : Addr).add j) = some v := by
                    intro j v hj
                    have hjl := (List.getElem?_eq_some_iff.1 hj).1
                    have hj2 : j < es.length * P.cellsOf e := by rw [List.length_take] at hjl; omega
                    rw [List.getElem?_take_of_lt hj2] at hj
                    rw [add_none, cell?_cells hh, Nat.zero_add]
                    simpa using hj
                  have hrun := run_append_grow (P := P) w t ty e i z hu hi hz ⟨b, 0, none⟩ es.length cap (Ca.toList.take (es.length * P.cellsOf e)) (by rw [h3]; simp; omega) hold a xs.length c news (by rw [hrow.len, h3]) hrow.cell (by omega) (by omega)
                    (growslice_fits (by omega) (by rw [← hbi]; simp only [maxBytes] at hby; omega))
                  have hge := grownCap_ge w (es.length + xs.length) cap e
                  have hcm : grownCap w (es.length + xs.length) cap e ≤ maxLen := grownCap_le_maxLen w _ cap e (by simp only [maxLen]; omega)
                  have hel := append_elems (P := P) (w := w) (I := I) (n := es.length) (c := Ca.toList) rfl (fun i j y t' a b c => by
                    obtain ⟨v, hv, hp⟩ := hxA i j y t' a b c
                    exact ⟨v, by simpa using hv, hp⟩) hrow.el hb1 (Builtin.zeroCells z.cells (grownCap w (es.length + xs.length) cap e - (es.length + xs.length))).toList
                  obtain ⟨n1, n2, n3⟩ := newArr_sim k2.drew (nb := nb) (cap := grownCap w (es.length + xs.length) cap e) (es := es ++ xs)
                    (C0 := (Ca.toList.take (es.length * P.cellsOf e)).toArray ++ news.toArray ++ Builtin.zeroCells z.cells (grownCap w (es.length + xs.length) cap e - (es.length + xs.length))) hok hn1
                    (by
                      have e1 : (Ca.toList.take (es.length * P.cellsOf e)).length = es.length * P.cellsOf e := by simp; omega
                      simp only [Array.size_append, List.size_toArray, size_zeroCells, h4, hrow.len, e1, ← Nat.add_mul]; congr 1; omega) (by simpa using hge) hcm
                    (fun i j y t' a b c => by
                      obtain ⟨v, hv, hp⟩ := hel i j y t' a b c
                      refine ⟨v, ?_, Pure.drew hp⟩
                      rw [← Array.getElem?_toList]
                      simpa using hv)
                  rw [hrow.val]
                  rw [List.length_append] at n3
                  exact ⟨_, _, _, _, hrun, (k1.trans (Le.drew w I β _)).trans n1, n2, n3⟩
  | _ => cases h
end
end Go.AM
namespace Go.AM
section
variable {P : Program} {w w' : World} {I I' : Nat → Prop} {β β' : Nat → Option Nat} {hp hp' : Nat → Option Blk} {C : CallF} {B : Nat} {M : Nat → Prop} {w0 : Start}
theorem field_sim (S : Sim P w I β hp B M w0) {s : TypeId} {f : Nat} {v : Value} {x : V} {r : R} {rd : List Nat} (hv : VRel P w I β hp v x)
    (h : (fieldRd P s f x).run C hp = some (r, rd)) : ValOk P ((Instr.field s v f).run P w) w I β hp B M w0 r := by
  unfold fieldRd fieldOf at h
  split at h
  · rename_i fs hu
    cases hf : fs[f]? with
    | none => rw [hf] at h; cases h
    | some fd =>
      rw [hf] at h
      simp only [optRd] at h
      obtain ⟨ht, h⟩ := run_chk h
      obtain ⟨d, hud⟩ := optTy ht
      obtain ⟨i, hi⟩ := info_of_und hud
      have hsz : i.size = P.cellsOf fd.type := by simp [Program.cellsOf, hi]
      cases x with
      | agg xs =>
        obtain ⟨cs, rfl, h1, h2⟩ := hv.agg_inv
        dsimp only at h
        cases ha : isAggT P fd.type with
        | true =>
          rw [ha] at h
          simp only [cond_true] at h
          obtain ⟨hc, h⟩ := run_chk h
          obtain rfl := run_ret' h
          rw [Nat.ble_eq] at hc
          refine .same S (v := .agg (cs.extract fd.offset (fd.offset + P.cellsOf fd.type))) ?_ (.agg (by simp; omega) fun j u y hu' hy => ?_)
          · simp [Instr.field, run_underlying hu, hf, part, isAgg_run hud, ha, asAgg, sizeOf, typeInfo, hi, hsz]
          · have hj : j < P.cellsOf fd.type := by
              have := (Array.getElem?_eq_some_iff.1 hu').1
              simp at this; omega
            rw [List.getElem?_take_of_lt hj, List.getElem?_drop] at hy
            refine h2 (fd.offset + j) u y ?_ hy
            rw [Array.getElem?_extract] at hu'
            split at hu'
            · exact hu'
            · cases hu'
        | false =>
          rw [ha] at h
          simp only [cond_false] at h
          obtain ⟨y, hy, h⟩ := run_opt h
          obtain rfl := run_ret' h
          have hlt : fd.offset < cs.size := by rw [h1]; exact (List.getElem?_eq_some_iff.1 hy).1
          refine .same S (v := cs[fd.offset]) ?_ (h2 _ _ _ (Array.getElem?_eq_getElem hlt) hy)
          simp [Instr.field, run_underlying hu, hf, part, isAgg_run hud, ha, asAgg, hlt]
      | _ => cases h
  · cases h
theorem extract_sim (S : Sim P w I β hp B M w0) {i : Nat} {v : Value} {xs : List V} {r : R} {rd : List Nat} (hv : VRel P w I β hp v (.tup xs))
    (h : (Rd.opt xs[i]? fun v => .ret ⟨v, []⟩).run C hp = some (r, rd)) : ValOk P ((Instr.extract v i).run P w) w I β hp B M w0 r := by
  obtain ⟨cs, rfl, h1, h2⟩ := hv.tup_inv
  obtain ⟨y, hy, h⟩ := run_opt h
  obtain rfl := run_ret' h
  have hlt : i < cs.size := by rw [h1]; exact (List.getElem?_eq_some_iff.1 hy).1
  exact .same S (v := cs[i]) (by simp [Instr.extract, hlt]) (h2 _ _ _ (Array.getElem?_eq_getElem hlt) hy)
theorem index_sim (S : Sim P w I β hp B M w0) {t : TypeId} {s : ByteArray} {l : List UInt8} {k : IntKind} {i : Int} {r : R} {rd : List Nat} (hu : P.underlying t = some .string) (hs : s.data.toList = l)
    (h : (Rd.opt (bif decide (0 ≤ i) then (l[i.toNat]?).map fun b => V.int .u8 b.toNat else none) fun v => .ret ⟨.int .u8 v.toInt, []⟩).run C hp = some (r, rd)) :
    ValOk P ((Instr.index t (.string s) (.int k i)).run P w) w I β hp B M w0 r := by
  obtain ⟨v, hv, h⟩ := run_opt h
  obtain rfl := run_ret' h
  cases hc : decide (0 ≤ i) with
  | false => rw [hc] at hv; cases hv
  | true =>
    rw [hc] at hv
    simp only [cond_true] at hv
    have h0 : 0 ≤ i := by simpa using hc
    cases hb : l[i.toNat]? with
    | none => rw [hb] at hv; cases hv
    | some b =>
      rw [hb] at hv
      simp only [Option.map_some, Option.some.injEq] at hv
      subst hv
      have hsb : s[i.toNat]? = some b := by
        subst hs
        obtain ⟨hlt, he⟩ := List.getElem?_eq_some_iff.1 hb
        have hlt' : i.toNat < s.size := by simpa using hlt
        rw [getElem?_pos s i.toNat hlt']
        congr 1
      refine .same S (v := .int .u8 b.toNat) ?_ .int
      simp [Instr.index, asIntOf, run_underlying hu, h0, hsb]
theorem minMax_sim (S : Sim P w I β hp B M w0) (mx : Bool) : ∀ {vs : List Value} {xs : List V} {v : Value} {x : V} {r : R} {rd : List Nat}, VRel P w I β hp v x → vs.length = xs.length →
    (∀ (j : Nat) u y, vs[j]? = some u → xs[j]? = some y → VRel P w I β hp u y) → (minMax mx x xs).run C hp = some (r, rd) →
    ValOk P ((vs.foldlM (if mx then Builtin.max2 else Builtin.min2) v).run P w) w I β hp B M w0 r
  | [], [], v, x, r, rd, hv, _, _, h => by
    have : r = ⟨x, []⟩ := by
      cases x <;> (simp only [minMax] at h; exact (run_ret' h).symm)
    subst this
    exact .same S (by simp) hv
  | [], _ :: _, v, x, r, rd, hv, hl, _, h => by simp at hl
  | _ :: _, [], v, x, r, rd, hv, hl, _, h => by simp at hl
  | u :: vs, y :: xs, v, x, r, rd, hv, hl, hx, h => by
    cases x <;> cases y <;> simp only [minMax] at h <;> first | (cases h; done) | skip
    rename_i k a k' b
    obtain ⟨hc, h4⟩ := run_chk h
    clear h
    obtain rfl : k = k' := by simpa using hc
    have hu := hx 0 u _ rfl rfl
    rw [hv.int_inv, hu.int_inv]
    have ih := minMax_sim S mx (vs := vs) (xs := xs) (v := .int k (bif mx then (if b > a then b else a) else (if b < a then b else a))) .int (by simpa using hl)
      (fun j u y h1 h2 => hx (j + 1) u y (by simpa using h1) (by simpa using h2)) h4
    cases mx with
    | true => simpa [List.foldlM_cons, Builtin.max2] using ih
    | false => simpa [List.foldlM_cons, Builtin.min2] using ih
theorem bounds_sim {n cap : Nat} {isS : Bool} {lo hi : Option V} {lov hiv : Option Value} {k : Nat → Nat → Rd R} {r : R} {rd : List Nat} (hn : n ≤ cap)
    (hlo : ∀ x, lo = some x → ∃ v, lov = some v ∧ VRel P w I β hp v x) (hhi : ∀ x, hi = some x → ∃ v, hiv = some v ∧ VRel P w I β hp v x) (hlo0 : lo = none → lov = none) (hhi0 : hi = none → hiv = none)
    (h : (boundsRd n lo hi k).run C hp = some (r, rd)) : ∃ l u, l ≤ u ∧ u ≤ n ∧ (Instr.sliceBounds isS n cap lov hiv none).run P w = .ok (l, u, cap) w ∧ (k l u).run C hp = some (r, rd) := by
  have ok : ∀ (kk : IntKind) (i : Int) (y : Nat) (c : BoundsCode), 0 ≤ i → i ≤ y → (Instr.sliceBound (.int kk i) y c).run P w = .ok i.toNat w := by
    intro kk i y c h1 h2
    simp [Instr.sliceBound, asIntOf, h1, h2]
  unfold boundsRd at h
  cases lo with
  | none =>
    rw [hlo0 rfl]
    cases hi with
    | none =>
      rw [hhi0 rfl]
      exact ⟨0, n, Nat.zero_le _, Nat.le_refl _, by simp [Instr.sliceBounds], h⟩
    | some x =>
      obtain ⟨v, rfl, hv⟩ := hhi x rfl
      cases x <;> simp only at h <;> first | (cases h; done) | skip
      rename_i kk u
      obtain ⟨hc, h⟩ := run_chk h
      simp only [Bool.and_eq_true, decide_eq_true_eq] at hc
      rw [hv.int_inv]
      have := ok kk u cap (if isS then .sliceAcap else .sliceAlen) hc.1 (by omega)
      exact ⟨0, u.toNat, Nat.zero_le _, by omega, by simp [Instr.sliceBounds, this], h⟩
  | some x =>
    obtain ⟨v, rfl, hv⟩ := hlo x rfl
    cases hi with
    | none =>
      rw [hhi0 rfl]
      cases x <;> simp only at h <;> first | (cases h; done) | skip
      rename_i kk l
      obtain ⟨hc, h⟩ := run_chk h
      simp only [Bool.and_eq_true, decide_eq_true_eq] at hc
      rw [hv.int_inv]
      have := ok kk l n .sliceB hc.1 (by omega)
      exact ⟨l.toNat, n, by omega, Nat.le_refl _, by simp [Instr.sliceBounds, this], h⟩
    | some y =>
      obtain ⟨v2, rfl, hv2⟩ := hhi y rfl
      cases x <;> cases y <;> simp only at h <;> first | (cases h; done) | skip
      rename_i kk l kk2 u
      obtain ⟨hc, h⟩ := run_chk h
      simp only [Bool.and_eq_true, decide_eq_true_eq] at hc
      rw [hv.int_inv, hv2.int_inv]
      have h1 := ok kk2 u cap (if isS then .sliceAcap else .sliceAlen) (by omega) (by omega)
      have h2 := ok kk l u.toNat .sliceB hc.1 (by omega)
      exact ⟨l.toNat, u.toNat, by omega, by omega, by simp [Instr.sliceBounds, h1, h2], h⟩
theorem slice_nil_run {a : Option Addr} {t e : TypeId} {i : TypeInfo} (hu : P.underlying t = some (.slice e)) (hi : P.info? e = some i) {lov hiv : Option Value}
    (hb : (Instr.sliceBounds true 0 0 lov hiv none).run P w = .ok (0, 0, 0) w) : (Instr.sliceAt t (.slice a 0 0) lov hiv none).run P w = .ok (.slice a 0 0) w := by
  cases a <;> simp [Instr.sliceAt, Instr.slice, run_underlying hu, hb, sizeOf, typeInfo, hi]
theorem slice_run {t e : TypeId} {i : TypeInfo} {b o len cap l u : Nat} (hu : P.underlying t = some (.slice e)) (hi : P.info? e = some i) {lov hiv : Option Value} (huc : u ≤ cap)
    (hb : (Instr.sliceBounds true len cap lov hiv none).run P w = .ok (l, u, cap) w) : ∃ o', (0 < u - l → o' = o + l * i.size) ∧ (Instr.sliceAt t (.slice (some ⟨b, o, none⟩) len cap) lov hiv none).run P w = .ok (.slice (some ⟨b, o', none⟩) (u - l) (cap - l)) w := by
  by_cases hc : cap = l
  · subst hc
    refine ⟨o, fun h => by omega, ?_⟩
    · simp [Instr.sliceAt, Instr.slice, run_underlying hu, hb, sizeOf, typeInfo, hi]
  · refine ⟨o + l * i.size, fun _ => rfl, ?_⟩
    simp [Instr.sliceAt, Instr.slice, run_underlying hu, hb, sizeOf, typeInfo, hi, hc, add_none]
theorem bytes_sub (s : ByteArray) (l : List UInt8) (h : s.data.toList = l) (a b : Nat) : (s.extract a b).data.toList = (l.drop a).take (b - a) := by
  subst h
  simp [ByteArray.data_extract]
theorem slice_sim (S : Sim P w I β hp B M w0) {t : TypeId} {v : Value} {x : V} {lo hi : Option V} {lov hiv : Option Value} {r : R} {rd : List Nat} (hv : VRel P w I β hp v x)
    (hlo : ∀ x, lo = some x → ∃ v, lov = some v ∧ VRel P w I β hp v x) (hhi : ∀ x, hi = some x → ∃ v, hiv = some v ∧ VRel P w I β hp v x) (hlo0 : lo = none → lov = none) (hhi0 : hi = none → hiv = none)
    (h : (sliceRd P t x lo hi).run C hp = some (r, rd)) : ValOk P ((Instr.sliceAt t v lov hiv none).run P w) w I β hp B M w0 r := by
  unfold sliceRd at h
  cases hu : P.underlying t with
  | none => rw [hu] at h; cases h
  | some d =>
    rw [hu] at h
    cases d <;> simp only at h <;> first | (cases h; done) | skip
    case string =>
      cases x <;> simp only at h <;> first | (cases h; done) | skip
      rename_i l
      obtain ⟨s, rfl, hs⟩ := hv.str_inv
      have hsz : l.length = s.size := by rw [← hs]; simp
      obtain ⟨a, u, h1, h2, h3, h4⟩ := bounds_sim (isS := false) (cap := s.size) (by omega) hlo hhi hlo0 hhi0 h
      obtain rfl := run_ret' h4
      rw [hsz] at h3
      refine .same S (v := .string (s.extract a u)) ?_ (.str (bytes_sub s l hs a u))
      simp [Instr.sliceAt, Instr.slice, run_underlying hu, h3]
    case slice e =>
      cases x <;> simp only at h <;> first | (cases h; done) | skip
      case list e' es =>
        obtain ⟨hc, h⟩ := run_chk h
        simp only [Bool.and_eq_true, Nat.beq_eq] at hc
        obtain ⟨hc1, hok⟩ := hc
        obtain ⟨i, z, hi', _, hsz, _⟩ := okTy_zero hok
        cases hv with
        | list hp' =>
          cases hp' with
          | nil =>
            obtain ⟨a, u, h1, h2, h3, h4⟩ := bounds_sim (n := 0) (isS := true) (cap := 0) (Nat.le_refl _) hlo hhi hlo0 hhi0 h
            obtain rfl := run_ret' h4
            obtain rfl : u = 0 := by omega
            obtain rfl : a = 0 := by omega
            exact .same S (slice_nil_run hu hi' h3) (by simpa using VRel.list PList.nil)
          | @emp ad cap =>
            obtain ⟨a, u, h1, h2, h3, h4⟩ := bounds_sim (n := 0) (isS := true) (cap := cap) (Nat.zero_le _) hlo hhi hlo0 hhi0 h
            obtain rfl := run_ret' h4
            obtain rfl : u = 0 := by omega
            obtain rfl : a = 0 := by omega
            refine .same S (v := .slice (some ad) 0 cap) ?_ (by simpa using VRel.list PList.emp)
            by_cases hc : cap = 0
            · subst hc
              simp [Instr.sliceAt, Instr.slice, run_underlying hu, h3, sizeOf, typeInfo, hi']
            · simp [Instr.sliceAt, Instr.slice, run_underlying hu, h3, sizeOf, typeInfo, hi', hc, Addr.add]
          | @list b o len cap _ g hl hcap hI hcell hx =>
            obtain ⟨a, u, h1, h2, h3, h4⟩ := bounds_sim (isS := true) (cap := cap) (by omega) hlo hhi hlo0 hhi0 h
            obtain rfl := run_ret' h4
            rw [hl] at h2 h3
            obtain ⟨o', ho', hrun⟩ := slice_run (b := b) (o := o) hu hi' (by omega) h3
            have hee : e = e' := hc1
            refine .same S hrun (.list ?_)
            rw [← hee]
            rw [← hee] at hcell hx hI
            have hlen : ((es.drop a).take (u - a)).length = u - a := by simp; omega
            refine .list (fun i j => g (a + i) j) hlen (by omega) (fun h => hI (Nat.lt_of_lt_of_le h (Nat.mul_le_mul_right _ (by omega)))) (fun i j hi hj => ?_) (fun i j y t' hy ht => ?_)
            · have := hcell (a + i) j (by omega) hj
              rw [Nat.add_mul, Nat.add_assoc, ← Nat.add_assoc o] at this
              rw [ho' (by omega), hsz]
              exact this
            · have hi : i < u - a := by rw [← hlen]; exact (List.getElem?_eq_some_iff.1 hy).1
              rw [List.getElem?_take_of_lt hi, List.getElem?_drop] at hy
              exact hx (a + i) j y t' hy ht
      case whole e' id =>
        obtain ⟨l, h⟩ := run_get h
        cases hid : hp id with
        | none => rw [hid] at h; cases h
        | some blk =>
          rw [hid] at h
          cases blk <;> simp only at h <;> first | (cases h; done) | skip
          rename_i e'' es fz
          obtain ⟨hc, h9⟩ := run_chk h
          clear h
          simp only [Bool.and_eq_true, Nat.beq_eq] at hc
          obtain ⟨hc1, hc2, hok⟩ := hc
          obtain ⟨i, z, hi', _, hsz, _⟩ := okTy_zero hok
          cases hv with
          | wholeDead hd => rw [hid] at hd; cases hd
          | wholeN hd => rw [hid] at hd; cases hd
          | wholeNil hd hb =>
            rw [hid] at hd
            cases hd
            obtain ⟨a, u, h1, h2, h3, h4⟩ := bounds_sim (n := 0) (isS := true) (cap := 0) (Nat.le_refl _) hlo hhi hlo0 hhi0 h9
            obtain rfl := run_ret' h4
            obtain rfl : u = 0 := by omega
            obtain rfl : a = 0 := by omega
            exact .same S (slice_nil_run hu hi' h3) (.subNil hid hb)
          | @whole _ _ es' fz' b cap hd hb hsz2 hcap hm =>
            have hd' := hd
            rw [hid] at hd
            cases hd
            obtain ⟨a, u, h1, h2, h3, h4⟩ := bounds_sim (isS := true) (cap := cap) hcap hlo hhi hlo0 hhi0 h9
            obtain rfl := run_ret' h4
            obtain ⟨o', ho', hrun⟩ := slice_run (b := b) (o := 0) hu hi' (by omega) h3
            have hee : e = e' := hc1
            exact .same S hrun (.sub hd' hb (by omega) (by omega) (fun h => by rw [ho' h, hsz, hee, Nat.zero_add]))
      case sub e' id off len =>
        obtain ⟨l, h⟩ := run_get h
        cases hid : hp id with
        | none => rw [hid] at h; cases h
        | some blk =>
          rw [hid] at h
          cases blk <;> simp only at h <;> first | (cases h; done) | skip
          rename_i e'' es fz
          obtain ⟨hc, h⟩ := run_chk h
          simp only [Bool.and_eq_true, Nat.beq_eq] at hc
          obtain ⟨hc1, hc2, hok⟩ := hc
          obtain ⟨i, z, hi', _, hsz, _⟩ := okTy_zero hok
          cases hv with
          | subDead hd => rw [hid] at hd; cases hd
          | subNil hd hb =>
            have hd' := hd
            obtain ⟨a, u, h1, h2, h3, h4⟩ := bounds_sim (isS := true) (cap := 0) (Nat.le_refl _) hlo hhi hlo0 hhi0 h
            obtain rfl := run_ret' h4
            obtain rfl : u = 0 := by omega
            obtain rfl : a = 0 := by omega
            exact .same S (slice_nil_run hu hi' h3) (.subNil hd' hb)
          | @sub _ _ _ _ es' fz' b o cap hd hb hol hcap ho =>
            have hd' := hd
            obtain ⟨a, u, h1, h2, h3, h4⟩ := bounds_sim (isS := true) (cap := cap) hcap hlo hhi hlo0 hhi0 h
            obtain rfl := run_ret' h4
            obtain ⟨o', ho', hrun⟩ := slice_run (b := b) (o := o) hu hi' (by omega) h3
            have hee : e = e' := hc1
            exact .same S hrun (.sub hd' hb (by omega) (by omega) (fun h => by rw [ho' h, hsz, ho (by omega), hee, Nat.add_mul]))
theorem slice3_sim (S : Sim P w I β hp B M w0) {t : TypeId} {v : Value} {x : V} {lo hi mx : Option V} {lov hiv mxv : Option Value} {r : R} {rd : List Nat} (hv : VRel P w I β hp v x)
    (hlo : lo = none → lov = none) (hhi : ∀ y, hi = some y → ∃ u, hiv = some u ∧ VRel P w I β hp u y) (hmx : ∀ y, mx = some y → ∃ u, mxv = some u ∧ VRel P w I β hp u y)
    (h : (slice3Rd P t x lo hi mx).run C hp = some (r, rd)) : ValOk P ((Instr.sliceAt t v lov hiv mxv).run P w) w I β hp B M w0 r := by
  unfold slice3Rd at h
  cases hu : P.underlying t with
  | none => rw [hu] at h; cases h
  | some d =>
    rw [hu] at h
    cases d <;> (try (cases h; done))
    rename_i e
    cases lo <;> (try (cases h; done))
    cases hi <;> (try (cases h; done))
    rename_i hv1
    cases hv1 <;> (try (cases h; done))
    cases mx <;> (try (cases h; done))
    rename_i mv1
    cases mv1 <;> (try (cases h; done))
    obtain ⟨hc, h9⟩ := run_chk h
    clear h
    have h := h9
    clear h9
    simp only [Bool.and_eq_true, decide_eq_true_eq] at hc
    obtain ⟨rfl, rfl, hok⟩ := hc
    obtain ⟨i, z, hi', _, _, _⟩ := okTy_zero hok
    obtain ⟨u1, rfl, k1⟩ := hhi _ rfl
    obtain ⟨u2, rfl, k2⟩ := hmx _ rfl
    rw [k1.int_inv, k2.int_inv, hlo rfl]
    have run : ∀ {k k2 : IntKind} (a : Option Addr) (len cap : Nat), (Instr.sliceAt t (.slice a len cap) none (some (.int k 0)) (some (.int k2 0))).run P w = .ok (.slice a 0 0) w := by
      intro k k2 a len cap
      cases a <;> simp [Instr.sliceAt, Instr.slice, Instr.sliceBounds, Instr.sliceBound, asIntOf, run_underlying hu, sizeOf, typeInfo, hi']
    cases x <;> (try (cases h; done))
    · simp only at h
      obtain rfl := run_ret' h
      cases hv with
      | list hp' => cases hp' <;> exact .same S (run _ _ _) .nilS
    · simp only at h
      obtain rfl := run_ret' h
      cases hv
      exact .same S (run _ _ _) .nilS
    · rename_i e' id
      simp only at h
      obtain ⟨l, h⟩ := run_get h
      cases hid : hp id with
      | none => rw [hid] at h; cases h
      | some blk =>
        rw [hid] at h
        cases blk <;> simp only at h <;> first | (cases h; done) | skip
        all_goals
          obtain rfl := run_ret' h
          cases hv with
          | wholeDead hd => rw [hid] at hd; cases hd
          | wholeN hd => exact .same S (run _ _ _) .nilS
          | wholeNil hd hb => exact .same S (run _ _ _) .nilS
          | whole hd => exact .same S (run _ _ _) .nilS
theorem indexAddr_sim (S : Sim P w I β hp B M w0) {t : TypeId} {v ix : Value} {x y : V} {r : R} {rd : List Nat} (hv : VRel P w I β hp v x) (hy : VRel P w I β hp ix y)
    (h : (indexAddrRd P t x y).run C hp = some (r, rd)) : ValOk P ((Instr.indexAt t v ix).run P w) w I β hp B M w0 r := by
  unfold indexAddrRd at h
  cases hu : P.underlying t with
  | none => rw [hu] at h; cases h
  | some d =>
    rw [hu] at h
    cases y <;> (try (cases d <;> cases h; done))
    rename_i k i
    rw [hy.int_inv]
    cases d <;> simp only at h <;> first | (cases h; done) | skip
    case slice e =>
      have run : ∀ (b o len cap : Nat) (ie : TypeInfo), P.info? e = some ie → 0 ≤ i → i < (len : Int) → (Instr.indexAt t (.slice (some ⟨b, o, none⟩) len cap) (.int k i)).run P w = .ok (.pointer (some ⟨b, o + i.toNat * ie.size, none⟩)) w := by
        intro b o len cap ie hie h0 h1
        simp [Instr.indexAt, asIntOf, run_underlying hu, h0, h1, sizeOf, typeInfo, hie, add_none]
      cases x <;> simp only at h <;> first | (cases h; done) | skip
      case list e' es =>
        obtain ⟨hc, h⟩ := run_chk h
        simp only [Bool.and_eq_true, Nat.beq_eq] at hc
        obtain ⟨hc1, hok⟩ := hc
        have hee : e = e' := hc1
        obtain ⟨ie, z, hi', _, hsz, _⟩ := okTy_zero hok
        obtain ⟨el, hel, h⟩ := run_opt h
        obtain rfl := run_ret' h
        unfold idx at hel
        cases h0 : decide (0 ≤ i) with
        | false => rw [h0] at hel; cases hel
        | true =>
          rw [h0] at hel
          simp only [cond_true] at hel
          have h0' : 0 ≤ i := by simpa using h0
          have hlt : i.toNat < es.length := (List.getElem?_eq_some_iff.1 hel).1
          cases hv with
          | list hp' =>
            cases hp' with
            | nil => simp at hlt
            | emp => simp at hlt
            | @list b o len cap _ g hl hcap hI hcell hx =>
              rw [← hee] at hcell hx hI
              refine .same S (run b o len cap ie hi' h0' (by omega)) ?_
              have hpl := parts_length (P := P) e el
              have hok2 := okTy_etys hok
              have hety : (bif isAggT P e then flat P e else [e]) = etys P e := rfl
              rw [hety]
              refine .pref (by rw [hpl]) (fun _ => hI ?_) (fun j t' y' ht hy' => ?_)
              · have := Nat.mul_pos (show 0 < len by omega) (okTy_len hok).2
                exact this
              · obtain ⟨t2, a1, a2⟩ := parts_get hy'
                rw [ht] at a1; cases a1
                have hj : j < P.cellsOf e := by rw [← hok2]; exact (List.getElem?_eq_some_iff.1 ht).1
                have hp2 := hx i.toNat j el t' hel ht
                refine ⟨g i.toNat j, ?_, ?_⟩
                · rw [hsz, Nat.add_assoc]; exact hcell i.toNat j (by omega) hj
                · rw [a2, hp2.retype1_eq]; exact hp2
      case whole e' id =>
        obtain ⟨l, h⟩ := run_get h
        cases hid : hp id with
        | none => rw [hid] at h; cases h
        | some blk =>
          rw [hid] at h
          cases blk <;> simp only at h <;> first | (cases h; done) | skip
          rename_i e'' es fz
          obtain ⟨hc, h⟩ := run_chk h
          simp only [Bool.and_eq_true, Nat.beq_eq] at hc
          obtain ⟨hc1, hc2⟩ := hc
          obtain ⟨hb0, h⟩ := run_chk h
          simp only [Bool.and_eq_true, decide_eq_true_eq] at hb0
          obtain rfl := run_ret' h
          cases hv with
          | wholeDead hd => rw [hid] at hd; cases hd
          | wholeN hd => rw [hid] at hd; cases hd
          | wholeNil hd hb => rw [hid] at hd; cases hd; simp at hb0; omega
          | @whole _ _ es' fz' b cap hd hb hsz2 hcap hm =>
            have hd' := hd
            rw [hid] at hd
            cases hd
            have hr := S.h.rel id _ hid
            cases hr with
            | arrNil hb' => rw [hb'] at hb; cases hb
            | arr hok hb' hh hs hf hnf hx =>
              have hee : e = e' := hc1
              obtain ⟨ie, z, hi', _, hsz, _⟩ := okTy_zero hok
              rw [← hee] at hi' hsz
              refine .same S (run b 0 _ cap ie hi' hb0.1 hb0.2) ?_
              have := VRel.ptr (P := P) (w := w) (I := I) (i := i.toNat) (c := 0) hd' (by simp) hb
              simp only [Blk.sz] at this
              rw [Nat.zero_add, hsz, hee]
              simpa using this
          rename_i e'' es vers
          obtain ⟨hc, h⟩ := run_chk h
          simp only [Bool.and_eq_true, Nat.beq_eq] at hc
          obtain ⟨hc1, hc2⟩ := hc
          obtain ⟨hb0, h⟩ := run_chk h
          simp only [Bool.and_eq_true, decide_eq_true_eq] at hb0
          obtain rfl := run_ret' h
          cases hv with
          | wholeDead hd => rw [hid] at hd; cases hd
          | wholeNil hd hb => rw [hid] at hd; cases hd
          | whole hd => rw [hid] at hd; cases hd
          | @wholeN _ _ es' vers' b cap hd hb hsz2 hcap hm =>
            have hd' := hd
            rw [hid] at hd
            cases hd
            have hok := (S.rows hd' hb .here).ok
            have hee : e = e' := hc1
            obtain ⟨ie, z, hi', _, hsz, _⟩ := okTy_zero hok
            rw [← hee] at hi' hsz
            refine .same S (run b 0 _ cap ie hi' hb0.1 hb0.2) ?_
            have := VRel.ptr (P := P) (w := w) (I := I) (i := i.toNat) (c := 0) hd' (by simp) hb
            simp only [Blk.sz] at this
            rw [Nat.zero_add, hsz, hee]
            simpa using this
      case row e' id ver path =>
        obtain ⟨e0, es, vers, l, hid, h1, h2, h3, h⟩ := rowAt_run h
        obtain ⟨e2, v', k1, k2, h⟩ := rowRd_run h
        obtain ⟨hc, h⟩ := run_chk h
        simp only [Bool.and_eq_true, Nat.beq_eq] at hc
        obtain ⟨hc1, hc2⟩ := hc
        obtain ⟨hb0, h⟩ := run_chk h
        simp only [Bool.and_eq_true, decide_eq_true_eq] at hb0
        obtain rfl := run_ret' h
        cases hv with
        | rowPast hd hp' => rw [hid] at hd; cases hd; exact absurd hp' (not_past h1 h2 h3)
        | @row v _ e0 t1 _ ver b i1 c1 q es l1 vers hd hb hq hver ht hcell =>
          have hcell' := hcell
          obtain ⟨b', e3, es', Ca, T, f, x, m1, m2, m3, m4, m5, m6⟩ := hcell
          have hd2 := hd
          rw [hid] at hd2
          cases hd2
          obtain ⟨n1, n2⟩ := rowV_snoc m1 m3 m4 ht m5
          rw [n2] at k2
          cases k2
          simp only [V.toList] at hb0
          have hR := S.rows hd hb m1
          obtain ⟨C1, c2, c3, c4⟩ := hR.cells
          rw [m2] at c2
          cases c2
          have hj : c1 < P.cellsOf e3 := by
            rw [← okTy_etys hR.ok]; exact (List.getElem?_eq_some_iff.1 m4).1
          obtain ⟨v2, d1, d2⟩ := c4 _ _ _ _ m3 m4 hj
          rw [m6] at d1
          cases d1
          rw [m5] at d2
          cases d2 with
          | scal a _ => unfold scalarT at a; rw [ht] at a; cases a
          | emp _ _ => simp at hb0; omega
          | @row _ _ b1 cap _ hl _ _ _ =>
            have hok := (S.rows hd hb (m1.snoc m2 m3 m4 ht m5 hl m6)).ok
            have hee : e = e' := hc1
            obtain ⟨ie, z, hi', _, hsz, _⟩ := okTy_zero hok
            rw [← hee] at hi' hsz
            refine .same S (run b1 0 _ cap ie hi' hb0.1 hb0.2) ?_
            have := VRel.elt (P := P) (I := I) (i := i.toNat) (c := 0) hd hb hq hver ht hl hcell'
            rw [Nat.zero_add, hsz, hee]
            simpa using this
      case sub e' id off len =>
        obtain ⟨l, h⟩ := run_get h
        cases hid : hp id with
        | none => rw [hid] at h; cases h
        | some blk =>
          rw [hid] at h
          cases blk <;> simp only at h <;> first | (cases h; done) | skip
          rename_i e'' es fz
          obtain ⟨hc, h⟩ := run_chk h
          simp only [Bool.and_eq_true, Nat.beq_eq] at hc
          obtain ⟨hc1, hc2⟩ := hc
          obtain ⟨hb0, h⟩ := run_chk h
          simp only [Bool.and_eq_true, decide_eq_true_eq] at hb0
          obtain rfl := run_ret' h
          cases hv with
          | subDead hd => rw [hid] at hd; cases hd
          | subNil hd hb => simp at hb0; omega
          | @sub _ _ _ _ es' fz' b o cap hd hb hol hcap ho =>
            have hd' := hd
            rw [hid] at hd
            cases hd
            have hr := S.h.rel id _ hid
            cases hr with
            | arrNil hb' => rw [hb'] at hb; cases hb
            | arr hok hb' hh hs hf hnf hx =>
              have hee : e = e' := hc1
              obtain ⟨ie, z, hi', _, hsz, _⟩ := okTy_zero hok
              rw [← hee] at hi' hsz
              refine .same S (run b o _ cap ie hi' hb0.1 hb0.2) ?_
              have := VRel.ptr (P := P) (w := w) (I := I) (i := off + i.toNat) (c := 0) hd' (by simp) hb
              simp only [Blk.sz] at this
              rw [ho (by omega), hsz, hee, ← Nat.add_mul]
              simpa using this
    case array n e =>
      have run : ∀ (b o : Nat) (ie : TypeInfo), P.info? e = some ie → 0 ≤ i → i < (n : Int) → (Instr.indexAt t (.pointer (some ⟨b, o, none⟩)) (.int k i)).run P w = .ok (.pointer (some ⟨b, o + i.toNat * ie.size, none⟩)) w := by
        intro b o ie hie h0 h1
        simp [Instr.indexAt, asIntOf, run_underlying hu, h0, h1, sizeOf, typeInfo, hie, add_none, Instr.sureAddr]
      cases x <;> simp only at h <;> first | (cases h; done) | skip
      case ptr id j c =>
        obtain ⟨⟨blk, hid, hd⟩, l, h⟩ := run_alive h
        obtain ⟨hb0, h⟩ := run_chk h
        simp only [Bool.and_eq_true, decide_eq_true_eq] at hb0
        obtain rfl := run_ret' h
        obtain ⟨b, hb, rfl⟩ := hv.ptr_inv hid hd
        obtain ⟨d, hud⟩ := optTy hb0.1
        obtain ⟨ie, hie⟩ := info_of_und hud
        have hsz : ie.size = P.cellsOf e := by simp [Program.cellsOf, hie]
        refine .same S (run b _ ie hie hb0.2.1 hb0.2.2) ?_
        rw [hsz, Nat.add_assoc]
        exact .ptr hid hd hb
      case pref ts cs =>
        obtain ⟨hb0, h⟩ := run_chk h
        simp only [Bool.and_eq_true, decide_eq_true_eq] at hb0
        obtain rfl := run_ret' h
        obtain ⟨b, o, rfl, h1, h2, h3⟩ := hv.pref_inv
        obtain ⟨d, hud⟩ := optTy hb0.1
        obtain ⟨ie, hie⟩ := info_of_und hud
        have hsz : ie.size = P.cellsOf e := by simp [Program.cellsOf, hie]
        refine .same S (run b _ ie hie hb0.2.1 hb0.2.2) ?_
        rw [hsz]
        exact VRel.pref_drop h1 h2 h3
end
end Go.AM
namespace Go.AM
section
variable {P : Program} {w w' : World} {I I' : Nat → Prop} {β β' : Nat → Option Nat} {hp hp' : Nat → Option Blk} {C : CallF} {B : Nat} {M : Nat → Prop} {w0 : Start}
theorem strV_el {e : TypeId} (he : P.underlying e = some (.int .u8)) (hc : P.cellsOf e = 1) (s : ByteArray) : ∀ (i j : Nat) (x : V) (t' : TypeId), (s.data.toList.map byteV)[i]? = some x → (etys P e)[j]? = some t' → j < P.cellsOf e →
    ∃ u, (Lib.strCells s)[i * P.cellsOf e + j]? = some u ∧ Pure P w I t' u (epart P e x j) := by
  intro i j x t' hx ht hj
  have hna : isAggT P e = false := by simp [isAggT, he]
  obtain rfl : j = 0 := by omega
  simp only [etys, hna, cond_false, List.getElem?_cons_zero, Option.some.injEq] at ht
  subst ht
  rw [List.getElem?_map] at hx
  cases hb : s.data.toList[i]? with
  | none => rw [hb] at hx; cases hx
  | some b =>
    rw [hb] at hx
    cases hx
    refine ⟨.int .u8 b.toNat, ?_, ?_⟩
    · rw [hc, Nat.mul_one, Nat.add_zero]
      simp only [Lib.strCells, List.getElem?_map, hb, Option.map_some]
    · simp only [epart, hna, cond_false]
      exact .int he
theorem run_append_cap0_string (w : World) (t u ty e : TypeId) (i : TypeInfo) (z : Value) (ht : P.underlying t = some (.slice e)) (hu : P.underlying u = some .string) (hi : P.info? e = some i) (hz : i.zero = some z)
    (s : ByteArray) (h0 : 0 < s.size) (h63 : (s.size : Int) ≤ 9223372036854775807) (h48 : s.size * i.bytes ≤ 281474976710656) (a0 : Option Addr) :
    (Builtin.append_ #[t, u] ty #[.slice a0 0 0, .string s]).run P w =
      .ok (.slice (some ⟨w.heap.size, 0, none⟩) s.size (grownCap w s.size 0 e))
        (w.drew.alloc (.cells (s.data.map (fun b => Value.int .u8 b.toNat) ++ Builtin.zeroCells z.cells (grownCap w s.size 0 e - s.size)) e)) := by
  cases a0 with
  | none => exact run_append_nil_string w t u ty e i z ht hu hi hz s h0 h63 h48
  | some b =>
    rw [← run_append_nil_string w t u ty e i z ht hu hi hz s h0 h63 h48]
    have hn : s.size ≠ 0 := by omega
    have h63' : ¬ (9223372036854775807 < (s.size : Int)) := by omega
    have h48' : ¬ (281474976710656 < Builtin.nextslicecap s.size 0 * i.bytes) := by rw [nextslicecap_zero h0]; omega
    simp [Builtin.append_, run_underlying ht, run_underlying hu, sizeOf, typeInfo, zeroValue, hi, hz, Builtin.lenOf, Builtin.firstCells, hn, h63', h48', Question.forced, newRow, grownCap, loadCells, loadCellsFrom]
theorem nilStr (S : Sim P w I β hp B M w0) {t u ty e : TypeId} {nb : Nat} {x : ByteArray} {xs : List V} {i : TypeInfo} {z : Value} (hu : P.underlying t = some (.slice e)) (hus : P.underlying u = some .string) (hok : okTy P e = true) (hn : hp nb = none)
  (hi : P.info? e = some i) (hz : i.zero = some z) (h3 : i.size = P.cellsOf e) (h4 : z.cells.size = P.cellsOf e) (hsz1 : i.size = 1) (hbi : P.bytesOf e = i.bytes) (hby : xs.length * P.bytesOf e ≤ maxBytes) (hxl : xs.length = x.size) (hnl : (Lib.strCells x).length = x.size)
  (hel : ∀ (i j : Nat) (y : V) (t' : TypeId), xs[i]? = some y → (etys P e)[j]? = some t' → j < P.cellsOf e → ∃ u, (Lib.strCells x)[i * P.cellsOf e + j]? = some u ∧ Pure P w I t' u (epart P e y j)) :
  ∀ a0, ∃ v w' β', (Builtin.append_ #[t, u] ty #[.slice a0 0 0, .string x]).run P w = .ok v w' ∧ Le P w I β hp w' I β' (setN hp nb (some (.arr e xs false))) ∧ Sim P w' I β' (setN hp nb (some (.arr e xs false))) B M w0 ∧
    VRel P w' I β' (setN hp nb (some (.arr e xs false))) v (.whole e nb) := by
  intro a0
  have hbp := okTy_bytes hok
  have hlen : xs.length ≤ 2 ^ 45 := by
    have : xs.length * 1 ≤ xs.length * P.bytesOf e := Nat.mul_le_mul_left _ hbp
    simp only [maxBytes] at hby
    omega
  by_cases h0 : x.size = 0
  · have hxs : xs = [] := List.eq_nil_of_length_eq_zero (by omega)
    subst hxs
    obtain ⟨a1, a2⟩ := adoptNil_sim S e hn
    have hf := Lib.run_firstCells_string (P := P) w 1 x
    rw [h0] at hf
    have hsc : Lib.strCells x = [] := List.eq_nil_of_length_eq_zero (by omega)
    exact ⟨.slice a0 0 0, _, _, by cases a0 <;> simp [storeCells, hsc, Builtin.append_, run_underlying hu, run_underlying hus, sizeOf, typeInfo, hi, hsz1, Builtin.lenOf, h0, hf], a1, a2, .wholeNil (setN_same _ _ _) (setN_same _ _ _)⟩
  · have hrun := run_append_cap0_string (P := P) w t u ty e i z hu hus hi hz x (by omega) (by omega) (by rw [← hbi, ← hxl]; simp only [maxBytes] at hby; omega) a0
    have e1 : (x.data.map fun b => Value.int .u8 b.toNat) = (Lib.strCells x).toArray := by
      apply Array.ext'
      simp [Lib.strCells]
    rw [e1, ← hxl] at hrun
    have hge := grownCap_ge w xs.length 0 e
    have hcm : grownCap w xs.length 0 e ≤ maxLen := grownCap_le_maxLen w xs.length 0 e (by simp only [maxLen]; omega)
    obtain ⟨n1, n2, n3⟩ := newArr_sim S.drew (nb := nb) (cap := grownCap w xs.length 0 e) (es := xs) (C0 := (Lib.strCells x).toArray ++ Builtin.zeroCells z.cells (grownCap w xs.length 0 e - xs.length)) hok hn
      (by
        have : (Lib.strCells x).length = xs.length * P.cellsOf e := by rw [hnl, hxl, ← h3, hsz1, Nat.mul_one]
        simp only [Array.size_append, List.size_toArray, size_zeroCells, h4, this, ← Nat.add_mul]; congr 1; omega) hge hcm
      (fun i' j y t' hy ht hj => by
        obtain ⟨u, hu', hp⟩ := hel i' j y t' hy ht hj
        have hlt := (List.getElem?_eq_some_iff.1 hu').1
        refine ⟨u, ?_, Pure.drew hp⟩
        rw [Array.getElem?_append_left (by simpa using hlt)]
        simpa using hu')
    exact ⟨_, _, _, hrun, (Le.drew w I β hp).trans n1, n2, n3⟩
theorem appendStr_sim (S : Sim P w I β hp B M w0) {t u ty e : TypeId} {nb : Nat} {s : Value} {sv : V} {x : ByteArray} {r : R} {rd : List Nat} (hu : P.underlying t = some (.slice e)) (hus : P.underlying u = some .string) (he : P.underlying e = some (.int .u8)) (hs : VRel P w I β hp s sv)
    (h : (appendRd P nb e sv (.list e (x.data.toList.map byteV))).run C hp = some (r, rd)) : ValOk P ((Builtin.append_ #[t, u] ty #[s, .string x]).run P w) w I β hp B M w0 r := by
  unfold appendRd at h
  obtain ⟨hok, h⟩ := run_chk h
  simp only [elemsRd] at h
  obtain ⟨_, h⟩ := run_chk h
  have hna : isAggT P e = false := by simp [isAggT, he]
  have hc1 : P.cellsOf e = 1 := by rw [← (okTy_len hok).1, flat_scalar hna]; rfl
  obtain ⟨i, z, hi, hz, h3, h4, _⟩ := okTy_zero hok
  have hsz1 : i.size = 1 := by rw [h3, hc1]
  have hbp := okTy_bytes hok
  have hbi : P.bytesOf e = i.bytes := by simp [Program.bytesOf, hi]
  have hel0 := strV_el (P := P) (w := w) (I := I) he hc1 x
  have hxl : (x.data.toList.map byteV).length = x.size := by simp
  have hnl : (Lib.strCells x).length = x.size := Lib.strCells_length x
  have h1 := Lib.strCells_oneCell x
  generalize hxs : x.data.toList.map byteV = xs at *
  cases sv with
  | nilS e' =>
    obtain ⟨hc, h⟩ := run_chk h
    simp only [Bool.and_eq_true, Nat.beq_eq, Nat.ble_eq] at hc
    obtain ⟨hn, rfl⟩ := newRd_run h
    obtain ⟨a0, rfl⟩ : ∃ a0, s = .slice a0 0 0 := by cases hs; exact ⟨_, rfl⟩
    obtain ⟨v, w', β', a1, a2, a3, a4⟩ := nilStr S hu hus hok hn hi hz h3 h4 hsz1 hbi hc.2 hxl hnl hel0 _
    exact ⟨v, w', I, β', a1, a2, a3, a4⟩
  | whole e' id =>
    obtain ⟨l, h⟩ := run_get h
    cases hid : hp id with
    | none => rw [hid] at h; cases h
    | some blk =>
      rw [hid] at h
      cases blk with
      | dead => cases h
      | var _ => cases h
      | nest _ _ _ => cases h
      | arr e'' es fz =>
        cases fz with
        | true => cases h
        | false =>
          obtain ⟨hc, h⟩ := run_chk h
          obtain ⟨hn, rfl⟩ := newRd_run h
          simp only [Bool.and_eq_true, Nat.beq_eq, Nat.ble_eq] at hc
          obtain ⟨he1, he2, hby⟩ := hc
          subst he1
          subst he2
          have hne : nb ≠ id := fun e => by rw [e, hid] at hn; cases hn
          obtain ⟨k1, k2⟩ := kill_sim S hid
          have hn1 : setN hp id (some Blk.dead) nb = none := by rw [setN_ne _ _ hne]; exact hn
          cases hs with
          | wholeDead hd => rw [hid] at hd; cases hd
          | wholeN hd => rw [hid] at hd; cases hd
          | wholeNil hd hb =>
            rw [hid] at hd
            cases hd
            simp only [List.length_nil, Nat.zero_add] at hby
            obtain ⟨v, w', β', a1, a2, a3, a4⟩ := nilStr k2 hu hus hok hn1 hi hz h3 h4 hsz1 hbi hby hxl hnl hel0 _
            exact ⟨v, w', I, β', a1, k1.trans a2, a3, a4⟩
          | @whole _ _ es' fz' b cap hd hb hsz hcap hm =>
            rw [hid] at hd
            cases hd
            have hr := S.h.rel id _ hid
            cases hr with
            | arrNil hb' => rw [hb'] at hb; cases hb
            | @arr _ _ _ b' Ca _ hb' hh hsA hf hnf hxA =>
              rw [hb] at hb'
              cases hb'
              have hlen : es.length + xs.length ≤ 2 ^ 45 := by
                have : (es.length + xs.length) * 1 ≤ (es.length + xs.length) * P.bytesOf e := Nat.mul_le_mul_left _ hbp
                simp only [maxBytes] at hby
                omega
              rw [bsize_cells hh] at hsz
              have hfree : ∀ id' blk', setN hp id (some Blk.dead) id' = some blk' → ¬ Owns P w (β id') blk' b := by
                intro id' blk' h1 h2
                by_cases hii : id' = id
                · subst hii; rw [setN_same] at h1; cases h1; exact h2.alive rfl
                · rw [setN_ne _ _ hii] at h1
                  exact hii (S.h.inj id' id blk' _ b h1 hid h2 (.root (by simp) hb))
              have hMb := S.h.own0 id _ b hid (by simp) hb
              have hb1 : es.length * P.cellsOf e ≤ Ca.toList.length := by simpa using hsA
              have hnl' : (Lib.strCells x).length = xs.length * P.cellsOf e := by rw [hnl, hxl, hc1, Nat.mul_one]
              by_cases hroom : es.length + xs.length ≤ cap
              · have hfit : es.length * P.cellsOf e + (Lib.strCells x).length ≤ Ca.size := by rw [hnl', ← Nat.add_mul, ← hsz]; exact Nat.mul_le_mul_right _ hroom
                have hrun := Lib.run_append_room_string (P := P) w t u ty e i hu hus hi hsz1 b es.length cap Ca hh x (by rw [← hxl]; exact hroom) (by rw [← hnl]; rw [hc1, Nat.mul_one] at hfit; exact hfit)
                have hel := append_elems (P := P) (w := w) (I := I) (n := es.length) (c := Ca.toList) rfl (fun i j y t' a b c => by
                  obtain ⟨v, hv, hp⟩ := hxA i j y t' a b c
                  exact ⟨v, by simpa using hv, hp⟩) hel0 hb1 (Ca.toList.drop (es.length * P.cellsOf e + (Lib.strCells x).length))
                generalize hC' : (Ca.toList.take es.length ++ Lib.strCells x ++ Ca.toList.drop (es.length + x.size)).toArray = C' at hrun
                have hCs : C'.size = Ca.size := by
                  rw [hc1, Nat.mul_one] at hfit
                  rw [← hC']; simp; omega
                have hCh : (w.setRow b C').heap[b]? = some (.cells C' e (0, 0)) := setRow_heap w b Ca C' e _ hh
                obtain ⟨a1, a2⟩ := adopt_sim k2 (blk := .arr e (es ++ xs) false) (w' := w.setRow b C') hn1 hfree (hnf rfl) (fun b' h _ => setRow_other w b b' _ h) (by simp) ⟨rfl, rfl⟩ hMb
                  (fun b' h => (Option.some.inj (h.flat (by simp))).symm) (fun hle => .arr hok rfl hCh (by rw [hCs, ← hsz]; exact Nat.mul_le_mul_right _ (by simpa using hroom)) (fun h => by cases h) (fun _ => hnf rfl) fun i j y t' a b c => by
                    obtain ⟨v, hv, hp⟩ := hel i j y t' a b c
                    refine ⟨v, ?_, hp.mono hle.imm hle.keep⟩
                    rw [← hC', List.getElem?_toArray]
                    rw [hc1] at hv ⊢
                    simpa [hnl] using hv)
                refine ⟨_, _, _, _, hrun, k1.trans a1, a2, ?_⟩
                have a3 := VRel.whole (P := P) (w := w.setRow b C') (I := I) (β := setN β nb (some b)) (hp := setN (setN hp id (some .dead)) nb (some (.arr e (es ++ xs) false))) (cap := cap) (b := b) (es := es ++ xs) (fz := false) (id := nb) (e := e) (setN_same _ _ _) (setN_same _ _ _) (by rw [bsize_cells hCh, hCs, hsz]) (by simpa using hroom) hm
                rw [List.length_append, hxl] at a3
                exact a3
              · have hold : ∀ (j : Nat) v, (Ca.toList.take (es.length * P.cellsOf e))[j]? = some v → w.cell? ((⟨b, 0, none⟩ : Addr).add j) = some v := by
                  intro j v hj
                  have hjl := (List.getElem?_eq_some_iff.1 hj).1
                  have hj2 : j < es.length * P.cellsOf e := by rw [List.length_take] at hjl; omega
                  rw [List.getElem?_take_of_lt hj2] at hj
                  rw [add_none, cell?_cells hh, Nat.zero_add]
                  simpa using hj
                have hrun := Lib.run_append_grow_string (P := P) w t u ty e i z hu hus hi hz ⟨b, 0, none⟩ es.length cap (Ca.toList.take (es.length * P.cellsOf e)) (by rw [h3]; simp; omega) hold x (by omega) (by omega)
                  (growslice_fits (by omega) (by rw [← hbi, ← hxl]; simp only [maxBytes] at hby; omega))
                rw [← hxl] at hrun
                have hge := grownCap_ge w (es.length + xs.length) cap e
                have hcm : grownCap w (es.length + xs.length) cap e ≤ maxLen := grownCap_le_maxLen w _ cap e (by simp only [maxLen]; omega)
                have hel := append_elems (P := P) (w := w) (I := I) (n := es.length) (c := Ca.toList) rfl (fun i j y t' a b c => by
                  obtain ⟨v, hv, hp⟩ := hxA i j y t' a b c
                  exact ⟨v, by simpa using hv, hp⟩) hel0 hb1 (Builtin.zeroCells z.cells (grownCap w (es.length + xs.length) cap e - (es.length + xs.length))).toList
                obtain ⟨n1, n2, n3⟩ := newArr_sim k2.drew (nb := nb) (cap := grownCap w (es.length + xs.length) cap e) (es := es ++ xs)
                  (C0 := (Ca.toList.take (es.length * P.cellsOf e)).toArray ++ (Lib.strCells x).toArray ++ Builtin.zeroCells z.cells (grownCap w (es.length + xs.length) cap e - (es.length + xs.length))) hok hn1
                  (by
                    have e1 : (Ca.toList.take (es.length * P.cellsOf e)).length = es.length * P.cellsOf e := by simp; omega
                    simp only [Array.size_append, List.size_toArray, size_zeroCells, h4, hnl', e1, ← Nat.add_mul]; congr 1; omega) (by simpa using hge) hcm
                  (fun i j y t' a b c => by
                    obtain ⟨v, hv, hp⟩ := hel i j y t' a b c
                    refine ⟨v, ?_, Pure.drew hp⟩
                    rw [← Array.getElem?_toList]
                    simpa using hv)
                rw [List.length_append] at n3
                exact ⟨_, _, _, _, hrun, (k1.trans (Le.drew w I β _)).trans n1, n2, n3⟩
  | _ => cases h
end
end Go.AM
namespace Go.AM
section
variable {P : Program} {w w' : World} {I I' : Nat → Prop} {β β' : Nat → Option Nat} {hp hp' : Nat → Option Blk} {C : CallF} {B : Nat} {M : Nat → Prop} {w0 : Start}
theorem pushes_toList : ∀ (ns : List Int) (s : ByteArray), (ns.foldl (fun r n => r.push (UInt8.ofNat n.toNat)) s).data.toList = s.data.toList ++ ns.map fun n => UInt8.ofNat n.toNat
  | [], s => by simp
  | n :: ns, s => by
    simp only [List.foldl_cons, pushes_toList ns, List.map_cons]
    simp [ByteArray.push]
theorem u8_inv {e : TypeId} {u : Value} {x : V} (he : P.underlying e = some (.int .u8)) (hp : Pure P w I e u x) : u = .int .u8 x.toInt := by
  cases hp with
  | int hp' => rw [he] at hp'; cases hp'; rfl
  | bool hp' => rw [he] at hp'; cases hp'
  | str hp' => rw [he] at hp'; cases hp'
  | nil hp' => rw [he] at hp'; cases hp'
  | emp hp' => rw [he] at hp'; cases hp'
  | list _ hp' => rw [he] at hp'; cases hp'
theorem bytes_sim (S : Sim P w I β hp B M w0) {src dst e : TypeId} {v : Value} {x : V} {r : R} {rd : List Nat} (hs : P.underlying src = some (.slice e)) (he : P.underlying e = some (.int .u8)) (hd : P.underlying dst = some .string)
    (hv : VRel P w I β hp v x) (h : (Rd.chk (okTy P e) (elemsRd e x fun es => .ret ⟨.str (bytesOfV es), []⟩)).run C hp = some (r, rd)) : ValOk P ((convert src dst v).run P w) w I β hp B M w0 r := by
  obtain ⟨hok, h⟩ := run_chk h
  obtain ⟨xs, hx, l, h⟩ := elems_sim S.h.rel hok hv h
  obtain rfl := run_ret' h
  have hna : isAggT P e = false := by simp [isAggT, he]
  have h1 : P.cellsOf e = 1 := by rw [← (okTy_len hok).1, flat_scalar hna]; rfl
  rcases hx with ⟨⟨a, rfl⟩, rfl⟩ | ⟨a, c, news, hr⟩
  · refine .same S (v := .string .empty) ?_ (.str (by simp [bytesOfV]))
    rw [run_convert_bytes_string w src dst e a 0 0 hs he hd]
    cases a <;> simp [Conv.bytesToString, loadCells, loadCellsFrom]
  · have hnews : news = (xs.map V.toInt).map (Value.int .u8) := by
      apply List.ext_getElem?
      intro j
      by_cases hj : j < xs.length
      · obtain ⟨u, hu, hp⟩ := hr.el j 0 xs[j] e (List.getElem?_eq_getElem hj) (by simp [etys, hna]) (by omega)
        rw [h1] at hu
        simp only [epart, hna, cond_false] at hp
        have hu' : news[j]? = some u := by simpa using hu
        rw [hu']
        have := u8_inv he hp
        simp [hj, ← this]
      · have hl : news.length = xs.length := by rw [hr.len, h1]; simp
        rw [List.getElem?_eq_none (by omega), List.getElem?_eq_none (by simp; omega)]
    have hload := run_loadCells_list (P := P) w a news hr.cell
    have hl : news.length = xs.length := by rw [hr.len, h1]; simp
    rw [hl] at hload
    rw [hnews] at hload
    refine .same S (v := .string ((xs.map V.toInt).foldl (fun r n => r.push (UInt8.ofNat n.toNat)) ByteArray.empty)) ?_ (.str ?_)
    · rw [hr.val, run_convert_bytes_string w src dst e _ _ _ hs he hd]
      exact run_bytesToString w a xs.length c (xs.map V.toInt) hload
    · rw [pushes_toList]
      simp [bytesOfV]
theorem VRel.nilp_inv' {v : Value} (h : VRel P w I β hp v .nilp) : v = .pointer none := by cases h; rfl
section
variable (w : World)
theorem run_ptr_nil (t e : TypeId) (a : Addr) (h : P.underlying t = some (.pointer e)) : (binOp .eql t (.pointer (some a)) (.pointer none)).run P w = .ok (.bool false) w := by
  have h0 : ∀ d : Nat, (Op.equalIn (d + 1) t (.pointer (some a)) (.pointer none)).run P w = .ok false w := fun d => by simp [Op.equalIn, run_underlying h]
  simp only [binOp]
  simp [Op.equal, Op.maxDepth, h0 9999]
theorem run_ptr_nil' (t e : TypeId) (a : Addr) (h : P.underlying t = some (.pointer e)) : (binOp .neq t (.pointer (some a)) (.pointer none)).run P w = .ok (.bool (!false)) w := by
  have h0 : ∀ d : Nat, (Op.equalIn (d + 1) t (.pointer (some a)) (.pointer none)).run P w = .ok false w := fun d => by simp [Op.equalIn, run_underlying h]
  simp only [binOp]
  simp [Op.equal, Op.maxDepth, h0 9999]
theorem run_nil_ptr (t e : TypeId) (a : Addr) (h : P.underlying t = some (.pointer e)) : (binOp .eql t (.pointer none) (.pointer (some a))).run P w = .ok (.bool false) w := by
  have h0 : ∀ d : Nat, (Op.equalIn (d + 1) t (.pointer none) (.pointer (some a))).run P w = .ok false w := fun d => by simp [Op.equalIn, run_underlying h]
  simp only [binOp]
  simp [Op.equal, Op.maxDepth, h0 9999]
theorem run_nil_ptr' (t e : TypeId) (a : Addr) (h : P.underlying t = some (.pointer e)) : (binOp .neq t (.pointer none) (.pointer (some a))).run P w = .ok (.bool (!false)) w := by
  have h0 : ∀ d : Nat, (Op.equalIn (d + 1) t (.pointer none) (.pointer (some a))).run P w = .ok false w := fun d => by simp [Op.equalIn, run_underlying h]
  simp only [binOp]
  simp [Op.equal, Op.maxDepth, h0 9999]
theorem run_nil_nil (t e : TypeId) (h : P.underlying t = some (.pointer e)) : (binOp .eql t (.pointer none) (.pointer none)).run P w = .ok (.bool true) w := by
  have h0 : ∀ d : Nat, (Op.equalIn (d + 1) t (.pointer none) (.pointer none)).run P w = .ok true w := fun d => by simp [Op.equalIn, run_underlying h]
  simp only [binOp]
  simp [Op.equal, Op.maxDepth, h0 9999]
theorem run_nil_nil' (t e : TypeId) (h : P.underlying t = some (.pointer e)) : (binOp .neq t (.pointer none) (.pointer none)).run P w = .ok (.bool (!true)) w := by
  have h0 : ∀ d : Nat, (Op.equalIn (d + 1) t (.pointer none) (.pointer none)).run P w = .ok true w := fun d => by simp [Op.equalIn, run_underlying h]
  simp only [binOp]
  simp [Op.equal, Op.maxDepth, h0 9999]
end
theorem ptrEq_sim (S : Sim P w I β hp B M w0) {op : BinOp} {t : TypeId} {b : Bool} {x y : Operand} {v1 v2 : Value} {r : R} {rd : List Nat} (h : (ptrEq P op t b).run C hp = some (r, rd)) (hg : (eqGuard op t x y v1 v2).run P w = .ok () w)
    (he : ∀ e j, P.underlying t = some (.pointer e) → P.info? e = some j → (binOp .eql t v1 v2).run P w = .ok (.bool b) w ∧ (binOp .neq t v1 v2).run P w = .ok (.bool (!b)) w) :
    ValOk P ((do eqGuard op t x y v1 v2; binOp op t v1 v2 : Sem Value).run P w) w I β hp B M w0 r := by
  unfold ptrEq at h
  cases hu : P.underlying t with
  | none => rw [hu] at h; cases h
  | some d =>
    rw [hu] at h
    cases d <;> simp only at h <;> first | (cases h; done) | skip
    rename_i e
    obtain ⟨h1, h2⟩ := run_chk h
    obtain ⟨j, hj⟩ := Option.isSome_iff_exists.1 h1
    obtain ⟨k1, k2⟩ := he e j hu hj
    cases op <;> simp only at h2 <;> first | (cases h2; done) | skip
    · obtain rfl := run_ret' h2
      exact .same S (by simp only [Sem.run_bind, hg, Result.andThen_ok, k1]) .bool
    · obtain rfl := run_ret' h2
      exact .same S (by simp only [Sem.run_bind, hg, Result.andThen_ok, k2]) .bool
theorem freeze_heap {b n : Nat} : (∀ b', b' ≠ b → (w.freeze ⟨b, 0, none⟩ n).heap[b']? = w.heap[b']?) ∧ bsize (w.freeze ⟨b, 0, none⟩ n) b = bsize w b ∧ w.heap.size ≤ (w.freeze ⟨b, 0, none⟩ n).heap.size ∧ (w.freeze ⟨b, 0, none⟩ n).os = w.os ∧ (w.freeze ⟨b, 0, none⟩ n).output = w.output := by
  unfold World.freeze
  split
  · exact ⟨fun _ _ => rfl, rfl, Nat.le_refl _, rfl, rfl⟩
  · refine ⟨fun b' hb => ?_, ?_, by simp, rfl, rfl⟩
    · simp only [Array.getElem?_modify]
      rw [if_neg (fun e => hb e.symm)]
    · simp only [bsize, Array.getElem?_modify, if_true]
      cases w.heap[b]? with
      | none => rfl
      | some o => cases o <;> rfl
theorem byte_of {e : TypeId} (hb : isByte P e = true) : P.underlying e = some (.int .u8) := by
  unfold isByte at hb
  split at hb
  · assumption
  · cases hb
theorem slData_sim (S : Sim P w I β hp B M w0) {ts : Array TypeId} {ty e : TypeId} {v : Value} {id : Nat} {es : List V} {fz : Bool} (hv : VRel P w I β hp v (.whole e id)) (hid : hp id = some (.arr e es fz)) (h0 : 0 < es.length) :
    ValOk P ((Builtin.unsafeSliceData_ ts ty #[v]).run P w) w I β hp B M w0 ⟨.ptr id 0 0, []⟩ := by
  cases hv with
  | wholeDead h => rw [hid] at h; cases h
  | wholeNil h _ => rw [hid] at h; cases h; simp at h0
  | wholeN h _ _ _ _ => rw [hid] at h; cases h
  | @whole _ _ es' fz' b cap h hb hcap hle hm =>
    rw [hid] at h; cases h
    refine .same S (Lib.run_unsafeSliceData_row w ts ty ⟨b, 0, none⟩ es.length cap (by omega)) ?_
    have := VRel.ptr (P := P) (w := w) (I := I) (β := β) (i := 0) (c := 0) hid (by simp) hb
    simpa using this
theorem unsafeString_sim (S : Sim P w I β hp B M w0) {t u ty e : TypeId} {vx : Value} {id : Nat} {n : Int} {es : List V} (hu : P.underlying t = some (.pointer e)) (hb : isByte P e = true) (hv : VRel P w I β hp vx (.ptr id 0 0))
    (hid : hp id = some (.arr e es false)) (h0 : 0 < n) (hn : n ≤ es.length) (hm : n.toNat ≤ maxStr) (hin : (es.take n.toNat).all inByte = true) : ValOk P ((Builtin.unsafeString_ #[t, u] ty #[vx, .int .i64 n]).run P w) w I β hp B M w0 ⟨.str (bytesOfV (es.take n.toNat)), [(id, .dead)]⟩ := by
  obtain ⟨b, hbe, rfl⟩ := hv.ptr_inv hid (by simp)
  have he : P.underlying e = some (.int .u8) := by
    unfold isByte at hb
    split at hb
    · assumption
    · cases hb
  have hna : isAggT P e = false := by simp [isAggT, he]
  have hr := S.h.rel id _ hid
  rw [hbe] at hr
  cases hr with
  | arrNil hb' => cases hb'
  | @arr _ _ _ b1 Ca hok hb1 hh hs hI hnI hel =>
    cases hb1
    have h1 : P.cellsOf e = 1 := by rw [← (okTy_len hok).1, flat_scalar hna]; rfl
    have hlt := S.block_lt hid (by simp) hbe
    have hl : (bytesOfV (es.take n.toNat)).length = n.toNat := by simp [bytesOfV]; omega
    have hn' : n = ((bytesOfV (es.take n.toNat)).length : Nat) := by rw [hl]; omega
    have hrun := Lib.run_unsafeString_row (P := P) w t u ty e hu h1 b Ca.size (by simp [World.shape?, hh]) (bytesOfV (es.take n.toNat)) (fun h => by rw [h] at hl; simp at hl; omega) (by rw [hl]; rw [h1] at hs; omega) (by rw [hl]; unfold maxStr at hm; omega) (fun j x hx => by
      have hj : j < n.toNat := by
        have := (List.getElem?_eq_some_iff.1 hx).1
        rw [hl] at this; exact this
      have hje : j < es.length := by omega
      simp only [bytesOfV, List.getElem?_map, List.getElem?_take_of_lt hj, List.getElem?_eq_getElem hje, Option.map_some, Option.some.injEq] at hx
      obtain ⟨v, hv1, hp1⟩ := hel j 0 es[j] e (List.getElem?_eq_getElem hje) (by simp [etys, hna]) (by omega)
      rw [h1] at hv1
      simp only [epart, hna, cond_false] at hp1
      have := u8_inv he hp1
      have hr := List.all_eq_true.1 hin es[j] (List.mem_of_getElem? (by rw [List.getElem?_take_of_lt hj]; exact List.getElem?_eq_getElem hje))
      simp only [inByte, Bool.and_eq_true, decide_eq_true_eq] at hr
      have hx2 : (x.toNat : Int) = es[j].toInt := by
        rw [← hx]
        have : es[j].toInt.toNat < 256 := by omega
        simp only [UInt8.toNat_ofNat']
        omega
      rw [add_none, cell?_cells hh, hx2]
      rw [show 0 + j = j * 1 + 0 by omega, hv1, this])
    obtain ⟨f1, f2, f3, f4, f5⟩ := freeze_heap (w := w) (b := b) (n := n.toNat)
    obtain ⟨k1, k2⟩ := change_sim (w' := w.freeze ⟨b, 0, none⟩ n.toNat) S hid (by simp) (blk' := .dead) (by trivial) hbe (hnI rfl) (by simp) f1 f2 f3 ⟨f4, f5⟩ (fun _ => .dead)
    rw [← hn', hl] at hrun
    refine ⟨.string ⟨(bytesOfV (es.take n.toNat)).toArray⟩, _, I, β, ?_, k1, k2, .str ?_⟩
    · simpa using hrun
    · rfl
def isCall : Op → Bool
  | .call { callee := .value (.func _), .. } => true
  | .call { callee := .value (.tmp _), .. } => true
  | .defer _ => true
  | _ => false
theorem OpOk.val {o : Oper} {a : Act} {s : Sem Value} {r : R} (he : execOp a.eval o = (do Pure.pure (Next.value (← s)))) (h : ValOk P (s.run P w) w I β hp B M w0 r) : OpOk P ((execOp a.eval o).run P w) w I β hp B M w0 r := by
  rw [he]; exact h.op
theorem op_sim {A : Ann} (S : Sim P w I β hp B M w0) (hg : GlobOk P A.glob w I) {a : Act} {sl : Nat → V} (hs : SRel P w I β hp a sl) {ix nb : Nat} {o : Oper} (hnc : isCall o.op = false) {r : R} {rd : List Nat}
    (h : (opRd P A sl ix nb o).run C hp = some (r, rd)) : OpOk P ((execOp a.eval o).run P w) w I β hp B M w0 r := by
  obtain ⟨dst, op, ty, pos, after, guard⟩ := o
  cases op <;> simp only [opRd] at h <;> first | (cases h; done) | skip
  case move x =>
    obtain rfl := run_ret' h
    exact ⟨_, w, I, β, .inl (by simp [execOp]), Le.refl w I β hp, S, hs.ev hg ty x⟩
  case assign x =>
    obtain rfl := run_ret' h
    exact ⟨_, w, I, β, .inl (by simp [execOp]), Le.refl w I β hp, S, hs.ev hg ty x⟩
  case pick c x y =>
    have hc := hs.ev hg ty c
    cases hcv : evO P A.glob ty sl c <;> rw [hcv] at h hc <;> simp only at h <;> first | (cases h; done) | skip
    rename_i t
    have hcv2 := hc.bool_inv
    have hx := hs.ev hg ty x
    have hy := hs.ev hg ty y
    have fin : ∀ z : V, VRel P w I β hp (if t then a.eval x else a.eval y) z → OpOk P ((execOp a.eval ⟨dst, .pick c x y, ty, pos, after, guard⟩).run P w) w I β hp B M w0 ⟨z, []⟩ := by
      intro z hz
      exact ⟨_, w, I, β, .inl (by simp [execOp, hcv2, asBool]), Le.refl w I β hp, S, hz⟩
    cases hg1 : gone (evO P A.glob ty sl x) with
    | true =>
      rw [hg1] at h
      obtain ⟨h1, h⟩ := run_chk h
      obtain rfl := run_ret' h
      have : t = false := by simpa using h1
      subst this
      refine fin _ ?_
      simpa using hy
    | false =>
      rw [hg1] at h
      simp only [cond_false] at h
      cases hg2 : gone (evO P A.glob ty sl y) with
      | true =>
        rw [hg2] at h
        obtain ⟨h1, h⟩ := run_chk h
        obtain rfl := run_ret' h
        subst h1
        refine fin _ ?_
        simpa using hx
      | false =>
        rw [hg2] at h
        obtain rfl := run_ret' h
        exact fin _ (pickV_sim hx hy)
  case makeFunc fn x y =>
    cases fn <;> simp only [opRd] at h <;> first | (cases h; done) | skip
    rename_i f
    obtain rfl := run_ret' h
    refine ⟨.func (.func f) (x.map a.eval) (y.map a.eval), w, I, β, .inl (by simp [execOp, Instr.makeFunc]), Le.refl w I β hp, S, .fn (by simp) (fun j v z hj hz => ?_) (by simp) (fun j v z hj hz => ?_)⟩
    · rw [Array.getElem?_map] at hj
      rw [List.getElem?_map, Array.getElem?_toList] at hz
      cases hx : x[j]? with
      | none => rw [hx] at hj; cases hj
      | some o1 =>
        rw [hx] at hj hz
        cases hj
        cases hz
        exact hs.ev hg ty o1
    · rw [Array.getElem?_map] at hj
      rw [List.getElem?_map, Array.getElem?_toList] at hz
      cases hx : y[j]? with
      | none => rw [hx] at hj; cases hj
      | some o1 =>
        rw [hx] at hj hz
        cases hj
        cases hz
        exact hs.ev hg ty o1
  case defer c => cases hnc
  case alloc e =>
    exact .val rfl (alloc_op_sim S h)
  case box e x =>
    exact .val rfl (box_op_sim S (hs.ev hg e x) h)
  case build t ps => exact .val rfl (build_op_sim S hs hg h)
  case buildSlice t len ps =>
    cases hu : P.underlying t with
    | none => rw [hu] at h; cases h
    | some d =>
      rw [hu] at h
      cases d <;> simp only at h <;> first | (cases h; done) | skip
      exact .val rfl (buildSlice_op_sim S hs hg hu h)
  case load t x => exact .val rfl (load_sim S (hs.ev hg ty x) h)
  case store t x y =>
    have := store_sim S (hs.ev hg ty x) (hs.ev hg t y) h
    exact this.op
  case nilCheck x =>
    have hx := hs.ev hg ty x
    cases hxv : evO P A.glob ty sl x <;> rw [hxv] at h hx <;> simp only at h <;> first | (cases h; done) | skip
    · obtain ⟨⟨blk, hid, hd⟩, l, h⟩ := run_alive h
      obtain rfl := run_ret' h
      have hx' := hx
      obtain ⟨b, hb, he⟩ := hx.ptr_inv hid hd
      rw [he] at hx'
      exact ⟨_, w, I, β, .inl (by simp only [execOp, he]; rfl), Le.refl w I β hp, S, hx'⟩
    · obtain rfl := run_ret' h
      have hx' := hx
      obtain ⟨b, o, he, _⟩ := hx.pref_inv
      rw [he] at hx'
      exact ⟨_, w, I, β, .inl (by simp only [execOp, he]; rfl), Le.refl w I β hp, S, hx'⟩
    · obtain ⟨e0, es, vers, l, hid, h1, h2, h3, h⟩ := rowAt_run h
      obtain rfl := run_ret' h
      have hx' := hx
      obtain ⟨b, o, he, _⟩ := hx.at_off hid h1 h2 h3
      rw [he] at hx'
      exact ⟨_, w, I, β, .inl (by simp only [execOp, he]; rfl), Le.refl w I β hp, S, hx'⟩
  case binOp op t x y yt =>
    have hx := hs.ev hg t x
    have hy := hs.ev hg t y
    refine .val (s := do eqGuard op t x y (a.eval x) (a.eval y); binOp op t (a.eval x) (a.eval y)) rfl ?_
    cases hxv : evO P A.glob t sl x <;> cases hyv : evO P A.glob t sl y <;> rw [hxv, hyv] at h <;> rw [hxv] at hx <;> rw [hyv] at hy <;> first | (simp only [binRd] at h; cases h; done) | skip
    · rw [hx.int_inv, hy.int_inv]
      have := bin_int_sim S h
      simpa [run_eqGuard_int] using this
    · rw [hx.bool_inv, hy.bool_inv]
      have := bin_bool_sim S h
      simpa [run_eqGuard_bool] using this
    · obtain ⟨s1, e1, l1⟩ := hx.str_inv
      obtain ⟨s2, e2, l2⟩ := hy.str_inv
      rw [e1, e2]
      rw [← l1, ← l2] at h
      have := bin_str_sim (t := t) S h
      simpa [run_eqGuard_str] using this
    · obtain ⟨cs, e1, h1, h2⟩ := hx.agg_inv
      obtain ⟨ds, e2, h3, h4⟩ := hy.agg_inv
      rw [e1, e2]
      exact eqAgg_sim S h1 h3 h2 h4 h
    ·
      simp only [binRd] at h
      obtain ⟨h1, h2⟩ := run_chk h
      clear h
      simp only [Bool.and_eq_true, Nat.beq_eq] at h1
      obtain ⟨rfl, rfl, rfl⟩ := h1
      obtain ⟨⟨blk, hid, hd⟩, l, h⟩ := run_alive h2
      obtain ⟨b, hb, e1⟩ := hx.ptr_inv hid hd
      obtain ⟨b', hb', e2⟩ := hy.ptr_inv hid hd
      rw [hb] at hb'; cases hb'
      rw [e1, e2]
      exact ptrEq_sim S h (by cases op <;> simp [eqGuard]) fun e j he hj => ⟨run_eql_ptr_same w _ he hj, Lib.run_neq_ptr_same w _ he hj⟩
    · simp only [binRd] at h
      obtain ⟨⟨blk, hid, hd⟩, l, h⟩ := run_alive h
      obtain ⟨b, _, e1⟩ := hx.ptr_inv hid hd
      rw [e1, hy.nilp_inv']
      exact ptrEq_sim S h (by cases op <;> simp [eqGuard]) fun e j he hj => ⟨run_ptr_nil w t e _ he, run_ptr_nil' w t e _ he⟩
    · simp only [binRd] at h
      obtain ⟨⟨blk, hid, hd⟩, l, h⟩ := run_alive h
      obtain ⟨b, _, e1⟩ := hy.ptr_inv hid hd
      rw [e1, hx.nilp_inv']
      exact ptrEq_sim S h (by cases op <;> simp [eqGuard]) fun e j he hj => ⟨run_nil_ptr w t e _ he, run_nil_ptr' w t e _ he⟩
    · simp only [binRd] at h
      rw [hx.nilp_inv', hy.nilp_inv']
      exact ptrEq_sim S h (by cases op <;> simp [eqGuard]) fun e j he hj => ⟨run_nil_nil w t e he, run_nil_nil' w t e he⟩
  case unOp op t x => exact .val rfl (un_sim S (hs.ev hg ty x) h)
  case convert src dst x =>
    have hx := hs.ev hg ty x
    refine .val (s := convert src dst (a.eval x)) rfl ?_
    cases hs1 : P.underlying src with
    | none => rw [hs1] at h; cases h
    | some d1 =>
      cases hs2 : P.underlying dst with
      | none => rw [hs1, hs2] at h; cases d1 <;> cases h
      | some d2 =>
        rw [hs1, hs2] at h
        have shp : ∀ {b : Nat} {T : TypeId} {cs : List V} {id : Nat}, hp id = some (.var T cs) → β id = some b → w.shape? b = some (T, cs.length) := by
          intro b T cs id hid hb
          have hr := S.h.rel id _ hid
          rw [hb] at hr
          cases hr with
          | var hb' hh hsz _ _ _ => cases hb'; simp [World.shape?, hh, hsz]
        cases d1 <;> (try (cases d2 <;> cases h; done))
        · cases d2 <;> (try (cases h; done))
          rename_i k1 k2
          cases hxv : evO P A.glob ty sl x <;> rw [hxv] at h hx <;> simp only at h <;> first | (cases h; done) | skip
          obtain rfl := run_ret' h
          rw [hx.int_inv]
          exact .same S (by simp [convert, run_underlying hs1, run_underlying hs2, Conv.intToInt]) .int
        · cases d2 <;> (try (cases h; done))
          rename_i u
          cases hxv : evO P A.glob ty sl x <;> rw [hxv] at h hx <;> simp only at h <;> first | (cases h; done) | skip
          rename_i id i c
          obtain ⟨l, h1⟩ := run_get h
          cases hid : hp id with
          | none => rw [hid] at h1; cases h1
          | some blk =>
            rw [hid] at h1
            cases blk <;> simp only at h1 <;> first | (cases h1; done) | skip
            rename_i T cs
            obtain ⟨h2, h3⟩ := run_chk h1
            simp only [Bool.and_eq_true, Nat.beq_eq] at h2
            obtain ⟨rfl, h4, h5⟩ := h2
            obtain ⟨b, hb, e1⟩ := hx.ptr_inv hid (by simp)
            obtain rfl := run_ret' h3
            obtain ⟨j, hj⟩ := Option.isSome_iff_exists.1 h4
            have hx' := hx
            rw [e1] at hx' ⊢
            exact .same S (Lib.run_from_unsafe w _ hs1 hs2 hj (shp hid hb) (by simpa using h5)) hx'
        · cases d2 <;> (try (cases h; done))
          rename_i t
          cases hxv : evO P A.glob ty sl x <;> rw [hxv] at h hx <;> simp only at h <;> first | (cases h; done) | skip
          rename_i id i c
          obtain ⟨l, h1⟩ := run_get h
          cases hid : hp id with
          | none => rw [hid] at h1; cases h1
          | some blk =>
            rw [hid] at h1
            cases blk <;> simp only at h1 <;> first | (cases h1; done) | skip
            rename_i T cs
            obtain ⟨h2, h3⟩ := run_chk h1
            simp only [Bool.and_eq_true, Nat.beq_eq, Nat.blt_eq] at h2
            obtain ⟨rfl, h4, h5⟩ := h2
            obtain ⟨b, hb, e1⟩ := hx.ptr_inv hid (by simp)
            obtain rfl := run_ret' h3
            cases hj : P.info? t with
            | none => rw [hj] at h5; cases h5
            | some j =>
              rw [hj] at h5
              simp only [Bool.not_eq_true'] at h5
              have h6 : j.size ≠ 0 := fun e => by rw [e] at h5; cases h5
              have hx' := hx
              rw [e1] at hx' ⊢
              exact .same S (Lib.run_to_unsafe w _ hs1 hs2 hj h6 (shp hid hb) (by simpa using h4)) hx'
        · rename_i e
          cases d2 <;> (try (cases h; done))
          simp only at h
          cases he : P.underlying e with
          | none => rw [he] at h; cases h
          | some d3 =>
            rw [he] at h
            cases d3 <;> (try (cases h; done))
            rename_i k
            cases k <;> (try (cases h; done))
            exact bytes_sim S hs1 he hs2 hx h
  case fieldAddr s x f => exact .val rfl (fieldAddr_sim S (hs.ev hg ty x) h)
  case field s x f => exact .val rfl (field_sim S (hs.ev hg ty x) h)
  case indexAddr t x y => exact .val rfl (indexAddr_sim S (hs.ev hg ty x) (hs.ev hg 0 y) h)
  case index t x y =>
    have hx := hs.ev hg ty x
    have hy := hs.ev hg 0 y
    refine .val (s := Instr.index t (a.eval x) (a.eval y)) rfl ?_
    cases hu : P.underlying t with
    | none => rw [hu] at h; cases h
    | some d =>
      rw [hu] at h
      cases d <;> (try (cases h; done))
      cases hxv : evO P A.glob ty sl x <;> rw [hxv] at h hx <;> (try (cases h; done))
      cases hyv : evO P A.glob 0 sl y <;> rw [hyv] at h hy <;> (try (cases h; done))
      obtain ⟨s, e1, l1⟩ := hx.str_inv
      rw [e1, hy.int_inv]
      exact index_sim S hu l1 h
  case slice t x lo hi mx =>
    cases mx with
    | some m =>
      simp only at h
      refine .val (s := Instr.sliceAt t (a.eval x) (lo.map a.eval) (hi.map a.eval) (some (a.eval m))) (by simp [execOp]) (slice3_sim S (hs.ev hg ty x) (fun hy => ?_) (fun y hy => ?_) (fun y hy => ?_) h)
      · cases lo with
        | none => rfl
        | some l => cases hy
      · cases hi with
        | none => cases hy
        | some l => cases hy; exact ⟨_, rfl, hs.ev hg 0 l⟩
      · cases hy; exact ⟨_, rfl, hs.ev hg 0 m⟩
    | none =>
      simp only at h
      refine .val (s := Instr.sliceAt t (a.eval x) (lo.map a.eval) (hi.map a.eval) none) (by simp [execOp]) (slice_sim S (hs.ev hg ty x) (fun y hy => ?_) (fun y hy => ?_) (fun hy => ?_) (fun hy => ?_) h)
      · cases lo with
        | none => cases hy
        | some l => cases hy; exact ⟨_, rfl, hs.ev hg 0 l⟩
      · cases hi with
        | none => cases hy
        | some l => cases hy; exact ⟨_, rfl, hs.ev hg 0 l⟩
      · cases lo with
        | none => rfl
        | some l => cases hy
      · cases hi with
        | none => rfl
        | some l => cases hy
  case extract x i =>
    have hx := hs.ev hg ty x
    cases hxv : evO P A.glob ty sl x <;> rw [hxv] at h hx <;> simp only at h <;> first | (cases h; done) | skip
    exact .val (s := Instr.extract (a.eval x) i) rfl (extract_sim S hx h)
  case makeSlice t l c =>
    have hl := hs.ev hg 0 l
    have hc := hs.ev hg 0 c
    refine .val (s := Instr.makeSlice t (a.eval l) (a.eval c)) rfl ?_
    cases hu : P.underlying t with
    | none => rw [hu] at h; cases h
    | some d =>
      rw [hu] at h
      cases d <;> (try (cases h; done))
      cases hlv : evO P A.glob 0 sl l <;> rw [hlv] at h hl <;> (try (cases h; done))
      cases hcv : evO P A.glob 0 sl c <;> rw [hcv] at h hc <;> (try (cases h; done))
      rw [hl.int_inv, hc.int_inv]
      cases dst with
      | none => exact makeSlice_op_sim S hu h
      | some d =>
        simp only at h
        cases hg : memN A.nstNow d with
        | true => rw [hg] at h; exact makeNest_op_sim S hu h
        | false => rw [hg] at h; exact makeSlice_op_sim S hu h
  case call c =>
    obtain ⟨callee, args, argTypes⟩ := c
    cases callee with
    | invoke r m => cases h
    | value f =>
      cases f with
      | func f => cases hnc
      | tmp f => cases hnc
      | _ => cases h
    | builtin b =>
      have one : ∀ {x : Operand}, args.toList = [x] → args = #[x] := fun h => by rw [← Array.toArray_toList (xs := args), h]
      have hexec : ∀ (s : Array TypeId → TypeId → Array Value → Sem Value), builtin b argTypes ty (args.map fun | .const _ => true | _ => false) (args.map a.eval) = (do Pure.pure (Next.value (← s argTypes ty (args.map a.eval)))) →
          execOp a.eval ⟨dst, .call ⟨.builtin b, args, argTypes⟩, ty, pos, after, guard⟩ = (do Pure.pure (Next.value (← s argTypes ty (args.map a.eval)))) := by
        intro s hb
        simp only [execOp, resolve, pure_bind, invoke]
        exact hb
      cases b <;> (try (cases h; done))
      case append =>
        simp only at h
        cases ha : args.toList with
        | nil => rw [ha] at h; cases h
        | cons x l =>
          cases l with
          | nil => rw [ha] at h; cases h
          | cons y l2 =>
            cases l2 with
            | cons _ _ => rw [ha] at h; cases h
            | nil =>
              cases hat : argTypes.toList with
              | nil => rw [ha, hat] at h; cases h
              | cons t l3 =>
                cases l3 with
                | nil => rw [ha, hat] at h; cases h
                | cons u l4 =>
                  cases l4 with
                  | cons _ _ => rw [ha, hat] at h; cases h
                  | nil =>
                    rw [ha, hat] at h
                    simp only at h
                    have e1 : args = #[x, y] := by rw [← Array.toArray_toList (xs := args), ha]
                    have e2 : argTypes = #[t, u] := by rw [← Array.toArray_toList (xs := argTypes), hat]
                    cases hu : P.underlying t with
                    | none => rw [hu] at h; cases h
                    | some d =>
                      rw [hu] at h
                      cases d <;> (try (cases h; done))
                      cases hc : Nat.beq t u with
                      | true =>
                        rw [hc] at h
                        rw [Nat.beq_eq] at hc
                        subst hc
                        have := append_sim (ty := ty) S hu (hs.ev hg t x) (hs.ev hg t y) h
                        refine .val (hexec Builtin.append_ rfl) ?_
                        rw [e1, e2]
                        simpa using this
                      | false =>
                        rw [hc] at h
                        simp only [cond_false] at h
                        have hy := hs.ev hg u y
                        cases hus : P.underlying u with
                        | none => rw [hus] at h; cases h
                        | some du =>
                          rw [hus] at h
                          cases du <;> (try (cases h; done))
                          cases hyv : evO P A.glob u sl y <;> rw [hyv] at h hy <;> (try (cases h; done))
                          simp only at h
                          obtain ⟨hb, h⟩ := run_chk h
                          obtain ⟨s1, q1, q2⟩ := hy.str_inv
                          subst q2
                          have := appendStr_sim (ty := ty) S hu hus (byte_of hb) (hs.ev hg t x) h
                          refine .val (hexec Builtin.append_ rfl) ?_
                          rw [e1, e2]
                          simpa [q1] using this
      case len =>
        simp only at h
        cases ha : args.toList with
        | nil => rw [ha] at h; cases h
        | cons x l =>
          cases l with
          | cons _ _ => rw [ha] at h; cases h
          | nil =>
            cases hat : argTypes.toList with
            | nil => rw [ha, hat] at h; cases h
            | cons t l3 =>
              cases l3 with
              | cons _ _ => rw [ha, hat] at h; cases h
              | nil =>
                rw [ha, hat] at h
                simp only at h
                have e1 : args = #[x] := by rw [← Array.toArray_toList (xs := args), ha]
                have e2 : argTypes = #[t] := by rw [← Array.toArray_toList (xs := argTypes), hat]
                have hx := hs.ev hg ty x
                refine .val (hexec Builtin.len_ rfl) ?_
                rw [e1, e2]
                cases hu : P.underlying t with
                | none => rw [hu] at h; cases h
                | some d =>
                  rw [hu] at h
                  cases d <;> (try (cases h; done))
                  · cases hxv : evO P A.glob ty sl x <;> rw [hxv] at h hx <;> (try (cases h; done))
                    have := len_sim (t := t) (ty := ty) S hx (fun l hl => hu) (fun hn => absurd rfl (hn _)) h
                    simpa using this
                  · have h2 : (∀ l, evO P A.glob ty sl x ≠ .str l) ∧ (lenRd P (evO P A.glob ty sl x)).run C hp = some (r, rd) := by
                      cases hxv : evO P A.glob ty sl x <;> rw [hxv] at h <;> first | (cases h; done) | exact ⟨fun l => by simp, h⟩
                    have := len_sim (t := t) (ty := ty) S hx (fun l hl => absurd hl (h2.1 l)) (fun _ => ⟨_, hu⟩) h2.2
                    simpa using this
      case unsafeSliceData =>
        simp only at h
        cases ha : args.toList with
        | nil => rw [ha] at h; cases h
        | cons x l =>
          cases l with
          | cons _ _ => rw [ha] at h; cases h
          | nil =>
            rw [ha] at h
            simp only at h
            have e1 : args = #[x] := by rw [← Array.toArray_toList (xs := args), ha]
            have hx := hs.ev hg ty x
            refine .val (hexec Builtin.unsafeSliceData_ rfl) ?_
            rw [e1]
            cases hxv : evO P A.glob ty sl x <;> rw [hxv] at h hx <;> simp only at h <;> first | (cases h; done) | skip
            rename_i e id
            obtain ⟨l2, h1⟩ := run_get h
            cases hid : hp id with
            | none => rw [hid] at h1; cases h1
            | some blk =>
              rw [hid] at h1
              cases blk <;> simp only at h1 <;> first | (cases h1; done) | skip
              rename_i e' es fz
              obtain ⟨h2, h3⟩ := run_chk h1
              simp only [Bool.and_eq_true, Nat.beq_eq, Nat.blt_eq] at h2
              obtain ⟨rfl, h4⟩ := h2
              obtain rfl := run_ret' h3
              have := slData_sim (ts := argTypes) (ty := ty) S hx hid h4
              simpa using this
      case unsafeString =>
        simp only at h
        cases ha : args.toList with
        | nil => rw [ha] at h; cases h
        | cons x l =>
          cases l with
          | nil => rw [ha] at h; cases h
          | cons y l2 =>
            cases l2 with
            | cons _ _ => rw [ha] at h; cases h
            | nil =>
              cases hat : argTypes.toList with
              | nil => rw [ha, hat] at h; cases h
              | cons t l3 =>
                cases l3 with
                | nil => rw [ha, hat] at h; cases h
                | cons u l4 =>
                  cases l4 with
                  | cons _ _ => rw [ha, hat] at h; cases h
                  | nil =>
                    rw [ha, hat] at h
                    simp only at h
                    have e1 : args = #[x, y] := by rw [← Array.toArray_toList (xs := args), ha]
                    have e2 : argTypes = #[t, u] := by rw [← Array.toArray_toList (xs := argTypes), hat]
                    have hx := hs.ev hg ty x
                    have hy := hs.ev hg ty y
                    cases hu : P.underlying t with
                    | none => rw [hu] at h; cases h
                    | some d =>
                      rw [hu] at h
                      cases d <;> (try (cases h; done))
                      rename_i e
                      cases hxv : evO P A.glob ty sl x <;> rw [hxv] at h hx <;> (try (cases h; done))
                      cases hyv : evO P A.glob ty sl y <;> rw [hyv] at h hy <;> (try (cases h; done))
                      rename_i id i c k n
                      cases k <;> (try (cases h; done))
                      simp only at h
                      obtain ⟨l2, h1⟩ := run_get h
                      cases hid : hp id with
                      | none => rw [hid] at h1; cases h1
                      | some blk =>
                        rw [hid] at h1
                        cases blk <;> simp only at h1 <;> first | (cases h1; done) | skip
                        rename_i e' es fz
                        cases fz <;> simp only at h1 <;> first | (cases h1; done) | skip
                        obtain ⟨h2, h3⟩ := run_chk h1
                        simp only [Bool.and_eq_true, Nat.beq_eq, Nat.ble_eq, decide_eq_true_eq] at h2
                        obtain ⟨rfl, h4, rfl, rfl, h5, h6, h7, h8⟩ := h2
                        obtain rfl := run_ret' h3
                        have := unsafeString_sim (u := u) (ty := ty) S hu h4 hx hid h5 h6 h7 h8
                        refine .val (hexec Builtin.unsafeString_ rfl) ?_
                        rw [e1, e2]
                        simpa [hy.int_inv] using this
      case max =>
        simp only at h
        cases ha : args.toList with
        | nil => rw [ha] at h; cases h
        | cons x l =>
          rw [ha] at h
          simp only at h
          have := minMax_sim S true (vs := l.map a.eval) (xs := l.map (evO P A.glob ty sl)) (hs.ev hg ty x) (by simp) (fun j u y hu hy => by
            simp only [List.getElem?_map] at hu hy
            cases hl : l[j]? with
            | none => rw [hl] at hu; cases hu
            | some z => rw [hl] at hu hy; cases hu; cases hy; exact hs.ev hg ty z) h
          refine .val (hexec Builtin.max_ rfl) ?_
          simpa [Builtin.max_, ha] using this
      case min =>
        simp only at h
        cases ha : args.toList with
        | nil => rw [ha] at h; cases h
        | cons x l =>
          rw [ha] at h
          simp only at h
          have := minMax_sim S false (vs := l.map a.eval) (xs := l.map (evO P A.glob ty sl)) (hs.ev hg ty x) (by simp) (fun j u y hu hy => by
            simp only [List.getElem?_map] at hu hy
            cases hl : l[j]? with
            | none => rw [hl] at hu; cases hu
            | some z => rw [hl] at hu hy; cases hu; cases hy; exact hs.ev hg ty z) h
          refine .val (hexec Builtin.min_ rfl) ?_
          simpa [Builtin.min_, ha] using this
end
end Go.AM
namespace Go.AM
section
variable {P : Program} {A : Ann} {w w' : World} {I I' I2 : Nat → Prop} {μ β β' : Nat → Option Nat} {hp hp' : Nat → Option Blk} {C : CallF} {B : Nat} {M : Nat → Prop} {w0 : Start}
theorem natsBeq_eq : ∀ {l m : List Nat}, readL.natsBeq l m = true → l = m
  | [], [], _ => rfl
  | [], _ :: _, h => by cases h
  | _ :: _, [], h => by cases h
  | a :: l, b :: m, h => by
    simp only [readL.natsBeq, Bool.and_eq_true, Nat.beq_eq] at h
    rw [h.1, natsBeq_eq h.2]
@[simp] theorem vNat_nat (n : Nat) : vNat (natV n) = n := by simp [vNat, natV, V.toInt]
theorem makePath_eq : ∀ (path : List (Nat × Nat)) (rest : List V), makePath (path.map (·.2)) ((path.map fun p => natV p.1) ++ rest) = path
  | [], _ => rfl
  | p :: l, rest => by
    simp only [List.map_cons, List.cons_append, makePath, V.nth, vNat_nat, List.drop_succ_cons, List.drop_zero, makePath_eq l rest]
theorem readL_make {l : LS} {x : V} {ds : List V} (h : readL l x = some ds) : ds.length = l.size ∧ (l = .und ∨ ∀ rest, makeL l (ds ++ rest) = x) := by
  cases l with
  | und => simp only [readL, Option.some.injEq] at h; subst h; exact ⟨rfl, .inl rfl⟩
  | int k =>
    cases x <;> simp only [readL] at h <;> first | (cases h; done) | skip
    rename_i k' n
    by_cases hk : k = k'
    · subst hk
      simp only [decide_true, cond_true, Option.some.injEq] at h
      subst h
      exact ⟨rfl, .inr fun _ => rfl⟩
    · simp [hk] at h
  | bool =>
    cases x <;> simp only [readL] at h <;> first | (cases h; done) | skip
    cases h
    exact ⟨rfl, .inr fun _ => rfl⟩
  | str =>
    cases x <;> simp only [readL] at h <;> first | (cases h; done) | skip
    cases h
    exact ⟨rfl, .inr fun _ => rfl⟩
  | list e =>
    cases x <;> simp only [readL] at h <;> first | (cases h; done) | skip
    rename_i e' es
    cases hb : Nat.beq e e' with
    | false => rw [hb] at h; cases h
    | true =>
      rw [hb] at h
      rw [Nat.beq_eq] at hb
      subst hb
      cases h
      exact ⟨rfl, .inr fun _ => rfl⟩
  | whole e j =>
    cases x <;> simp only [readL] at h <;> first | (cases h; done) | skip
    rename_i e' id
    cases hb : (Nat.beq e e' && Nat.beq j id) with
    | false => rw [hb] at h; cases h
    | true =>
      rw [hb] at h
      simp only [Bool.and_eq_true, Nat.beq_eq] at hb
      obtain ⟨rfl, rfl⟩ := hb
      cases h
      exact ⟨rfl, .inr fun _ => rfl⟩
  | sub e j =>
    cases x <;> simp only [readL] at h <;> first | (cases h; done) | skip
    rename_i e' id o n
    cases hb : (Nat.beq e e' && Nat.beq j id) with
    | false => rw [hb] at h; cases h
    | true =>
      rw [hb] at h
      simp only [Bool.and_eq_true, Nat.beq_eq] at hb
      obtain ⟨rfl, rfl⟩ := hb
      cases h
      exact ⟨rfl, .inr fun _ => by simp [makeL, V.nth]⟩
  | ptr j =>
    cases x <;> simp only [readL] at h <;> first | (cases h; done) | skip
    rename_i id i c
    cases hb : (Nat.beq j id) with
    | false => rw [hb] at h; cases h
    | true =>
      rw [hb] at h
      rw [Nat.beq_eq] at hb
      subst hb
      cases h
      exact ⟨rfl, .inr fun _ => by simp [makeL, V.nth]⟩
  | ptrC j i c =>
    cases x <;> simp only [readL] at h <;> first | (cases h; done) | skip
    rename_i id i' c'
    cases hb : (Nat.beq j id && (Nat.beq i i' && Nat.beq c c')) with
    | false => rw [hb] at h; cases h
    | true =>
      rw [hb] at h
      simp only [Bool.and_eq_true, Nat.beq_eq] at hb
      obtain ⟨rfl, rfl, rfl⟩ := hb
      cases h
      exact ⟨rfl, .inr fun _ => rfl⟩
  | nilS e =>
    cases x <;> simp only [readL] at h <;> first | (cases h; done) | skip
    rename_i e'
    cases hb : Nat.beq e e' with
    | false => rw [hb] at h; cases h
    | true =>
      rw [hb] at h
      rw [Nat.beq_eq] at hb
      subst hb
      cases h
      exact ⟨rfl, .inr fun _ => rfl⟩
  | nilp =>
    cases x <;> simp only [readL] at h <;> first | (cases h; done) | skip
    cases h
    exact ⟨rfl, .inr fun _ => rfl⟩
  | row e j cs =>
    cases x <;> simp only [readL] at h <;> first | (cases h; done) | skip
    rename_i e' id ver path
    cases hb : (Nat.beq e e' && (Nat.beq j id && (Nat.beq ver 0 && readL.natsBeq cs (path.map (·.2))))) with
    | false => rw [hb] at h; cases h
    | true =>
      rw [hb] at h
      simp only [Bool.and_eq_true, Nat.beq_eq] at hb
      obtain ⟨rfl, rfl, rfl, hcs⟩ := hb
      have := natsBeq_eq hcs
      subst this
      cases h
      exact ⟨by simp [LS.size], .inr fun rest => by simp only [makeL, makePath_eq]⟩
  | elt j cs c =>
    cases x <;> simp only [readL] at h <;> first | (cases h; done) | skip
    rename_i id ver path i c'
    cases hb : (Nat.beq j id && (Nat.beq ver 0 && (Nat.beq c c' && readL.natsBeq cs (path.map (·.2))))) with
    | false => rw [hb] at h; cases h
    | true =>
      rw [hb] at h
      simp only [Bool.and_eq_true, Nat.beq_eq] at hb
      obtain ⟨rfl, rfl, rfl, hcs⟩ := hb
      have := natsBeq_eq hcs
      subst this
      cases h
      exact ⟨by simp [LS.size], .inr fun rest => by simp only [makeL, List.cons_append, V.nth, vNat_nat, List.drop_succ_cons, List.drop_zero, makePath_eq]⟩
def LS.below (n : Nat) (x : V) : Prop := ∀ id ∈ refs0 x, id < n
def isLeaf : V → Prop
  | .agg _ => False
  | .tup _ => False
  | .fn .. => False
  | .pref .. => False
  | _ => True
theorem of_bif {c : Bool} {a d : List V} (h : (bif c then some a else none) = some d) : c = true := by
  cases c with
  | true => rfl
  | false => cases h
theorem readL_leaf {l : LS} {x : V} {ds : List V} {n : Nat} (h : readL l x = some ds) (hl : l ≠ .und) (hok : l.ok n = true) : isLeaf x ∧ LS.below n x := by
  cases l <;> cases x <;> simp only [readL] at h <;> first | (cases h; done) | (exact absurd rfl hl) | skip
  all_goals refine ⟨trivial, fun id hid => ?_⟩
  all_goals simp only [refs0, List.mem_singleton, List.not_mem_nil] at hid
  all_goals subst hid
  all_goals simp only [LS.ok, Nat.blt_eq] at hok
  all_goals
    have hb := of_bif h
    simp only [Bool.and_eq_true, Nat.beq_eq] at hb
    omega
theorem VRel.leaf_sub {v : Value} {x : V} (h : VRel P w I β hp v x) (hx : isLeaf x) (hs : ∀ id ∈ refs0 x, hp' id = hp id ∧ β' id = β id) : VRel P w I β' hp' v x := by
  have one : ∀ {id}, id ∈ refs0 x → hp' id = hp id ∧ β' id = β id := fun h => hs _ h
  cases h with
  | undef => exact .undef
  | int => exact .int
  | bool => exact .bool
  | str h => exact .str h
  | list h => exact .list h
  | nilS => exact .nilS
  | agg => exact hx.elim
  | tup => exact hx.elim
  | nilp => exact .nilp
  | fn => exact hx.elim
  | pref => exact hx.elim
  | wholeDead h => exact .wholeDead ((one (by simp [refs0])).1.trans h)
  | subDead h => exact .subDead ((one (by simp [refs0])).1.trans h)
  | ptrDead h => exact .ptrDead ((one (by simp [refs0])).1.trans h)
  | wholeNil h hb => exact .wholeNil ((one (by simp [refs0])).1.trans h) ((one (by simp [refs0])).2.trans hb)
  | whole h hb a b c => exact .whole ((one (by simp [refs0])).1.trans h) ((one (by simp [refs0])).2.trans hb) a b c
  | wholeN h hb a b c => exact .wholeN ((one (by simp [refs0])).1.trans h) ((one (by simp [refs0])).2.trans hb) a b c
  | subNil h hb => exact .subNil ((one (by simp [refs0])).1.trans h) ((one (by simp [refs0])).2.trans hb)
  | sub h hb a b c => exact .sub ((one (by simp [refs0])).1.trans h) ((one (by simp [refs0])).2.trans hb) a b c
  | ptr h hd hb => exact .ptr ((one (by simp [refs0])).1.trans h) hd ((one (by simp [refs0])).2.trans hb)
  | rowPast h hpa => exact .rowPast ((one (by simp [refs0])).1.trans h) hpa
  | atPast h hpa => exact .atPast ((one (by simp [refs0])).1.trans h) hpa
  | row h hb a b c d => exact .row ((one (by simp [refs0])).1.trans h) ((one (by simp [refs0])).2.trans hb) a b c d
  | elt h hb a b c d e => exact .elt ((one (by simp [refs0])).1.trans h) ((one (by simp [refs0])).2.trans hb) a b c d e
theorem drop_app {a b : List V} {n : Nat} (h : a.length = n) : (a ++ b).drop n = b := by subst h; simp
def Same (n : Nat) (β : Nat → Option Nat) (hp : Nat → Option Blk) (β' : Nat → Option Nat) (hp' : Nat → Option Blk) : Prop := ∀ id, id < n → hp' id = hp id ∧ β' id = β id
theorem readL_sim {l : LS} {x : V} {ds : List V} {n : Nat} {v : Value} (h : readL l x = some ds) (hok : l.ok n = true) (hsame : Same n β hp β' hp') (hv : VRel P w I β hp v x) (rest : List V) :
    VRel P w I β' hp' v (makeL l (ds ++ rest)) := by
  rcases (readL_make h).2 with e | e
  · subst e; exact .undef
  · rw [e rest]
    by_cases hu : l = .und
    · subst hu
      have : x = .undef := (e rest).symm
      subst this
      exact .undef
    · obtain ⟨h1, h2⟩ := readL_leaf h hu hok
      exact hv.leaf_sub h1 fun id hid => hsame id (h2 id hid)
theorem readLs_sim {n : Nat} (hsame : Same n β hp β' hp') : ∀ {ls : List LS} {xs : List V} {ds : List V}, readLs ls xs = some ds → ls.all (LS.ok n) = true →
    ds.length = lsSize ls ∧ (∀ rest, (makeLs ls (ds ++ rest)).length = xs.length) ∧
    ∀ (rest : List V) (j : Nat) (v : Value) (y : V), (∀ x, xs[j]? = some x → VRel P w I β hp v x) → (makeLs ls (ds ++ rest))[j]? = some y → VRel P w I β' hp' v y
  | [], [], ds, h, _ => by cases h; exact ⟨rfl, fun _ => rfl, fun rest j v y _ hy => by simp [makeLs] at hy⟩
  | [], _ :: _, ds, h, _ => by cases h
  | _ :: _, [], ds, h, _ => by cases h
  | l :: ls, x :: xs, ds, h, hok => by
    simp only [readLs] at h
    obtain ⟨a, h1, h⟩ := bind_some h
    obtain ⟨b, h2, h⟩ := bind_some h
    cases h
    simp only [List.all_cons, Bool.and_eq_true] at hok
    obtain ⟨i1, i2, i3⟩ := readLs_sim hsame h2 hok.2
    have hal := (readL_make h1).1
    have hd : ∀ rest, (a ++ b ++ rest).drop l.size = b ++ rest := fun rest => by rw [List.append_assoc]; exact drop_app hal
    refine ⟨by simp only [List.length_append, lsSize]; omega, fun rest => by simp only [makeLs, List.length_cons, hd, i2], fun rest j v y hv hy => ?_⟩
    simp only [makeLs, hd] at hy
    cases j with
    | zero =>
      simp at hy
      subst hy
      exact readL_sim h1 hok.1 hsame (hv x rfl) _
    | succ j => exact i3 rest j v y (fun x hx => hv x (by simpa using hx)) (by simpa using hy)
theorem readLs_plain : ∀ {ls : List LS} {xs : List V} {ds : List V}, readLs ls xs = some ds → ls.all LS.plain = true → ds.length = lsSize ls ∧ ∀ rest, makeLs ls (ds ++ rest) = xs
  | [], [], ds, h, _ => by cases h; exact ⟨rfl, fun _ => rfl⟩
  | [], _ :: _, ds, h, _ => by cases h
  | _ :: _, [], ds, h, _ => by cases h
  | l :: ls, x :: xs, ds, h, hok => by
    simp only [readLs] at h
    obtain ⟨a, h1, h⟩ := bind_some h
    obtain ⟨b, h2, h⟩ := bind_some h
    cases h
    simp only [List.all_cons, Bool.and_eq_true] at hok
    obtain ⟨i1, i2⟩ := readLs_plain h2 hok.2
    obtain ⟨hal, hm⟩ := readL_make h1
    refine ⟨by simp only [List.length_append, lsSize]; omega, fun rest => ?_⟩
    simp only [makeLs]
    rw [show (a ++ b ++ rest).drop l.size = b ++ rest by rw [List.append_assoc]; exact drop_app hal, i2, List.append_assoc]
    rcases hm with e | e
    · subst e; cases hok.1
    · rw [e]
theorem readV_sim {n : Nat} (hsame : Same n β hp β' hp') {s : VS} {x : V} {ds : List V} (h : readV s x = some ds) (hok : s.ok n = true) :
    ds.length = s.size ∧ ∀ (rest : List V) (v : Value), VRel P w I β hp v x → VRel P w I β' hp' v (makeV s (ds ++ rest)) := by
  cases s with
  | one l => exact ⟨(readL_make h).1, fun rest v hv => readL_sim h hok hsame hv rest⟩
  | agg ls =>
    cases x <;> simp only [readV] at h <;> first | (cases h; done) | skip
    rename_i xs
    obtain ⟨i1, i2, i3⟩ := readLs_sim (P := P) (w := w) (I := I) hsame h hok
    refine ⟨i1, fun rest v hv => ?_⟩
    obtain ⟨cs, rfl, e1, e2⟩ := hv.agg_inv
    exact .agg (by rw [i2]; exact e1) fun j v y hj hy => i3 rest j v y (fun x hx => e2 j v x hj hx) hy
  | tup ls =>
    cases x <;> simp only [readV] at h <;> first | (cases h; done) | skip
    rename_i xs
    obtain ⟨i1, i2, i3⟩ := readLs_sim (P := P) (w := w) (I := I) hsame h hok
    refine ⟨i1, fun rest v hv => ?_⟩
    obtain ⟨cs, rfl, e1, e2⟩ := hv.tup_inv
    exact .tup (by rw [i2]; exact e1) fun j v y hj hy => i3 rest j v y (fun x hx => e2 j v x hj hx) hy
  | fn f a b =>
    cases x <;> simp only [readV] at h <;> first | (cases h; done) | skip
    rename_i f' xs ys
    cases hb : Nat.beq f f' with
    | false => rw [hb] at h; cases h
    | true =>
      rw [hb] at h
      rw [Nat.beq_eq] at hb
      subst hb
      simp only [cond_true] at h
      obtain ⟨p, h1, h⟩ := bind_some h
      obtain ⟨q, h2, h⟩ := bind_some h
      cases h
      simp only [VS.ok, Bool.and_eq_true] at hok
      obtain ⟨i1, i2, i3⟩ := readLs_sim (P := P) (w := w) (I := I) hsame h1 hok.1
      obtain ⟨j1, j2, j3⟩ := readLs_sim (P := P) (w := w) (I := I) hsame h2 hok.2
      refine ⟨by simp only [List.length_append, VS.size]; omega, fun rest v hv => ?_⟩
      cases hv with
      | fn a1 a2 b1 b2 =>
        simp only [makeV]
        rw [show (p ++ q ++ rest).drop (lsSize a) = q ++ rest by rw [List.append_assoc]; exact drop_app i1, List.append_assoc]
        exact .fn (by rw [i2]; exact a1) (fun j v y hj hy => i3 _ j v y (fun x hx => a2 j v x hj hx) hy) (by rw [j2]; exact b1) (fun j v y hj hy => j3 _ j v y (fun x hx => b2 j v x hj hx) hy)
  | pref ts ls =>
    cases x <;> simp only [readV] at h <;> first | (cases h; done) | skip
    rename_i ts' xs
    cases hb : readL.natsBeq ts ts' with
    | false => rw [hb] at h; cases h
    | true =>
      rw [hb] at h
      have := natsBeq_eq hb
      subst this
      simp only [cond_true] at h
      refine ⟨?_, fun rest v hv => ?_⟩
      · exact (readLs_plain h hok).1
      · simp only [makeV]
        rw [(readLs_plain h hok).2]
        cases hv with
        | pref hl hI hc => exact .pref hl hI hc
theorem readVs_sim {n : Nat} (hsame : Same n β hp β' hp') : ∀ {ls : List VS} {xs : List V} {ds : List V}, readVs ls xs = some ds → ls.all (VS.ok n) = true →
    ds.length = vsSize ls ∧ (∀ rest, (makeVs ls (ds ++ rest)).length = xs.length) ∧
    ∀ (rest : List V) (j : Nat) (v : Value) (y : V), (∀ x, xs[j]? = some x → VRel P w I β hp v x) → (makeVs ls (ds ++ rest))[j]? = some y → VRel P w I β' hp' v y
  | [], [], ds, h, _ => by cases h; exact ⟨rfl, fun _ => rfl, fun rest j v y _ hy => by simp [makeVs] at hy⟩
  | [], _ :: _, ds, h, _ => by cases h
  | _ :: _, [], ds, h, _ => by cases h
  | l :: ls, x :: xs, ds, h, hok => by
    simp only [readVs] at h
    obtain ⟨a, h1, h⟩ := bind_some h
    obtain ⟨b, h2, h⟩ := bind_some h
    cases h
    simp only [List.all_cons, Bool.and_eq_true] at hok
    obtain ⟨i1, i2, i3⟩ := readVs_sim hsame h2 hok.2
    obtain ⟨hal, hv1⟩ := readV_sim (P := P) (w := w) (I := I) hsame h1 hok.1
    have hd : ∀ rest, (a ++ b ++ rest).drop l.size = b ++ rest := fun rest => by rw [List.append_assoc]; exact drop_app hal
    refine ⟨by simp only [List.length_append, vsSize]; omega, fun rest => by simp only [makeVs, List.length_cons, hd, i2], fun rest j v y hv hy => ?_⟩
    simp only [makeVs, hd] at hy
    cases j with
    | zero =>
      simp at hy
      subst hy
      exact hv1 _ v (hv x rfl)
    | succ j => exact i3 rest j v y (fun x hx => hv x (by simpa using hx)) (by simpa using hy)
end
end Go.AM
namespace Go.AM
section
variable {P : Program} {A : Ann} {w w' : World} {I I' I2 : Nat → Prop} {μ β β' : Nat → Option Nat} {hp hp' hp0 : Nat → Option Blk} {C : CallF} {B : Nat} {M : Nat → Prop} {w0 : Start}
theorem hpOf_get : ∀ {l : List Blk} {j : Nat}, hpOf l j = l[j]?
  | [], j => by simp [hpOf]
  | b :: l, 0 => rfl
  | b :: l, j + 1 => by simp only [hpOf, hpOf_get, List.getElem?_cons_succ]
theorem readSlots_sim {sl : Nat → V} {k : Nat} {y : V} : ∀ {l : List (Nat × VS)} {ds : List V}, readSlots sl l = some ds → (∀ p ∈ l, ∀ d, readV p.2 (sl p.1) = some d → d.length = p.2.size) →
    ds.length = slotsSize l ∧ ∀ rest, lookupN (makeSlots l (ds ++ rest)) k = some y → ∃ s d rest', (k, s) ∈ l ∧ readV s (sl k) = some d ∧ y = makeV s (d ++ rest')
  | [], ds, h, _ => by cases h; exact ⟨rfl, fun rest h => by cases h⟩
  | (q, s) :: l, ds, h, hz => by
    simp only [readSlots] at h
    obtain ⟨a, h1, h⟩ := bind_some h
    obtain ⟨b, h2, h⟩ := bind_some h
    cases h
    obtain ⟨i1, i2⟩ := readSlots_sim (k := k) (y := y) h2 fun p hp => hz p (List.mem_cons_of_mem _ hp)
    have hal := hz (q, s) (List.mem_cons_self ..) a h1
    refine ⟨by simp only [List.length_append, slotsSize]; simp only at hal; omega, fun rest hl => ?_⟩
    simp only [makeSlots, lookupN] at hl
    rw [show (a ++ b ++ rest).drop s.size = b ++ rest by rw [List.append_assoc]; exact drop_app hal] at hl
    cases hb : Nat.beq k q with
    | true =>
      rw [hb] at hl
      rw [Nat.beq_eq] at hb
      subst hb
      cases hl
      exact ⟨s, a, b ++ rest, List.mem_cons_self .., h1, by rw [List.append_assoc]⟩
    | false =>
      rw [hb] at hl
      obtain ⟨s', d, rest', m1, m2, m3⟩ := i2 rest hl
      exact ⟨s', d, rest', List.mem_cons_of_mem _ m1, m2, m3⟩
theorem bif_some {α : Type} {c : Bool} {x : Option α} {a : α} (h : (bif c then x else none) = some a) : c = true ∧ x = some a := by
  cases c with
  | true => exact ⟨rfl, h⟩
  | false => cases h
theorem readB_size {n : Nat} {b : BS} {o : Option Blk} {ds : List V} (h : readB b o = some ds) (hok : b.ok n = true) : ds.length = b.size := by
  cases b with
  | dead => cases o <;> (cases h; rfl)
  | var T0 ls =>
    cases o with
    | none => cases h
    | some blk =>
      cases blk <;> simp only [readB] at h <;> first | (cases h; done) | skip
      exact (readVs_sim (P := default) (w := default) (I := fun _ => False) (β := fun _ => none) (hp := fun _ => none) (fun _ _ => ⟨rfl, rfl⟩) (bif_some h).2 hok).1
  | arr e fz =>
    cases o with
    | none => cases h
    | some blk =>
      cases blk <;> simp only [readB] at h <;> first | (cases h; done) | skip
      rw [of_bif h] at h
      cases h
      rfl
  | nest e =>
    cases o with
    | none => cases h
    | some blk =>
      cases blk <;> simp only [readB] at h <;> first | (cases h; done) | skip
      rw [of_bif h] at h
      cases h
      rfl
theorem readBlks_sim {n : Nat} : ∀ {l : List BS} {j : Nat} {ds : List V}, readBlks hp j l = some ds → l.all (BS.ok n) = true →
    (∀ rest, (makeBlks l (ds ++ rest)).length = l.length) ∧ ∀ (rest : List V) (i : Nat) (blk : Blk), (makeBlks l (ds ++ rest))[i]? = some blk → ∃ b d rest', l[i]? = some b ∧ b.ok n = true ∧ readB b (hp (j + i)) = some d ∧ blk = makeB b (d ++ rest')
  | [], j, ds, h, _ => by cases h; exact ⟨fun _ => rfl, fun rest i blk hb => by simp [makeBlks] at hb⟩
  | b :: l, j, ds, h, hok => by
    simp only [readBlks] at h
    obtain ⟨a, h1, h⟩ := bind_some h
    obtain ⟨c, h2, h⟩ := bind_some h
    cases h
    simp only [List.all_cons, Bool.and_eq_true] at hok
    obtain ⟨i1, i2⟩ := readBlks_sim h2 hok.2
    have hal := readB_size h1 hok.1
    have hd : ∀ rest, (a ++ c ++ rest).drop b.size = c ++ rest := fun rest => by rw [List.append_assoc]; exact drop_app hal
    refine ⟨fun rest => by simp only [makeBlks, List.length_cons, hd, i1], fun rest i blk hb => ?_⟩
    simp only [makeBlks, hd] at hb
    cases i with
    | zero =>
      simp at hb
      exact ⟨b, a, c ++ rest, rfl, hok.1, h1, by rw [← hb]⟩
    | succ i =>
      obtain ⟨b', d, rest', m1, m2, m3, m4⟩ := i2 rest i blk (by simpa using hb)
      exact ⟨b', d, rest', by simpa using m1, m2, by rw [show j + (i + 1) = j + 1 + i by omega]; exact m3, m4⟩
theorem makeB_weak {n : Nat} {b : BS} {blk : Blk} {ds rest : List V} (h : readB b (some blk) = some ds) (hok : b.ok n = true) :
    blk.le (makeB b (ds ++ rest)) ∧ (makeB b (ds ++ rest) = .dead ∨ makeB b (ds ++ rest) = blk ∨ ∃ T ls cs, b = .var T ls ∧ blk = .var T cs ∧ readVs ls cs = some ds ∧ makeB b (ds ++ rest) = .var T (makeVs ls (ds ++ rest))) := by
  cases b with
  | dead => exact ⟨by cases blk <;> trivial, .inl rfl⟩
  | var T0 ls =>
    cases blk <;> simp only [readB] at h <;> first | (cases h; done) | skip
    obtain ⟨hT, h0⟩ := bif_some h
    clear h
    rw [Nat.beq_eq] at hT
    subst hT
    exact ⟨rfl, .inr (.inr ⟨_, _, _, rfl, rfl, h0, rfl⟩)⟩
  | arr e fz =>
    cases blk <;> simp only [readB] at h <;> first | (cases h; done) | skip
    rename_i e' es fz'
    have hb := of_bif h
    simp only [Bool.and_eq_true, Nat.beq_eq, beq_iff_eq] at hb
    obtain ⟨rfl, rfl⟩ := hb
    simp only [Nat.beq_refl, beq_self_eq_true, Bool.and_self, cond_true, Option.some.injEq] at h
    subst h
    exact ⟨⟨rfl, rfl⟩, .inr (.inl rfl)⟩
  | nest e =>
    cases blk <;> simp only [readB] at h <;> first | (cases h; done) | skip
    rename_i e' es vers
    have hb := of_bif h
    simp only [Bool.and_eq_true, Nat.beq_eq] at hb
    obtain ⟨rfl, hv⟩ := hb
    have := natsBeq_eq hv
    subst this
    simp only [Nat.beq_refl, Bool.true_and] at h
    cases h
    exact ⟨⟨rfl, rfl, rfl, fun _ => Nat.le_refl _⟩, .inr (.inl rfl)⟩
theorem ofSt_inv {m : Nat} {S : Shape} {st : St} {ds : List V} (h : ofSt m S st = some ds) :
    S.ok = true ∧ m ≤ S.blks.length ∧ ∃ a b, readSlots st.sl S.slots = some a ∧ readBlks st.hp 0 S.blks = some b ∧ ds = a ++ b := by
  unfold ofSt at h
  cases hc : (S.ok && Nat.ble m S.blks.length) with
  | false => rw [hc] at h; cases h
  | true =>
    rw [hc] at h
    simp only [cond_true] at h
    simp only [Bool.and_eq_true, Nat.ble_eq] at hc
    obtain ⟨a, h1, h⟩ := bind_some h
    obtain ⟨b, h2, h⟩ := bind_some h
    cases h
    exact ⟨hc.1, hc.2, a, b, h1, h2, rfl⟩
theorem reshape {m : Nat} {S : Shape} {st : St} {ds : List V} (h : ofSt m S st = some ds) (hS : Sim P w I β st.hp B M w0) :
    Sim P w I β (toSt S ds).hp B M w0 ∧ (∀ (k : Nat) (v : Value), VRel P w I β st.hp v (st.sl k) → VRel P w I β (toSt S ds).hp v ((toSt S ds).sl k)) ∧
    (∀ (μ : Nat → Option Nat) (hp0 : Nat → Option Blk), (∀ id blk, hp0 id = some blk → id < m) → Le P w0.w w0.I μ hp0 w I β st.hp → Le P w0.w w0.I μ hp0 w I β (toSt S ds).hp) ∧
    ∀ j blk', (toSt S ds).hp j = some blk' → blk' ≠ .dead → ∃ blk, st.hp j = some blk ∧ blk.le blk' ∧ ∀ o b, Owns P w o blk' b → Owns P w o blk b := by
  obtain ⟨hok, hm, a, b, h1, h2, rfl⟩ := ofSt_inv h
  unfold Shape.ok at hok
  rw [Bool.and_eq_true] at hok
  obtain ⟨hok1, hok2⟩ := hok
  have hsz : ∀ p ∈ S.slots, ∀ d, readV p.2 (st.sl p.1) = some d → d.length = p.2.size := fun p hp d hd =>
    (readV_sim (P := P) (w := w) (I := I) (β := β) (hp := st.hp) (fun _ _ => ⟨rfl, rfl⟩) hd (List.all_eq_true.1 hok1 p hp)).1
  have hal : a.length = slotsSize S.slots := (readSlots_sim (k := 0) (y := .undef) h1 hsz).1
  have hhp : (toSt S (a ++ b)).hp = hpOf (makeBlks S.blks (b ++ [])) := by
    simp only [toSt, mk, List.append_nil]
    rw [drop_app hal]
  obtain ⟨bl, bg⟩ := readBlks_sim h2 hok2
  have get : ∀ j blk', (toSt S (a ++ b)).hp j = some blk' → j < S.blks.length ∧ ∃ bs d rest', bs.ok S.blks.length = true ∧ readB bs (st.hp j) = some d ∧ blk' = makeB bs (d ++ rest') := by
    intro j blk' hj
    rw [hhp, hpOf_get] at hj
    obtain ⟨bs, d, rest', m1, m2, m3, m4⟩ := bg [] j blk' hj
    rw [Nat.zero_add] at m3
    exact ⟨(List.getElem?_eq_some_iff.1 m1).1, bs, d, rest', m2, m3, m4⟩
  have have' : ∀ j, j < S.blks.length → ∃ blk', (toSt S (a ++ b)).hp j = some blk' := by
    intro j hj
    rw [hhp, hpOf_get]
    exact ⟨_, List.getElem?_eq_getElem (by rw [bl]; exact hj)⟩
  generalize hp2 : (toSt S (a ++ b)).hp = hpN at *
  let hp1 : Nat → Option Blk := fun id => if id < S.blks.length then hpN id else st.hp id
  have back : ∀ j blk', hpN j = some blk' → blk' ≠ .dead → ∃ blk, st.hp j = some blk ∧ blk.le blk' ∧ (blk' = blk ∨ ∃ T ls cs d rest', ls.all (VS.ok S.blks.length) = true ∧ blk = .var T cs ∧ readVs ls cs = some d ∧ blk' = .var T (makeVs ls (d ++ rest'))) := by
    intro j blk' hj hd
    obtain ⟨hjl, bs, d, rest', m1, m2, m3⟩ := get j blk' hj
    cases hst : st.hp j with
    | none =>
      rw [hst] at m2
      cases bs <;> simp only [readB] at m2 <;> first | (cases m2; done) | skip
      exact absurd m3 hd
    | some blk =>
      rw [hst] at m2
      obtain ⟨n1, n2⟩ := makeB_weak (rest := rest') m2 m1
      rw [← m3] at n1 n2
      refine ⟨blk, rfl, n1, ?_⟩
      rcases n2 with e | e | ⟨T, ls, cs, e1, e2, e3, e4⟩
      · exact absurd e hd
      · exact .inl e
      · subst e1
        exact .inr ⟨T, ls, cs, d, rest', m1, e2, e3, e4⟩
  have le1 : ∀ j blk, st.hp j = some blk → j < S.blks.length → ∃ blk', hpN j = some blk' ∧ blk.le blk' := by
    intro j blk hj hjl
    obtain ⟨blk', hb'⟩ := have' j hjl
    refine ⟨blk', hb', ?_⟩
    by_cases hd : blk' = .dead
    · subst hd; cases blk <;> trivial
    · obtain ⟨blk2, e1, e2, _⟩ := back j blk' hb' hd
      rw [hj] at e1; cases e1
      exact e2
  have nestEq : ∀ j e es vers e' es' vers', st.hp j = some (.nest e es vers) → hpN j = some (.nest e' es' vers') → e' = e ∧ es' = es ∧ vers' = vers := by
    intro j e es vers e' es' vers' hj hj'
    obtain ⟨blk, e1, _, e3⟩ := back j _ hj' (by simp)
    rw [hj] at e1; cases e1
    rcases e3 with e3 | ⟨_, _, _, _, _, _, e3, _⟩
    · cases e3; exact ⟨rfl, rfl, rfl⟩
    · cases e3
  have hle : Le P w I β st.hp w I β hp1 := by
    refine ⟨fun _ h => h, fun _ _ => rfl, fun id blk hid => ?_, fun _ _ _ _ _ _ _ _ => rfl, Le.row_keep (fun _ _ _ _ _ _ => rfl) fun id e es vers e' es' vers' hid hid' => ?_⟩
    · by_cases hl : id < S.blks.length
      · obtain ⟨blk', e1, e2⟩ := le1 id blk hid hl
        exact ⟨blk', by simp only [hp1, if_pos hl]; exact e1, e2, fun _ => rfl⟩
      · exact ⟨blk, by simp only [hp1, if_neg hl]; exact hid, Blk.le_refl _, fun _ => rfl⟩
    · by_cases hl : id < S.blks.length
      · simp only [hp1, if_pos hl] at hid'
        exact nestEq _ _ _ _ _ _ _ hid hid'
      · simp only [hp1, if_neg hl] at hid'
        rw [hid] at hid'; cases hid'
        exact ⟨rfl, rfl, rfl⟩
  have hsame : Same S.blks.length β hp1 β hpN := fun id hid => ⟨by simp only [hp1, if_pos hid], rfl⟩
  have hown : ∀ j blk' blk o b, hpN j = some blk' → st.hp j = some blk → Owns P w o blk' b → Owns P w o blk b := by
    intro j blk' blk o b hj' hj ho
    obtain ⟨blk2, e1, _, e3⟩ := back j blk' hj' ho.alive
    rw [hj] at e1; cases e1
    rcases e3 with e3 | ⟨T, ls, cs, d, rest', _, e3, _, e5⟩
    · subst e3; exact ho
    · subst e3; subst e5
      exact .root (by simp) (ho.flat (by simp))
  refine ⟨⟨⟨fun j blk' hj => ?_, fun j1 j2 b1 b2 b' e1 e2 o1 o2 => ?_, fun j blk b' hj ho => ?_, hS.h.Ilt⟩, hS.keep, hS.size, hS.new, hS.io⟩, fun k v hv => ?_, fun μ hp0 hlt hE => ?_, fun j blk' hj hd => ?_⟩
  · by_cases hd : blk' = .dead
    · subst hd; exact .dead
    · obtain ⟨blk, e1, _, e3⟩ := back j blk' hj hd
      have hr := hS.h.rel j blk e1
      generalize β j = o at hr
      rcases e3 with e3 | ⟨T0, ls, cs, d, rest', q1, e3, e4, e5⟩
      · subst e3
        cases hr with
        | @var xs b' Ca T hb hh hs hnI hx hself =>
          obtain ⟨hjl, bs, d, rest', m1, m2, m3⟩ := get j _ hj
          rw [e1] at m2
          cases bs <;> simp only [readB] at m2 <;> first | (cases m2; done) | skip
          · rename_i T0 ls
            simp only [makeB] at m3
            obtain ⟨hT, m2⟩ := bif_some m2
            obtain ⟨i1, i2, i3⟩ := readVs_sim (P := P) (w := w) (I := I) hsame m2 m1
            injection m3 with m4 m3
            rw [m3]
            exact .var hb hh (by rw [i2]; exact hs) hnI (fun i v y hi hy => i3 rest' i v y (fun x hx' => (hx i v x hi hx').mono hle) hy) hself
          · simp only [makeB] at m3
            cases m3
        | arrNil hb => exact .arrNil hb
        | arr a1 a2 a3 a4 a5 a6 a7 => exact .arr a1 a2 a3 a4 a5 a6 a7
        | dead => exact absurd rfl hd
        | nest a1 a2 a3 => exact .nest a1 a2 a3
      · subst e3
        subst e5
        cases hr with
        | @var xs b' Ca T hb hh hs hnI hx hself =>
          obtain ⟨i1, i2, i3⟩ := readVs_sim (P := P) (w := w) (I := I) hsame e4 q1
          exact .var hb hh (by rw [i2]; exact hs) hnI (fun i v y hi hy => i3 rest' i v y (fun x hx' => (hx i v x hi hx').mono hle) hy) hself
  · obtain ⟨c1, x1, _, _⟩ := back j1 b1 e1 o1.alive
    obtain ⟨c2, x2, _, _⟩ := back j2 b2 e2 o2.alive
    exact hS.h.inj j1 j2 c1 c2 b' x1 x2 (hown _ _ _ _ _ e1 x1 o1) (hown _ _ _ _ _ e2 x2 o2)
  · obtain ⟨c1, x1, _, _⟩ := back j blk hj ho.alive
    exact hS.h.own j c1 b' x1 (hown _ _ _ _ _ hj x1 ho)
  · change VRel P w I β hpN v (slOf (makeSlots S.slots (a ++ b)) k)
    unfold slOf
    cases hlk : lookupN (makeSlots S.slots (a ++ b)) k with
    | none => exact .undef
    | some y =>
      obtain ⟨s, d, rest', n1, n2, n3⟩ := (readSlots_sim h1 hsz).2 b hlk
      simp only [Option.getD_some, n3]
      exact (readV_sim (P := P) (w := w) (I := I) hsame n2 (List.all_eq_true.1 hok1 _ n1)).2 rest' v (hv.mono hle)
  · have h3 := hE.trans hle
    refine ⟨h3.imm, h3.keep, fun id blk hid => ?_, fun id blk blk' b' hid hid' hd hb => ?_, fun id e es vers e' es' vers' b2 q i c t v e1 l hid hid' => ?_⟩
    · have hl := hlt id blk hid
      obtain ⟨blk', k1, k2, k3⟩ := h3.blk id blk hid
      simp only [hp1, if_pos (show id < S.blks.length by omega)] at k1
      exact ⟨blk', k1, k2, k3⟩
    · have hl := hlt id blk hid
      exact h3.size id blk blk' b' hid (by simp only [hp1, if_pos (show id < S.blks.length by omega)]; exact hid') hd hb
    · have hl := hlt id _ hid
      exact h3.row id e es vers e' es' vers' b2 q i c t v e1 l hid (by simp only [hp1, if_pos (show id < S.blks.length by omega)]; exact hid')
  · obtain ⟨blk, e1, e2, _⟩ := back j blk' hj hd
    exact ⟨blk, e1, e2, fun o b' ho => hown _ _ _ _ _ hj e1 ho⟩
end
end Go.AM
namespace Go.AM
section
variable {P : Program} {A : Ann} {w w' : World} {I I' I2 : Nat → Prop} {μ β β' : Nat → Option Nat} {hp hp' hp0 : Nat → Option Blk} {C : CallF} {B : Nat} {M : Nat → Prop} {w0 : Start}
inductive Lent (P : Program) (w : World) (β : Nat → Option Nat) (hp : Nat → Option Blk) : Place → Option Nat → Blk → Prop
  | var {id : Nat} {T : TypeId} {cs cs0 : List V} : hp id = some (.var T cs) → Lent P w β hp (.blk id) (β id) (.var T cs0)
  | arr {id : Nat} {e : TypeId} {es : List V} : hp id = some (.arr e es false) → Lent P w β hp (.blk id) (β id) (.arr e es false)
  | nest {id : Nat} {e : TypeId} {es : List V} {vers : List Nat} : hp id = some (.nest e es vers) → Lent P w β hp (.blk id) (β id) (.nest e es [0, 0, 0])
  | row {id ver b b' : Nat} {path : Path} {e0 e' : TypeId} {es l : List V} {vers : List Nat} : hp id = some (.nest e0 es vers) → β id = some b → At P w b e0 es path b' e' l → flatScalar P e' = true →
      0 < path.length → path.length ≤ vers.length → verAt vers (path.length - 1) = ver → 0 < l.length → Lent P w β hp (.row id ver path) (some b') (.arr e' l false)
def Agr (P : Program) (w : World) (β : Nat → Option Nat) (hp : Nat → Option Blk) (ρ : List Place) (μ : Nat → Option Nat) (hp0 : Nat → Option Blk) : Prop :=
  ∀ j p, nthP ρ j = some p → ∃ blk, hp0 j = some blk ∧ Lent P w β hp p (μ j) blk
theorem nthP_app : ∀ {l m : List Place} {j : Nat} {p : Place}, nthP l j = some p → nthP (l ++ m) j = some p
  | [], m, j, p, h => by cases h
  | a :: l, m, 0, p, h => h
  | a :: l, m, j + 1, p, h => nthP_app (l := l) h
theorem nthP_get : ∀ {l : List Place} {j : Nat}, nthP l j = l[j]?
  | [], j => by simp [nthP]
  | a :: l, 0 => rfl
  | a :: l, j + 1 => by simp only [nthP, nthP_get, List.getElem?_cons_succ]
structure Ext (P : Program) (w : World) (I : Nat → Prop) (β : Nat → Option Nat) (hp : Nat → Option Blk) (h h' : Hand) (d : List V) (u : List (Nat × Blk)) : Prop where
  ds : h'.ds = h.ds ++ d
  upd : h'.upd = h.upd ++ u
  frz : ∀ q ∈ u, Frz hp q
  pl : ∃ m, h'.pl = h.pl ++ m
  nodup : (h.pl.map Place.id).Nodup → (h'.pl.map Place.id).Nodup
theorem Ext.refl (h : Hand) : Ext P w I β hp h h [] [] := ⟨by simp, by simp, by simp, ⟨[], by simp⟩, id⟩
theorem Ext.trans {h1 h2 h3 : Hand} {d1 d2 : List V} {u1 u2 : List (Nat × Blk)} (a : Ext P w I β hp h1 h2 d1 u1) (b : Ext P w I β hp h2 h3 d2 u2) : Ext P w I β hp h1 h3 (d1 ++ d2) (u1 ++ u2) := by
  obtain ⟨m1, e1⟩ := a.pl
  obtain ⟨m2, e2⟩ := b.pl
  exact ⟨by rw [b.ds, a.ds, List.append_assoc], by rw [b.upd, a.upd, List.append_assoc], fun q hq => (List.mem_append.1 hq).elim (a.frz q) (b.frz q), ⟨m1 ++ m2, by rw [e2, e1, List.append_assoc]⟩, fun h => b.nodup (a.nodup h)⟩
theorem Ext.look {h h' : Hand} {d : List V} {u : List (Nat × Blk)} (a : Ext P w I β hp h h' d u) {j : Nat} {p : Place} (hj : nthP h.pl j = some p) : nthP h'.pl j = some p := by
  obtain ⟨m, e⟩ := a.pl
  rw [e]
  exact nthP_app hj
theorem Ext.leaf (h : Hand) (x : V) : Ext P w I β hp h { h with ds := h.ds ++ [x] } [x] [] := ⟨rfl, by simp, by simp, ⟨[], by simp⟩, id⟩
theorem unify_run {α : Type} {ρ : List Place} {j : Nat} {p : Place} {k : List Place → Rd α} {r : α} {rd : List Nat} (h : (unify ρ j p k).run C hp = some (r, rd)) (hb : ∃ id, p = .blk id ∨ ∃ ver path, p = .row id ver path) :
    ∃ ρ', (k ρ').run C hp = some (r, rd) ∧ (∃ m, ρ' = ρ ++ m) ∧ nthP ρ' j = some p ∧ ((ρ.map Place.id).Nodup → (ρ'.map Place.id).Nodup) := by
  unfold unify at h
  cases hc : Nat.blt j ρ.length with
  | true =>
    rw [hc] at h
    obtain ⟨h1, h2⟩ := run_chk h
    refine ⟨ρ, h2, ⟨[], by simp⟩, ?_, id⟩
    unfold samePl at h1
    split at h1
    · rename_i a b he
      rw [Nat.beq_eq] at h1
      subst h1
      exact he
    · cases h1
  | false =>
    rw [hc] at h
    obtain ⟨h1, h2⟩ := run_chk h
    simp only [Bool.and_eq_true, Nat.beq_eq, Bool.not_eq_true'] at h1
    obtain ⟨rfl, h3⟩ := h1
    refine ⟨ρ ++ [p], h2, ⟨[p], rfl⟩, ?_, fun hn => ?_⟩
    · rw [nthP_get]; simp
    · rw [List.map_append, List.nodup_append]
      refine ⟨hn, by simp, fun a ha b hb => ?_⟩
      simp only [List.map_cons, List.map_nil, List.mem_singleton] at hb
      subst hb
      intro e
      subst e
      rw [memN_of ha] at h3
      cases h3
theorem unify_ext {α : Type} {h : Hand} {j : Nat} {p : Place} {k : List Place → Rd α} {r : α} {rd : List Nat} (hr : (unify h.pl j p k).run C hp = some (r, rd)) (ds : List V) :
    ∃ ρ', (k ρ').run C hp = some (r, rd) ∧ nthP ρ' j = some p ∧ Ext P w I β hp h { h with pl := ρ', ds := h.ds ++ ds } ds [] := by
  obtain ⟨ρ', a, b, c, d⟩ := unify_run hr (by cases p with | blk id => exact ⟨id, .inl rfl⟩ | row id ver path => exact ⟨id, .inr ⟨ver, path, rfl⟩⟩)
  exact ⟨ρ', a, c, ⟨rfl, by simp, by simp, b, d⟩⟩
theorem lent_whole {o : Option Nat} {blk : Blk} {e : TypeId} {id j : Nat} {v : Value} (hv : VRel P w I β hp v (.whole e id)) (hl : Lent P w β hp (.blk id) o blk) (hj : hp0 j = some blk) (hμ : μ j = o) : VRel P w I' μ hp0 v (.whole e j) := by
  cases hl with
  | var h =>
    cases hv with
    | wholeDead h2 => rw [h] at h2; cases h2
    | wholeNil h2 => rw [h] at h2; cases h2
    | whole h2 => rw [h] at h2; cases h2
    | wholeN h2 => rw [h] at h2; cases h2
  | arr h =>
    cases hv with
    | wholeDead h2 => rw [h] at h2; cases h2
    | wholeNil h2 hb => rw [h] at h2; cases h2; exact .wholeNil hj (hμ.trans hb)
    | whole h2 hb a b c => rw [h] at h2; cases h2; exact .whole hj (hμ.trans hb) a b c
    | wholeN h2 => rw [h] at h2; cases h2
  | nest h =>
    cases hv with
    | wholeDead h2 => rw [h] at h2; cases h2
    | wholeNil h2 => rw [h] at h2; cases h2
    | whole h2 => rw [h] at h2; cases h2
    | wholeN h2 hb a b c => rw [h] at h2; cases h2; exact .wholeN hj (hμ.trans hb) a b c
theorem lent_sub {o : Option Nat} {blk : Blk} {e : TypeId} {id off n j : Nat} {v : Value} (hv : VRel P w I β hp v (.sub e id off n)) (hl : Lent P w β hp (.blk id) o blk) (hj : hp0 j = some blk) (hμ : μ j = o) : VRel P w I' μ hp0 v (.sub e j off n) := by
  cases hl with
  | var h =>
    cases hv with
    | subDead h2 => rw [h] at h2; cases h2
    | subNil h2 => rw [h] at h2; cases h2
    | sub h2 => rw [h] at h2; cases h2
  | arr h =>
    cases hv with
    | subDead h2 => rw [h] at h2; cases h2
    | subNil h2 hb => rw [h] at h2; cases h2; exact .subNil hj (hμ.trans hb)
    | sub h2 hb a b c => rw [h] at h2; cases h2; exact .sub hj (hμ.trans hb) a b c
  | nest h =>
    cases hv with
    | subDead h2 => rw [h] at h2; cases h2
    | subNil h2 => rw [h] at h2; cases h2
    | sub h2 => rw [h] at h2; cases h2
theorem lent_ptr {o : Option Nat} {blk : Blk} {id i c j : Nat} {v : Value} (hv : VRel P w I β hp v (.ptr id i c)) (hl : Lent P w β hp (.blk id) o blk) (hj : hp0 j = some blk) (hμ : μ j = o) : VRel P w I' μ hp0 v (.ptr j i c) := by
  cases hl with
  | @var _ T0 cs cs0 h =>
    obtain ⟨b, hb, rfl⟩ := hv.ptr_inv h (by simp)
    exact VRel.ptr (blk := .var T0 cs0) hj (by simp) (hμ.trans hb)
  | @arr _ e es h =>
    obtain ⟨b, hb, rfl⟩ := hv.ptr_inv h (by simp)
    exact VRel.ptr (blk := .arr e es false) hj (by simp) (hμ.trans hb)
  | @nest _ e es vers h =>
    obtain ⟨b, hb, rfl⟩ := hv.ptr_inv h (by simp)
    exact VRel.ptr (blk := .nest e es [0, 0, 0]) hj (by simp) (hμ.trans hb)
theorem hrel_cell (hrel : ∀ id blk, hp id = some blk → BlkRel P w I β hp (β id) blk) {id b i c : Nat} {e0 t : TypeId} {es l : List V} {vers : List Nat} {q : Path} {e : TypeId} {v : Value} (hid : hp id = some (.nest e0 es vers)) (hb : β id = some b)
    (ht : P.underlying t = some (.slice e)) (hc : CellAt P w b e0 es q i c t v (.list e l)) (hl : 0 < l.length) : ∃ b1 cap, v = .slice (some ⟨b1, 0, none⟩) l.length cap ∧ cap * P.cellsOf e = bsize w b1 ∧ l.length ≤ cap ∧ cap ≤ maxLen ∧ At P w b e0 es (q ++ [(i, c)]) b1 e l := by
  obtain ⟨b2, e1, m, Ca, T, f, x, n1, n2, n3, n4, n5, n6⟩ := hc
  have hr := hrel _ _ hid
  cases hr with
  | nest hb' hr hn =>
    rw [hb] at hb'; cases hb'
    have hR := hr _ _ _ _ n1
    obtain ⟨Ca', c1, c2, c3⟩ := hR.cells
    rw [n2] at c1
    cases c1
    have hclt : c < P.cellsOf e1 := by rw [← okTy_etys hR.ok]; exact (List.getElem?_eq_some_iff.1 n4).1
    obtain ⟨v', d1, d2⟩ := c3 i c x t n3 n4 hclt
    rw [n6] at d1
    cases d1
    rw [n5] at d2
    generalize hy : V.list e l = y at d2
    cases d2 with
    | scal a p => unfold scalarT at a; rw [ht] at a; cases a
    | emp hu ha => cases hy; simp at hl
    | row hu hl0 hsz hcap hmx =>
      cases hy
      exact ⟨_, _, rfl, hsz, hcap, hmx, n1.snoc n2 n3 n4 ht n5 hl0 n6⟩
theorem lent_row (S : Sim P w I β hp B M w0) {o : Option Nat} {blk : Blk} {e : TypeId} {id ver j : Nat} {path : Path} {v : Value} (hv : VRel P w I β hp v (.row e id ver path)) (hl : Lent P w β hp (.row id ver path) o blk) (hj : hp0 j = some blk) (hμ : μ j = o) : VRel P w I' μ hp0 v (.whole e j) := by
  cases hl with
  | row h hb ha hf h1 h2 h3 h4 =>
    obtain ⟨b2, q, i, c, t, l2, rfl, hb2, ht, hc⟩ := hv.row_inv h h1 h2 h3
    rw [hb] at hb2; cases hb2
    obtain ⟨p1, p2⟩ := rowV_at ha
    have hc2 := hc
    obtain ⟨b3, e3, m3, Ca, T, f, x, n1, n2, n3, n4, n5, n6⟩ := hc2
    obtain ⟨q1, q2⟩ := rowV_snoc n1 n3 n4 ht n5
    rw [p1] at q1
    rw [p2] at q2
    cases q1
    cases q2
    obtain ⟨b1, cap, rfl, m1, m2, m4, m5⟩ := hrel_cell S.h.rel h hb ht hc h4
    have := atFun ha m5
    subst this
    exact .whole hj hμ m1 m2 m4
where
  atFun {b b1 b2 : Nat} {e e1 e2 : TypeId} {es l l2 : List V} {q : Path} (h : At P w b e es q b1 e1 l) (h2 : At P w b e es q b2 e2 l2) : b2 = b1 := (h.fun h2).1
theorem handL_ok (S : Sim P w I β hp B M w0) {α : Type} {l : LS} {x : V} {h : Hand} {k : Hand → Rd α} {r : α} {rd : List Nat} {v : Value} (hr : (handL P l x h k).run C hp = some (r, rd)) (hv : VRel P w I β hp v x) :
    ∃ h' rd' d u, (k h').run C hp = some (r, rd') ∧ Ext P w I β hp h h' d u ∧ d.length = l.size ∧
      ∀ (I' : Nat → Prop) (μ : Nat → Option Nat) (hp0 : Nat → Option Blk), (∀ b, I b → I' b) → (∀ q ∈ u, ∀ b, Held P w β hp q.1 b → I' b) → ∀ ρ m, ρ = h'.pl ++ m → Agr P w β hp ρ μ hp0 → ∀ rest, VRel P w I' μ hp0 v (makeL l (d ++ rest)) := by
  have plain : ∀ {x' : V} {rd1 : List Nat}, (k { h with ds := h.ds ++ [x'] }).run C hp = some (r, rd1) → l.size = 1 → (∀ I' μ hp0 rest, VRel P w I' μ hp0 v (makeL l ([x'] ++ rest))) → ∃ h' rd' d u, (k h').run C hp = some (r, rd') ∧ Ext P w I β hp h h' d u ∧ d.length = l.size ∧
      ∀ (I' : Nat → Prop) (μ : Nat → Option Nat) (hp0 : Nat → Option Blk), (∀ b, I b → I' b) → (∀ q ∈ u, ∀ b, Held P w β hp q.1 b → I' b) → ∀ ρ m, ρ = h'.pl ++ m → Agr P w β hp ρ μ hp0 → ∀ rest, VRel P w I' μ hp0 v (makeL l (d ++ rest)) :=
    fun hk hs hx => ⟨_, _, _, _, hk, Ext.leaf h _, hs.symm, fun I' μ hp0 _ _ _ _ _ _ rest => hx I' μ hp0 rest⟩
  have none' : ∀ {rd1 : List Nat}, (k h).run C hp = some (r, rd1) → l.size = 0 → (∀ I' μ hp0 rest, VRel P w I' μ hp0 v (makeL l rest)) → ∃ h' rd' d u, (k h').run C hp = some (r, rd') ∧ Ext P w I β hp h h' d u ∧ d.length = l.size ∧
      ∀ (I' : Nat → Prop) (μ : Nat → Option Nat) (hp0 : Nat → Option Blk), (∀ b, I b → I' b) → (∀ q ∈ u, ∀ b, Held P w β hp q.1 b → I' b) → ∀ ρ m, ρ = h'.pl ++ m → Agr P w β hp ρ μ hp0 → ∀ rest, VRel P w I' μ hp0 v (makeL l (d ++ rest)) :=
    fun hk hs hx => ⟨_, _, _, _, hk, Ext.refl h, by simp [hs], fun I' μ hp0 _ _ _ _ _ _ rest => hx I' μ hp0 rest⟩
  unfold handL at hr
  cases l with
  | und => exact none' hr rfl fun _ _ _ _ => .undef
  | int kd =>
    cases x <;> simp only at hr <;> first | (cases hr; done) | skip
    obtain ⟨h1, h2⟩ := run_chk hr
    simp only [decide_eq_true_eq] at h1
    subst h1
    obtain rfl := hv.int_inv
    exact plain h2 rfl fun _ _ _ _ => .int
  | bool =>
    cases x <;> simp only at hr <;> first | (cases hr; done) | skip
    obtain rfl := hv.bool_inv
    exact plain hr rfl fun _ _ _ _ => .bool
  | str =>
    cases x <;> simp only at hr <;> first | (cases hr; done) | skip
    obtain ⟨s, rfl, hl⟩ := hv.str_inv
    exact plain hr rfl fun _ _ _ _ => .str hl
  | nilS e =>
    cases x <;> simp only at hr <;> first | (cases hr; done) | skip
    obtain ⟨h1, h2⟩ := run_chk hr
    cases hv with
    | nilS => exact none' h2 rfl fun _ _ _ _ => .nilS
  | nilp =>
    cases x <;> simp only at hr <;> first | (cases hr; done) | skip
    cases hv with
    | nilp => exact none' hr rfl fun _ _ _ _ => .nilp
  | row e j cs => cases hr
  | elt j cs c => cases hr
  | list e =>
    obtain ⟨⟨y, u⟩, l1, l2, h1, h2⟩ := run_bnd hr
    cases y <;> simp only at h2 <;> first | (cases h2; done) | skip
    rename_i e' es
    obtain ⟨h3, h4⟩ := run_chk h2
    rw [Nat.beq_eq] at h3
    subst h3
    obtain ⟨p1, p2⟩ := pure1_sim S.h.rel h1 hv
    exact ⟨_, _, [.list e es], u, h4, ⟨rfl, rfl, p1, ⟨[], by simp⟩, id⟩, rfl, fun I' μ hp0 i1 i2 _ _ _ _ rest => .list (p2 I' i1 i2)⟩
  | whole e j =>
    cases x <;> simp only at hr <;> first | (cases hr; done) | skip
    · rename_i e' id
      obtain ⟨h1, h2⟩ := run_chk hr
      rw [Nat.beq_eq] at h1
      subst h1
      obtain ⟨ρ', a, b, c⟩ := unify_ext (P := P) (w := w) (I := I) (β := β) h2 []
      refine ⟨_, _, [], [], a, by simpa using c, rfl, fun I' μ hp0 i1 i2 ρ m hρ hag rest => ?_⟩
      obtain ⟨blk, k1, k2⟩ := hag j _ (by rw [hρ]; exact nthP_app b)
      exact lent_whole hv k2 k1 rfl
    · rename_i e' id ver path
      obtain ⟨h1, h2⟩ := run_chk hr
      rw [Nat.beq_eq] at h1
      subst h1
      obtain ⟨ρ', a, b, c⟩ := unify_ext (P := P) (w := w) (I := I) (β := β) h2 []
      refine ⟨_, _, [], [], a, by simpa using c, rfl, fun I' μ hp0 i1 i2 ρ m hρ hag rest => ?_⟩
      obtain ⟨blk, k1, k2⟩ := hag j _ (by rw [hρ]; exact nthP_app b)
      exact lent_row S hv k2 k1 rfl
  | sub e j =>
    cases x <;> simp only at hr <;> first | (cases hr; done) | skip
    rename_i e' id o n
    obtain ⟨h1, h2⟩ := run_chk hr
    rw [Nat.beq_eq] at h1
    subst h1
    obtain ⟨ρ', a, b, c⟩ := unify_ext (P := P) (w := w) (I := I) (β := β) h2 [natV o, natV n]
    refine ⟨_, _, [natV o, natV n], [], a, c, rfl, fun I' μ hp0 i1 i2 ρ m hρ hag rest => ?_⟩
    obtain ⟨blk, k1, k2⟩ := hag j _ (by rw [hρ]; exact nthP_app b)
    simpa [makeL, V.nth] using lent_sub (I' := I') hv k2 k1 rfl
  | ptr j =>
    cases x <;> simp only at hr <;> first | (cases hr; done) | skip
    rename_i id i c
    obtain ⟨ρ', a, b, c'⟩ := unify_ext (P := P) (w := w) (I := I) (β := β) hr [natV i, natV c]
    refine ⟨_, _, [natV i, natV c], [], a, c', rfl, fun I' μ hp0 i1 i2 ρ m hρ hag rest => ?_⟩
    obtain ⟨blk, k1, k2⟩ := hag j _ (by rw [hρ]; exact nthP_app b)
    simpa [makeL, V.nth] using lent_ptr (I' := I') hv k2 k1 rfl
  | ptrC j i c =>
    cases x <;> simp only at hr <;> first | (cases hr; done) | skip
    rename_i id i' c'
    obtain ⟨h1, h2⟩ := run_chk hr
    simp only [Bool.and_eq_true, Nat.beq_eq] at h1
    obtain ⟨rfl, rfl⟩ := h1
    obtain ⟨ρ', a, b, c'⟩ := unify_ext (P := P) (w := w) (I := I) (β := β) h2 []
    refine ⟨_, _, [], [], a, by simpa using c', rfl, fun I' μ hp0 i1 i2 ρ m hρ hag rest => ?_⟩
    obtain ⟨blk, k1, k2⟩ := hag j _ (by rw [hρ]; exact nthP_app b)
    exact lent_ptr hv k2 k1 rfl
end
end Go.AM
namespace Go.AM
section
variable {P : Program} {A : Ann} {w w' : World} {I I' I2 : Nat → Prop} {μ β β' : Nat → Option Nat} {hp hp' hp0 : Nat → Option Blk} {C : CallF} {B : Nat} {M : Nat → Prop} {w0 : Start}
def Then (P : Program) (w : World) (I : Nat → Prop) (β : Nat → Option Nat) (hp : Nat → Option Blk) (h' : Hand) (u : List (Nat × Blk)) (K : (Nat → Prop) → (Nat → Option Nat) → (Nat → Option Blk) → Prop) : Prop :=
  ∀ (I' : Nat → Prop) (μ : Nat → Option Nat) (hp0 : Nat → Option Blk), (∀ b, I b → I' b) → (∀ q ∈ u, ∀ b, Held P w β hp q.1 b → I' b) → ∀ ρ m, ρ = h'.pl ++ m → Agr P w β hp ρ μ hp0 → K I' μ hp0
theorem Then.later {h h' : Hand} {d : List V} {u u' : List (Nat × Blk)} {K : (Nat → Prop) → (Nat → Option Nat) → (Nat → Option Blk) → Prop} (t : Then P w I β hp h u K) (e : Ext P w I β hp h h' d u') : Then P w I β hp h' (u ++ u') K := by
  obtain ⟨m1, e1⟩ := e.pl
  exact fun I' μ hp0 i1 i2 ρ m hρ hag => t I' μ hp0 i1 (fun q hq => i2 q (List.mem_append.2 (.inl hq))) ρ (m1 ++ m) (by rw [hρ, e1, List.append_assoc]) hag
theorem Then.more {h : Hand} {u u' : List (Nat × Blk)} {K : (Nat → Prop) → (Nat → Option Nat) → (Nat → Option Blk) → Prop} (t : Then P w I β hp h u K) : Then P w I β hp h (u' ++ u) K :=
  fun I' μ hp0 i1 i2 ρ m hρ hag => t I' μ hp0 i1 (fun q hq => i2 q (List.mem_append.2 (.inr hq))) ρ m hρ hag
theorem handLs_ok (S : Sim P w I β hp B M w0) {α : Type} : ∀ {ls : List LS} {xs : List V} {h : Hand} {k : Hand → Rd α} {r : α} {rd : List Nat} {vs : List Value}, (handLs P ls xs h k).run C hp = some (r, rd) → vs.length = xs.length →
    (∀ (j : Nat) v x, vs[j]? = some v → xs[j]? = some x → VRel P w I β hp v x) →
    ∃ h' rd' d u, (k h').run C hp = some (r, rd') ∧ Ext P w I β hp h h' d u ∧ d.length = lsSize ls ∧ ls.length = xs.length ∧
      Then P w I β hp h' u fun I' μ hp0 => ∀ rest, (makeLs ls (d ++ rest)).length = xs.length ∧ ∀ (j : Nat) v y, vs[j]? = some v → (makeLs ls (d ++ rest))[j]? = some y → VRel P w I' μ hp0 v y
  | [], [], h, k, r, rd, vs, hr, hl, hv => ⟨h, rd, [], [], hr, Ext.refl h, rfl, rfl, fun I' μ hp0 _ _ _ _ _ _ rest => ⟨rfl, fun j v y _ hy => by simp [makeLs] at hy⟩⟩
  | [], _ :: _, h, k, r, rd, vs, hr, hl, hv => by cases hr
  | _ :: _, [], h, k, r, rd, vs, hr, hl, hv => by cases hr
  | l :: ls, x :: xs, h, k, r, rd, vs, hr, hl, hv => by
    cases vs with
    | nil => simp at hl
    | cons v vs =>
      simp only [handLs] at hr
      obtain ⟨h1, rd1, d1, u1, a1, a2, a3, a4⟩ := handL_ok S hr (hv 0 v x rfl rfl)
      obtain ⟨h2, rd2, d2, u2, b1, b2, b3, b5, b4⟩ := handLs_ok S a1 (by simpa using hl) (vs := vs) (fun j v x hj hx => hv (j + 1) v x (by simpa using hj) (by simpa using hx))
      have a4' : Then P w I β hp h1 u1 fun I' μ hp0 => ∀ rest, VRel P w I' μ hp0 v (makeL l (d1 ++ rest)) := a4
      refine ⟨h2, rd2, d1 ++ d2, u1 ++ u2, b1, a2.trans b2, by simp only [List.length_append, lsSize]; omega, by simp [b5], fun I' μ hp0 i1 i2 ρ m hρ hag rest => ?_⟩
      have k1 := (a4'.later b2) I' μ hp0 i1 i2 ρ m hρ hag (d2 ++ rest)
      obtain ⟨k2, k3⟩ := b4.more I' μ hp0 i1 i2 ρ m hρ hag rest
      simp only [makeLs]
      rw [show (d1 ++ d2 ++ rest).drop l.size = d2 ++ rest by rw [List.append_assoc]; exact drop_app a3, List.append_assoc]
      refine ⟨by simp [k2], fun j v' y hj hy => ?_⟩
      cases j with
      | zero => simp at hj hy; subst hj; subst hy; exact k1
      | succ j => exact k3 j v' y (by simpa using hj) (by simpa using hy)
theorem handV_ok (S : Sim P w I β hp B M w0) {α : Type} {s : VS} {x : V} {h : Hand} {k : Hand → Rd α} {r : α} {rd : List Nat} {v : Value} (hr : (handV P s x h k).run C hp = some (r, rd)) (hv : VRel P w I β hp v x) :
    ∃ h' rd' d u, (k h').run C hp = some (r, rd') ∧ Ext P w I β hp h h' d u ∧ d.length = s.size ∧
      Then P w I β hp h' u fun I' μ hp0 => ∀ rest, VRel P w I' μ hp0 v (makeV s (d ++ rest)) := by
  cases s with
  | one l =>
    simp only [handV] at hr
    obtain ⟨h1, rd1, d1, u1, a1, a2, a3, a4⟩ := handL_ok S hr hv
    exact ⟨h1, rd1, d1, u1, a1, a2, a3, a4⟩
  | agg ls =>
    cases x <;> simp only [handV] at hr <;> first | (cases hr; done) | skip
    rename_i xs
    obtain ⟨cs, rfl, e1, e2⟩ := hv.agg_inv
    obtain ⟨h1, rd1, d1, u1, a1, a2, a3, a5, a4⟩ := handLs_ok S hr (vs := cs.toList) (by simpa using e1) (fun j v x hj hx => e2 j v x (by simpa using hj) hx)
    refine ⟨h1, rd1, d1, u1, a1, a2, a3, fun I' μ hp0 i1 i2 ρ m hρ hag rest => ?_⟩
    obtain ⟨k1, k2⟩ := a4 I' μ hp0 i1 i2 ρ m hρ hag rest
    exact .agg (by rw [k1]; exact e1) fun j v y hj hy => k2 j v y (by simpa using hj) hy
  | tup ls => cases x <;> cases hr
  | pref ts ls => cases x <;> cases hr
  | fn f a b =>
    cases x <;> simp only [handV] at hr <;> first | (cases hr; done) | skip
    rename_i f' xs ys
    obtain ⟨hc, hr2⟩ := run_chk hr
    clear hr
    rw [Nat.beq_eq] at hc
    subst hc
    cases hv with
    | @fn _ fs cs _ _ q1 q2 q3 q4 =>
      obtain ⟨h1, rd1, d1, u1, a1, a2, a3, a5, a4⟩ := handLs_ok S hr2 (vs := fs.toList) (by simpa using q1) (fun j v x hj hx => q2 j v x (by simpa using hj) hx)
      obtain ⟨h2, rd2, d2, u2, b1, b2, b3, b5, b4⟩ := handLs_ok S a1 (vs := cs.toList) (by simpa using q3) (fun j v x hj hx => q4 j v x (by simpa using hj) hx)
      refine ⟨h2, rd2, d1 ++ d2, u1 ++ u2, b1, a2.trans b2, by simp only [List.length_append, VS.size]; omega, fun I' μ hp0 i1 i2 ρ m hρ hag rest => ?_⟩
      obtain ⟨k1, k2⟩ := (a4.later b2) I' μ hp0 i1 i2 ρ m hρ hag (d2 ++ rest)
      obtain ⟨k3, k4⟩ := b4.more I' μ hp0 i1 i2 ρ m hρ hag rest
      simp only [makeV]
      rw [show (d1 ++ d2 ++ rest).drop (lsSize a) = d2 ++ rest by rw [List.append_assoc]; exact drop_app a3, List.append_assoc]
      exact .fn (by rw [k1]; exact q1) (fun j v y hj hy => k2 j v y (by simpa using hj) hy) (by rw [k3]; exact q3) (fun j v y hj hy => k4 j v y (by simpa using hj) hy)
theorem handVs_ok (S : Sim P w I β hp B M w0) {α : Type} : ∀ {ls : List VS} {xs : List V} {h : Hand} {k : Hand → Rd α} {r : α} {rd : List Nat} {vs : List Value}, (handVs P ls xs h k).run C hp = some (r, rd) → vs.length = xs.length →
    (∀ (j : Nat) v x, vs[j]? = some v → xs[j]? = some x → VRel P w I β hp v x) →
    ∃ h' rd' d u, (k h').run C hp = some (r, rd') ∧ Ext P w I β hp h h' d u ∧ d.length = vsSize ls ∧ ls.length = xs.length ∧
      Then P w I β hp h' u fun I' μ hp0 => ∀ rest, (makeVs ls (d ++ rest)).length = xs.length ∧ ∀ (j : Nat) v y, vs[j]? = some v → (makeVs ls (d ++ rest))[j]? = some y → VRel P w I' μ hp0 v y
  | [], [], h, k, r, rd, vs, hr, hl, hv => ⟨h, rd, [], [], hr, Ext.refl h, rfl, rfl, fun I' μ hp0 _ _ _ _ _ _ rest => ⟨rfl, fun j v y _ hy => by simp [makeVs] at hy⟩⟩
  | [], _ :: _, h, k, r, rd, vs, hr, hl, hv => by cases hr
  | _ :: _, [], h, k, r, rd, vs, hr, hl, hv => by cases hr
  | l :: ls, x :: xs, h, k, r, rd, vs, hr, hl, hv => by
    cases vs with
    | nil => simp at hl
    | cons v vs =>
      simp only [handVs] at hr
      obtain ⟨h1, rd1, d1, u1, a1, a2, a3, a4⟩ := handV_ok S hr (hv 0 v x rfl rfl)
      obtain ⟨h2, rd2, d2, u2, b1, b2, b3, b5, b4⟩ := handVs_ok S a1 (by simpa using hl) (vs := vs) (fun j v x hj hx => hv (j + 1) v x (by simpa using hj) (by simpa using hx))
      refine ⟨h2, rd2, d1 ++ d2, u1 ++ u2, b1, a2.trans b2, by simp only [List.length_append, vsSize]; omega, by simp [b5], fun I' μ hp0 i1 i2 ρ m hρ hag rest => ?_⟩
      have k1 := (a4.later b2) I' μ hp0 i1 i2 ρ m hρ hag (d2 ++ rest)
      obtain ⟨k2, k3⟩ := b4.more I' μ hp0 i1 i2 ρ m hρ hag rest
      simp only [makeVs]
      rw [show (d1 ++ d2 ++ rest).drop l.size = d2 ++ rest by rw [List.append_assoc]; exact drop_app a3, List.append_assoc]
      refine ⟨by simp [k2], fun j v' y hj hy => ?_⟩
      cases j with
      | zero => simp at hj hy; subst hj; subst hy; exact k1
      | succ j => exact k3 j v' y (by simpa using hj) (by simpa using hy)
def bsSize : List BS → Nat
  | [] => 0
  | b :: l => b.size + bsSize l
theorem at_of_row : ∀ {b : Nat} {e e' : TypeId} {es : List V} {v : V}, (∀ q b' e' m, At P w b e es q b' e' m → RowOk P w I b' e' m) → ∀ (path : Path), rowTy P e path = some e' → rowV P e es path = some v → 0 < v.toList.length →
    ∃ b1, At P w b e es path b1 e' v.toList
  | b, e, e', es, v, hrow, [], ht, hv, hl => by
    simp only [rowTy, Option.some.injEq] at ht
    simp only [rowV, Option.some.injEq] at hv
    subst ht; subst hv
    exact ⟨b, .here⟩
  | b, e, e', es, v, hrow, (i, c) :: q, ht, hv, hl => by
    simp only [rowTy] at ht
    simp only [rowV] at hv
    obtain ⟨x, hx, hv⟩ := bind_some hv
    cases htc : (rowTy.etysOf P e)[c]? with
    | none => rw [htc] at ht; cases ht
    | some t =>
      rw [htc] at ht
      simp only at ht
      have htc' : (etys P e)[c]? = some t := htc
      cases hu : P.underlying t with
      | none => rw [hu] at ht; cases ht
      | some d =>
        rw [hu] at ht
        cases d <;> simp only at ht <;> first | (cases ht; done) | skip
        rename_i e1
        rw [parts_at htc'] at hv
        have hR := hrow _ _ _ _ .here
        obtain ⟨Ca, c1, c2, c3⟩ := hR.cells
        have hclt : c < P.cellsOf e := by rw [← okTy_etys hR.ok]; exact (List.getElem?_eq_some_iff.1 htc').1
        obtain ⟨u, d1, d2⟩ := c3 i c x t hx htc' hclt
        rw [d2.retype1_eq] at hv
        generalize hy : epart P e x c = y at d2 hv
        cases d2 with
        | scal a p => unfold scalarT at a; rw [hu] at a; cases a
        | @emp e2 a cap hu2 ha =>
          rw [hu] at hu2; cases hu2
          simp only at hv
          cases q with
          | nil => simp only [rowV, Option.some.injEq] at hv; subst hv; simp [V.toList] at hl
          | cons a q => simp [rowV] at hv
        | @row e2 es2 b2 cap hu2 hl0 hsz hcap hmx =>
          rw [hu] at hu2; cases hu2
          simp only at hv
          have hstep : ∀ {q b' e' es'}, At P w b2 e1 es2 q b' e' es' → At P w b e es ((i, c) :: q) b' e' es' := fun h => .step c1 hx htc' hu hy hl0 d1 h
          obtain ⟨b1, hb1⟩ := at_of_row (fun q b' e' m h => hrow _ _ _ _ (hstep h)) q ht hv hl
          exact ⟨b1, hstep hb1⟩
theorem handBlks_ok (S : Sim P w I β hp B M w0) {α : Type} : ∀ {bs : List BS} {j : Nat} {h : Hand} {k : Hand → Rd α} {r : α} {rd : List Nat}, (handBlks P bs j h k).run C hp = some (r, rd) →
    ∃ h' rd' d u, (k h').run C hp = some (r, rd') ∧ Ext P w I β hp h h' d u ∧ d.length = bsSize bs ∧
      ∀ rest, (makeBlks bs (d ++ rest)).length = bs.length ∧ ∃ o : Nat → Option Nat,
        (∀ (i : Nat) blk, (makeBlks bs (d ++ rest))[i]? = some blk → ∃ p, nthP h'.pl (j + i) = some p ∧ Lent P w β hp p (o i) blk) ∧
        Then P w I β hp h' u fun I' μ hp0 => ∀ (i : Nat) blk, (makeBlks bs (d ++ rest))[i]? = some blk → (∀ b, Owns P w (o i) blk b → ¬ I' b) → BlkRel P w I' μ hp0 (o i) blk
  | [], j, h, k, r, rd, hr => ⟨h, rd, [], [], hr, Ext.refl h, rfl, fun rest => ⟨rfl, fun _ => none, fun i blk hb => by simp [makeBlks] at hb, fun I' μ hp0 _ _ _ _ _ _ i blk hb => by simp [makeBlks] at hb⟩⟩
  | b :: bs, j, h, k, r, rd, hr => by
    simp only [handBlks] at hr
    have fin : ∀ {h1 : Hand} {rd1 : List Nat} {d1 : List V} {u1 : List (Nat × Blk)} {o1 : Option Nat} {p : Place}, (handBlks P bs (j + 1) h1 k).run C hp = some (r, rd1) → Ext P w I β hp h h1 d1 u1 → d1.length = b.size → nthP h.pl j = some p →
        (∀ rest, Lent P w β hp p o1 (makeB b (d1 ++ rest))) → (∀ rest, Then P w I β hp h1 u1 fun I' μ hp0 => (∀ bb, Owns P w o1 (makeB b (d1 ++ rest)) bb → ¬ I' bb) → BlkRel P w I' μ hp0 o1 (makeB b (d1 ++ rest))) →
        ∃ h' rd' d u, (k h').run C hp = some (r, rd') ∧ Ext P w I β hp h h' d u ∧ d.length = bsSize (b :: bs) ∧
          ∀ rest, (makeBlks (b :: bs) (d ++ rest)).length = (b :: bs).length ∧ ∃ o : Nat → Option Nat,
            (∀ (i : Nat) blk, (makeBlks (b :: bs) (d ++ rest))[i]? = some blk → ∃ p, nthP h'.pl (j + i) = some p ∧ Lent P w β hp p (o i) blk) ∧
            Then P w I β hp h' u fun I' μ hp0 => ∀ (i : Nat) blk, (makeBlks (b :: bs) (d ++ rest))[i]? = some blk → (∀ b, Owns P w (o i) blk b → ¬ I' b) → BlkRel P w I' μ hp0 (o i) blk := by
      intro h1 rd1 d1 u1 o1 p hk he hd hp1 hl ht
      obtain ⟨h2, rd2, d2, u2, b1, b2, b3, b4⟩ := handBlks_ok S hk
      refine ⟨h2, rd2, d1 ++ d2, u1 ++ u2, b1, he.trans b2, by simp only [List.length_append, bsSize]; omega, fun rest => ?_⟩
      obtain ⟨c1, o, c2, c3⟩ := b4 rest
      simp only [makeBlks]
      rw [show (d1 ++ d2 ++ rest).drop b.size = d2 ++ rest by rw [List.append_assoc]; exact drop_app hd, List.append_assoc]
      refine ⟨by simp [c1], fun i => match i with | 0 => o1 | i + 1 => o i, fun i blk hb => ?_, fun I' μ hp0 i1 i2 ρ m hρ hag i blk hb hnI => ?_⟩
      · cases i with
        | zero =>
          simp at hb
          subst hb
          exact ⟨p, b2.look (he.look hp1), hl _⟩
        | succ i =>
          obtain ⟨q, e1, e2⟩ := c2 i blk (by simpa using hb)
          exact ⟨q, by rw [show j + (i + 1) = j + 1 + i by omega]; exact e1, e2⟩
      · cases i with
        | zero =>
          simp at hb
          subst hb
          exact ((ht _).later b2) I' μ hp0 i1 i2 ρ m hρ hag hnI
        | succ i => exact c3.more I' μ hp0 i1 i2 ρ m hρ hag i blk (by simpa using hb) hnI
    cases hp1 : nthP h.pl j with
    | none => rw [hp1] at hr; cases hr
    | some p =>
      rw [hp1] at hr
      cases p with
      | blk id =>
        obtain ⟨l1, hr⟩ := run_get hr
        cases hid : hp id with
        | none => rw [hid] at hr; cases hr
        | some blk =>
          rw [hid] at hr
          cases blk with
          | dead => cases hr
          | var T0 cs =>
            cases b <;> simp only at hr <;> first | (cases hr; done) | skip
            rename_i T1 ss
            obtain ⟨hT, hr1⟩ := run_chk hr
            clear hr
            rw [Nat.beq_eq] at hT
            subst hT
            have hrel := S.h.rel id _ hid
            generalize ho : β id = o at hrel
            cases hrel with
            | @var _ bb Ca T hb hh hs hI hx hself =>
              obtain ⟨h1, rd1, d1, u1, a1, a2, a3, a5, a4⟩ := handVs_ok S hr1 (vs := Ca.toList) (by simpa using hs) (fun j v x hj hx' => hx j v x (by simpa using hj) hx')
              refine fin (o1 := β id) a1 a2 a3 hp1 (fun rest => .var hid) fun rest I' μ hp0 i1 i2 ρ m hρ hag hnI => ?_
              obtain ⟨k1, k2⟩ := a4 I' μ hp0 i1 i2 ρ m hρ hag rest
              exact .var (ho.trans hb) hh (by rw [k1]; exact hs) (hnI _ (.root (by simp [makeB]) (ho.trans hb))) (fun i v y hi hy => k2 i v y (by simpa using hi) hy) hself
          | arr e' es fz =>
            cases fz with
            | true => cases hr
            | false =>
              cases b with
              | arr e fz =>
                cases fz with
                | true => cases hr
                | false =>
                  obtain ⟨hc, hr2⟩ := run_chk hr
                  clear hr
                  rw [Nat.beq_eq] at hc
                  subst hc
                  refine fin (d1 := [.list e es]) (o1 := β id) hr2 (Ext.leaf h _) rfl hp1 (fun rest => Lent.arr hid) fun rest I' μ hp0 i1 i2 ρ m hρ hag hnI => ?_
                  change BlkRel P w I' μ hp0 (β id) (.arr e es false)
                  have hrel := S.h.rel id _ hid
                  generalize ho : β id = o at hrel hnI ⊢
                  cases hrel with
                  | arrNil hb => exact .arrNil hb
                  | arr a1 a2 a3 a4 a5 a6 a7 =>
                    refine .arr a1 a2 a3 a4 (fun h => by cases h) (fun _ => hnI _ (.root (by simp [makeB]) a2)) fun i j x t' y1 y2 y3 => ?_
                    obtain ⟨v, z1, z2⟩ := a7 i j x t' y1 y2 y3
                    exact ⟨v, z1, z2.mono i1 fun _ _ => rfl⟩
              | _ => cases hr
          | nest e' es vers =>
            cases b with
            | nest e =>
              obtain ⟨hc, hr2⟩ := run_chk hr
              clear hr
              rw [Nat.beq_eq] at hc
              subst hc
              refine fin (d1 := [.list e es]) (o1 := β id) hr2 (Ext.leaf h _) rfl hp1 (fun rest => Lent.nest hid) fun rest I' μ hp0 i1 i2 ρ m hρ hag hnI => ?_
              have hnI' : ∀ bb, Owns P w (β id) (.nest e es [0, 0, 0]) bb → ¬ I' bb := hnI
              change BlkRel P w I' μ hp0 (β id) (.nest e es [0, 0, 0])
              have hrel := S.h.rel id _ hid
              generalize ho : β id = o at hrel hnI' ⊢
              cases hrel with
              | nest hb hrow huq =>
                refine .nest hb (fun q b' e1 m1 hq => ?_) huq
                obtain ⟨ok, ⟨Ca, c1, c2, c3⟩, nI⟩ := hrow q b' e1 m1 hq
                refine ⟨ok, ⟨Ca, c1, c2, fun i j x t' y1 y2 y3 => ?_⟩, hnI' _ (.row hb hq)⟩
                obtain ⟨v, z1, z2⟩ := c3 i j x t' y1 y2 y3
                exact ⟨v, z1, z2.mono i1 (fun _ _ => rfl) fun _ _ _ _ _ => rfl⟩
            | _ => cases hr
      | row id ver path =>
        obtain ⟨e0, es, vers, l1, k1, k2, k3, k4, k5⟩ := rowAt_run hr
        obtain ⟨e', vv, m1, m2, m3⟩ := rowRd_run k5
        cases b with
        | arr e fz =>
          cases fz with
          | true => cases m3
          | false =>
            obtain ⟨hc, m4⟩ := run_chk m3
            clear m3
            simp only [Bool.and_eq_true, Nat.beq_eq, Nat.blt_eq] at hc
            obtain ⟨rfl, hfs, hl0⟩ := hc
            have hrel := S.h.rel id _ k1
            cases hb : β id with
            | none =>
              rw [hb] at hrel
              cases hrel with
              | nest hb' _ _ => cases hb'
            | some b0 =>
              rw [hb] at hrel
              cases hrel with
              | nest hb' hrow huq =>
                cases hb'
                obtain ⟨b1, hat⟩ := at_of_row hrow path m1 m2 hl0
                refine fin (d1 := [.list e vv.toList]) (o1 := some b1) m4 (Ext.leaf h _) rfl hp1 (fun rest => Lent.row k1 hb hat hfs k2 k3 k4 hl0) fun rest I' μ hp0 i1 i2 ρ m hρ hag hnI => ?_
                change BlkRel P w I' μ hp0 (some b1) (.arr e vv.toList false)
                obtain ⟨ok, ⟨Ca, c1, c2, c3⟩, nI⟩ := hrow _ _ _ _ hat
                refine .arr ok rfl c1 c2 (fun h => by cases h) (fun _ => hnI _ (.root (by simp [makeB]) rfl)) fun i j x t' y1 y2 y3 => ?_
                obtain ⟨v, z1, z2⟩ := c3 i j x t' y1 y2 y3
                refine ⟨v, z1, ?_⟩
                generalize epart P e x j = y at z2 ⊢
                cases z2 with
                | scal _ p => exact p.mono i1 fun _ _ => rfl
                | emp hu _ => exact absurd hu (flatScalar_not hfs y2 _)
                | row hu _ _ _ _ => exact absurd hu (flatScalar_not hfs y2 _)
        | _ => cases m3
where
  flatScalar_not {e t : TypeId} {j : Nat} (h : flatScalar P e = true) (ht : (etys P e)[j]? = some t) (e' : TypeId) : P.underlying t ≠ some (.slice e') := by
    intro hu
    have h2 := List.all_eq_true.1 h t (List.mem_of_getElem? ht)
    rw [hu] at h2
    cases h2
end
end Go.AM
namespace Go.AM
section
variable {P : Program} {A : Ann} {w w' : World} {I I' I2 : Nat → Prop} {μ β β' β2 : Nat → Option Nat} {hp hp' hp0 hp1 : Nat → Option Blk} {C : CallF} {B : Nat} {M : Nat → Prop} {w0 : Start}
structure Le0 (w : World) (I : Nat → Prop) (β : Nat → Option Nat) (hp : Nat → Option Blk) (w' : World) (I' : Nat → Prop) (β' : Nat → Option Nat) (hp' : Nat → Option Blk) : Prop where
  imm : ∀ b, I b → I' b
  keep : ∀ b, I b → w'.heap[b]? = w.heap[b]?
  blk : ∀ id blk, hp id = some blk → ∃ blk', hp' id = some blk' ∧ blk.le blk' ∧ (blk' ≠ .dead → β' id = β id)
  size : ∀ id blk blk' b, hp id = some blk → hp' id = some blk' → blk' ≠ .dead → β id = some b → bsize w' b = bsize w b
theorem Le.toLe0 (h : Le P w I β hp w' I' β' hp') : Le0 w I β hp w' I' β' hp' := ⟨h.imm, h.keep, h.blk, h.size⟩
theorem Le0.trans {w'' : World} {I'' : Nat → Prop} {β'' : Nat → Option Nat} {hp'' : Nat → Option Blk} (h1 : Le0 w I β hp w' I' β' hp') (h2 : Le0 w' I' β' hp' w'' I'' β'' hp'') : Le0 w I β hp w'' I'' β'' hp'' := by
  refine ⟨fun b h => h2.imm b (h1.imm b h), fun b h => (h2.keep b (h1.imm b h)).trans (h1.keep b h), fun id blk h => ?_, fun id blk blk'' b h h'' hd hb => ?_⟩
  · obtain ⟨blk', e', l', b'⟩ := h1.blk id blk h
    obtain ⟨blk'', e'', l'', b''⟩ := h2.blk id blk' e'
    refine ⟨blk'', e'', Blk.le_trans l' l'', fun hd => ?_⟩
    have hd' : blk' ≠ .dead := fun e => hd (Blk.le_dead (e ▸ l''))
    exact (b'' hd).trans (b' hd')
  · obtain ⟨blk', e', l', b'⟩ := h1.blk id blk h
    obtain ⟨blk3, e3, l3, b3⟩ := h2.blk id blk' e'
    obtain rfl : blk3 = blk'' := by rw [e3] at h''; exact Option.some.inj h''
    have hd' : blk' ≠ .dead := fun e => hd (Blk.le_dead (e ▸ l3))
    rw [h2.size id blk' blk3 b e' e3 hd ((b' hd').trans hb), h1.size id blk blk' b h e' hd' hb]
def Passed (P : Program) (w : World) (μ : Nat → Option Nat) (hp0 : Nat → Option Blk) (b : Nat) : Prop := ∃ j blk, hp0 j = some blk ∧ Owns P w (μ j) blk b
structure After (P : Program) (A : Ann) (key : Nat) (w : World) (I : Nat → Prop) (μ : Nat → Option Nat) (ds es : List V) (w' : World) (v : Value) (I2 : Nat → Prop) (β2 : Nat → Option Nat) : Prop where
  sim : Sim P w' I2 β2 (toSt (A.sout key) es).hp w.heap.size (Passed P w μ (toSt (A.sin key) ds).hp) ⟨w, I⟩
  le : Le0 w I μ (toSt (A.sin key) ds).hp w' I2 β2 (toSt (A.sout key) es).hp
  res : VRel P w' I2 β2 (toSt (A.sout key) es).hp v (resV (makeSlots (A.sout key).slots es))
def CallSim (P : Program) (A : Ann) (C : CallF) : Prop :=
  ∀ key ds es, C key ds = some es → ∃ fn c, P.funcs[A.fid key]? = some fn ∧ fn.body = some c ∧
    ∀ (w : World) (I : Nat → Prop) (μ : Nat → Option Nat) (vals : List Value),
      HRel P w I μ (toSt (A.sin key) ds).hp w.heap.size (Passed P w μ (toSt (A.sin key) ds).hp) → GlobOk P A.glob w I →
      vals.length = (A.sin key).slots.length → (∀ (j : Nat) v x, vals[j]? = some v → (makeVs ((A.sin key).slots.map (·.2)) ds)[j]? = some x → VRel P w I μ (toSt (A.sin key) ds).hp v x) →
      Calls P (A.fid key) vals.toArray w fun e w' => ∃ v I2 β2, e = .returned v ∧ After P A key w I μ ds es w' v I2 β2
theorem Lent.owns {p : Place} {o : Option Nat} {blk : Blk} {b : Nat} (h : Lent P w β hp p o blk) (ho : Owns P w o blk b) :
    ∃ blk1, hp p.id = some blk1 ∧ Owns P w (β p.id) blk1 b ∧ ∀ e es, blk1 ≠ .arr e es true := by
  cases h with
  | var h => exact ⟨_, h, .root (by simp) (ho.flat (by simp)), by simp⟩
  | arr h => exact ⟨_, h, .root (by simp) (ho.flat (by simp)), by simp⟩
  | nest h =>
    refine ⟨_, h, ?_, by simp⟩
    cases ho with
    | root _ hb => exact .root (by simp) hb
    | row hb ha => exact .row hb ha
  | row h hb ha _ _ _ _ _ =>
    have := ho.flat (by simp)
    cases this
    exact ⟨_, h, .row hb ha, by simp⟩
theorem Sim.notI (S : Sim P w I β hp B M w0) {id b : Nat} {blk : Blk} (hid : hp id = some blk) (ho : Owns P w (β id) blk b) (hf : ∀ e es, blk ≠ .arr e es true) : ¬ I b := by
  have hr := S.h.rel id blk hid
  generalize β id = o at hr ho
  cases hr with
  | var hb _ _ hI _ _ => have := ho.flat (by simp); rw [hb] at this; cases this; exact hI
  | arrNil hb => have := ho.flat (by simp); rw [hb] at this; cases this
  | @arr e es fz _ _ _ hb _ _ _ hnf _ =>
    have := ho.flat (by simp)
    rw [hb] at this; cases this
    cases fz with
    | true => exact absurd rfl (hf e es)
    | false => exact hnf rfl
  | dead => exact absurd rfl ho.alive
  | nest hb hr _ =>
    cases ho with
    | root _ hb' => rw [hb] at hb'; cases hb'; exact (hr _ _ _ _ .here).nI
    | row hb' ha => rw [hb] at hb'; cases hb'; exact (hr _ _ _ _ ha).nI
theorem overlap_false {a b : List Nat} (h : overlap a b = false) {x : Nat} (ha : x ∈ a) : x ∉ b := by
  intro hb
  unfold overlap at h
  rw [List.any_eq_false] at h
  exact h x ha (memN_of hb)
theorem entry_ok (S : Sim P w I β hp B M w0) {pl : List Place} {upd : List (Nat × Blk)} {o : Nat → Option Nat} (hnd : (pl.map Place.id).Nodup) (hov : overlap (upd.map (·.1)) (pl.map Place.id) = false)
    (hl : ∀ j blk, hp0 j = some blk → ∃ p, nthP pl j = some p ∧ Lent P w β hp p (o j) blk)
    (hrel : (∀ j blk, hp0 j = some blk → ∀ b, Owns P w (o j) blk b → ¬ IFrz P w I β hp upd b) → ∀ j blk, hp0 j = some blk → BlkRel P w (IFrz P w I β hp upd) o hp0 (o j) blk) (hlt : ∀ b, IFrz P w I β hp upd b → b < w.heap.size) :
    HRel P w (IFrz P w I β hp upd) o hp0 w.heap.size (Passed P w o hp0) := by
  have hnI : ∀ j blk, hp0 j = some blk → ∀ b, Owns P w (o j) blk b → ¬ IFrz P w I β hp upd b := by
    intro j blk hj b ho hI
    obtain ⟨p, hp1, hp2⟩ := hl j blk hj
    obtain ⟨blk1, k1, k2, k3⟩ := hp2.owns ho
    rcases hI with hI | ⟨q, hq, blk2, q1, q2⟩
    · exact S.notI k1 k2 k3 hI
    · have := S.h.inj _ _ _ _ b q1 k1 q2 k2
      refine overlap_false hov (List.mem_map.2 ⟨q, hq, rfl⟩) ?_
      rw [this]
      rw [nthP_get] at hp1
      exact List.mem_map.2 ⟨p, List.mem_of_getElem? hp1, rfl⟩
  refine ⟨hrel hnI, fun j1 j2 b1 b2 b h1 h2 o1 o2 => ?_, fun j blk b h1 o1 => .inl ⟨j, blk, h1, o1⟩, hlt⟩
  obtain ⟨p1, q1, q2⟩ := hl j1 b1 h1
  obtain ⟨p2, r1, r2⟩ := hl j2 b2 h2
  obtain ⟨c1, x1, x2, _⟩ := q2.owns o1
  obtain ⟨c2, y1, y2, _⟩ := r2.owns o2
  have hid := S.h.inj _ _ _ _ b x1 y1 x2 y2
  rw [nthP_get] at q1 r1
  have m1 : (pl.map Place.id)[j1]? = some p1.id := by rw [List.getElem?_map, q1]; rfl
  have m2 : (pl.map Place.id)[j2]? = some p2.id := by rw [List.getElem?_map, r1]; rfl
  rw [← hid] at m2
  obtain ⟨z1, z2⟩ := List.getElem?_eq_some_iff.1 m1
  obtain ⟨z3, z4⟩ := List.getElem?_eq_some_iff.1 m2
  exact (List.getElem_inj hnd).1 (z2.trans z4.symm)
def freeLeaf : V → Prop
  | .list .. => False
  | .pref .. => False
  | .agg _ => False
  | .tup _ => False
  | .fn .. => False
  | _ => True
theorem VRel.free {v : Value} {x : V} (h : VRel P w I β hp v x) (hx : freeLeaf x) : VRel P w I' β hp v x := by
  cases h with
  | undef => exact .undef
  | int => exact .int
  | bool => exact .bool
  | str h => exact .str h
  | list h => exact hx.elim
  | nilS => exact .nilS
  | agg => exact hx.elim
  | tup => exact hx.elim
  | nilp => exact .nilp
  | fn => exact hx.elim
  | pref => exact hx.elim
  | wholeDead h => exact .wholeDead h
  | subDead h => exact .subDead h
  | ptrDead h => exact .ptrDead h
  | wholeNil h hb => exact .wholeNil h hb
  | whole h hb a b c => exact .whole h hb a b c
  | wholeN h hb a b c => exact .wholeN h hb a b c
  | subNil h hb => exact .subNil h hb
  | sub h hb a b c => exact .sub h hb a b c
  | ptr h hd hb => exact .ptr h hd hb
  | rowPast h hpa => exact .rowPast h hpa
  | atPast h hpa => exact .atPast h hpa
  | row h hb a b c d => exact .row h hb a b c d
  | elt h hb a b c d e => exact .elt h hb a b c d e
theorem makeL_free {l : LS} {ds : List V} (hs : l.safe = true) : freeLeaf (makeL l ds) := by
  cases l <;> simp only [LS.safe] at hs <;> first | (cases hs; done) | trivial
theorem makeLs_get : ∀ {ls : List LS} {ds : List V} {j : Nat} {y : V}, (makeLs ls ds)[j]? = some y → ∃ l ds', l ∈ ls ∧ y = makeL l ds'
  | [], ds, j, y, h => by simp [makeLs] at h
  | l :: ls, ds, j, y, h => by
    simp only [makeLs] at h
    cases j with
    | zero => simp at h; exact ⟨l, ds, List.mem_cons_self .., h.symm⟩
    | succ j =>
      obtain ⟨l', ds', h1, h2⟩ := makeLs_get (j := j) (by simpa using h)
      exact ⟨l', ds', List.mem_cons_of_mem _ h1, h2⟩
theorem makeVs_get : ∀ {ls : List VS} {ds : List V} {j : Nat} {y : V}, (makeVs ls ds)[j]? = some y → ∃ l ds', l ∈ ls ∧ y = makeV l ds'
  | [], ds, j, y, h => by simp [makeVs] at h
  | l :: ls, ds, j, y, h => by
    simp only [makeVs] at h
    cases j with
    | zero => simp at h; exact ⟨l, ds, List.mem_cons_self .., h.symm⟩
    | succ j =>
      obtain ⟨l', ds', h1, h2⟩ := makeVs_get (j := j) (by simpa using h)
      exact ⟨l', ds', List.mem_cons_of_mem _ h1, h2⟩
theorem makeV_safe {s : VS} {ds : List V} {v : Value} (h : VRel P w I β hp v (makeV s ds)) (hs : s.safe = true) : VRel P w I' β hp v (makeV s ds) := by
  cases s with
  | one l => exact h.free (makeL_free hs)
  | agg ls =>
    simp only [makeV] at h ⊢
    obtain ⟨cs, rfl, e1, e2⟩ := h.agg_inv
    refine .agg e1 fun j v x hj hx => ?_
    obtain ⟨l, ds', k1, rfl⟩ := makeLs_get hx
    exact (e2 j v _ hj hx).free (makeL_free (List.all_eq_true.1 hs l k1))
  | tup ls =>
    simp only [makeV] at h ⊢
    obtain ⟨cs, rfl, e1, e2⟩ := h.tup_inv
    refine .tup e1 fun j v x hj hx => ?_
    obtain ⟨l, ds', k1, rfl⟩ := makeLs_get hx
    exact (e2 j v _ hj hx).free (makeL_free (List.all_eq_true.1 hs l k1))
  | fn f a b =>
    simp only [VS.safe, Bool.and_eq_true] at hs
    simp only [makeV] at h ⊢
    cases h with
    | fn a1 a2 b1 b2 =>
      refine .fn a1 (fun j v x hj hx => ?_) b1 (fun j v x hj hx => ?_)
      · obtain ⟨l, ds', k1, rfl⟩ := makeLs_get hx
        exact (a2 j v _ hj hx).free (makeL_free (List.all_eq_true.1 hs.1 l k1))
      · obtain ⟨l, ds', k1, rfl⟩ := makeLs_get hx
        exact (b2 j v _ hj hx).free (makeL_free (List.all_eq_true.1 hs.2 l k1))
  | pref ts ls => cases hs
theorem Pure.scalar {t : TypeId} {v : Value} {x : V} (h : Pure P w I t v x) (hn : ∀ e, P.underlying t ≠ some (.slice e)) : Pure P w I' t v x := by
  cases h with
  | int h => exact .int h
  | bool h => exact .bool h
  | str h hl => exact .str h hl
  | nil h => exact absurd h (hn _)
  | emp h => exact absurd h (hn _)
  | list g h => exact absurd h (hn _)
theorem flatScalar_of {e t : TypeId} {j : Nat} (h : flatScalar P e = true) (ht : (etys P e)[j]? = some t) (e' : TypeId) : P.underlying t ≠ some (.slice e') := by
  intro hu
  have h2 := List.all_eq_true.1 h t (List.mem_of_getElem? ht)
  rw [hu] at h2
  cases h2
theorem makeB_safe {o : Option Nat} {b : BS} {ds : List V} (h : BlkRel P w I2 β hp o (makeB b ds)) (hs : b.safe P = true) (hi : ∀ b, I b → I2 b) : BlkRel P w I β hp o (makeB b ds) := by
  cases b with
  | dead => exact .dead
  | var T0 ls =>
    simp only [makeB] at h ⊢
    cases h with
    | var hb hh hsz hI hx hself =>
      refine .var hb hh hsz (fun h => hI (hi _ h)) (fun j v x hj hx' => ?_) hself
      obtain ⟨l, ds', k1, rfl⟩ := makeVs_get hx'
      exact makeV_safe (hx j v _ hj hx') (List.all_eq_true.1 hs l k1)
  | arr e fz =>
    simp only [BS.safe, Bool.and_eq_true, Bool.not_eq_true'] at hs
    obtain ⟨rfl, hfs⟩ := hs
    simp only [makeB] at h ⊢
    generalize (V.nth ds 0).toList = es at h ⊢
    cases h with
    | arrNil hb => exact .arrNil hb
    | arr a1 a2 a3 a4 a5 a6 a7 =>
      refine .arr a1 a2 a3 a4 (fun h => by cases h) (fun _ h => a6 rfl (hi _ h)) fun i j x t' y1 y2 y3 => ?_
      obtain ⟨v, z1, z2⟩ := a7 i j x t' y1 y2 y3
      exact ⟨v, z1, z2.scalar (flatScalar_of hfs y2)⟩
  | nest e =>
    simp only [makeB] at h ⊢
    generalize (V.nth ds 0).toList = es at h ⊢
    cases h with
    | nest hb hrow huq =>
      refine .nest hb (fun q b' e1 m1 hq => ?_) huq
      obtain ⟨ok, ⟨Ca, c1, c2, c3⟩, nI⟩ := hrow q b' e1 m1 hq
      refine ⟨ok, ⟨Ca, c1, c2, fun i j x t' y1 y2 y3 => ?_⟩, fun h => nI (hi _ h)⟩
      obtain ⟨v, z1, z2⟩ := c3 i j x t' y1 y2 y3
      refine ⟨v, z1, ?_⟩
      generalize epart P e1 x j = y at z2 ⊢
      cases z2 with
      | scal a p =>
        refine .scal a (p.scalar fun e hu => ?_)
        unfold scalarT at a
        rw [hu] at a
        cases a
      | emp a b => exact .emp a b
      | row a b c d e => exact .row a b c d e
theorem makeBlks_get : ∀ {l : List BS} {ds : List V} {j : Nat} {y : Blk}, (makeBlks l ds)[j]? = some y → ∃ b ds', l[j]? = some b ∧ y = makeB b ds'
  | [], ds, j, y, h => by simp [makeBlks] at h
  | b :: l, ds, j, y, h => by
    simp only [makeBlks] at h
    cases j with
    | zero => simp at h; exact ⟨b, ds, rfl, h.symm⟩
    | succ j =>
      obtain ⟨b', ds', h1, h2⟩ := makeBlks_get (j := j) (by simpa using h)
      exact ⟨b', ds', by simpa using h1, h2⟩
theorem makeSlots_mem : ∀ {l : List (Nat × VS)} {ds : List V} {q : Nat × V}, q ∈ makeSlots l ds → ∃ s ds', (q.1, s) ∈ l ∧ q.2 = makeV s ds'
  | [], ds, q, h => by simp [makeSlots] at h
  | (k, s) :: l, ds, q, h => by
    simp only [makeSlots, List.mem_cons] at h
    rcases h with h | h
    · subst h; exact ⟨s, ds, List.mem_cons_self .., rfl⟩
    · obtain ⟨s', ds', h1, h2⟩ := makeSlots_mem h
      exact ⟨s', ds', List.mem_cons_of_mem _ h1, h2⟩
theorem safe_back {key : Nat} {es : List V} (hs : (A.sout key).safe P = true) (hi : ∀ b, I b → I2 b) {N : Nat → Prop} {st : Start} (h : Sim P w' I2 β2 (toSt (A.sout key) es).hp B N st) (h0 : ∀ b, I b → st.I b) :
    Sim P w' I β2 (toSt (A.sout key) es).hp B N st ∧ ∀ v, VRel P w' I2 β2 (toSt (A.sout key) es).hp v (resV (makeSlots (A.sout key).slots es)) → VRel P w' I β2 (toSt (A.sout key) es).hp v (resV (makeSlots (A.sout key).slots es)) := by
  unfold Shape.safe at hs
  simp only [Bool.and_eq_true] at hs
  obtain ⟨hs1, hs2⟩ := hs
  have one : ∀ q ∈ makeSlots (A.sout key).slots es, ∀ v, VRel P w' I2 β2 (toSt (A.sout key) es).hp v q.2 → VRel P w' I β2 (toSt (A.sout key) es).hp v q.2 := by
    intro q hq v hv
    obtain ⟨s, ds', k1, k2⟩ := makeSlots_mem hq
    rw [k2] at hv ⊢
    exact makeV_safe hv (List.all_eq_true.1 hs1 _ k1)
  refine ⟨⟨⟨fun j blk hj => ?_, h.h.inj, h.h.own, fun b hb => h.h.Ilt b (hi b hb)⟩, h.keep, h.size, fun b hb => .inl (h0 b hb), h.io⟩, fun v hv => ?_⟩
  · have hr := h.h.rel j blk hj
    have hj' := hj
    simp only [toSt, mk, hpOf_get] at hj'
    obtain ⟨b, ds', k1, rfl⟩ := makeBlks_get hj'
    exact makeB_safe hr (List.all_eq_true.1 hs2 _ (List.mem_of_getElem? k1)) hi
  · generalize makeSlots (A.sout key).slots es = l at one hv ⊢
    match l, one, hv with
    | [], _, hv =>
      simp only [resV, List.map_nil] at hv ⊢
      obtain ⟨cs, rfl, e1, e2⟩ := hv.tup_inv
      exact .tup e1 fun j v x _ hx => by simp at hx
    | [q], one, hv => exact one q (List.mem_singleton.2 rfl) v hv
    | q :: q2 :: l, one, hv =>
      simp only [resV] at hv ⊢
      obtain ⟨cs, rfl, e1, e2⟩ := hv.tup_inv
      refine .tup e1 fun j v x hj hx => ?_
      obtain ⟨y, hy, rfl⟩ := List.mem_map.1 (List.mem_of_getElem? hx)
      exact one y hy v (e2 j v _ hj hx)
end
end Go.AM
namespace Go.AM
section
variable {P : Program} {A : Ann} {w w' : World} {I I' I2 : Nat → Prop} {μ β β' β2 : Nat → Option Nat} {hp hp' hp0 hp1 : Nat → Option Blk} {C : CallF} {B : Nat} {M : Nat → Prop} {w0 : Start}
inductive Back (σ : List Place) : Blk → Blk → Prop
  | dead : Back σ .dead .dead
  | var {T : TypeId} {cs : List V} : Back σ (.var T cs) (.var T (cs.map (backV σ)))
  | arr {e : TypeId} {es : List V} {fz : Bool} : Back σ (.arr e es fz) (.arr e es fz)
  | nest {e : TypeId} {es : List V} {v1 v2 : List Nat} : Back σ (.nest e es v1) (.nest e es v2)
theorem Back.of (σ : List Place) (b : Blk) : Back σ b (backB σ b) := by
  cases b with
  | dead => exact .dead
  | var T cs => exact .var
  | arr e es fz => exact .arr
  | nest e es v => exact .nest
theorem backUpd_run {σ : List Place} : ∀ {pl : List Place} {bs : List Blk} {acc : List (Nat × Blk)} {k : List (Nat × Blk) → Rd R} {r : R} {rd : List Nat}, (backUpd σ pl bs acc k).run C hp = some (r, rd) →
    pl.length ≤ bs.length ∧ ∃ bk rd', (k bk).run C hp = some (r, rd') ∧ (∀ q ∈ bk, q ∈ acc ∨ ∃ (j : Nat) (b : Blk), pl[j]? = some (.blk q.1) ∧ bs[j]? = some b ∧ Back σ b q.2 ∧ ((∃ e es v2, q.2 = .nest e es v2) → ∃ e es vers e' es', hp q.1 = some (.nest e es vers) ∧ q.2 = .nest e' es' (vers.map (· + 1)))) ∧
      (∀ q ∈ acc, q ∈ bk) ∧ ∀ (j : Nat) p, pl[j]? = some p → ∃ id b, p = .blk id ∧ (id, b) ∈ bk
  | [], bs, acc, k, r, rd, h => ⟨Nat.zero_le _, acc, rd, by simpa only [backUpd] using h, fun q hq => .inl hq, fun q hq => hq, fun j p hp => by simp at hp⟩
  | .row _ _ _ :: pl, bs, acc, k, r, rd, h => by
    cases bs <;> (simp only [backUpd] at h; cases h)
  | .blk id :: pl, [], acc, k, r, rd, h => by simp only [backUpd] at h; cases h
  | .blk id :: pl, b :: bs, acc, k, r, rd, h => by
    have fin : ∀ {b2 : Blk} {rd1 : List Nat}, (backUpd σ pl bs ((id, b2) :: acc) k).run C hp = some (r, rd1) → Back σ b b2 → ((∃ e es v2, b2 = .nest e es v2) → ∃ e es vers e' es', hp id = some (.nest e es vers) ∧ b2 = .nest e' es' (vers.map (· + 1))) →
        (Place.blk id :: pl).length ≤ (b :: bs).length ∧ ∃ bk rd', (k bk).run C hp = some (r, rd') ∧ (∀ q ∈ bk, q ∈ acc ∨ ∃ (j : Nat) (b' : Blk), (Place.blk id :: pl)[j]? = some (.blk q.1) ∧ (b :: bs)[j]? = some b' ∧ Back σ b' q.2 ∧ ((∃ e es v2, q.2 = .nest e es v2) → ∃ e es vers e' es', hp q.1 = some (.nest e es vers) ∧ q.2 = .nest e' es' (vers.map (· + 1)))) ∧
          (∀ q ∈ acc, q ∈ bk) ∧ ∀ (j : Nat) p, (Place.blk id :: pl)[j]? = some p → ∃ id b, p = .blk id ∧ (id, b) ∈ bk := by
      intro b2 rd1 h1 hb hn
      obtain ⟨a0, bk, rd', a1, a2, a3, a4⟩ := backUpd_run h1
      refine ⟨by simp only [List.length_cons]; omega, bk, rd', a1, fun q hq => ?_, fun q hq => a3 q (List.mem_cons_of_mem _ hq), fun j p hj => ?_⟩
      · rcases a2 q hq with h | ⟨j, b', k1, k2, k3, k4⟩
        · rcases List.mem_cons.1 h with e | h
          · subst e; exact .inr ⟨0, b, rfl, rfl, hb, hn⟩
          · exact .inl h
        · exact .inr ⟨j + 1, b', by simpa using k1, by simpa using k2, k3, k4⟩
      · cases j with
        | zero => simp at hj; subst hj; exact ⟨id, b2, rfl, a3 _ (List.mem_cons_self ..)⟩
        | succ j => exact a4 j p (by simpa using hj)
    cases b with
    | nest e es v =>
      simp only [backUpd] at h
      obtain ⟨l, h⟩ := run_get h
      cases hid : hp id with
      | none => rw [hid] at h; cases h
      | some blk =>
        rw [hid] at h
        cases blk with
        | nest e0 es0 vers => exact fin h .nest fun _ => ⟨e0, es0, vers, e, es, hid, rfl⟩
        | _ => cases h
    | dead => exact fin h (.of σ _) fun ⟨_, _, _, h⟩ => by cases h
    | var T cs => exact fin h (.of σ _) fun ⟨_, _, _, h⟩ => by cases h
    | arr e es fz => exact fin h (.of σ _) fun ⟨_, _, _, h⟩ => by cases h
theorem freshUpd_mem {σ : List Place} : ∀ {bs : List Blk} {n : Nat} {q : Nat × Blk}, q ∈ freshUpd σ n bs → ∃ i b, bs[i]? = some b ∧ q = (n + i, backB σ b)
  | [], n, q, h => by simp [freshUpd] at h
  | b :: bs, n, q, h => by
    simp only [freshUpd, List.mem_cons] at h
    rcases h with h | h
    · exact ⟨0, b, rfl, h⟩
    · obtain ⟨i, b', h1, h2⟩ := freshUpd_mem h
      exact ⟨i + 1, b', by simpa using h1, by rw [h2]; congr 1; omega⟩
theorem freshUpd_has {σ : List Place} : ∀ {bs : List Blk} {n i : Nat} {b : Blk}, bs[i]? = some b → (n + i, backB σ b) ∈ freshUpd σ n bs
  | [], n, i, b, h => by simp at h
  | b0 :: bs, n, i, b, h => by
    simp only [freshUpd, List.mem_cons]
    cases i with
    | zero => simp at h; subst h; exact .inl rfl
    | succ i => exact .inr (by rw [show n + (i + 1) = n + 1 + i by omega]; exact freshUpd_has (by simpa using h))
theorem freshPl_get : ∀ {k n i : Nat}, i < k → (freshPl n k)[i]? = some (.blk (n + i))
  | 0, n, i, h => by omega
  | k + 1, n, 0, h => rfl
  | k + 1, n, i + 1, h => by
    simp only [freshPl, List.getElem?_cons_succ]
    rw [freshPl_get (by omega)]
    congr 2
    omega
theorem freshPl_length : ∀ {k n : Nat}, (freshPl n k).length = k
  | 0, _ => rfl
  | k + 1, n => by simp [freshPl, freshPl_length]
theorem fresh_run : ∀ {bs : List (Nat × Blk)} {k : Rd R} {r : R} {rd : List Nat}, (freshAll bs k).run C hp = some (r, rd) → (∀ q ∈ bs, hp q.1 = none) ∧ ∃ rd', k.run C hp = some (r, rd')
  | [], k, r, rd, h => ⟨by simp, rd, h⟩
  | (id, b) :: l, k, r, rd, h => by
    simp only [freshAll] at h
    obtain ⟨l1, h⟩ := run_get h
    cases hid : hp id with
    | some blk => rw [hid] at h; cases h
    | none =>
      rw [hid] at h
      obtain ⟨h1, h2⟩ := fresh_run h
      refine ⟨fun q hq => ?_, h2⟩
      rcases List.mem_cons.1 hq with e | hq
      · subst e; exact hid
      · exact h1 q hq
structure Turn (σ : List Place) (β2 : Nat → Option Nat) (hp1 : Nat → Option Blk) (β' : Nat → Option Nat) (hp' : Nat → Option Blk) : Prop where
  blk : ∀ j b, hp1 j = some b → ∃ id b', nthP σ j = some (.blk id) ∧ hp' id = some b' ∧ Back σ b b' ∧ (b ≠ .dead → β' id = β2 j)
  none : ∀ j, hp1 j = none → nthP σ j = none
  noRow : ∀ j id ver path, nthP σ j ≠ some (.row id ver path)
theorem Turn.leaf {σ : List Place} (T : Turn σ β2 hp1 β' hp') {v : Value} {x : V} (h : VRel P w I β2 hp1 v x) : VRel P w I β' hp' v (backL σ x) := by
  have look : ∀ {j b}, hp1 j = some b → ∃ id b', nthP σ j = some (.blk id) ∧ hp' id = some b' ∧ Back σ b b' ∧ (b ≠ .dead → β' id = β2 j) := fun h => T.blk _ _ h
  cases h with
  | undef => exact .undef
  | int => exact .int
  | bool => exact .bool
  | str h => exact .str h
  | list h => exact .list h
  | nilS => exact .nilS
  | agg => exact .undef
  | tup => exact .undef
  | nilp => exact .nilp
  | fn => exact .undef
  | pref a b c => exact .pref a b c
  | @wholeDead _ e j h =>
    obtain ⟨id, b', k1, k2, k3, k4⟩ := look h
    simp only [backL, k1]
    cases k3
    exact .wholeDead k2
  | @subDead _ e j _ _ h =>
    obtain ⟨id, b', k1, k2, k3, k4⟩ := look h
    simp only [backL, k1]
    cases k3
    exact .subDead k2
  | @ptrDead _ j _ _ h =>
    obtain ⟨id, b', k1, k2, k3, k4⟩ := look h
    simp only [backL, k1]
    cases k3
    exact .ptrDead k2
  | @wholeNil e j fz _ h hb =>
    obtain ⟨id, b', k1, k2, k3, k4⟩ := look h
    simp only [backL, k1]
    cases k3
    exact .wholeNil k2 ((k4 (by simp)).trans hb)
  | @whole e j es fz b cap h hb a1 a2 a3 =>
    obtain ⟨id, b', k1, k2, k3, k4⟩ := look h
    simp only [backL, k1]
    cases k3
    exact .whole k2 ((k4 (by simp)).trans hb) a1 a2 a3
  | @wholeN e j es vers b cap h hb a1 a2 a3 =>
    obtain ⟨id, b', k1, k2, k3, k4⟩ := look h
    simp only [backL, k1]
    cases k3
    exact .wholeN k2 ((k4 (by simp)).trans hb) a1 a2 a3
  | @subNil e j fz _ h hb =>
    obtain ⟨id, b', k1, k2, k3, k4⟩ := look h
    simp only [backL, k1]
    cases k3
    exact .subNil k2 ((k4 (by simp)).trans hb)
  | @sub e j off len es fz b o cap h hb a1 a2 a3 =>
    obtain ⟨id, b', k1, k2, k3, k4⟩ := look h
    simp only [backL, k1]
    cases k3
    exact .sub k2 ((k4 (by simp)).trans hb) a1 a2 a3
  | @ptr j i c b blk h hd hb =>
    obtain ⟨id, b', k1, k2, k3, k4⟩ := look h
    simp only [backL, k1]
    have hs : blk.sz P = b'.sz P := by cases k3 <;> rfl
    rw [hs]
    exact .ptr k2 (by intro e; subst e; cases k3; exact hd rfl) ((k4 hd).trans hb)
  | rowPast => exact .undef
  | atPast => exact .undef
  | row => exact .undef
  | elt => exact .undef
theorem Turn.one {σ : List Place} (T : Turn σ β2 hp1 β' hp') {v : Value} {x : V} (h : VRel P w I β2 hp1 v x) : VRel P w I β' hp' v (backW σ x) := by
  cases x with
  | agg xs =>
    obtain ⟨cs, rfl, e1, e2⟩ := h.agg_inv
    exact .agg (by simpa using e1) fun j v y hj hy => by
      rw [List.getElem?_map] at hy
      cases hx : xs[j]? with
      | none => rw [hx] at hy; cases hy
      | some x => rw [hx] at hy; cases hy; exact T.leaf (e2 j v x hj hx)
  | fn f a b =>
    cases h with
    | fn a1 a2 b1 b2 =>
      refine .fn (by simpa using a1) (fun j v y hj hy => ?_) (by simpa using b1) (fun j v y hj hy => ?_)
      · rw [List.getElem?_map] at hy
        cases hx : a[j]? with
        | none => rw [hx] at hy; cases hy
        | some x => rw [hx] at hy; cases hy; exact T.leaf (a2 j v x hj hx)
      · rw [List.getElem?_map] at hy
        cases hx : b[j]? with
        | none => rw [hx] at hy; cases hy
        | some x => rw [hx] at hy; cases hy; exact T.leaf (b2 j v x hj hx)
  | _ => exact T.leaf h
theorem Turn.val {σ : List Place} (T : Turn σ β2 hp1 β' hp') {v : Value} {x : V} (h : VRel P w I β2 hp1 v x) : VRel P w I β' hp' v (backV σ x) := by
  cases x with
  | tup xs =>
    obtain ⟨cs, rfl, e1, e2⟩ := h.tup_inv
    exact .tup (by simpa using e1) fun j v y hj hy => by
      rw [List.getElem?_map] at hy
      cases hx : xs[j]? with
      | none => rw [hx] at hy; cases hy
      | some x => rw [hx] at hy; cases hy; exact T.one (e2 j v x hj hx)
  | _ => exact T.one h
theorem Turn.blkRel {σ : List Place} (T : Turn σ β2 hp1 β' hp') {o : Option Nat} {b b' : Blk} (h : BlkRel P w I β2 hp1 o b) (hb : Back σ b b') : BlkRel P w I β' hp' o b' := by
  cases hb with
  | dead => exact .dead
  | var =>
    cases h with
    | var a1 a2 a3 a4 a5 a6 =>
      refine .var a1 a2 (by simpa using a3) a4 (fun j v y hj hy => ?_) a6
      rw [List.getElem?_map] at hy
      cases hx : (_ : List V)[j]? with
      | none => rw [hx] at hy; cases hy
      | some x => rw [hx] at hy; cases hy; exact T.val (a5 j v x hj hx)
  | arr =>
    cases h with
    | arrNil hb => exact .arrNil hb
    | arr a1 a2 a3 a4 a5 a6 a7 => exact .arr a1 a2 a3 a4 a5 a6 a7
  | nest =>
    cases h with
    | nest a1 a2 a3 => exact .nest a1 a2 a3
theorem Back.owns {σ : List Place} {o : Option Nat} {b b' : Blk} (h : Back σ b b') {m : Nat} (ho : Owns P w o b' m) : Owns P w o b m := by
  cases h with
  | dead => exact absurd rfl ho.alive
  | var => exact .root (by simp) (ho.flat (by simp))
  | arr => exact .root (by simp) (ho.flat (by simp))
  | nest =>
    cases ho with
    | root _ hb => exact .root (by simp) hb
    | row hb ha => exact .row hb ha
theorem Back.dead_iff {σ : List Place} {b b' : Blk} (h : Back σ b b') : b' ≠ .dead → b ≠ .dead := by
  intro h1 h2; subst h2; cases h; exact h1 rfl
end
end Go.AM
namespace Go.AM
section
variable {P : Program} {A : Ann} {w w' : World} {I I' I2 : Nat → Prop} {μ β β' β2 : Nat → Option Nat} {hp hp' hp0 hp1 : Nat → Option Blk} {C : CallF} {B : Nat} {M : Nat → Prop} {w0 : Start}
theorem verAt_succ : ∀ {vs : List Nat} {k : Nat}, k < vs.length → verAt (vs.map (· + 1)) k = verAt vs k + 1
  | [], k, h => by simp at h
  | v :: vs, 0, h => rfl
  | v :: vs, k + 1, h => by simp only [List.map_cons, verAt]; exact verAt_succ (by simpa using h)
theorem verAt_up : ∀ {vs : List Nat} {k : Nat}, verAt vs k ≤ verAt (vs.map (· + 1)) k
  | [], k => by simp [verAt]
  | v :: vs, 0 => by simp [verAt]
  | v :: vs, k + 1 => by simp only [List.map_cons, verAt]; exact verAt_up
def NestNew (hp : Nat → Option Blk) (q : Nat × Blk) : Prop := (∃ e es v2, q.2 = .nest e es v2) → ∃ e es vers e' es', hp q.1 = some (.nest e es vers) ∧ q.2 = .nest e' es' (vers.map (· + 1))
theorem Lent.blk_eq {id : Nat} {o : Option Nat} {blk : Blk} (h : Lent P w β hp (.blk id) o blk) : o = β id ∧ ∃ b0, hp id = some b0 ∧ b0 ≠ .dead := by
  cases h with
  | var h => exact ⟨rfl, _, h, by simp⟩
  | arr h => exact ⟨rfl, _, h, by simp⟩
  | nest h => exact ⟨rfl, _, h, by simp⟩
theorem Lent.blk_le {id : Nat} {o : Option Nat} {c b b' b0 : Blk} {σ : List Place} (h : Lent P w β hp (.blk id) o c) (h0 : hp id = some b0) (hle : c.le b) (hb : Back σ b b') (hn : NestNew hp (id, b')) : b0.le b' := by
  cases h with
  | var h =>
    rw [h] at h0; cases h0
    cases hb with
    | dead => trivial
    | var => trivial
    | arr => exact hle.elim
    | nest => exact hle.elim
  | arr h =>
    rw [h] at h0; cases h0
    cases hb with
    | dead => trivial
    | var => exact hle.elim
    | arr => exact hle
    | nest => exact hle.elim
  | nest h =>
    rw [h] at h0; cases h0
    cases hb with
    | dead => trivial
    | var => exact hle.elim
    | arr => exact hle
    | @nest e es v1 v2 =>
      obtain ⟨e1, es1, vers1, e2, es2, k1, k2⟩ := hn ⟨_, _, _, rfl⟩
      cases k2
      change hp id = _ at k1
      rw [h] at k1; cases k1
      exact ⟨hle.1, hle.2.1, by simp, fun k => verAt_up⟩
theorem Lent.other {p : Place} {o : Option Nat} {blk : Blk} (h : Lent P w β hp p o blk) (he : hp' p.id = hp p.id) : Lent P w β hp' p o blk := by
  cases h with
  | var h => exact .var (he.trans h)
  | arr h => exact .arr (he.trans h)
  | nest h => exact .nest (he.trans h)
  | row h a b c d e f g => exact .row (he.trans h) a b c d e f g
open Classical in
theorem back_ok (S : Sim P w I β hp B M w0) {pl : List Place} {o : Nat → Option Nat} {bs : List Blk} {nb : Nat} {bk fr : List (Nat × Blk)} {σ : List Place} (hσ : σ = pl ++ freshPl nb (bs.length - pl.length)) (hfre : fr = freshUpd σ nb (bs.drop pl.length))
    (hnd : (pl.map Place.id).Nodup) (hbl : pl.length ≤ bs.length)
    (hall : ∀ (j : Nat) p, pl[j]? = some p → ∃ id b, p = .blk id ∧ (id, b) ∈ bk) (hbk : ∀ q ∈ bk, ∃ (j : Nat) (b : Blk), pl[j]? = some (.blk q.1) ∧ bs[j]? = some b ∧ Back σ b q.2 ∧ NestNew hp q)
    (hl : ∀ j blk, hp0 j = some blk → ∃ p, nthP pl j = some p ∧ Lent P w β hp p (o j) blk) (hd : ∀ j, j < pl.length → ∃ blk, hp0 j = some blk)
    (Sc : Sim P w' I2 β2 (hpOf bs) w.heap.size (Passed P w o hp0) ⟨w, I⟩) (lec : Le0 w I o hp0 w' I2 β2 (hpOf bs)) (hfr : ∀ q ∈ fr, hp q.1 = none) :
    ∃ β', Le P w I β hp w' I2 β' (updH hp (fr ++ bk)) ∧ Sim P w' I2 β' (updH hp (fr ++ bk)) B M w0 ∧ Turn σ β2 (hpOf bs) β' (updH hp (fr ++ bk)) := by
  generalize hhp2 : updH hp (fr ++ bk) = hp2
  let β' : Nat → Option Nat := fun n => if ∃ q ∈ fr, q.1 = n then β2 (pl.length + (n - nb)) else β n
  have lent : ∀ (j : Nat) id, pl[j]? = some (.blk id) → ∃ c, hp0 j = some c ∧ Lent P w β hp (.blk id) (o j) c := by
    intro j id hj
    obtain ⟨c, hc⟩ := hd j (List.getElem?_eq_some_iff.1 hj).1
    obtain ⟨p, h1, h2⟩ := hl j c hc
    rw [nthP_get, hj] at h1
    cases h1
    exact ⟨c, hc, h2⟩
  have uniq : ∀ (j1 j2 : Nat) id, pl[j1]? = some (.blk id) → pl[j2]? = some (.blk id) → j1 = j2 := by
    intro j1 j2 id h1 h2
    have m1 : (pl.map Place.id)[j1]? = some id := by rw [List.getElem?_map, h1]; rfl
    have m2 : (pl.map Place.id)[j2]? = some id := by rw [List.getElem?_map, h2]; rfl
    obtain ⟨z1, z2⟩ := List.getElem?_eq_some_iff.1 m1
    obtain ⟨z3, z4⟩ := List.getElem?_eq_some_iff.1 m2
    exact (List.getElem_inj hnd).1 (z2.trans z4.symm)
  have cls : ∀ id, (∃ i b, id = nb + i ∧ bs[pl.length + i]? = some b ∧ hp2 id = some (backB σ b) ∧ hp id = none ∧ β' id = β2 (pl.length + i)) ∨
      (∃ (j : Nat) (b b' c b0 : Blk), pl[j]? = some (.blk id) ∧ bs[j]? = some b ∧ hp0 j = some c ∧ Lent P w β hp (.blk id) (o j) c ∧ hp id = some b0 ∧ b0.le b' ∧ hp2 id = some b' ∧ Back σ b b' ∧ NestNew hp (id, b') ∧ β' id = β id ∧ c.le b ∧ (b ≠ .dead → β2 j = β id)) ∨
      (hp2 id = hp id ∧ (∀ j : Nat, pl[j]? ≠ some (.blk id)) ∧ β' id = β id) := by
    intro id
    by_cases hm : ∃ b, (id, b) ∈ fr ++ bk
    · obtain ⟨b, hm⟩ := hm
      obtain ⟨b', hm', he⟩ := updH_mem (hp := hp) hm
      rw [hhp2] at he
      rcases List.mem_append.1 hm' with h | h
      · have h0 := hfr _ h
        have hβ : β' id = β2 (pl.length + (id - nb)) := if_pos ⟨_, h, rfl⟩
        rw [hfre] at h
        obtain ⟨i, b1, k1, k2⟩ := freshUpd_mem h
        rw [List.getElem?_drop] at k1
        cases k2
        exact .inl ⟨i, b1, rfl, k1, he, h0, by rw [hβ]; congr 2; omega⟩
      · obtain ⟨j, b1, q1, q2, q3, q4⟩ := hbk _ h
        obtain ⟨c, c1, c2⟩ := lent j id q1
        obtain ⟨c3, b0, c4, c5⟩ := c2.blk_eq
        obtain ⟨b2, d1, d2, d3⟩ := lec.blk j c c1
        rw [hpOf_get, q2] at d1
        cases d1
        refine .inr (.inl ⟨j, b1, b', c, b0, q1, q2, c1, c2, c4, c2.blk_le c4 d2 q3 q4, he, q3, q4, if_neg ?_, d2, fun h => (d3 h).trans c3⟩)
        rintro ⟨q, hq, hqe⟩
        rw [← hqe, hfr q hq] at c4
        cases c4
    · refine .inr (.inr ⟨?_, fun j hj => ?_, if_neg ?_⟩)
      · rcases updH_of (hp := hp) (l := fr ++ bk) (id := id) with h | ⟨b, hb, _⟩
        · rw [hhp2] at h; exact h
        · exact absurd ⟨b, hb⟩ hm
      · obtain ⟨id', b, e, hb⟩ := hall j _ hj
        cases e
        exact hm ⟨b, List.mem_append.2 (.inr hb)⟩
      · rintro ⟨q, hq, rfl⟩
        exact hm ⟨q.2, List.mem_append.2 (.inl hq)⟩
  have passed : ∀ b, Passed P w o hp0 b → ∃ (j id : Nat) (b1 : Blk), pl[j]? = some (.blk id) ∧ hp id = some b1 ∧ Owns P w (β id) b1 b ∧ ∀ e es, b1 ≠ .arr e es true := by
    rintro b ⟨j, c, hc, ho⟩
    obtain ⟨p, h1, h2⟩ := hl j c hc
    rw [nthP_get] at h1
    obtain ⟨id, b2, rfl, _⟩ := hall j p h1
    obtain ⟨b1, k1, k2, k3⟩ := h2.owns ho
    exact ⟨j, id, b1, h1, k1, k2, k3⟩
  have other : ∀ id blk b, hp id = some blk → Owns P w (β id) blk b → (∀ j : Nat, pl[j]? ≠ some (.blk id)) → ¬ Passed P w o hp0 b ∧ w'.heap[b]? = w.heap[b]? ∧ (I2 b → I b) := by
    intro id blk b e1 e3 e4
    have hno : ¬ Passed P w o hp0 b := by
      intro hx
      obtain ⟨j, id', b1, i1, i2, i3, _⟩ := passed b hx
      have := S.h.inj id id' _ _ b e1 i2 e3 i3
      subst this
      exact e4 j i1
    have hlt := S.h.lt e1 e3
    refine ⟨hno, Sc.keep b hlt hno, fun h => ?_⟩
    rcases Sc.new b h with h | h | h
    · exact h
    · exact absurd h hno
    · omega
  have turn : Turn σ β2 (hpOf bs) β' hp2 := by
    refine ⟨fun j b hj => ?_, fun j hj => ?_, fun j id ver path hj => ?_⟩
    · rw [hpOf_get] at hj
      by_cases hjl : j < pl.length
      · obtain ⟨id, b1, e, hb1⟩ := hall j _ (List.getElem?_eq_getElem hjl)
        have hpj : pl[j]? = some (.blk id) := by rw [List.getElem?_eq_getElem hjl, e]
        have hσj : nthP σ j = some (.blk id) := by rw [hσ]; exact nthP_app (by rw [nthP_get]; exact hpj)
        rcases cls id with ⟨i, b2, c1, c2, c3, c4, c5⟩ | ⟨j', b2, b', c, b0, q1, q2, q3, q4, q5, q6, q7, q8, q9, q10, q11, q12⟩ | ⟨c1, c2, c3⟩
        · obtain ⟨c, d1, d2⟩ := lent j id hpj
          obtain ⟨_, b0, d3, _⟩ := d2.blk_eq
          rw [d3] at c4; cases c4
        · obtain rfl := uniq _ _ _ q1 hpj
          rw [hj] at q2; cases q2
          exact ⟨id, b', hσj, q7, q8, fun h => q10.trans (q12 h).symm⟩
        · exact absurd hpj (c2 j)
      · have hjb := (List.getElem?_eq_some_iff.1 hj).1
        have hσj : nthP σ j = some (.blk (nb + (j - pl.length))) := by
          rw [hσ, nthP_get, List.getElem?_append_right (by omega)]
          exact freshPl_get (by omega)
        have hm : (nb + (j - pl.length), backB σ b) ∈ fr := by
          rw [hfre]
          refine freshUpd_has ?_
          rw [List.getElem?_drop, show pl.length + (j - pl.length) = j by omega]
          exact hj
        rcases cls (nb + (j - pl.length)) with ⟨i, b2, c1, c2, c3, c4, c5⟩ | ⟨j', b2, b', c, b0, q1, q2, q3, q4, q5, q6, q7, q8, q9, q10, q11, q12⟩ | ⟨c1, c2, c3⟩
        · have hi : i = j - pl.length := by omega
          subst hi
          rw [show pl.length + (j - pl.length) = j by omega] at c2 c5
          rw [hj] at c2; cases c2
          exact ⟨_, _, hσj, c3, .of σ _, fun _ => c5⟩
        · rw [hfr _ hm] at q5; cases q5
        · obtain ⟨b', hm', he⟩ := updH_mem (hp := hp) (l := fr ++ bk) (List.mem_append.2 (.inl hm))
          rw [hhp2, c1, hfr _ hm] at he
          cases he
    · rw [hpOf_get] at hj
      have := List.getElem?_eq_none_iff.1 hj
      rw [hσ, nthP_get, List.getElem?_eq_none_iff, List.length_append, freshPl_length]
      omega
    · rw [hσ, nthP_get] at hj
      by_cases hjl : j < pl.length
      · rw [List.getElem?_append_left hjl] at hj
        obtain ⟨id', b1, e, _⟩ := hall j _ hj
        cases e
      · have hjb : j - pl.length < bs.length - pl.length := by
          have := (List.getElem?_eq_some_iff.1 hj).1
          rw [List.length_append, freshPl_length] at this
          omega
        rw [List.getElem?_append_right (by omega), freshPl_get hjb] at hj
        cases hj
  have hle : Le P w I β hp w' I2 β' hp2 := by
    refine ⟨lec.imm, lec.keep, fun id blk hid => ?_, fun id blk blk' b hid hid' hdd hb => ?_, fun id e es vers e' es' vers' b q i c t v e1 l hid hid' hb hlt hv ht hc => ?_⟩
    · rcases cls id with ⟨i, b2, c1, c2, c3, c4, c5⟩ | ⟨j', b2, b', c, b0, q1, q2, q3, q4, q5, q6, q7, q8, q9, q10, q11, q12⟩ | ⟨c1, c2, c3⟩
      · rw [hid] at c4; cases c4
      · rw [hid] at q5; cases q5
        exact ⟨b', q7, q6, fun _ => q10⟩
      · exact ⟨blk, c1.trans hid, Blk.le_refl _, fun _ => c3⟩
    · rcases cls id with ⟨i, b2, c1, c2, c3, c4, c5⟩ | ⟨j', b2, b', c, b0, q1, q2, q3, q4, q5, q6, q7, q8, q9, q10, q11, q12⟩ | ⟨c1, c2, c3⟩
      · rw [hid] at c4; cases c4
      · rw [q7] at hid'; cases hid'
        exact lec.size j' c b2 b q3 (by rw [hpOf_get]; exact q2) (q8.dead_iff hdd) (q4.blk_eq.1.trans hb)
      · rw [c1, hid] at hid'
        cases hid'
        simp only [bsize, (other id blk b hid (.root hdd hb) c2).2.1]
    · rcases cls id with ⟨i2, b2, c1, c2, c3, c4, c5⟩ | ⟨j', b2, b', c', b0, q1, q2, q3, q4, q5, q6, q7, q8, q9, q10, q11, q12⟩ | ⟨c1, c2, c3⟩
      · rw [hid] at c4; cases c4
      · rw [q7] at hid'; cases hid'
        obtain ⟨_, _, vers1, _, _, k1, k2⟩ := q9 ⟨_, _, _, rfl⟩
        change hp id = _ at k1
        rw [hid] at k1; cases k1
        cases k2
        rw [verAt_succ hlt] at hv
        omega
      · rw [c1, hid] at hid'
        cases hid'
        exact ⟨l, rfl, hc.mono fun _ _ _ _ h => (other id _ _ hid (.row hb h) c2).2.1⟩
  have place : ∀ id blk b, hp2 id = some blk → Owns P w' (β' id) blk b → (∃ j c, hpOf bs j = some c ∧ Owns P w' (β2 j) c b ∧ nthP σ j = some (.blk id)) ∨ (b < w.heap.size ∧ ¬ Passed P w o hp0 b ∧ hp id = some blk ∧ Owns P w (β id) blk b) := by
    intro id blk b e1 e3
    rcases cls id with ⟨i, b2, c1, c2, c3, c4, c5⟩ | ⟨j', b2, b', c, b0, q1, q2, q3, q4, q5, q6, q7, q8, q9, q10, q11, q12⟩ | ⟨c1, c2, c3⟩
    · rw [c3] at e1; cases e1
      rw [c5] at e3
      refine .inl ⟨pl.length + i, b2, by rw [hpOf_get]; exact c2, (Back.of σ b2).owns e3, ?_⟩
      have := (List.getElem?_eq_some_iff.1 c2).1
      rw [hσ, nthP_get, List.getElem?_append_right (by omega), freshPl_get (by omega), c1]
      congr 3
      omega
    · rw [q7] at e1; cases e1
      have hdd : b2 ≠ .dead := q8.dead_iff e3.alive
      rw [q10, ← q12 hdd] at e3
      exact .inl ⟨j', b2, by rw [hpOf_get]; exact q2, q8.owns e3, by rw [hσ]; exact nthP_app (by rw [nthP_get]; exact q1)⟩
    · rw [c1] at e1
      rw [c3] at e3
      have := e3.mono (w := w) fun b hb => (other id blk b e1 hb c2).2.1
      exact .inr ⟨S.h.lt e1 this, (other id blk b e1 this c2).1, e1, this⟩
  have own0 : ∀ b, Passed P w o hp0 b ∨ w.heap.size ≤ b → M b ∨ B ≤ b := by
    rintro b (h | h)
    · obtain ⟨j, id, b1, i1, i2, i3, _⟩ := passed b h
      exact S.h.own id b1 b i2 i3
    · exact .inr (Nat.le_trans S.size h)
  have cown : ∀ j c b, hpOf bs j = some c → Owns P w' (β2 j) c b → Passed P w o hp0 b ∨ w.heap.size ≤ b := fun j c b h1 h2 => Sc.h.own j c b h1 h2
  refine ⟨β', hle, ⟨⟨fun id blk hid => ?_, fun i1 i2 b1 b2 b e1 e2 f1 f2 => ?_, fun id blk b hid hb => ?_, Sc.h.Ilt⟩, fun b hb hM => ?_, Nat.le_trans S.size Sc.size, fun b hb => ?_, ⟨Sc.io.1.trans S.io.1, Sc.io.2.trans S.io.2⟩⟩, turn⟩
  · rcases cls id with ⟨i, b2, c1, c2, c3, c4, c5⟩ | ⟨j', b2, b', c, b0, q1, q2, q3, q4, q5, q6, q7, q8, q9, q10, q11, q12⟩ | ⟨c1, c2, c3⟩
    · rw [c3] at hid; cases hid
      rw [c5]
      exact turn.blkRel (Sc.h.rel _ b2 (by rw [hpOf_get]; exact c2)) (.of σ b2)
    · rw [q7] at hid; cases hid
      have := turn.blkRel (Sc.h.rel j' b2 (by rw [hpOf_get]; exact q2)) q8
      by_cases hdd : b2 = .dead
      · subst hdd
        cases q8
        exact .dead
      · rw [q10, ← q12 hdd]
        exact this
    · rw [c1] at hid
      rw [c3]
      exact (S.h.rel id blk hid).mono hle fun b hb => (other id blk b hid hb c2).2
  · rcases place i1 b1 b e1 f1 with ⟨j1, c1, g1, g2, g3⟩ | ⟨g1, g2, g3, g4⟩ <;> rcases place i2 b2 b e2 f2 with ⟨j2, c2, k1, k2, k3⟩ | ⟨k1, k2, k3, k4⟩
    · have := Sc.h.inj j1 j2 c1 c2 b g1 k1 g2 k2
      subst this
      rw [g3] at k3
      cases k3
      rfl
    · rcases cown j1 c1 b g1 g2 with h | h
      · exact absurd h k2
      · omega
    · rcases cown j2 c2 b k1 k2 with h | h
      · exact absurd h g2
      · omega
    · exact S.h.inj i1 i2 _ _ b g3 k3 g4 k4
  · rcases place id blk b hid hb with ⟨j1, c1, g1, g2, g3⟩ | ⟨g1, g2, g3, g4⟩
    · exact own0 b (cown j1 c1 b g1 g2)
    · exact S.h.own id blk b g3 g4
  · refine (Sc.keep b (Nat.lt_of_lt_of_le hb S.size) fun hx => ?_).trans (S.keep b hb hM)
    rcases own0 b (.inl hx) with h | h
    · exact hM h
    · omega
  · rcases Sc.new b hb with h | h | h
    · exact S.new b h
    · exact .inr (own0 b (.inl h))
    · exact .inr (own0 b (.inr h))
end
end Go.AM
namespace Go.AM
section
variable {P : Program} {A : Ann} {w w' : World} {I I' I2 : Nat → Prop} {μ β β' β2 : Nat → Option Nat} {hp hp' hp0 hp1 : Nat → Option Blk} {C : CallF} {B : Nat} {M : Nat → Prop} {w0 : Start}
theorem updH_app (hp : Nat → Option Blk) : ∀ (a b : List (Nat × Blk)), updH hp (a ++ b) = updH (updH hp b) a
  | [], b => rfl
  | (i, x) :: a, b => by simp only [List.cons_append, updH, updH_app hp a b]
theorem updH_notin {hp : Nat → Option Blk} {l : List (Nat × Blk)} {id : Nat} (h : ∀ q ∈ l, q.1 ≠ id) : updH hp l id = hp id := by
  rcases updH_of (hp := hp) (l := l) (id := id) with h1 | ⟨b, hb, _⟩
  · exact h1
  · exact absurd rfl (h _ hb)
def NoCount (P : Program) : Prop := ∀ (f : Nat) fn, P.funcs[f]? = some fn → (fn.name == "runtime.NumGoroutine") = false
def CloneOk (P : Program) (f : FuncId) (e : TypeId) : Prop :=
  (∀ args w, (callFunc f args).run P w = .ok (.enter f args) w) ∧ ∃ t, P.underlying t = some (.slice e) ∧
    ∀ (s : Value) (w : World) (Q : Ending → World → Prop), (s = .slice none 0 0 → Q (.returned (.slice none 0 0)) w) →
      (∀ a n c, s = .slice (some a) n c → ∃ v w', (Builtin.append_ #[t, t] t #[.slice (some ⟨w.heap.size, 0, none⟩) 0 0, s]).run P (w.alloc (.cells #[] e)) = .ok v w' ∧ Q (.returned v) w') →
      (s = .slice none 0 0 ∨ ∃ a n c, s = .slice (some a) n c) → Calls P f #[s] w Q
structure Fine (P : Program) (A : Ann) : Prop where
  count : NoCount P
  ext : ∀ f T, A.ext f = some T → ∀ (b : Nat) (C : Array Value) (w : World), w.heap[b]? = some (.cells C T (0, 0)) → C.size = P.cellsOf T → (C[0]? = some (.pointer none) ∨ C[0]? = some (.pointer (some ⟨b, 0, none⟩))) →
    (callFunc f #[.pointer (some ⟨b, 0, none⟩)]).run P w = .ok (.enter f #[.pointer (some ⟨b, 0, none⟩)]) w ∧
    Calls P f #[.pointer (some ⟨b, 0, none⟩)] w fun e w' => e = .returned (.tuple #[]) ∧ (w' = w ∨ w' = w.setCell ⟨b, 0, none⟩ (.pointer (some ⟨b, 0, none⟩)))
  idle : ∀ f, A.idle f = true → (∀ args w, (callFunc f args).run P w = .ok (.enter f args) w) ∧
    ∀ args w, CallsD P f args .returning w fun e u' w' => (∃ v, e = .returned v) ∧ u' = .returning ∧ w' = w
  cln : ∀ f e, A.cln f = some e → CloneOk P f e
theorem Fine.here {P : Program} {A : Ann} (h : Fine P A) (f id : Nat) : Fine P (A.here f id) := ⟨h.count, h.ext, h.idle, h.cln⟩
def IdleD (E : FuncId → Bool) (d : Deferred) : Prop := ∃ f cap, d.target = .fn (.func f) cap ∧ E f = true
theorem leaves_idle {P : Program} {A : Ann} (hP : Fine P A) {fn : Func} {tmps : Array Value} {R : Ending → World → Prop} {w : World} {v : Value} (hv : (results fn tmps).run P w = .ok v w) (hR : R (.returned v) w) :
    ∀ ds : List Deferred, (∀ d ∈ ds, IdleD A.idle d) → Leaves P fn tmps R ds .returning w
  | [], _ => ⟨v, hv, hR⟩
  | d :: ds, h => by
    obtain ⟨f, cap, ht, hf⟩ := h d (by simp)
    obtain ⟨k1, k2⟩ := hP.idle f hf
    obtain ⟨t, das⟩ := d
    simp only at ht
    subst ht
    refine leaves_cons (f := f) (args := das ++ cap) (by simp) ?_ ?_
    · simp only [invoke]; exact k1 _ w
    · refine (k2 (das ++ cap) w).mono fun e u' w' hr => ?_
      obtain ⟨⟨v', rfl⟩, rfl, rfl⟩ := hr
      exact leaves_idle hP hv hR ds fun d hd => h d (List.mem_cons_of_mem _ hd)
def StepOk (P : Program) (A : Ann) (o : Oper) (a : Act) (w : World) (I : Nat → Prop) (β : Nat → Option Nat) (hp : Nat → Option Blk) (B : Nat) (M : Nat → Prop) (w0 : Start) (r : R) : Prop :=
  ∀ (next : Act → World → Prop) (Q : Exit → Act → World → Prop),
    (∀ v w' I' β' ds, Le P w I β hp w' I' β' (updH hp r.upd) → Sim P w' I' β' (updH hp r.upd) B M w0 → VRel P w' I' β' (updH hp r.upd) v r.v → (∀ d ∈ ds, d ∈ a.defers ∨ IdleD A.idle d) → next ({ a with defers := ds }.put o.dst v) w') → o.wp P a w next Q
theorem OpOk.step {o : Oper} {a : Act} {r : R} (h : OpOk P ((execOp a.eval o).run P w) w I β hp B M w0 r): StepOk P A o a w I β hp B M w0 r := by
  obtain ⟨v, w', I', β', h1, h2, h3, h4⟩ := h
  intro next Q hn
  unfold Oper.wp
  rcases h1 with h1 | ⟨h1, rfl⟩
  · rw [h1]; exact hn v w' I' β' a.defers h2 h3 h4 fun d hd => .inl hd
  · rw [h1]; exact hn _ w' I' β' a.defers h2 h3 h4 fun d hd => .inl hd
theorem slotsSize_eq : ∀ (l : List (Nat × VS)), slotsSize l = vsSize (l.map (·.2))
  | [] => rfl
  | (_, s) :: l => by simp only [slotsSize, List.map_cons, vsSize, slotsSize_eq l]
theorem call_core (hC : CallSim P A C) (S : Sim P w I β hp B M w0) (hg : GlobOk P A.glob w I) {vals : List Value} {args : List V} {nb key : Nat} {f : FuncId} {r : R} {rd : List Nat} (hlen : vals.length = args.length)
    (hrel : ∀ (j : Nat) v x, vals[j]? = some v → args[j]? = some x → VRel P w I β hp v x) (h : (callRd P A nb key f args).run C hp = some (r, rd)) :
    ∃ fn c, P.funcs[f]? = some fn ∧ fn.body = some c ∧ Calls P f vals.toArray w fun e w' => ∃ v I' β', e = .returned v ∧ Le P w I β hp w' I' β' (updH hp r.upd) ∧ Sim P w' I' β' (updH hp r.upd) B M w0 ∧ VRel P w' I' β' (updH hp r.upd) v r.v := by
  unfold callRd at h
  obtain ⟨hkey, h0⟩ := run_chk h
  clear h
  rw [Nat.beq_eq] at hkey
  subst hkey
  obtain ⟨h1, rd1, d1, u1, a1, a2, a3, a5, a4⟩ := handVs_ok S h0 hlen hrel
  obtain ⟨h2, rd2, d2, u2, b1, b2, b3, b4⟩ := handBlks_ok S a1
  clear h0 a1
  obtain ⟨hc, h3⟩ := run_chk b1
  clear b1
  simp only [Bool.and_eq_true, Nat.beq_eq, Bool.not_eq_true'] at hc
  obtain ⟨hpl, hov⟩ := hc
  have e12 := a2.trans b2
  have hds : h2.ds = d1 ++ d2 := by have := e12.ds; simpa using this
  have hupd : h2.upd = u1 ++ u2 := by have := e12.upd; simpa using this
  have hnd : (h2.pl.map Place.id).Nodup := e12.nodup (by simp)
  obtain ⟨c1, o, c2, c3⟩ := b4 []
  simp only [List.append_nil] at c1 c2 c3
  cases hcall : C key h2.ds with
  | none =>
    simp only [Rd.run, hcall] at h3
    cases h3
  | some es =>
    simp only [Rd.run, hcall, Option.bind_some] at h3
    generalize hbs : makeBlks (A.sout key).blks (es.drop (slotsSize (A.sout key).slots)) = bs at h3
    generalize hσ : h2.pl ++ freshPl nb (bs.length - h2.pl.length) = σ at h3
    generalize hfre : freshUpd σ nb (bs.drop h2.pl.length) = fr at h3
    obtain ⟨p0, bk, rd4, p1, p2, _, p3⟩ := backUpd_run h3
    obtain ⟨hfr, rd5, p4⟩ := fresh_run p1
    obtain rfl := run_ret' p4
    have hbl : h2.pl.length ≤ bs.length := by rw [List.length_take] at p0; omega
    have hbk : ∀ q ∈ bk, ∃ (j : Nat) (b : Blk), h2.pl[j]? = some (.blk q.1) ∧ bs[j]? = some b ∧ Back σ b q.2 ∧ NestNew hp q := by
      intro q hq
      rcases p2 q hq with hx | ⟨j, b, k1, k2, k3, k4⟩
      · simp at hx
      · have hj := (List.getElem?_eq_some_iff.1 k1).1
        rw [List.getElem?_take_of_lt hj] at k2
        exact ⟨j, b, k1, k2, k3, k4⟩
    obtain ⟨fn, c, hf, hb, hcalls⟩ := hC key h2.ds es hcall
    refine ⟨fn, c, hf, hb, ?_⟩
    have hmb : makeBlks (A.sin key).blks (h2.ds.drop (slotsSize (A.sin key).slots)) = makeBlks (A.sin key).blks d2 := by
      rw [hds, slotsSize_eq, drop_app a3]
    have hhp0 : (toSt (A.sin key) h2.ds).hp = hpOf (makeBlks (A.sin key).blks d2) := by
      simp only [toSt, mk, hmb]
    have hl : ∀ j blk, (toSt (A.sin key) h2.ds).hp j = some blk → ∃ p, nthP h2.pl j = some p ∧ Lent P w β hp p (o j) blk := by
      intro j blk hj
      rw [hhp0, hpOf_get] at hj
      obtain ⟨p, k1, k2⟩ := c2 j blk hj
      rw [Nat.zero_add] at k1
      exact ⟨p, k1, k2⟩
    have hd : ∀ j, j < h2.pl.length → ∃ blk, (toSt (A.sin key) h2.ds).hp j = some blk := by
      intro j hj
      rw [hhp0, hpOf_get]
      exact ⟨_, List.getElem?_eq_getElem (by rw [c1, ← hpl]; exact hj)⟩
    have hagr : Agr P w β hp h2.pl o (toSt (A.sin key) h2.ds).hp := by
      intro j p hj
      obtain ⟨blk, k1⟩ := hd j (by rw [nthP_get] at hj; exact (List.getElem?_eq_some_iff.1 hj).1)
      obtain ⟨p', k2, k3⟩ := hl j blk k1
      rw [hj] at k2
      cases k2
      exact ⟨blk, k1, k3⟩
    obtain ⟨hle1, S1⟩ := freeze_sim S e12.frz
    rw [← hupd] at hle1 S1
    have i1 : ∀ b, I b → IFrz P w I β hp h2.upd b := fun b h => .inl h
    have entry := entry_ok (hp0 := (toSt (A.sin key) h2.ds).hp) S hnd hov hl (fun hnI j blk hj => by
      have hj' := hj
      rw [hhp0, hpOf_get] at hj'
      exact c3 (IFrz P w I β hp h2.upd) o _ i1 (fun q hq b hb => .inr ⟨q, by rw [hupd]; exact List.mem_append.2 (.inr hq), hb⟩) h2.pl [] (by simp) hagr j blk hj' (hnI j blk hj)) S1.h.Ilt
    have hvals : vals.length = (A.sin key).slots.length := by rw [hlen, ← a5]; simp
    have ha := hcalls w (IFrz P w I β hp h2.upd) o vals entry (hg.mono i1 fun _ _ => rfl) hvals fun j v x hj hx => by
      rw [hds] at hx
      exact (((a4.later b2) (IFrz P w I β hp h2.upd) o _ i1 (fun q hq b hb => .inr ⟨q, by rw [hupd]; exact hq, hb⟩) h2.pl [] (by simp) hagr) d2).2 j v x hj hx
    refine ha.mono fun e w' hew => ?_
    obtain ⟨v, I2, β2, rfl, ha⟩ := hew
    have hhp1 : (toSt (A.sout key) es).hp = hpOf bs := by simp only [toSt, mk, hbs]
    cases hsafe : (A.sout key).safe P with
    | true =>
      simp only [cond_true, List.append_nil]
      have hi2 : ∀ b, I b → I2 b := fun b h => ha.le.imm b (i1 b h)
      obtain ⟨s1, s2⟩ := safe_back hsafe hi2 ha.sim i1
      have lec : Le0 w I o (toSt (A.sin key) h2.ds).hp w' I β2 (hpOf bs) := by
        rw [← hhp1]
        exact ⟨fun _ h => h, fun b h => ha.le.keep b (i1 b h), ha.le.blk, ha.le.size⟩
      obtain ⟨β', k1, k2, k3⟩ := back_ok S hσ.symm hfre.symm hnd hbl p3 hbk hl hd (by rw [← hhp1]; exact ⟨s1.h, s1.keep, s1.size, fun b h => .inl h, s1.io⟩) lec hfr
      exact ⟨v, I, β', rfl, k1, k2, k3.val (by have := s2 v ha.res; rw [hhp1] at this; exact this)⟩
    | false =>
      simp only [cond_false]
      rw [← List.append_assoc, updH_app]
      have hno : ∀ p ∈ h2.pl, updH hp h2.upd p.id = hp p.id := fun p hp => updH_notin fun q hq e =>
        overlap_false hov (List.mem_map.2 ⟨q, hq, rfl⟩) (e ▸ List.mem_map.2 ⟨p, hp, rfl⟩)
      have hbk1 : ∀ q ∈ bk, ∃ (j : Nat) (b : Blk), h2.pl[j]? = some (.blk q.1) ∧ bs[j]? = some b ∧ Back σ b q.2 ∧ NestNew (updH hp h2.upd) q := by
        intro q hq
        obtain ⟨j, b, k1, k2, k3, k4⟩ := hbk q hq
        refine ⟨j, b, k1, k2, k3, fun hn => ?_⟩
        have := hno _ (List.mem_of_getElem? k1)
        simp only [Place.id] at this
        rw [this]
        exact k4 hn
      have hl1 : ∀ j blk, (toSt (A.sin key) h2.ds).hp j = some blk → ∃ p, nthP h2.pl j = some p ∧ Lent P w β (updH hp h2.upd) p (o j) blk := by
        intro j blk hj
        obtain ⟨p, k1, k2⟩ := hl j blk hj
        exact ⟨p, k1, k2.other (hno p (by rw [nthP_get] at k1; exact List.mem_of_getElem? k1))⟩
      have hfr1 : ∀ q ∈ fr, updH hp h2.upd q.1 = none := by
        intro q hq
        rw [updH_notin fun q' hq' e => ?_]
        · exact hfr q hq
        · obtain ⟨e1, es1, _, h5⟩ := e12.frz q' (hupd ▸ hq')
          rw [e, hfr q hq] at h5
          rcases h5 with ⟨_, h5⟩ | ⟨_, h5⟩ <;> cases h5
      obtain ⟨β', k1, k2, k3⟩ := back_ok S1 hσ.symm hfre.symm hnd hbl p3 hbk1 hl1 hd (by rw [← hhp1]; exact ha.sim) (by rw [← hhp1]; exact ha.le) hfr1
      exact ⟨v, I2, β', rfl, hle1.trans k1, k2, k3.val (by have := ha.res; rw [hhp1] at this; exact this)⟩
theorem call_sim (hC : CallSim P A C) (hP : Fine P A) (S : Sim P w I β hp B M w0) (hg : GlobOk P A.glob w I) {a : Act} {nb key : Nat} {o : Oper} {f : FuncId} {vals : List Value} {args : List V} (hlen : vals.length = args.length)
    (hrel : ∀ (j : Nat) v x, vals[j]? = some v → args[j]? = some x → VRel P w I β hp v x) {r : R} {rd : List Nat} (h : (callRd P A nb key f args).run C hp = some (r, rd))
    (hex : (execOp a.eval o).run P w = (callFunc f vals.toArray).run P w): StepOk P A o a w I β hp B M w0 r := by
  intro next Q hn
  obtain ⟨fn, c, hf, hb, hcalls⟩ := call_core hC S hg hlen hrel h
  unfold Oper.wp
  rw [hex, MuLone.run_callFunc_enter hf (hP.count f _ hf) hb, Oper.upon_enter]
  refine hcalls.mono fun e w' hew => ?_
  obtain ⟨v, I2, β2, rfl, k1, k2, k3⟩ := hew
  exact hn v w' I2 β2 a.defers k1 k2 k3 fun d hd => .inl hd
theorem SRel.args {a : Act} {sl : Nat → V} (hs : SRel P w I β hp a sl) (hg : GlobOk P A.glob w I) {args : Array Operand} {ts : Array TypeId} (hsz : args.size = ts.size) :
    (args.map a.eval).toList.length = ((args.toList.zip ts.toList).map fun p => evO P A.glob p.2 sl p.1).length ∧
    ∀ (j : Nat) v x, (args.map a.eval).toList[j]? = some v → ((args.toList.zip ts.toList).map fun p => evO P A.glob p.2 sl p.1)[j]? = some x → VRel P w I β hp v x := by
  refine ⟨by simp; omega, fun j v x hv hx => ?_⟩
  simp only [Array.toList_map, List.getElem?_map, List.getElem?_zip_eq_some, Option.map_eq_some_iff] at hv hx
  obtain ⟨x1, hx1, rfl⟩ := hv
  obtain ⟨⟨y1, t1⟩, ⟨hy1, _⟩, rfl⟩ := hx
  rw [hx1] at hy1
  cases hy1
  exact hs.ev hg t1 _
theorem app_rel {vs us : List Value} {xs ys : List V} (h1 : vs.length = xs.length) (h2 : ∀ (j : Nat) v x, vs[j]? = some v → xs[j]? = some x → VRel P w I β hp v x)
    (h3 : ∀ (j : Nat) v x, us[j]? = some v → ys[j]? = some x → VRel P w I β hp v x) (j : Nat) (v : Value) (x : V) (hv : (vs ++ us)[j]? = some v) (hx : (xs ++ ys)[j]? = some x) : VRel P w I β hp v x := by
  by_cases hj : j < vs.length
  · rw [List.getElem?_append_left hj] at hv
    rw [List.getElem?_append_left (by omega)] at hx
    exact h2 j v x hv hx
  · rw [List.getElem?_append_right (by omega)] at hv
    rw [List.getElem?_append_right (by omega)] at hx
    rw [h1] at hv
    exact h3 _ v x hv hx
theorem clone_sim (hP : Fine P A) (S : Sim P w I β hp B M w0) (hg : GlobOk P A.glob w I) {a : Act} {sl : Nat → V} (hs : SRel P w I β hp a sl) {dst : Option Tmp} {ty e : TypeId} {pos : String} {after : Array Edge} {guard : Option (Nat × Bool)} {f : FuncId}
    {args : Array Operand} {argTypes : Array TypeId} {nb : Nat} {r : R} {rd : List Nat} (hcl : A.cln f = some e)
    (h : ((match args.toList with
        | [x] => .chk (okTy P e) (elemsRd e (evO P A.glob ty sl x) fun xs => .chk (Nat.ble (xs.length * P.bytesOf e) maxBytes) (newRd nb (.arr e xs false) (.whole e nb) []))
        | _ => .fail) : Rd R).run C hp = some (r, rd)) : StepOk P A (Oper.mk dst (.call (Go.Call.mk (.value (.func f)) args argTypes)) ty pos after guard) a w I β hp B M w0 r := by
  cases ha : args.toList with
  | nil => rw [ha] at h; cases h
  | cons x l =>
    rw [ha] at h
    cases l with
    | cons _ _ => cases h
    | nil =>
      simp only at h
      have e1 : args = #[x] := by rw [← Array.toArray_toList (xs := args), ha]
      subst e1
      have hx := hs.ev hg ty x
      obtain ⟨hok, h⟩ := run_chk h
      have fin : ∀ {w1 : World} {β1 : Nat → Option Nat}, (∀ id blk, hp id = some blk → BlkRel P w1 I β1 hp (β1 id) blk) → VRel P w1 I β1 hp (a.eval x) (evO P A.glob ty sl x) → ∃ xs, (((∃ a', a.eval x = .slice a' 0 0) ∧ xs = []) ∨ ∃ a' c news, Row P w1 I e (a.eval x) xs a' c news) ∧
          xs.length * P.bytesOf e ≤ maxBytes ∧ hp nb = none ∧ r = ⟨.whole e nb, [(nb, .arr e xs false)]⟩ := by
        intro w1 β1 h1 h2
        obtain ⟨xs, hxr, l, h⟩ := elems_sim h1 hok h2 h
        obtain ⟨hby, h⟩ := run_chk h
        rw [Nat.ble_eq] at hby
        obtain ⟨hn, rfl⟩ := newRd_run h
        exact ⟨xs, hxr, hby, hn, rfl⟩
      obtain ⟨c1, t, hu, c2⟩ := hP.cln f e hcl
      intro next Q hn2
      unfold Oper.wp
      have e2 : (execOp a.eval ⟨dst, .call ⟨.value (.func f), #[x], argTypes⟩, ty, pos, after, guard⟩).run P w = .ok (.enter f #[a.eval x]) w := by
        have hev : a.eval (.func f) = .func (.func f) #[] #[] := rfl
        simpa [execOp, resolve, hev, Deferred.ofValue, invoke] using c1 #[a.eval x] w
      rw [e2, Oper.upon_enter]
      refine c2 _ w _ (fun hnil => ?_) (fun b n c hsl => ?_) ?_
      · obtain ⟨xs, hxr, hby, hn, rfl⟩ := fin S.h.rel hx
        have hxs : xs = [] := by
          rcases hxr with ⟨_, h⟩ | ⟨a, c, news, hr⟩
          · exact h
          · have := hr.val.symm.trans hnil
            cases this
        subst hxs
        obtain ⟨a1, a2⟩ := adoptNil_sim S e hn
        exact hn2 _ w I _ a.defers a1 a2 (.wholeNil (setN_same _ _ _) (setN_same _ _ _)) fun d hd => .inl hd
      · obtain ⟨m1, m2⟩ := more_sim (w' := w.alloc (.cells #[] e)) S (fun b hb => heap_alloc_old w _ b hb) (by simp) ⟨rfl, rfl⟩
        obtain ⟨xs, hxr, hby, hn, rfl⟩ := fin m2.h.rel (hx.mono m1)
        obtain ⟨v, w', β', a1, a2, a3, a4⟩ := append_nil_sim (ty := t) (a0 := some ⟨w.heap.size, 0, none⟩) m2 hu hok hn hby hxr
        exact ⟨v, w', a1, hn2 v w' I β' a.defers (m1.trans a2) a3 a4 fun d hd => .inl hd⟩
      · obtain ⟨xs, hxr, hby, hn, rfl⟩ := fin S.h.rel hx
        rcases hxr with ⟨⟨b, h⟩, _⟩ | ⟨b, c, news, hr⟩
        · rw [h]
          cases b with
          | none => exact .inl rfl
          | some b => exact .inr ⟨_, _, _, rfl⟩
        · exact .inr ⟨_, _, _, hr.val⟩
theorem self_sim (hP : Fine P A) (S : Sim P w I β hp B M w0) (hg : GlobOk P A.glob w I) {a : Act} {sl : Nat → V} (hs : SRel P w I β hp a sl) {dst : Option Tmp} {ty T0 : TypeId} {pos : String} {after : Array Edge} {guard : Option (Nat × Bool)} {f : FuncId}
    {args : Array Operand} {argTypes : Array TypeId} {r : R} {rd : List Nat} (hext : A.ext f = some T0)
    (h : ((match args.toList with
      | [x] =>
        match evO P A.glob ty sl x with
        | .ptr id i c => Rd.get id fun
          | some (.var T cs) => .chk (Nat.beq T T0 && (selfTy P T && (Nat.beq cs.length (P.cellsOf T) && (Nat.beq i 0 && Nat.beq c 0)))) (.ret ⟨.tup [], [(id, .var T (.undef :: cs.tail))]⟩)
          | _ => .fail
        | _ => .fail
      | _ => .fail) : Rd R).run C hp = some (r, rd)) : StepOk P A (Oper.mk dst (.call (Go.Call.mk (.value (.func f)) args argTypes)) ty pos after guard) a w I β hp B M w0 r := by
  cases ha : args.toList with
  | nil => rw [ha] at h; cases h
  | cons x l =>
    rw [ha] at h
    cases l with
    | cons _ _ => cases h
    | nil =>
      simp only at h
      have e1 : args = #[x] := by rw [← Array.toArray_toList (xs := args), ha]
      subst e1
      have hx := hs.ev hg ty x
      cases hxv : evO P A.glob ty sl x <;> rw [hxv] at h hx <;> simp only at h <;> first | (cases h; done) | skip
      rename_i id i c
      obtain ⟨l, h1⟩ := run_get h
      cases hid : hp id with
      | none => rw [hid] at h1; cases h1
      | some blk =>
        rw [hid] at h1
        cases blk <;> simp only at h1 <;> first | (cases h1; done) | skip
        rename_i T cs
        obtain ⟨h2, h3⟩ := run_chk h1
        simp only [Bool.and_eq_true, Nat.beq_eq] at h2
        obtain ⟨rfl, hst, hlc, rfl, rfl⟩ := h2
        obtain rfl := run_ret' h3
        obtain ⟨b, hb, he⟩ := hx.ptr_inv hid (by simp)
        have hr := S.h.rel id _ hid
        rw [hb] at hr
        cases hr with
        | @var _ b' Ca _ hb' hh hsz hI hxs hself =>
          cases hb'
          have he' : a.eval x = .pointer (some ⟨b, 0, none⟩) := by rw [he]; simp [Blk.sz]
          obtain ⟨q1, q2⟩ := hP.ext f T hext b Ca w hh (hsz.trans hlc) (hself hst)
          have h0 : 0 < Ca.size := by
            rcases hself hst with k | k <;> exact (Array.getElem?_eq_some_iff.1 k).1
          have hcs : (V.undef :: cs.tail).length = cs.length := by
            cases cs with
            | nil => rw [hsz] at h0; simp at h0
            | cons _ _ => rfl
          have rel : ∀ (C' : Array Value), (∀ j, 0 < j → C'[j]? = Ca[j]?) → ∀ (j : Nat) v y, C'[j]? = some v → (V.undef :: cs.tail)[j]? = some y → VRel P w I β hp v y := by
            intro C' hC' j v y hj hy
            cases j with
            | zero => simp at hy; subst hy; exact .undef
            | succ j =>
              rw [hC' _ (by omega)] at hj
              refine hxs (j + 1) v y hj ?_
              cases cs with
              | nil => rw [hsz] at h0; simp at h0
              | cons _ _ => simpa using hy
          have fin : ∀ w' C', (∀ b', b' ≠ b → w'.heap[b']? = w.heap[b']?) → w'.heap[b]? = some (.cells C' T (0, 0)) → C'.size = Ca.size → w.heap.size ≤ w'.heap.size → w'.os = w.os ∧ w'.output = w.output →
              (∀ j, 0 < j → C'[j]? = Ca[j]?) → (C'[0]? = some (.pointer none) ∨ C'[0]? = some (.pointer (some ⟨b, 0, none⟩))) →
              Le P w I β hp w' I β (setN hp id (some (.var T (V.undef :: cs.tail)))) ∧ Sim P w' I β (setN hp id (some (.var T (V.undef :: cs.tail)))) B M w0 := by
            intro w' C' k1 k2 k3 k4 k5 k6 k7
            exact change_sim (w' := w') (blk' := .var T (V.undef :: cs.tail)) S hid (by simp) rfl hb hI (by simp) k1 (by rw [bsize_cells k2, bsize_cells hh, k3]) k4 k5 fun hle =>
              .var rfl k2 (by rw [k3, hsz, hcs]) hI (fun j v y hj hy => (rel C' k6 j v y hj hy).mono hle) fun _ => k7
          intro next Q hn
          unfold Oper.wp
          have e2 : (execOp a.eval ⟨dst, .call ⟨.value (.func f), #[x], argTypes⟩, ty, pos, after, guard⟩).run P w = .ok (.enter f #[.pointer (some ⟨b, 0, none⟩)]) w := by
            have hev : a.eval (.func f) = .func (.func f) #[] #[] := rfl
            simpa [execOp, resolve, hev, Deferred.ofValue, invoke, he'] using q1
          rw [e2, Oper.upon_enter]
          refine q2.mono fun e w' hew => ?_
          obtain ⟨rfl, hw⟩ := hew
          have hdone : Le P w I β hp w' I β (setN hp id (some (.var T (V.undef :: cs.tail)))) ∧ Sim P w' I β (setN hp id (some (.var T (V.undef :: cs.tail)))) B M w0 := by
            rcases hw with rfl | rfl
            · exact fin w' Ca (fun _ _ => rfl) hh rfl (Nat.le_refl _) ⟨rfl, rfl⟩ (fun _ _ => rfl) (hself hst)
            · refine fin (w.setCell ⟨b, 0, none⟩ (.pointer (some ⟨b, 0, none⟩))) (Ca.setIfInBounds 0 (.pointer (some ⟨b, 0, none⟩))) (fun b' hne => ?_) ?_ (by simp) (by simp [World.setCell]) ⟨rfl, rfl⟩ (fun j hj => ?_) (.inr ?_)
              · simp only [World.setCell, Array.getElem?_modify]
                rw [if_neg (fun e => hne e.symm)]
              · simp [World.setCell, Array.getElem?_modify, hh]
              · rw [Array.getElem?_setIfInBounds_ne (by omega)]
              · rw [Array.getElem?_setIfInBounds_self_of_lt h0]
          exact hn (.tuple #[]) w' I β a.defers hdone.1 hdone.2 (.tup rfl fun j v y hj _ => by simp at hj) fun d hd => .inl hd
theorem step_sim (hC : CallSim P A C) (hP : Fine P A) (S : Sim P w I β hp B M w0) (hg : GlobOk P A.glob w I) {a : Act} {sl : Nat → V} (hs : SRel P w I β hp a sl) {ix nb : Nat} {o : Oper} {r : R} {rd : List Nat}
    (h : (opRd P A sl ix nb o).run C hp = some (r, rd)): StepOk P A o a w I β hp B M w0 r := by
  cases hc : isCall o.op with
  | false => exact (op_sim S hg hs hc h).step
  | true =>
    obtain ⟨dst, op, ty, pos, after, guard⟩ := o
    cases op <;> simp only [isCall] at hc <;> first | (cases hc; done) | skip
    case defer c =>
      obtain ⟨callee, args, argTypes⟩ := c
      cases callee with
      | invoke r m => simp only [opRd] at h; cases h
      | builtin b => simp only [opRd] at h; cases h
      | value f =>
      cases f with
      | tmp t =>
        simp only [opRd] at h
        cases hst : sl t <;> rw [hst] at h <;> simp only at h <;> first | (cases h; done) | skip
        rename_i f xs ys
        obtain ⟨h1, h2⟩ := run_chk h
        obtain rfl := run_ret' h2
        have hv := hs t
        rw [hst] at hv
        generalize hvt : a.tmps.getD t undef = vt at hv
        cases hv with
        | @fn _ fs cs _ _ q1 q2 q3 q4 =>
          intro next Q hn
          unfold Oper.wp
          have hev : a.eval (.tmp t) = .func (.func f) fs cs := hvt
          have e1 : (execOp a.eval ⟨dst, .defer ⟨.value (.tmp t), args, argTypes⟩, ty, pos, after, guard⟩).run P w = .ok (.defer { target := .fn (.func f) cs, args := fs ++ args.map a.eval }) w := by
            simp [execOp, resolve, hev, Deferred.ofValue]
          rw [e1, Oper.upon_defer]
          exact hn undef w I β _ (Le.refl w I β hp) S .undef fun d hd => by
            rcases List.mem_cons.1 hd with rfl | hd
            · exact .inr ⟨f, cs, rfl, h1⟩
            · exact .inl hd
      | func f => simp only [opRd] at h; cases h
      | const _ => simp only [opRd] at h; cases h
      | global _ => simp only [opRd] at h; cases h
    rename_i c
    obtain ⟨callee, args, argTypes⟩ := c
    cases callee with
    | invoke r m => cases hc
    | builtin b => cases hc
    | value f =>
      cases f with
      | func f =>
        simp only [opRd] at h
        cases hext : A.ext f with
        | some T0 =>
          rw [hext] at h
          simp only at h
          exact self_sim hP S hg hs hext h
        | none =>
        rw [hext] at h
        simp only at h
        cases hcl : A.cln f with
        | some e0 =>
          rw [hcl] at h
          simp only at h
          exact clone_sim hP S hg hs hcl h
        | none =>
        rw [hcl] at h
        simp only at h
        obtain ⟨h1, h2⟩ := run_chk h
        rw [Nat.beq_eq] at h1
        obtain ⟨k1, k2⟩ := hs.args hg h1
        refine call_sim hC hP S hg k1 k2 h2 ?_
        have e1 : (args.map a.eval).toList.toArray = args.map a.eval := Array.toArray_toList
        rw [e1]
        simp [execOp, resolve, Act.eval, Deferred.ofValue, invoke]
      | tmp t =>
        simp only [opRd] at h
        cases hst : sl t <;> rw [hst] at h <;> simp only at h <;> first | (cases h; done) | skip
        rename_i f xs ys
        obtain ⟨h1, h2⟩ := run_chk h
        rw [Nat.beq_eq] at h1
        obtain ⟨k1, k2⟩ := hs.args hg h1
        have hv := hs t
        rw [hst] at hv
        generalize hvt : a.tmps.getD t undef = vt at hv
        cases hv with
        | @fn _ fs cs _ _ q1 q2 q3 q4 =>
          have l1 : fs.toList.length = xs.length := by simpa using q1
          have l3 : cs.toList.length = ys.length := by simpa using q3
          have r1 : ∀ (j : Nat) v x, fs.toList[j]? = some v → xs[j]? = some x → VRel P w I β hp v x := fun j v x hj hx => q2 j v x (by simpa using hj) hx
          have r3 : ∀ (j : Nat) v x, cs.toList[j]? = some v → ys[j]? = some x → VRel P w I β hp v x := fun j v x hj hx => q4 j v x (by simpa using hj) hx
          refine call_sim hC hP S hg (vals := fs.toList ++ (args.map a.eval).toList ++ cs.toList) (args := xs ++ ((args.toList.zip argTypes.toList).map fun p => evO P A.glob p.2 sl p.1) ++ ys) (by simp only [List.length_append]; omega) ?_ h2 ?_
          · exact app_rel (by simp only [List.length_append]; omega) (app_rel l1 r1 k2) r3
          · have e1 : (fs.toList ++ (args.map a.eval).toList ++ cs.toList).toArray = fs ++ args.map a.eval ++ cs := by
              apply Array.toList_inj.1; simp
            rw [e1]
            have hev : a.eval (.tmp t) = .func (.func f) fs cs := hvt
            simp [execOp, resolve, hev, Deferred.ofValue, invoke]
      | _ => cases hc
end
end Go.AM
