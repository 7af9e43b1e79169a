/-
 AM: slice literals, made slices, append.
-/
import Derived.Laws.BytesString
import Derived.Conc.MuLone
import Derived.Carry
import Derived.OpenShut
import Derived.Deep.Slices
import Derived.Test.YtffbfcncnleiaaaP1
set_option linter.unusedVariables false
namespace Go.AM
section
variable {P : Program} {w w' : World} {I I' : Nat → Prop} {β β' : Nat → Option Nat} {hp hp' : Nat → Option Blk} {C : CallF} {B : Nat} {M : Nat → Prop} {w0 : Start}
theorem newArr_sim (S : Sim P w I β hp B M w0) {nb cap : Nat} {e : TypeId} {es : List V} {C0 : Array Value} (hok : okTy P e = true) (hn : hp nb = none) (hs : C0.size = cap * P.cellsOf e) (hl : es.length ≤ cap) (hm : cap ≤ maxLen)
 (hx : ∀ (i j : Nat) (x : V) (t' : TypeId), es[i]? = some x → (etys P e)[j]? = some t' → j < P.cellsOf e → ∃ v, C0[i * P.cellsOf e + j]? = some v ∧ Pure P w I t' v (epart P e x j)) :
 Le P w I β hp (w.alloc (.cells C0 e)) I (setN β nb (some w.heap.size)) (setN hp nb (some (.arr e es false))) ∧ Sim P (w.alloc (.cells C0 e)) I (setN β nb (some w.heap.size)) (setN hp nb (some (.arr e es false))) B M w0 ∧
 VRel P (w.alloc (.cells C0 e)) I (setN β nb (some w.heap.size)) (setN hp nb (some (.arr e es false))) (.slice (some ⟨w.heap.size, 0, none⟩) es.length cap) (.whole e nb) := by
 obtain ⟨h1, h2⟩ := alloc_sim S (blk := .arr e es false) (c := C0) (T := e) hn (fun b' h => (Option.some.inj (h.flat (by simp))).symm) (fun hle hnew hnI => .arr hok rfl hnew (by rw [hs]; exact Nat.mul_le_mul_right _ hl) (fun h => by cases h) (fun _ => hnI) fun i j x t' a b c => by
  obtain ⟨v, hv, hp⟩ := hx i j x t' a b c
  exact ⟨v, hv, hp.mono hle.imm hle.keep⟩)
 refine ⟨h1, h2, .whole (setN_same _ _ _) (setN_same _ _ _) ?_ hl hm⟩
 rw [bsize_cells (heap_alloc_new w (.cells C0 e)), hs]
theorem At.only {b b' : Nat} {e e' : TypeId} {es es' : List V} {q : Path} (hz : ∀ (i j : Nat) x t' e1 l, es[i]? = some x → (etys P e)[j]? = some t' → epart P e x j = .list e1 l → l = [])
 (h : At P w b e es q b' e' es') : q = [] ∧ b' = b ∧ e' = e ∧ es' = es := by
 cases h with
 | here => exact ⟨rfl, rfl, rfl, rfl⟩
 | step h1 h2 h3 h4 h5 h6 => have := hz _ _ _ _ _ _ h2 h3 h5; subst this; simp at h6
theorem CellOk.of_pure {t : TypeId} {v : Value} {x : V} (h : Pure P w I t v x) (hz : ∀ e1 l, x = .list e1 l → l = []) : CellOk P w I t v x := by
 cases h with
 | int h => exact .scal (by unfold scalarT; rw [h]) (.int h)
 | bool h => exact .scal (by unfold scalarT; rw [h]) (.bool h)
 | str h hl => exact .scal (by unfold scalarT; rw [h]) (.str h hl)
 | nil h => exact .emp h fun _ => rfl
 | emp h => exact .emp h fun h => by cases h
 | list g hu hl _ _ _ _ =>
  have := hz _ _ rfl
  subst this
  simp at hl
  subst hl
  exact .emp hu fun h => by cases h
theorem newNest_sim (S : Sim P w I β hp B M w0) {nb cap : Nat} {e : TypeId} {es : List V} {C0 : Array Value} (hok : okTy P e = true) (hn : hp nb = none) (hs : C0.size = cap * P.cellsOf e) (hl : es.length ≤ cap) (hm : cap ≤ maxLen)
 (hx : ∀ (i j : Nat) (x : V) (t' : TypeId), es[i]? = some x → (etys P e)[j]? = some t' → j < P.cellsOf e → ∃ v, C0[i * P.cellsOf e + j]? = some v ∧ Pure P w I t' v (epart P e x j))
 (hz : ∀ (i j : Nat) x t' e1 l, es[i]? = some x → (etys P e)[j]? = some t' → epart P e x j = .list e1 l → l = []) :
 Le P w I β hp (w.alloc (.cells C0 e)) I (setN β nb (some w.heap.size)) (setN hp nb (some (.nest e es [0, 0, 0]))) ∧ Sim P (w.alloc (.cells C0 e)) I (setN β nb (some w.heap.size)) (setN hp nb (some (.nest e es [0, 0, 0]))) B M w0 ∧
 VRel P (w.alloc (.cells C0 e)) I (setN β nb (some w.heap.size)) (setN hp nb (some (.nest e es [0, 0, 0]))) (.slice (some ⟨w.heap.size, 0, none⟩) es.length cap) (.whole e nb) := by
 obtain ⟨h1, h2⟩ := alloc_sim S (blk := .nest e es [0, 0, 0]) (c := C0) (T := e) hn (fun b' h => by
  cases h with
  | root _ h => exact (Option.some.inj h).symm
  | row h ha => cases h; exact (At.only hz ha).2.1)
  (fun hle hnew hnI => .nest rfl (fun q b' e' es' ha => by
   obtain ⟨rfl, rfl, rfl, rfl⟩ := At.only hz ha
   refine ⟨hok, ⟨C0, hnew, by rw [hs]; exact Nat.mul_le_mul_right _ hl, fun i j x t' a b c => ?_⟩, hnI⟩
   obtain ⟨v, hv, hp⟩ := hx i j x t' a b c
   exact ⟨v, hv, .of_pure (hp.mono hle.imm hle.keep) fun e1 l h => hz i j x t' e1 l a b h⟩)
   fun q1 q2 b' e1 es1 e2 es2 a1 a2 => (At.only hz a1).1.trans (At.only hz a2).1.symm)
 refine ⟨h1, h2, .wholeN (setN_same _ _ _) (setN_same _ _ _) ?_ hl hm⟩
 rw [bsize_cells (heap_alloc_new w (.cells C0 e)), hs]
/-- A slice literal's parts. -/
theorem partsPure_sim (hrel : ∀ id blk, hp id = some blk → BlkRel P w I β hp (β id) blk) {a : Act} {sl : Nat → V} (hs : SRel P w I β hp a sl) {e : TypeId} {len : Nat} : ∀ {l : List (Nat × Operand)} {ps : List (Nat × V)} {upd : List (Nat × Blk)} {rd : List Nat},
 (partsPure P e len (l.map fun p => (p.1, evO P e sl p.2))).run C hp = some ((ps, upd), rd) → okTy P e = true → (∀ p ∈ upd, Frz hp p) ∧ ∀ I' : Nat → Prop, (∀ b, I b → I' b) → (∀ p ∈ upd, ∀ b, Held P w β hp p.1 b → I' b) →
  ∀ (cells : Array Value) (es : List V), es.length = len → ElemsRel P w I' e cells es → ∃ cells', Instr.fill (fun i => some (i * P.cellsOf e, P.cellsOf e)) cells (l.map fun p => (p.1, a.eval p.2)) = some cells' ∧ ElemsRel P w I' e cells' (setElems es ps) ∧ (setElems es ps).length = len
 | [], ps, upd, rd, h, _ => by
  cases h
  exact ⟨by simp, fun I' _ _ cells es hl he => ⟨cells, by simp [Instr.fill], he, hl⟩⟩
 | (i, x) :: l, ps, upd, rd, h, hok => by
  simp only [List.map_cons, partsPure] at h
  obtain ⟨⟨ys, u1⟩, l1, l2, h1, h⟩ := run_bnd h
  obtain ⟨hc, h⟩ := run_chk h
  obtain ⟨⟨ps', u2⟩, l3, l4, h2, h⟩ := run_bnd h
  have := run_ret' h
  cases this
  simp only [Bool.and_eq_true, Nat.blt_eq] at hc
  obtain ⟨hi, hty⟩ := hc
  obtain ⟨tl, tg⟩ := typedAll_get hty
  have hvr := hs.ev e x
  obtain ⟨v1, v2⟩ := pure_cells hrel hvr h1 hty
  obtain ⟨k1, k2, k3⟩ := pureL_sim hrel h1 (vs := (a.eval x).cells.toList) (by simpa using v1) v2
  obtain ⟨m1, m2⟩ := partsPure_sim hrel hs h2 hok
  refine ⟨fun p hp => ?_, fun I' i1 i2 cells es hl he => ?_⟩
  · rcases List.mem_append.1 hp with h | h
    · exact k2 p h
    · exact m1 p h
  · have hpl := k3 I' i1 (fun p hp => i2 p (List.mem_append.2 (.inl hp)))
    have hsz := (okTy_len hok).1
    have hyl : ys.length = P.cellsOf e := by rw [← tl, hsz]
    have hvs : (a.eval x).cells.size = P.cellsOf e := by rw [v1, ← k1, hyl]
    have he' := he.set (i := i) (ys := ys) (by omega) hvs hyl (fun j t' u y ht hu hy => by
     exact (hpl j u y (by simpa using hu) hy).pure (tg j t' y (by rw [← etys_flat]; exact ht) hy))
    obtain ⟨cells', f1, f2, f3⟩ := m2 I' i1 (fun p hp => i2 p (List.mem_append.2 (.inr hp))) _ (es.set i (mkElem P e ys)) (by simpa using hl) he'
    refine ⟨cells', ?_, f2, f3⟩
    have hb : i * P.cellsOf e + P.cellsOf e ≤ cells.size := by
     rw [he.1, hl]
     have : (i + 1) * P.cellsOf e ≤ len * P.cellsOf e := Nat.mul_le_mul_right _ hi
     rw [Nat.add_mul] at this
     omega
    simp only [List.map_cons, Instr.fill]
    rw [if_neg (by simp; omega)]
    exact f1
theorem zeros_get {z : Array Value} {n k : Nat} (hk : k < n) (hz : 0 < z.size) : ((Array.range n).map (z[· % z.size]!))[k]? = z[k % z.size]? := by
 have hm : k % z.size < z.size := Nat.mod_lt _ hz
 simp [hk, hm]
theorem zeros_rel {e : TypeId} (h : okElem P e = true) {i : TypeInfo} {z : Value} (hi : P.info? e = some i) (hz : i.zero = some z) (n m : Nat) (hnm : n ≤ m) :
 ∀ (k j : Nat) (x : V) (t' : TypeId), (List.replicate n (mkElem P e (zeroElem P e)))[k]? = some x → (etys P e)[j]? = some t' → j < P.cellsOf e →
  ∃ v, ((Array.range (m * P.cellsOf e)).map (z.cells[· % z.cells.size]!))[k * P.cellsOf e + j]? = some v ∧ Pure P w I t' v (epart P e x j) := by
 intro k j x t' hx ht hj
 obtain ⟨i2, z2, h1, h2, h3, h4, h5⟩ := zero_pure (w := w) (I := I) h
 rw [hi] at h1; cases h1
 rw [hz] at h2; cases h2
 rw [List.getElem?_replicate] at hx
 split at hx
 · rename_i hk
   cases hx
   obtain ⟨v, hv, hp⟩ := h5 j t' ht hj
   refine ⟨v, ?_, hp⟩
   have hb : k * P.cellsOf e + j < m * P.cellsOf e := by
    have : (k + 1) * P.cellsOf e ≤ m * P.cellsOf e := Nat.mul_le_mul_right _ (by omega)
    rw [Nat.add_mul] at this
    omega
   rw [zeros_get hb (by omega), h4, show (k * P.cellsOf e + j) % P.cellsOf e = j by rw [Nat.mul_comm, Nat.mul_add_mod]; exact Nat.mod_eq_of_lt hj]
   exact hv
 · cases hx
theorem buildSlice_op_sim (S : Sim P w I β hp B M w0) {a : Act} {sl : Nat → V} (hs : SRel P w I β hp a sl) {t e : TypeId} {len nb : Nat} {ps : Array (Nat × Operand)} {r : R} {rd : List Nat} (hu : P.underlying t = some (.slice e))
 (h : (Rd.chk (okElem P e && (Nat.blt 0 len && Nat.ble (len * P.cellsOf e) (2 ^ 24))) ((partsPure P e len (ps.toList.map fun p => (p.1, evO P e sl p.2))).bind fun r =>
  newRd nb (.arr e (setElems (List.replicate len (mkElem P e (zeroElem P e))) r.1) false) (.whole e nb) r.2)).run C hp = some (r, rd)) :
 ValOk P ((Instr.buildSlice t len (ps.map fun (i, x) => (i, a.eval x))).run P w) w I β hp B M w0 r := by
 obtain ⟨hc, h⟩ := run_chk h
 simp only [Bool.and_eq_true, Nat.ble_eq, Nat.blt_eq] at hc
 obtain ⟨hel, hl0, hl1⟩ := hc
 have hok : okTy P e = true := by
  unfold okElem at hel; simp only [Bool.and_eq_true] at hel; exact hel.1
 obtain ⟨⟨pv, upd⟩, l1, l2, h1, h⟩ := run_bnd h
 obtain ⟨hn, rfl⟩ := newRd_run h
 obtain ⟨m1, m2⟩ := partsPure_sim S.h.rel hs h1 hok
 obtain ⟨hle1, S1⟩ := freeze_sim S m1
 obtain ⟨i, z, hi, hz, h3, h4, _⟩ := zero_pure (w := w) (I := I) hel
 have hpos := (okTy_len hok).2
 have hnm : len * P.cellsOf e ≠ 0 := by
  have := Nat.mul_pos hl0 hpos; omega
 have h0 : ElemsRel P w (IFrz P w I β hp upd) e ((Array.range (len * P.cellsOf e)).map (z.cells[· % z.cells.size]!)) (List.replicate len (mkElem P e (zeroElem P e))) :=
  ⟨by simp, zeros_rel hel hi hz len len (Nat.le_refl _)⟩
 obtain ⟨cells, f1, f2, f3⟩ := m2 (IFrz P w I β hp upd) (fun _ h => .inl h) (fun p hp b h => .inr ⟨p, hp, h⟩) _ _ (by simp) h0
 have hn1 : updH hp upd nb = none := by
  rcases updH_of (hp := hp) (l := upd) (id := nb) with h | ⟨b', hm, _⟩
  · exact h.trans hn
  · obtain ⟨e1, es1, _, h5⟩ := m1 _ hm
    simp only [hn] at h5
    rcases h5 with ⟨_, h5⟩ | ⟨_, h5⟩ <;> cases h5
 have hmx : len ≤ maxLen := by
  have : len * 1 ≤ len * P.cellsOf e := Nat.mul_le_mul_left _ hpos
  simp only [maxLen]
  omega
 obtain ⟨n1, n2, n3⟩ := newArr_sim S1 (cap := len) hok hn1 (by rw [f2.1, f3]) (by rw [f3]; exact Nat.le_refl _) hmx f2.2
 have hrun := run_buildSlice w t e len (ps.map fun (i, x) => (i, a.eval x)) cells i z hu hi hz (by rw [h3]; omega) (by rw [h3]; exact hnm) (by rw [h3]; simpa using f1)
 refine ⟨_, _, _, _, hrun, hle1.trans n1, n2, ?_⟩
 rw [f3] at n3
 exact n3
theorem makeSlice_op_sim (S : Sim P w I β hp B M w0) {t e : TypeId} {nb : Nat} {kl kc : IntKind} {n m : Int} {r : R} {rd : List Nat} (hu : P.underlying t = some (.slice e))
 (h : (Rd.chk (okElem P e && (decide (0 ≤ n) && (decide (n ≤ m) && Nat.ble (m.toNat * P.bytesOf e) maxBytes)))
  (newRd nb (.arr e (List.replicate n.toNat (mkElem P e (zeroElem P e))) false) (.whole e nb) [])).run C hp = some (r, rd)) :
 ValOk P ((Instr.makeSlice t (.int kl n) (.int kc m)).run P w) w I β hp B M w0 r := by
 obtain ⟨hc, h⟩ := run_chk h
 simp only [Bool.and_eq_true, Nat.ble_eq, decide_eq_true_eq] at hc
 obtain ⟨hel, h0, hnm, hby⟩ := hc
 have hok : okTy P e = true := by
  unfold okElem at hel; simp only [Bool.and_eq_true] at hel; exact hel.1
 obtain ⟨hn, rfl⟩ := newRd_run h
 obtain ⟨i, z, hi, hz, h3, h4, _⟩ := zero_pure (w := w) (I := I) hel
 have hbi : P.bytesOf e = i.bytes := by simp [Program.bytesOf, hi]
 have hm63 : m ≤ 9223372036854775807 := by
  have h1 : m.toNat * 1 ≤ m.toNat * P.bytesOf e := Nat.mul_le_mul_left _ (okTy_bytes hok)
  simp only [maxBytes] at hby
  omega
 have hrun := run_make (P := P) w t e i z hu hi hz kl kc n m h0 hnm (by
  rw [hbi] at hby
  simp only [maxBytes] at hby
  have : (i.bytes : Int) * m = ((m.toNat * i.bytes : Nat) : Int) := by
   rw [Int.natCast_mul, Int.toNat_of_nonneg (by omega), Int.mul_comm]
  rw [this]
  omega) hm63
 have hlen : (List.replicate n.toNat (mkElem P e (zeroElem P e))).length = n.toNat := by simp
 obtain ⟨n1, n2, n3⟩ := newArr_sim S (cap := m.toNat) (es := List.replicate n.toNat (mkElem P e (zeroElem P e))) (C0 := madeCells z.cells (m.toNat * i.size)) hok hn (by rw [size_madeCells, h3]) (by rw [hlen]; omega) (by simp only [maxLen]; omega)
  (by rw [h3]; exact zeros_rel hel hi hz n.toNat m.toNat (by omega))
 refine ⟨_, _, _, _, hrun, n1, n2, ?_⟩
 rw [hlen] at n3
 exact n3
theorem noRows_nth : ∀ {l : List V} {j : Nat} {e1 : TypeId} {k : List V}, noRows l = true → V.nth l j = .list e1 k → k = []
 | [], j, e1, k, _, h => by cases j <;> cases h
 | x :: l, 0, e1, k, hn, h => by
  simp only [V.nth] at h
  subst h
  cases k with
  | nil => rfl
  | cons _ _ => cases hn
 | x :: l, j + 1, e1, k, hn, h => by
  refine noRows_nth (l := l) (j := j) ?_ h
  cases x with
  | list e2 k2 =>
   cases k2 with
   | nil => exact hn
   | cons _ _ => cases hn
  | _ => exact hn
theorem noRows_elem {e : TypeId} {n : Nat} (hok : okTy P e = true) (h : noRows (zeroElem P e) = true) :
 ∀ (i j : Nat) x t' e1 l, (List.replicate n (mkElem P e (zeroElem P e)))[i]? = some x → (etys P e)[j]? = some t' → epart P e x j = .list e1 l → l = [] := by
 intro i j x t' e1 l hx ht hl
 have := List.eq_of_mem_replicate (List.mem_of_getElem? hx)
 subst this
 unfold epart mkElem at hl
 cases ha : isAggT P e with
 | true => rw [ha] at hl; exact noRows_nth h hl
 | false => rw [ha] at hl; exact noRows_nth h hl
theorem makeNest_op_sim (S : Sim P w I β hp B M w0) {t e : TypeId} {nb : Nat} {kl kc : IntKind} {n m : Int} {r : R} {rd : List Nat} (hu : P.underlying t = some (.slice e))
 (h : (Rd.chk (okElem P e && (decide (0 ≤ n) && (decide (n ≤ m) && Nat.ble (m.toNat * P.bytesOf e) maxBytes)))
  (Rd.chk (noRows (zeroElem P e)) (newRd nb (.nest e (List.replicate n.toNat (mkElem P e (zeroElem P e))) [0, 0, 0]) (.whole e nb) []))).run C hp = some (r, rd)) :
 ValOk P ((Instr.makeSlice t (.int kl n) (.int kc m)).run P w) w I β hp B M w0 r := by
 obtain ⟨hc, h⟩ := run_chk h
 simp only [Bool.and_eq_true, Nat.ble_eq, decide_eq_true_eq] at hc
 obtain ⟨hel, h0, hnm, hby⟩ := hc
 have hok : okTy P e = true := by
  unfold okElem at hel; simp only [Bool.and_eq_true] at hel; exact hel.1
 obtain ⟨hnr, h⟩ := run_chk h
 obtain ⟨hn, rfl⟩ := newRd_run h
 obtain ⟨i, z, hi, hz, h3, h4, _⟩ := zero_pure (w := w) (I := I) hel
 have hbi : P.bytesOf e = i.bytes := by simp [Program.bytesOf, hi]
 have hm63 : m ≤ 9223372036854775807 := by
  have h1 : m.toNat * 1 ≤ m.toNat * P.bytesOf e := Nat.mul_le_mul_left _ (okTy_bytes hok)
  simp only [maxBytes] at hby
  omega
 have hrun := run_make (P := P) w t e i z hu hi hz kl kc n m h0 hnm (by
  rw [hbi] at hby
  simp only [maxBytes] at hby
  have : (i.bytes : Int) * m = ((m.toNat * i.bytes : Nat) : Int) := by
   rw [Int.natCast_mul, Int.toNat_of_nonneg (by omega), Int.mul_comm]
  rw [this]
  omega) hm63
 have hlen : (List.replicate n.toNat (mkElem P e (zeroElem P e))).length = n.toNat := by simp
 obtain ⟨n1, n2, n3⟩ := newNest_sim S (cap := m.toNat) (es := List.replicate n.toNat (mkElem P e (zeroElem P e))) (C0 := madeCells z.cells (m.toNat * i.size)) hok hn (by rw [size_madeCells, h3]) (by rw [hlen]; omega) (by simp only [maxLen]; omega)
  (by rw [h3]; exact zeros_rel hel hi hz n.toNat m.toNat (by omega))
  (noRows_elem hok hnr)
 refine ⟨_, _, _, _, hrun, n1, n2, ?_⟩
 rw [hlen] at n3
 exact n3
theorem Pure.one {t : TypeId} {v : Value} {x : V} (h : Pure P w I t v x) : v.oneCell' = true := by cases h <;> rfl
/-- A slice's cells in memory, read as elements. -/
structure Row (P : Program) (w : World) (I : Nat → Prop) (e : TypeId) (v : Value) (xs : List V) (a : Addr) (c : Nat) (news : List Value) : Prop where
 val : v = .slice (some a) xs.length c
 len : news.length = xs.length * P.cellsOf e
 cell : ∀ (j : Nat) u, news[j]? = some u → w.cell? (a.add j) = some u
 el : ∀ (i j : Nat) (x : V) (t' : TypeId), xs[i]? = some x → (etys P e)[j]? = some t' → j < P.cellsOf e → ∃ u, news[i * P.cellsOf e + j]? = some u ∧ Pure P w I t' u (epart P e x j)
theorem Row.one {e : TypeId} {v : Value} {xs : List V} {a : Addr} {c : Nat} {news : List Value} (h : Row P w I e v xs a c news) (hok : okTy P e = true) : ∀ u ∈ news, u.oneCell' = true := by
 intro u hu
 obtain ⟨k, hk⟩ := List.getElem?_of_mem hu
 have hkl := (List.getElem?_eq_some_iff.1 hk).1
 have hpos := (okTy_len hok).2
 rw [h.len] at hkl
 have hi : k / P.cellsOf e < xs.length := Nat.div_lt_of_lt_mul (by rw [Nat.mul_comm]; exact hkl)
 have hj : k % P.cellsOf e < P.cellsOf e := Nat.mod_lt _ hpos
 have hj' : k % P.cellsOf e < (etys P e).length := by rw [okTy_etys hok]; exact hj
 obtain ⟨u', hu', hp⟩ := h.el (k / P.cellsOf e) (k % P.cellsOf e) _ _ (List.getElem?_eq_getElem hi) (List.getElem?_eq_getElem hj') hj
 rw [Nat.div_add_mod'] at hu'
 rw [hk] at hu'
 cases hu'
 exact hp.one
theorem row_of_arr {e : TypeId} {es : List V} {b : Nat} {Ca : Array Value} {off len cap o : Nat} (hh : w.heap[b]? = some (.cells Ca e (0, 0))) (hs : es.length * P.cellsOf e ≤ Ca.size)
 (hx : ∀ (i j : Nat) (x : V) (t' : TypeId), es[i]? = some x → (etys P e)[j]? = some t' → j < P.cellsOf e → ∃ v, Ca[i * P.cellsOf e + j]? = some v ∧ Pure P w I t' v (epart P e x j))
 (hol : off + len ≤ es.length) (ho : 0 < len → o = off * P.cellsOf e) :
 Row P w I e (.slice (some ⟨b, o, none⟩) len cap) ((es.drop off).take len) ⟨b, o, none⟩ cap ((Ca.toList.drop (off * P.cellsOf e)).take (len * P.cellsOf e)) := by
 have hlen : ((es.drop off).take len).length = len := by simp; omega
 have hb : (off + len) * P.cellsOf e ≤ Ca.size := Nat.le_trans (Nat.mul_le_mul_right _ hol) hs
 rw [Nat.add_mul] at hb
 refine ⟨by rw [hlen], by rw [hlen]; simp; omega, fun j u hj => ?_, fun i j x t' hxi ht hj => ?_⟩
 · have hjl := (List.getElem?_eq_some_iff.1 hj).1
   have hjl2 : j < len * P.cellsOf e := by
    rw [List.length_take] at hjl; omega
   have hl0 : 0 < len := by
    rcases Nat.eq_zero_or_pos len with h | h
    · rw [h] at hjl2; simp at hjl2
    · exact h
   rw [List.getElem?_take_of_lt hjl2, List.getElem?_drop] at hj
   rw [add_none, cell?_cells hh, ho hl0]
   simpa using hj
 · have hi : i < len := by rw [← hlen]; exact (List.getElem?_eq_some_iff.1 hxi).1
   rw [List.getElem?_take_of_lt hi, List.getElem?_drop] at hxi
   obtain ⟨u, hu, hp⟩ := hx (off + i) j x t' hxi ht hj
   refine ⟨u, ?_, hp⟩
   have : i * P.cellsOf e + j < len * P.cellsOf e := by
    have : (i + 1) * P.cellsOf e ≤ len * P.cellsOf e := Nat.mul_le_mul_right _ hi
    rw [Nat.add_mul] at this
    omega
   rw [List.getElem?_take_of_lt this, List.getElem?_drop]
   rw [Nat.add_mul] at hu
   rw [← Nat.add_assoc]
   simpa using hu
theorem elems_sim (hrel : ∀ id blk, hp id = some blk → BlkRel P w I β hp (β id) blk) {e : TypeId} {v : Value} {x : V} {k : List V → Rd R} {r : R} {rd : List Nat} (hok : okTy P e = true) (hv : VRel P w I β hp v x)
 (h : (elemsRd e x k).run C hp = some (r, rd)) : ∃ xs, ((v = .slice none 0 0 ∧ xs = []) ∨ ∃ a c news, Row P w I e v xs a c news) ∧ ∃ l, (k xs).run C hp = some (r, l) := by
 cases hv with
 | list hp' =>
  obtain ⟨hc, h2⟩ := run_chk h
  clear h
  rw [Nat.beq_eq] at hc
  subst hc
  cases hp' with
  | nil => exact ⟨[], .inl ⟨rfl, rfl⟩, rd, h2⟩
  | @emp a cap => exact ⟨[], .inr ⟨a, cap, [], ⟨rfl, by simp, fun j u hj => by simp at hj, fun i j x t' hx _ _ => by simp at hx⟩⟩, rd, h2⟩
  | @list b o len cap es g hl hcap hI hcell hx =>
   refine ⟨_, .inr ⟨⟨b, o, none⟩, cap, (List.range (len * P.cellsOf e)).map fun k => g (k / P.cellsOf e) (k % P.cellsOf e), ⟨by rw [hl], by rw [hl]; simp, fun j u hj => ?_, fun i j x t' hxi ht hj => ?_⟩⟩, rd, h2⟩
   · obtain ⟨hjl, hje⟩ := List.getElem?_eq_some_iff.1 hj
     simp at hjl hje
     have hpos := (okTy_len hok).2
     have hi : j / P.cellsOf e < len := Nat.div_lt_of_lt_mul (by rw [Nat.mul_comm]; exact hjl)
     have hj2 : j % P.cellsOf e < P.cellsOf e := Nat.mod_lt _ hpos
     rw [add_none, ← hje]
     have := hcell (j / P.cellsOf e) (j % P.cellsOf e) hi hj2
     rwa [Nat.div_add_mod'] at this
   · have hi : i < len := by rw [← hl]; exact (List.getElem?_eq_some_iff.1 hxi).1
     have hb : i * P.cellsOf e + j < len * P.cellsOf e := by
      have : (i + 1) * P.cellsOf e ≤ len * P.cellsOf e := Nat.mul_le_mul_right _ hi
      rw [Nat.add_mul] at this
      omega
     refine ⟨g i j, ?_, hx i j x t' hxi ht⟩
     have e1 : (i * P.cellsOf e + j) / P.cellsOf e = i := by
      rw [Nat.mul_comm, Nat.mul_add_div (okTy_len hok).2, Nat.div_eq_of_lt hj, Nat.add_zero]
     have e2 : (i * P.cellsOf e + j) % P.cellsOf e = j := by
      rw [Nat.mul_comm, Nat.mul_add_mod]; exact Nat.mod_eq_of_lt hj
     simp [hb, e1, e2]
 | nilS =>
  obtain ⟨hc, h⟩ := run_chk h
  exact ⟨[], .inl ⟨rfl, rfl⟩, rd, h⟩
 | wholeNil hid hb =>
  obtain ⟨l, h⟩ := run_get h
  simp only [hid] at h
  obtain ⟨hc, h⟩ := run_chk h
  exact ⟨[], .inl ⟨rfl, rfl⟩, l, h⟩
 | @whole e' id es fz b cap hid hb hsz hcap hm =>
  obtain ⟨l, h⟩ := run_get h
  simp only [hid] at h
  obtain ⟨hc, h2⟩ := run_chk h
  clear h
  simp only [Bool.and_eq_true, Nat.beq_eq] at hc
  obtain ⟨rfl, _⟩ := hc
  have hr := hrel _ _ hid
  cases hr with
  | arrNil hb' => rw [hb'] at hb; cases hb
  | arr hok' hb' hh hs hf hnf hx =>
   rw [hb] at hb'; cases hb'
   have := row_of_arr (cap := cap) (off := 0) (len := es.length) (o := 0) hh hs hx (by omega) (fun _ => by simp)
   exact ⟨es, .inr ⟨_, _, _, by simpa using this⟩, l, h2⟩
 | subNil hid hb =>
  obtain ⟨l, h⟩ := run_get h
  simp only [hid] at h
  obtain ⟨hc, h⟩ := run_chk h
  exact ⟨[], .inl ⟨rfl, rfl⟩, l, by simpa using h⟩
 | @sub e' id off len es fz b o cap hid hb hol hcap ho =>
  obtain ⟨l, h⟩ := run_get h
  simp only [hid] at h
  obtain ⟨hc, h2⟩ := run_chk h
  clear h
  simp only [Bool.and_eq_true, Nat.beq_eq] at hc
  obtain ⟨rfl, _⟩ := hc
  have hr := hrel _ _ hid
  cases hr with
  | arrNil hb' => rw [hb'] at hb; cases hb
  | arr hok' hb' hh hs hf hnf hx =>
   rw [hb] at hb'; cases hb'
   exact ⟨_, .inr ⟨_, _, _, row_of_arr (cap := cap) hh hs hx hol ho⟩, l, h2⟩
 | wholeDead hid =>
  obtain ⟨l, h⟩ := run_get h
  simp only [hid] at h
  cases h
 | subDead hid =>
  obtain ⟨l, h⟩ := run_get h
  simp only [hid] at h
  cases h
 | undef => cases h
 | int => cases h
 | bool => cases h
 | str => cases h
 | agg => cases h
 | tup => cases h
 | nilp => cases h
 | fn => cases h
 | pref => cases h
 | ptrDead => cases h
 | ptr => cases h
 | rowPast => cases h
 | atPast => cases h
 | row => cases h
 | elt => cases h
 | wholeN hid =>
  obtain ⟨l, h⟩ := run_get h
  simp only [hid] at h
  cases h
theorem run_append_empty {t ty e : TypeId} {i : TypeInfo} (ht : P.underlying t = some (.slice e)) (hi : P.info? e = some i) (a : Option Addr) (n cap : Nat) (x : Value) (hx : x = .slice none 0 0 ∨ ∃ a c, x = .slice (some a) 0 c) (hn : n ≤ cap) :
 (Builtin.append_ #[t, t] ty #[.slice a n cap, x]).run P w = .ok (.slice a n cap) w := by
 rcases hx with rfl | ⟨a', c, rfl⟩
 · cases a <;> simp [Builtin.append_, run_underlying ht, sizeOf, typeInfo, hi, Builtin.lenOf, Builtin.firstCells, hn, storeCells]
 · cases a <;> simp [Builtin.append_, run_underlying ht, sizeOf, typeInfo, hi, Builtin.lenOf, Builtin.firstCells, hn, storeCells, loadCells, loadCellsFrom]
theorem append_elems {e : TypeId} {es xs : List V} {n : Nat} {c : List Value} {news : List Value} (hn : es.length = n)
 (h1 : ∀ (i j : Nat) (x : V) (t' : TypeId), es[i]? = some x → (etys P e)[j]? = some t' → j < P.cellsOf e → ∃ v, c[i * P.cellsOf e + j]? = some v ∧ Pure P w I t' v (epart P e x j))
 (h2 : ∀ (i j : Nat) (x : V) (t' : TypeId), xs[i]? = some x → (etys P e)[j]? = some t' → j < P.cellsOf e → ∃ v, news[i * P.cellsOf e + j]? = some v ∧ Pure P w I t' v (epart P e x j))
 (hb : n * P.cellsOf e ≤ c.length) (rest : List Value) :
 ∀ (i j : Nat) (x : V) (t' : TypeId), (es ++ xs)[i]? = some x → (etys P e)[j]? = some t' → j < P.cellsOf e → ∃ v, (c.take (n * P.cellsOf e) ++ news ++ rest)[i * P.cellsOf e + j]? = some v ∧ Pure P w I t' v (epart P e x j) := by
 intro i j x t' hx ht hj
 have hl : (c.take (n * P.cellsOf e)).length = n * P.cellsOf e := by simp; omega
 by_cases hi : i < n
 · rw [List.getElem?_append_left (by omega)] at hx
   obtain ⟨v, hv, hp⟩ := h1 i j x t' hx ht hj
   have : i * P.cellsOf e + j < n * P.cellsOf e := by
    have : (i + 1) * P.cellsOf e ≤ n * P.cellsOf e := Nat.mul_le_mul_right _ hi
    rw [Nat.add_mul] at this
    omega
   exact ⟨v, by rw [List.append_assoc, List.getElem?_append_left (by omega), List.getElem?_take_of_lt this]; exact hv, hp⟩
 · rw [List.getElem?_append_right (by omega), hn] at hx
   obtain ⟨v, hv, hp⟩ := h2 (i - n) j x t' hx ht hj
   have hi2 : i - n < xs.length := (List.getElem?_eq_some_iff.1 hx).1
   have e1 : i * P.cellsOf e + j - n * P.cellsOf e = (i - n) * P.cellsOf e + j := by
    rw [Nat.sub_mul]
    have : n * P.cellsOf e ≤ i * P.cellsOf e := Nat.mul_le_mul_right _ (by omega)
    omega
   have h3 : (i - n) * P.cellsOf e + j < news.length := (List.getElem?_eq_some_iff.1 hv).1
   refine ⟨v, ?_, hp⟩
   have h4 : n * P.cellsOf e ≤ i * P.cellsOf e + j := by
    have : n * P.cellsOf e ≤ i * P.cellsOf e := Nat.mul_le_mul_right _ (by omega)
    omega
   rw [List.append_assoc, List.getElem?_append_right (by omega), hl, e1, List.getElem?_append_left h3]
   exact hv
theorem Pure.drew {t : TypeId} {v : Value} {x : V} (h : Pure P w I t v x) : Pure P w.drew I t v x := Pure.mono (w := w) (w' := w.drew) (fun _ h => h) (fun _ _ => rfl) h
/-- A slice that grows out of nothing. -/
theorem append_nil_sim (S : Sim P w I β hp B M w0) {t ty e : TypeId} {nb : Nat} {x : Value} {xs : List V} (hu : P.underlying t = some (.slice e)) (hok : okTy P e = true) (hn : hp nb = none)
 (hby : xs.length * P.bytesOf e ≤ maxBytes) (hx : (x = .slice none 0 0 ∧ xs = []) ∨ ∃ a c news, Row P w I e x xs a c news) :
 ∃ v w' β', (Builtin.append_ #[t, t] ty #[.slice none 0 0, x]).run P w = .ok v w' ∧ Le P w I β hp w' I β' (setN hp nb (some (.arr e xs false))) ∧ Sim P w' I β' (setN hp nb (some (.arr e xs false))) B M w0 ∧
  VRel P w' I β' (setN hp nb (some (.arr e xs false))) v (.whole e nb) := by
 obtain ⟨i, z, hi, hz, h3, h4, _⟩ := okTy_zero hok
 have hbp := okTy_bytes hok
 have hbi : P.bytesOf e = i.bytes := by simp [Program.bytesOf, hi]
 have hlen : xs.length ≤ 2 ^ 45 := by
  have : xs.length * 1 ≤ xs.length * P.bytesOf e := Nat.mul_le_mul_left _ hbp
  simp only [maxBytes] at hby
  omega
 have empty : xs = [] → (x = .slice none 0 0 ∨ ∃ a c, x = .slice (some a) 0 c) → ∃ v w' β', (Builtin.append_ #[t, t] ty #[.slice none 0 0, x]).run P w = .ok v w' ∧ Le P w I β hp w' I β' (setN hp nb (some (.arr e xs false))) ∧ Sim P w' I β' (setN hp nb (some (.arr e xs false))) B M w0 ∧
  VRel P w' I β' (setN hp nb (some (.arr e xs false))) v (.whole e nb) := by
  intro hxs hxx
  subst hxs
  obtain ⟨a1, a2⟩ := adoptNil_sim S e hn
  exact ⟨_, _, _, run_append_empty hu hi none 0 0 x hxx (Nat.le_refl _), a1, a2, .wholeNil (setN_same _ _ _) (setN_same _ _ _)⟩
 rcases hx with ⟨rfl, rfl⟩ | ⟨a, c, news, hr⟩
 · exact empty rfl (.inl rfl)
 · by_cases h0 : xs.length = 0
   · have hxs : xs = [] := List.eq_nil_of_length_eq_zero h0
     refine empty hxs (.inr ⟨a, c, ?_⟩)
     rw [hr.val, h0]
   · have hrun := run_append_nil (P := P) w t ty e i z hu hi hz a xs.length c news (by rw [hr.len, h3]) hr.cell (by omega) (by omega) (by rw [← hbi]; simp only [maxBytes] at hby; omega)
     have hge := grownCap_ge w xs.length 0 e
     have hcm : grownCap w xs.length 0 e ≤ maxLen := grownCap_le_maxLen w xs.length 0 e (by simp only [maxLen]; omega)
     obtain ⟨n1, n2, n3⟩ := newArr_sim S.drew (nb := nb) (cap := grownCap w xs.length 0 e) (es := xs) (C0 := news.toArray ++ Builtin.zeroCells z.cells (grownCap w xs.length 0 e - xs.length)) hok hn
      (by simp only [Array.size_append, List.size_toArray, size_zeroCells, h4, hr.len, ← Nat.add_mul]; congr 1; omega) hge hcm
      (fun i' j y t' hy ht hj => by
       obtain ⟨u, hu', hp⟩ := hr.el i' j y t' hy ht hj
       have hlt := (List.getElem?_eq_some_iff.1 hu').1
       refine ⟨u, ?_, Pure.drew hp⟩
       rw [Array.getElem?_append_left (by simpa using hlt)]
       simpa using hu')
     rw [hr.val]
     exact ⟨_, _, _, hrun, (Le.drew w I β hp).trans n1, n2, n3⟩
theorem append_sim (S : Sim P w I β hp B M w0) {t ty e : TypeId} {nb : Nat} {s x : Value} {sv xv : V} {r : R} {rd : List Nat} (hu : P.underlying t = some (.slice e)) (hs : VRel P w I β hp s sv) (hx : VRel P w I β hp x xv)
 (h : (appendRd P nb e sv xv).run C hp = some (r, rd)) : ValOk P ((Builtin.append_ #[t, t] ty #[s, x]).run P w) w I β hp B M w0 r := by
 unfold appendRd at h
 obtain ⟨hok, h⟩ := run_chk h
 obtain ⟨xs, hxr, l0, h⟩ := elems_sim S.h.rel hok hx h
 cases sv with
 | nilS e' =>
  obtain ⟨hc, h⟩ := run_chk h
  simp only [Bool.and_eq_true, Nat.beq_eq, Nat.ble_eq] at hc
  obtain ⟨hn, rfl⟩ := newRd_run h
  have hsv : s = .slice none 0 0 := by cases hs; rfl
  subst hsv
  obtain ⟨v, w', β', a1, a2, a3, a4⟩ := append_nil_sim (ty := ty) S hu hok hn hc.2 hxr
  exact ⟨v, w', I, β', a1, a2, a3, a4⟩
 | whole e' id =>
  obtain ⟨l, h⟩ := run_get h
  cases hid : hp id with
  | none => rw [hid] at h; cases h
  | some blk =>
   rw [hid] at h
   cases blk with
   | dead => cases h
   | var _ => cases h
   | nest _ _ _ => cases h
   | arr e'' es fz =>
    cases fz with
    | true => cases h
    | false =>
     obtain ⟨hc, h⟩ := run_chk h
     obtain ⟨hn, rfl⟩ := newRd_run h
     simp only [Bool.and_eq_true, Nat.beq_eq, Nat.ble_eq] at hc
     obtain ⟨he1, he2, hby⟩ := hc
     subst he1
     subst he2
     have hne : nb ≠ id := fun e => by rw [e, hid] at hn; cases hn
     obtain ⟨k1, k2⟩ := kill_sim S hid
     have hn1 : setN hp id (some Blk.dead) nb = none := by rw [setN_ne _ _ hne]; exact hn
     cases hs with
     | wholeDead hd => rw [hid] at hd; cases hd
     | wholeN hd => rw [hid] at hd; cases hd
     | wholeNil hd hb =>
      rw [hid] at hd
      cases hd
      simp only [List.length_nil, Nat.zero_add] at hby
      have hxr' : (x = .slice none 0 0 ∧ xs = []) ∨ ∃ a c news, Row P w I e x xs a c news := hxr
      obtain ⟨v, w', β', a1, a2, a3, a4⟩ := append_nil_sim (ty := ty) k2 hu hok hn1 hby hxr'
      exact ⟨v, w', I, β', a1, k1.trans a2, a3, a4⟩
     | @whole _ _ es' fz' b cap hd hb hsz hcap hm =>
      rw [hid] at hd
      cases hd
      have hr := S.h.rel id _ hid
      cases hr with
      | arrNil hb' => rw [hb'] at hb; cases hb
      | @arr _ _ _ b' Ca _ hb' hh hsA hf hnf hxA =>
       rw [hb] at hb'
       cases hb'
       obtain ⟨i, z, hi, hz, h3, h4, _⟩ := okTy_zero hok
       have hbp := okTy_bytes hok
       have hbi : P.bytesOf e = i.bytes := by simp [Program.bytesOf, hi]
       have hlen : es.length + xs.length ≤ 2 ^ 45 := by
        have : (es.length + xs.length) * 1 ≤ (es.length + xs.length) * P.bytesOf e := Nat.mul_le_mul_left _ hbp
        simp only [maxBytes] at hby
        omega
       rw [bsize_cells hh] at hsz
       have hfree : ∀ id' blk', setN hp id (some Blk.dead) id' = some blk' → ¬ Owns P w (β id') blk' b := by
        intro id' blk' h1 h2
        by_cases hii : id' = id
        · subst hii; rw [setN_same] at h1; cases h1; exact h2.alive rfl
        · rw [setN_ne _ _ hii] at h1
          exact hii (S.h.inj id' id blk' _ b h1 hid h2 (.root (by simp) hb))
       have hMb := S.h.own0 id _ b hid (by simp) hb
       have room : ∀ (C' : Array Value) (w' : World) (ys : List V), w'.heap[b]? = some (.cells C' e (0, 0)) → C'.size = Ca.size → (∀ b', b' ≠ b → w'.heap[b']? = w.heap[b']?) → w.heap.size ≤ w'.heap.size → (w'.os = w.os ∧ w'.output = w.output) → ys.length ≤ cap →
        (∀ (i j : Nat) (y : V) (t' : TypeId), ys[i]? = some y → (etys P e)[j]? = some t' → j < P.cellsOf e → ∃ v, C'[i * P.cellsOf e + j]? = some v ∧ Pure P w I t' v (epart P e y j)) →
        Le P w I β hp w' I (setN β nb (some b)) (setN (setN hp id (some .dead)) nb (some (.arr e ys false))) ∧ Sim P w' I (setN β nb (some b)) (setN (setN hp id (some .dead)) nb (some (.arr e ys false))) B M w0 ∧
        VRel P w' I (setN β nb (some b)) (setN (setN hp id (some .dead)) nb (some (.arr e ys false))) (.slice (some ⟨b, 0, none⟩) ys.length cap) (.whole e nb) := by
        intro C' w' ys hC hCs hw' hwz hwio hyl hy
        obtain ⟨a1, a2⟩ := adopt_sim k2 (blk := .arr e ys false) (w' := w') hn1 hfree (hnf rfl) (fun b' h _ => hw' b' h) hwz hwio hMb
         (fun b' h => (Option.some.inj (h.flat (by simp))).symm) (fun hle => .arr hok rfl hC (by rw [hCs, ← hsz]; exact Nat.mul_le_mul_right _ hyl) (fun h => by cases h) (fun _ => hnf rfl) fun i j y t' a b c => by
          obtain ⟨v, hv, hp⟩ := hy i j y t' a b c
          exact ⟨v, hv, hp.mono hle.imm hle.keep⟩)
        refine ⟨k1.trans a1, a2, .whole (setN_same _ _ _) (setN_same _ _ _) ?_ hyl hm⟩
        rw [bsize_cells hC, hCs, hsz]
       have same : xs = [] → (x = .slice none 0 0 ∨ ∃ a c, x = .slice (some a) 0 c) → ValOk P ((Builtin.append_ #[t, t] ty #[.slice (some ⟨b, 0, none⟩) es.length cap, x]).run P w) w I β hp B M w0 ⟨.whole e nb, [(nb, .arr e (es ++ xs) false), (id, .dead)]⟩ := by
        intro hxs hxx
        subst hxs
        rw [List.append_nil]
        obtain ⟨a1, a2, a3⟩ := room Ca w es hh rfl (fun _ _ => rfl) (Nat.le_refl _) ⟨rfl, rfl⟩ hcap hxA
        exact ⟨_, _, _, _, run_append_empty hu hi _ _ _ x hxx hcap, a1, a2, a3⟩
       rcases hxr with ⟨rfl, rfl⟩ | ⟨a, c, news, hrow⟩
       · exact same rfl (.inl rfl)
       · have h1 := hrow.one hok
         have hb1 : es.length * P.cellsOf e ≤ Ca.toList.length := by simpa using hsA
         by_cases hroom : es.length + xs.length ≤ cap
         · have hfit : es.length * P.cellsOf e + news.length ≤ Ca.size := by rw [hrow.len, ← Nat.add_mul, ← hsz]; exact Nat.mul_le_mul_right _ hroom
           have hrun := run_append_room (P := P) w t ty e i hu hi b es.length cap Ca hh a xs.length c news (by rw [hrow.len, h3]) hrow.cell h1 hroom (by rw [h3]; exact hfit)
           rw [h3] at hrun
           have hel := append_elems (P := P) (w := w) (I := I) (n := es.length) (c := Ca.toList) rfl (fun i j y t' a b c => by
            obtain ⟨v, hv, hp⟩ := hxA i j y t' a b c
            exact ⟨v, by simpa using hv, hp⟩) hrow.el hb1 (Ca.toList.drop (es.length * P.cellsOf e + news.length))
           obtain ⟨a1, a2, a3⟩ := room (Ca.toList.take (es.length * P.cellsOf e) ++ news ++ Ca.toList.drop (es.length * P.cellsOf e + news.length)).toArray (w.setRow b _) (es ++ xs)
            (setRow_heap w b Ca _ e _ hh) (by simp; omega) (fun b' hb' => setRow_other w b b' _ hb') (by simp) ⟨rfl, rfl⟩ (by simpa using hroom)
            (fun i j y t' a b c => by
             obtain ⟨v, hv, hp⟩ := hel i j y t' a b c
             exact ⟨v, by simpa using hv, hp⟩)
           rw [hrow.val]
           rw [List.length_append] at a3
           exact ⟨_, _, _, _, hrun, a1, a2, a3⟩
         · have hold : ∀ (j : Nat) v, (Ca.toList.take (es.length * P.cellsOf e))[j]? = some v → w.cell? ((⟨b, 0, none⟩ : Addr).add j) = some v := by
            intro j v hj
            have hjl := (List.getElem?_eq_some_iff.1 hj).1
            have hj2 : j < es.length * P.cellsOf e := by rw [List.length_take] at hjl; omega
            rw [List.getElem?_take_of_lt hj2] at hj
            rw [add_none, cell?_cells hh, Nat.zero_add]
            simpa using hj
           have hrun := run_append_grow (P := P) w t ty e i z hu hi hz ⟨b, 0, none⟩ es.length cap (Ca.toList.take (es.length * P.cellsOf e)) (by rw [h3]; simp; omega) hold a xs.length c news (by rw [hrow.len, h3]) hrow.cell (by omega) (by omega)
            (growslice_fits (by omega) (by rw [← hbi]; simp only [maxBytes] at hby; omega))
           have hge := grownCap_ge w (es.length + xs.length) cap e
           have hcm : grownCap w (es.length + xs.length) cap e ≤ maxLen := grownCap_le_maxLen w _ cap e (by simp only [maxLen]; omega)
           have hel := append_elems (P := P) (w := w) (I := I) (n := es.length) (c := Ca.toList) rfl (fun i j y t' a b c => by
            obtain ⟨v, hv, hp⟩ := hxA i j y t' a b c
            exact ⟨v, by simpa using hv, hp⟩) hrow.el hb1 (Builtin.zeroCells z.cells (grownCap w (es.length + xs.length) cap e - (es.length + xs.length))).toList
           obtain ⟨n1, n2, n3⟩ := newArr_sim k2.drew (nb := nb) (cap := grownCap w (es.length + xs.length) cap e) (es := es ++ xs)
            (C0 := (Ca.toList.take (es.length * P.cellsOf e)).toArray ++ news.toArray ++ Builtin.zeroCells z.cells (grownCap w (es.length + xs.length) cap e - (es.length + xs.length))) hok hn1
            (by
             have e1 : (Ca.toList.take (es.length * P.cellsOf e)).length = es.length * P.cellsOf e := by simp; omega
             simp only [Array.size_append, List.size_toArray, size_zeroCells, h4, hrow.len, e1, ← Nat.add_mul]; congr 1; omega) (by simpa using hge) hcm
            (fun i j y t' a b c => by
             obtain ⟨v, hv, hp⟩ := hel i j y t' a b c
             refine ⟨v, ?_, Pure.drew hp⟩
             rw [← Array.getElem?_toList]
             simpa using hv)
           rw [hrow.val]
           rw [List.length_append] at n3
           exact ⟨_, _, _, _, hrun, (k1.trans (Le.drew w I β _)).trans n1, n2, n3⟩
 | _ => cases h
end
end Go.AM

/-
 AM: the other operations; and all of them together.
-/
namespace Go.AM
section
variable {P : Program} {w w' : World} {I I' : Nat → Prop} {β β' : Nat → Option Nat} {hp hp' : Nat → Option Blk} {C : CallF} {B : Nat} {M : Nat → Prop} {w0 : Start}
theorem field_sim (S : Sim P w I β hp B M w0) {s : TypeId} {f : Nat} {v : Value} {x : V} {r : R} {rd : List Nat} (hv : VRel P w I β hp v x)
 (h : (fieldRd P s f x).run C hp = some (r, rd)) : ValOk P ((Instr.field s v f).run P w) w I β hp B M w0 r := by
 unfold fieldRd fieldOf at h
 split at h
 · rename_i fs hu
   cases hf : fs[f]? with
   | none => rw [hf] at h; cases h
   | some fd =>
    rw [hf] at h
    simp only [optRd] at h
    obtain ⟨ht, h⟩ := run_chk h
    obtain ⟨d, hud⟩ := optTy ht
    obtain ⟨i, hi⟩ := info_of_und hud
    have hsz : i.size = P.cellsOf fd.type := by simp [Program.cellsOf, hi]
    cases x with
    | agg xs =>
     obtain ⟨cs, rfl, h1, h2⟩ := hv.agg_inv
     dsimp only at h
     cases ha : isAggT P fd.type with
     | true =>
      rw [ha] at h
      simp only [cond_true] at h
      obtain ⟨hc, h⟩ := run_chk h
      obtain rfl := run_ret' h
      rw [Nat.ble_eq] at hc
      refine .same S (v := .agg (cs.extract fd.offset (fd.offset + P.cellsOf fd.type))) ?_ (.agg (by simp; omega) fun j u y hu' hy => ?_)
      · simp [Instr.field, run_underlying hu, hf, part, isAgg_run hud, ha, asAgg, sizeOf, typeInfo, hi, hsz]
      · have hj : j < P.cellsOf fd.type := by
         have := (Array.getElem?_eq_some_iff.1 hu').1
         simp at this; omega
        rw [List.getElem?_take_of_lt hj, List.getElem?_drop] at hy
        refine h2 (fd.offset + j) u y ?_ hy
        rw [Array.getElem?_extract] at hu'
        split at hu'
        · exact hu'
        · cases hu'
     | false =>
      rw [ha] at h
      simp only [cond_false] at h
      obtain ⟨y, hy, h⟩ := run_opt h
      obtain rfl := run_ret' h
      have hlt : fd.offset < cs.size := by rw [h1]; exact (List.getElem?_eq_some_iff.1 hy).1
      refine .same S (v := cs[fd.offset]) ?_ (h2 _ _ _ (Array.getElem?_eq_getElem hlt) hy)
      simp [Instr.field, run_underlying hu, hf, part, isAgg_run hud, ha, asAgg, hlt]
    | _ => cases h
 · cases h
theorem extract_sim (S : Sim P w I β hp B M w0) {i : Nat} {v : Value} {xs : List V} {r : R} {rd : List Nat} (hv : VRel P w I β hp v (.tup xs))
 (h : (Rd.opt xs[i]? fun v => .ret ⟨v, []⟩).run C hp = some (r, rd)) : ValOk P ((Instr.extract v i).run P w) w I β hp B M w0 r := by
 obtain ⟨cs, rfl, h1, h2⟩ := hv.tup_inv
 obtain ⟨y, hy, h⟩ := run_opt h
 obtain rfl := run_ret' h
 have hlt : i < cs.size := by rw [h1]; exact (List.getElem?_eq_some_iff.1 hy).1
 exact .same S (v := cs[i]) (by simp [Instr.extract, hlt]) (h2 _ _ _ (Array.getElem?_eq_getElem hlt) hy)
theorem index_sim (S : Sim P w I β hp B M w0) {t : TypeId} {s : ByteArray} {l : List UInt8} {k : IntKind} {i : Int} {r : R} {rd : List Nat} (hu : P.underlying t = some .string) (hs : s.data.toList = l)
 (h : (Rd.opt (bif decide (0 ≤ i) then (l[i.toNat]?).map fun b => V.int .u8 b.toNat else none) fun v => .ret ⟨.int .u8 v.toInt, []⟩).run C hp = some (r, rd)) :
 ValOk P ((Instr.index t (.string s) (.int k i)).run P w) w I β hp B M w0 r := by
 obtain ⟨v, hv, h⟩ := run_opt h
 obtain rfl := run_ret' h
 cases hc : decide (0 ≤ i) with
 | false => rw [hc] at hv; cases hv
 | true =>
  rw [hc] at hv
  simp only [cond_true] at hv
  have h0 : 0 ≤ i := by simpa using hc
  cases hb : l[i.toNat]? with
  | none => rw [hb] at hv; cases hv
  | some b =>
   rw [hb] at hv
   simp only [Option.map_some, Option.some.injEq] at hv
   subst hv
   have hsb : s[i.toNat]? = some b := by
    subst hs
    obtain ⟨hlt, he⟩ := List.getElem?_eq_some_iff.1 hb
    have hlt' : i.toNat < s.size := by simpa using hlt
    rw [getElem?_pos s i.toNat hlt']
    congr 1
   refine .same S (v := .int .u8 b.toNat) ?_ .int
   simp [Instr.index, asIntOf, run_underlying hu, h0, hsb]
theorem minMax_sim (S : Sim P w I β hp B M w0) (mx : Bool) : ∀ {vs : List Value} {xs : List V} {v : Value} {x : V} {r : R} {rd : List Nat}, VRel P w I β hp v x → vs.length = xs.length →
 (∀ (j : Nat) u y, vs[j]? = some u → xs[j]? = some y → VRel P w I β hp u y) → (minMax mx x xs).run C hp = some (r, rd) →
 ValOk P ((vs.foldlM (if mx then Builtin.max2 else Builtin.min2) v).run P w) w I β hp B M w0 r
 | [], [], v, x, r, rd, hv, _, _, h => by
  have : r = ⟨x, []⟩ := by
   cases x <;> (simp only [minMax] at h; exact (run_ret' h).symm)
  subst this
  exact .same S (by simp) hv
 | [], _ :: _, v, x, r, rd, hv, hl, _, h => by simp at hl
 | _ :: _, [], v, x, r, rd, hv, hl, _, h => by simp at hl
 | u :: vs, y :: xs, v, x, r, rd, hv, hl, hx, h => by
  cases x <;> cases y <;> simp only [minMax] at h <;> first | (cases h; done) | skip
  rename_i k a k' b
  obtain ⟨hc, h4⟩ := run_chk h
  clear h
  obtain rfl : k = k' := by simpa using hc
  have hu := hx 0 u _ rfl rfl
  rw [hv.int_inv, hu.int_inv]
  have ih := minMax_sim S mx (vs := vs) (xs := xs) (v := .int k (bif mx then (if b > a then b else a) else (if b < a then b else a))) .int (by simpa using hl)
   (fun j u y h1 h2 => hx (j + 1) u y (by simpa using h1) (by simpa using h2)) h4
  cases mx with
  | true => simpa [List.foldlM_cons, Builtin.max2] using ih
  | false => simpa [List.foldlM_cons, Builtin.min2] using ih
theorem bounds_sim {n cap : Nat} {isS : Bool} {lo hi : Option V} {lov hiv : Option Value} {k : Nat → Nat → Rd R} {r : R} {rd : List Nat} (hn : n ≤ cap)
 (hlo : ∀ x, lo = some x → ∃ v, lov = some v ∧ VRel P w I β hp v x) (hhi : ∀ x, hi = some x → ∃ v, hiv = some v ∧ VRel P w I β hp v x) (hlo0 : lo = none → lov = none) (hhi0 : hi = none → hiv = none)
 (h : (boundsRd n lo hi k).run C hp = some (r, rd)) : ∃ l u, l ≤ u ∧ u ≤ n ∧ (Instr.sliceBounds isS n cap lov hiv none).run P w = .ok (l, u, cap) w ∧ (k l u).run C hp = some (r, rd) := by
 have ok : ∀ (kk : IntKind) (i : Int) (y : Nat) (c : BoundsCode), 0 ≤ i → i ≤ y → (Instr.sliceBound (.int kk i) y c).run P w = .ok i.toNat w := by
  intro kk i y c h1 h2
  simp [Instr.sliceBound, asIntOf, h1, h2]
 unfold boundsRd at h
 cases lo with
 | none =>
  rw [hlo0 rfl]
  cases hi with
  | none =>
   rw [hhi0 rfl]
   exact ⟨0, n, Nat.zero_le _, Nat.le_refl _, by simp [Instr.sliceBounds], h⟩
  | some x =>
   obtain ⟨v, rfl, hv⟩ := hhi x rfl
   cases x <;> simp only at h <;> first | (cases h; done) | skip
   rename_i kk u
   obtain ⟨hc, h⟩ := run_chk h
   simp only [Bool.and_eq_true, decide_eq_true_eq] at hc
   rw [hv.int_inv]
   have := ok kk u cap (if isS then .sliceAcap else .sliceAlen) hc.1 (by omega)
   exact ⟨0, u.toNat, Nat.zero_le _, by omega, by simp [Instr.sliceBounds, this], h⟩
 | some x =>
  obtain ⟨v, rfl, hv⟩ := hlo x rfl
  cases hi with
  | none =>
   rw [hhi0 rfl]
   cases x <;> simp only at h <;> first | (cases h; done) | skip
   rename_i kk l
   obtain ⟨hc, h⟩ := run_chk h
   simp only [Bool.and_eq_true, decide_eq_true_eq] at hc
   rw [hv.int_inv]
   have := ok kk l n .sliceB hc.1 (by omega)
   exact ⟨l.toNat, n, by omega, Nat.le_refl _, by simp [Instr.sliceBounds, this], h⟩
  | some y =>
   obtain ⟨v2, rfl, hv2⟩ := hhi y rfl
   cases x <;> cases y <;> simp only at h <;> first | (cases h; done) | skip
   rename_i kk l kk2 u
   obtain ⟨hc, h⟩ := run_chk h
   simp only [Bool.and_eq_true, decide_eq_true_eq] at hc
   rw [hv.int_inv, hv2.int_inv]
   have h1 := ok kk2 u cap (if isS then .sliceAcap else .sliceAlen) (by omega) (by omega)
   have h2 := ok kk l u.toNat .sliceB hc.1 (by omega)
   exact ⟨l.toNat, u.toNat, by omega, by omega, by simp [Instr.sliceBounds, h1, h2], h⟩
theorem slice_nil_run {t e : TypeId} {i : TypeInfo} (hu : P.underlying t = some (.slice e)) (hi : P.info? e = some i) {lov hiv : Option Value}
 (hb : (Instr.sliceBounds true 0 0 lov hiv none).run P w = .ok (0, 0, 0) w) : (Instr.sliceAt t (.slice none 0 0) lov hiv none).run P w = .ok (.slice none 0 0) w := by
 simp [Instr.sliceAt, Instr.slice, run_underlying hu, hb, sizeOf, typeInfo, hi]
theorem slice_run {t e : TypeId} {i : TypeInfo} {b o len cap l u : Nat} (hu : P.underlying t = some (.slice e)) (hi : P.info? e = some i) {lov hiv : Option Value} (huc : u ≤ cap)
 (hb : (Instr.sliceBounds true len cap lov hiv none).run P w = .ok (l, u, cap) w) : ∃ o', (0 < u - l → o' = o + l * i.size) ∧ (Instr.sliceAt t (.slice (some ⟨b, o, none⟩) len cap) lov hiv none).run P w = .ok (.slice (some ⟨b, o', none⟩) (u - l) (cap - l)) w := by
 by_cases hc : cap = l
 · subst hc
   refine ⟨o, fun h => by omega, ?_⟩
   · simp [Instr.sliceAt, Instr.slice, run_underlying hu, hb, sizeOf, typeInfo, hi]
 · refine ⟨o + l * i.size, fun _ => rfl, ?_⟩
   simp [Instr.sliceAt, Instr.slice, run_underlying hu, hb, sizeOf, typeInfo, hi, hc, add_none]
theorem bytes_sub (s : ByteArray) (l : List UInt8) (h : s.data.toList = l) (a b : Nat) : (s.extract a b).data.toList = (l.drop a).take (b - a) := by
 subst h
 simp [ByteArray.data_extract]
theorem slice_sim (S : Sim P w I β hp B M w0) {t : TypeId} {v : Value} {x : V} {lo hi : Option V} {lov hiv : Option Value} {r : R} {rd : List Nat} (hv : VRel P w I β hp v x)
 (hlo : ∀ x, lo = some x → ∃ v, lov = some v ∧ VRel P w I β hp v x) (hhi : ∀ x, hi = some x → ∃ v, hiv = some v ∧ VRel P w I β hp v x) (hlo0 : lo = none → lov = none) (hhi0 : hi = none → hiv = none)
 (h : (sliceRd P t x lo hi).run C hp = some (r, rd)) : ValOk P ((Instr.sliceAt t v lov hiv none).run P w) w I β hp B M w0 r := by
 unfold sliceRd at h
 cases hu : P.underlying t with
 | none => rw [hu] at h; cases h
 | some d =>
  rw [hu] at h
  cases d <;> simp only at h <;> first | (cases h; done) | skip
  case string =>
   cases x <;> simp only at h <;> first | (cases h; done) | skip
   rename_i l
   obtain ⟨s, rfl, hs⟩ := hv.str_inv
   have hsz : l.length = s.size := by rw [← hs]; simp
   obtain ⟨a, u, h1, h2, h3, h4⟩ := bounds_sim (isS := false) (cap := s.size) (by omega) hlo hhi hlo0 hhi0 h
   obtain rfl := run_ret' h4
   rw [hsz] at h3
   refine .same S (v := .string (s.extract a u)) ?_ (.str (bytes_sub s l hs a u))
   simp [Instr.sliceAt, Instr.slice, run_underlying hu, h3]
  case slice e =>
   cases x <;> simp only at h <;> first | (cases h; done) | skip
   case list e' es =>
    obtain ⟨hc, h⟩ := run_chk h
    simp only [Bool.and_eq_true, Nat.beq_eq] at hc
    obtain ⟨hc1, hok⟩ := hc
    obtain ⟨i, z, hi', _, hsz, _⟩ := okTy_zero hok
    cases hv with
    | list hp' =>
     cases hp' with
     | nil =>
      obtain ⟨a, u, h1, h2, h3, h4⟩ := bounds_sim (n := 0) (isS := true) (cap := 0) (Nat.le_refl _) hlo hhi hlo0 hhi0 h
      obtain rfl := run_ret' h4
      obtain rfl : u = 0 := by omega
      obtain rfl : a = 0 := by omega
      exact .same S (slice_nil_run hu hi' h3) (by simpa using VRel.list PList.nil)
     | @emp ad cap =>
      obtain ⟨a, u, h1, h2, h3, h4⟩ := bounds_sim (n := 0) (isS := true) (cap := cap) (Nat.zero_le _) hlo hhi hlo0 hhi0 h
      obtain rfl := run_ret' h4
      obtain rfl : u = 0 := by omega
      obtain rfl : a = 0 := by omega
      refine .same S (v := .slice (some ad) 0 cap) ?_ (by simpa using VRel.list PList.emp)
      by_cases hc : cap = 0
      · subst hc
        simp [Instr.sliceAt, Instr.slice, run_underlying hu, h3, sizeOf, typeInfo, hi']
      · simp [Instr.sliceAt, Instr.slice, run_underlying hu, h3, sizeOf, typeInfo, hi', hc, Addr.add]
     | @list b o len cap _ g hl hcap hI hcell hx =>
      obtain ⟨a, u, h1, h2, h3, h4⟩ := bounds_sim (isS := true) (cap := cap) (by omega) hlo hhi hlo0 hhi0 h
      obtain rfl := run_ret' h4
      rw [hl] at h2 h3
      obtain ⟨o', ho', hrun⟩ := slice_run (b := b) (o := o) hu hi' (by omega) h3
      have hee : e = e' := hc1
      refine .same S hrun (.list ?_)
      rw [← hee]
      rw [← hee] at hcell hx hI
      have hlen : ((es.drop a).take (u - a)).length = u - a := by simp; omega
      refine .list (fun i j => g (a + i) j) hlen (by omega) (fun h => hI (Nat.lt_of_lt_of_le h (Nat.mul_le_mul_right _ (by omega)))) (fun i j hi hj => ?_) (fun i j y t' hy ht => ?_)
      · have := hcell (a + i) j (by omega) hj
        rw [Nat.add_mul, Nat.add_assoc, ← Nat.add_assoc o] at this
        rw [ho' (by omega), hsz]
        exact this
      · have hi : i < u - a := by rw [← hlen]; exact (List.getElem?_eq_some_iff.1 hy).1
        rw [List.getElem?_take_of_lt hi, List.getElem?_drop] at hy
        exact hx (a + i) j y t' hy ht
   case whole e' id =>
    obtain ⟨l, h⟩ := run_get h
    cases hid : hp id with
    | none => rw [hid] at h; cases h
    | some blk =>
     rw [hid] at h
     cases blk <;> simp only at h <;> first | (cases h; done) | skip
     rename_i e'' es fz
     obtain ⟨hc, h9⟩ := run_chk h
     clear h
     simp only [Bool.and_eq_true, Nat.beq_eq] at hc
     obtain ⟨hc1, hc2, hok⟩ := hc
     obtain ⟨i, z, hi', _, hsz, _⟩ := okTy_zero hok
     cases hv with
     | wholeDead hd => rw [hid] at hd; cases hd
     | wholeN hd => rw [hid] at hd; cases hd
     | wholeNil hd hb =>
      rw [hid] at hd
      cases hd
      obtain ⟨a, u, h1, h2, h3, h4⟩ := bounds_sim (n := 0) (isS := true) (cap := 0) (Nat.le_refl _) hlo hhi hlo0 hhi0 h9
      obtain rfl := run_ret' h4
      obtain rfl : u = 0 := by omega
      obtain rfl : a = 0 := by omega
      exact .same S (slice_nil_run hu hi' h3) (.subNil hid hb)
     | @whole _ _ es' fz' b cap hd hb hsz2 hcap hm =>
      have hd' := hd
      rw [hid] at hd
      cases hd
      obtain ⟨a, u, h1, h2, h3, h4⟩ := bounds_sim (isS := true) (cap := cap) hcap hlo hhi hlo0 hhi0 h9
      obtain rfl := run_ret' h4
      obtain ⟨o', ho', hrun⟩ := slice_run (b := b) (o := 0) hu hi' (by omega) h3
      have hee : e = e' := hc1
      exact .same S hrun (.sub hd' hb (by omega) (by omega) (fun h => by rw [ho' h, hsz, hee, Nat.zero_add]))
   case sub e' id off len =>
    obtain ⟨l, h⟩ := run_get h
    cases hid : hp id with
    | none => rw [hid] at h; cases h
    | some blk =>
     rw [hid] at h
     cases blk <;> simp only at h <;> first | (cases h; done) | skip
     rename_i e'' es fz
     obtain ⟨hc, h⟩ := run_chk h
     simp only [Bool.and_eq_true, Nat.beq_eq] at hc
     obtain ⟨hc1, hc2, hok⟩ := hc
     obtain ⟨i, z, hi', _, hsz, _⟩ := okTy_zero hok
     cases hv with
     | subDead hd => rw [hid] at hd; cases hd
     | subNil hd hb =>
      have hd' := hd
      obtain ⟨a, u, h1, h2, h3, h4⟩ := bounds_sim (isS := true) (cap := 0) (Nat.le_refl _) hlo hhi hlo0 hhi0 h
      obtain rfl := run_ret' h4
      obtain rfl : u = 0 := by omega
      obtain rfl : a = 0 := by omega
      exact .same S (slice_nil_run hu hi' h3) (.subNil hd' hb)
     | @sub _ _ _ _ es' fz' b o cap hd hb hol hcap ho =>
      have hd' := hd
      obtain ⟨a, u, h1, h2, h3, h4⟩ := bounds_sim (isS := true) (cap := cap) hcap hlo hhi hlo0 hhi0 h
      obtain rfl := run_ret' h4
      obtain ⟨o', ho', hrun⟩ := slice_run (b := b) (o := o) hu hi' (by omega) h3
      have hee : e = e' := hc1
      exact .same S hrun (.sub hd' hb (by omega) (by omega) (fun h => by rw [ho' h, hsz, ho (by omega), hee, Nat.add_mul]))
theorem indexAddr_sim (S : Sim P w I β hp B M w0) {t : TypeId} {v ix : Value} {x y : V} {r : R} {rd : List Nat} (hv : VRel P w I β hp v x) (hy : VRel P w I β hp ix y)
 (h : (indexAddrRd P t x y).run C hp = some (r, rd)) : ValOk P ((Instr.indexAt t v ix).run P w) w I β hp B M w0 r := by
 unfold indexAddrRd at h
 cases hu : P.underlying t with
 | none => rw [hu] at h; cases h
 | some d =>
  rw [hu] at h
  cases y <;> (try (cases d <;> cases h; done))
  rename_i k i
  rw [hy.int_inv]
  cases d <;> simp only at h <;> first | (cases h; done) | skip
  case slice e =>
   have run : ∀ (b o len cap : Nat) (ie : TypeInfo), P.info? e = some ie → 0 ≤ i → i < (len : Int) → (Instr.indexAt t (.slice (some ⟨b, o, none⟩) len cap) (.int k i)).run P w = .ok (.pointer (some ⟨b, o + i.toNat * ie.size, none⟩)) w := by
    intro b o len cap ie hie h0 h1
    simp [Instr.indexAt, asIntOf, run_underlying hu, h0, h1, sizeOf, typeInfo, hie, add_none]
   cases x <;> simp only at h <;> first | (cases h; done) | skip
   case list e' es =>
    obtain ⟨hc, h⟩ := run_chk h
    simp only [Bool.and_eq_true, Nat.beq_eq] at hc
    obtain ⟨hc1, hok⟩ := hc
    have hee : e = e' := hc1
    obtain ⟨ie, z, hi', _, hsz, _⟩ := okTy_zero hok
    obtain ⟨el, hel, h⟩ := run_opt h
    obtain rfl := run_ret' h
    unfold idx at hel
    cases h0 : decide (0 ≤ i) with
    | false => rw [h0] at hel; cases hel
    | true =>
     rw [h0] at hel
     simp only [cond_true] at hel
     have h0' : 0 ≤ i := by simpa using h0
     have hlt : i.toNat < es.length := (List.getElem?_eq_some_iff.1 hel).1
     cases hv with
     | list hp' =>
      cases hp' with
      | nil => simp at hlt
      | emp => simp at hlt
      | @list b o len cap _ g hl hcap hI hcell hx =>
       rw [← hee] at hcell hx hI
       refine .same S (run b o len cap ie hi' h0' (by omega)) ?_
       have hpl := parts_length (P := P) e el
       have hok2 := okTy_etys hok
       have hety : (bif isAggT P e then flat P e else [e]) = etys P e := rfl
       rw [hety]
       refine .pref (by rw [hpl]) (fun _ => hI ?_) (fun j t' y' ht hy' => ?_)
       · have := Nat.mul_pos (show 0 < len by omega) (okTy_len hok).2
         exact this
       · obtain ⟨t2, a1, a2⟩ := parts_get hy'
         rw [ht] at a1; cases a1
         have hj : j < P.cellsOf e := by rw [← hok2]; exact (List.getElem?_eq_some_iff.1 ht).1
         have hp2 := hx i.toNat j el t' hel ht
         refine ⟨g i.toNat j, ?_, ?_⟩
         · rw [hsz, Nat.add_assoc]; exact hcell i.toNat j (by omega) hj
         · rw [a2, hp2.retype1_eq]; exact hp2
   case whole e' id =>
    obtain ⟨l, h⟩ := run_get h
    cases hid : hp id with
    | none => rw [hid] at h; cases h
    | some blk =>
     rw [hid] at h
     cases blk <;> simp only at h <;> first | (cases h; done) | skip
     rename_i e'' es fz
     obtain ⟨hc, h⟩ := run_chk h
     simp only [Bool.and_eq_true, Nat.beq_eq] at hc
     obtain ⟨hc1, hc2⟩ := hc
     obtain ⟨hb0, h⟩ := run_chk h
     simp only [Bool.and_eq_true, decide_eq_true_eq] at hb0
     obtain rfl := run_ret' h
     cases hv with
     | wholeDead hd => rw [hid] at hd; cases hd
     | wholeN hd => rw [hid] at hd; cases hd
     | wholeNil hd hb => rw [hid] at hd; cases hd; simp at hb0; omega
     | @whole _ _ es' fz' b cap hd hb hsz2 hcap hm =>
      have hd' := hd
      rw [hid] at hd
      cases hd
      have hr := S.h.rel id _ hid
      cases hr with
      | arrNil hb' => rw [hb'] at hb; cases hb
      | arr hok hb' hh hs hf hnf hx =>
       have hee : e = e' := hc1
       obtain ⟨ie, z, hi', _, hsz, _⟩ := okTy_zero hok
       rw [← hee] at hi' hsz
       refine .same S (run b 0 _ cap ie hi' hb0.1 hb0.2) ?_
       have := VRel.ptr (P := P) (w := w) (I := I) (i := i.toNat) (c := 0) hd' (by simp) hb
       simp only [Blk.sz] at this
       rw [Nat.zero_add, hsz, hee]
       simpa using this
     rename_i e'' es vers
     obtain ⟨hc, h⟩ := run_chk h
     simp only [Bool.and_eq_true, Nat.beq_eq] at hc
     obtain ⟨hc1, hc2⟩ := hc
     obtain ⟨hb0, h⟩ := run_chk h
     simp only [Bool.and_eq_true, decide_eq_true_eq] at hb0
     obtain rfl := run_ret' h
     cases hv with
     | wholeDead hd => rw [hid] at hd; cases hd
     | wholeNil hd hb => rw [hid] at hd; cases hd
     | whole hd => rw [hid] at hd; cases hd
     | @wholeN _ _ es' vers' b cap hd hb hsz2 hcap hm =>
      have hd' := hd
      rw [hid] at hd
      cases hd
      have hok := (S.rows hd' hb .here).ok
      have hee : e = e' := hc1
      obtain ⟨ie, z, hi', _, hsz, _⟩ := okTy_zero hok
      rw [← hee] at hi' hsz
      refine .same S (run b 0 _ cap ie hi' hb0.1 hb0.2) ?_
      have := VRel.ptr (P := P) (w := w) (I := I) (i := i.toNat) (c := 0) hd' (by simp) hb
      simp only [Blk.sz] at this
      rw [Nat.zero_add, hsz, hee]
      simpa using this
   case row e' id ver path =>
    obtain ⟨e0, es, vers, l, hid, h1, h2, h3, h⟩ := rowAt_run h
    obtain ⟨e2, v', k1, k2, h⟩ := rowRd_run h
    obtain ⟨hc, h⟩ := run_chk h
    simp only [Bool.and_eq_true, Nat.beq_eq] at hc
    obtain ⟨hc1, hc2⟩ := hc
    obtain ⟨hb0, h⟩ := run_chk h
    simp only [Bool.and_eq_true, decide_eq_true_eq] at hb0
    obtain rfl := run_ret' h
    cases hv with
    | rowPast hd hp' => rw [hid] at hd; cases hd; exact absurd hp' (not_past h1 h2 h3)
    | @row v _ e0 t1 _ ver b i1 c1 q es l1 vers hd hb hq hver ht hcell =>
     have hcell' := hcell
     obtain ⟨b', e3, es', Ca, T, f, x, m1, m2, m3, m4, m5, m6⟩ := hcell
     have hd2 := hd
     rw [hid] at hd2
     cases hd2
     obtain ⟨n1, n2⟩ := rowV_snoc m1 m3 m4 ht m5
     rw [n2] at k2
     cases k2
     simp only [V.toList] at hb0
     have hR := S.rows hd hb m1
     obtain ⟨C1, c2, c3, c4⟩ := hR.cells
     rw [m2] at c2
     cases c2
     have hj : c1 < P.cellsOf e3 := by
      rw [← okTy_etys hR.ok]; exact (List.getElem?_eq_some_iff.1 m4).1
     obtain ⟨v2, d1, d2⟩ := c4 _ _ _ _ m3 m4 hj
     rw [m6] at d1
     cases d1
     rw [m5] at d2
     cases d2 with
     | scal a _ => unfold scalarT at a; rw [ht] at a; cases a
     | emp _ _ => simp at hb0; omega
     | @row _ _ b1 cap _ hl _ _ _ =>
      have hok := (S.rows hd hb (m1.snoc m2 m3 m4 ht m5 hl m6)).ok
      have hee : e = e' := hc1
      obtain ⟨ie, z, hi', _, hsz, _⟩ := okTy_zero hok
      rw [← hee] at hi' hsz
      refine .same S (run b1 0 _ cap ie hi' hb0.1 hb0.2) ?_
      have := VRel.elt (P := P) (I := I) (i := i.toNat) (c := 0) hd hb hq hver ht hl hcell'
      rw [Nat.zero_add, hsz, hee]
      simpa using this
   case sub e' id off len =>
    obtain ⟨l, h⟩ := run_get h
    cases hid : hp id with
    | none => rw [hid] at h; cases h
    | some blk =>
     rw [hid] at h
     cases blk <;> simp only at h <;> first | (cases h; done) | skip
     rename_i e'' es fz
     obtain ⟨hc, h⟩ := run_chk h
     simp only [Bool.and_eq_true, Nat.beq_eq] at hc
     obtain ⟨hc1, hc2⟩ := hc
     obtain ⟨hb0, h⟩ := run_chk h
     simp only [Bool.and_eq_true, decide_eq_true_eq] at hb0
     obtain rfl := run_ret' h
     cases hv with
     | subDead hd => rw [hid] at hd; cases hd
     | subNil hd hb => simp at hb0; omega
     | @sub _ _ _ _ es' fz' b o cap hd hb hol hcap ho =>
      have hd' := hd
      rw [hid] at hd
      cases hd
      have hr := S.h.rel id _ hid
      cases hr with
      | arrNil hb' => rw [hb'] at hb; cases hb
      | arr hok hb' hh hs hf hnf hx =>
       have hee : e = e' := hc1
       obtain ⟨ie, z, hi', _, hsz, _⟩ := okTy_zero hok
       rw [← hee] at hi' hsz
       refine .same S (run b o _ cap ie hi' hb0.1 hb0.2) ?_
       have := VRel.ptr (P := P) (w := w) (I := I) (i := off + i.toNat) (c := 0) hd' (by simp) hb
       simp only [Blk.sz] at this
       rw [ho (by omega), hsz, hee, ← Nat.add_mul]
       simpa using this
  case array n e =>
   have run : ∀ (b o : Nat) (ie : TypeInfo), P.info? e = some ie → 0 ≤ i → i < (n : Int) → (Instr.indexAt t (.pointer (some ⟨b, o, none⟩)) (.int k i)).run P w = .ok (.pointer (some ⟨b, o + i.toNat * ie.size, none⟩)) w := by
    intro b o ie hie h0 h1
    simp [Instr.indexAt, asIntOf, run_underlying hu, h0, h1, sizeOf, typeInfo, hie, add_none, Instr.sureAddr]
   cases x <;> simp only at h <;> first | (cases h; done) | skip
   case ptr id j c =>
    obtain ⟨⟨blk, hid, hd⟩, l, h⟩ := run_alive h
    obtain ⟨hb0, h⟩ := run_chk h
    simp only [Bool.and_eq_true, decide_eq_true_eq] at hb0
    obtain rfl := run_ret' h
    obtain ⟨b, hb, rfl⟩ := hv.ptr_inv hid hd
    obtain ⟨d, hud⟩ := optTy hb0.1
    obtain ⟨ie, hie⟩ := info_of_und hud
    have hsz : ie.size = P.cellsOf e := by simp [Program.cellsOf, hie]
    refine .same S (run b _ ie hie hb0.2.1 hb0.2.2) ?_
    rw [hsz, Nat.add_assoc]
    exact .ptr hid hd hb
   case pref ts cs =>
    obtain ⟨hb0, h⟩ := run_chk h
    simp only [Bool.and_eq_true, decide_eq_true_eq] at hb0
    obtain rfl := run_ret' h
    obtain ⟨b, o, rfl, h1, h2, h3⟩ := hv.pref_inv
    obtain ⟨d, hud⟩ := optTy hb0.1
    obtain ⟨ie, hie⟩ := info_of_und hud
    have hsz : ie.size = P.cellsOf e := by simp [Program.cellsOf, hie]
    refine .same S (run b _ ie hie hb0.2.1 hb0.2.2) ?_
    rw [hsz]
    exact VRel.pref_drop h1 h2 h3
end
end Go.AM

/-
 AM: every operation but the calls of functions.
-/
namespace Go.AM
section
variable {P : Program} {w w' : World} {I I' : Nat → Prop} {β β' : Nat → Option Nat} {hp hp' : Nat → Option Blk} {C : CallF} {B : Nat} {M : Nat → Prop} {w0 : Start}
theorem pushes_toList : ∀ (ns : List Int) (s : ByteArray), (ns.foldl (fun r n => r.push (UInt8.ofNat n.toNat)) s).data.toList = s.data.toList ++ ns.map fun n => UInt8.ofNat n.toNat
 | [], s => by simp
 | n :: ns, s => by
  simp only [List.foldl_cons, pushes_toList ns, List.map_cons]
  simp [ByteArray.push]
theorem u8_inv {e : TypeId} {u : Value} {x : V} (he : P.underlying e = some (.int .u8)) (hp : Pure P w I e u x) : u = .int .u8 x.toInt := by
 cases hp with
 | int hp' => rw [he] at hp'; cases hp'; rfl
 | bool hp' => rw [he] at hp'; cases hp'
 | str hp' => rw [he] at hp'; cases hp'
 | nil hp' => rw [he] at hp'; cases hp'
 | emp hp' => rw [he] at hp'; cases hp'
 | list _ hp' => rw [he] at hp'; cases hp'
theorem bytes_sim (S : Sim P w I β hp B M w0) {src dst e : TypeId} {v : Value} {x : V} {r : R} {rd : List Nat} (hs : P.underlying src = some (.slice e)) (he : P.underlying e = some (.int .u8)) (hd : P.underlying dst = some .string)
 (hv : VRel P w I β hp v x) (h : (Rd.chk (okTy P e) (elemsRd e x fun es => .ret ⟨.str (bytesOfV es), []⟩)).run C hp = some (r, rd)) : ValOk P ((convert src dst v).run P w) w I β hp B M w0 r := by
 obtain ⟨hok, h⟩ := run_chk h
 obtain ⟨xs, hx, l, h⟩ := elems_sim S.h.rel hok hv h
 obtain rfl := run_ret' h
 have hna : isAggT P e = false := by simp [isAggT, he]
 have h1 : P.cellsOf e = 1 := by rw [← (okTy_len hok).1, flat_scalar hna]; rfl
 rcases hx with ⟨rfl, rfl⟩ | ⟨a, c, news, hr⟩
 · refine .same S (v := .string .empty) ?_ (.str (by simp [bytesOfV]))
   rw [run_convert_bytes_string w src dst e none 0 0 hs he hd]
   simp [Conv.bytesToString]
 · have hnews : news = (xs.map V.toInt).map (Value.int .u8) := by
    apply List.ext_getElem?
    intro j
    by_cases hj : j < xs.length
    · obtain ⟨u, hu, hp⟩ := hr.el j 0 xs[j] e (List.getElem?_eq_getElem hj) (by simp [etys, hna]) (by omega)
      rw [h1] at hu
      simp only [epart, hna, cond_false] at hp
      have hu' : news[j]? = some u := by simpa using hu
      rw [hu']
      have := u8_inv he hp
      simp [hj, ← this]
    · have hl : news.length = xs.length := by rw [hr.len, h1]; simp
      rw [List.getElem?_eq_none (by omega), List.getElem?_eq_none (by simp; omega)]
   have hload := run_loadCells_list (P := P) w a news hr.cell
   have hl : news.length = xs.length := by rw [hr.len, h1]; simp
   rw [hl] at hload
   rw [hnews] at hload
   refine .same S (v := .string ((xs.map V.toInt).foldl (fun r n => r.push (UInt8.ofNat n.toNat)) ByteArray.empty)) ?_ (.str ?_)
   · rw [hr.val, run_convert_bytes_string w src dst e _ _ _ hs he hd]
     exact run_bytesToString w a xs.length c (xs.map V.toInt) hload
   · rw [pushes_toList]
     simp [bytesOfV]
/-- Is the operation a call of a Go function? -/
def isCall : Op → Bool
 | .call { callee := .value (.func _), .. } => true
 | _ => false
theorem OpOk.val {o : Oper} {a : Act} {s : Sem Value} {r : R} (he : execOp a.eval o = (do Pure.pure (Next.value (← s)))) (h : ValOk P (s.run P w) w I β hp B M w0 r) : OpOk P ((execOp a.eval o).run P w) w I β hp B M w0 r := by
 rw [he]; exact h.op
theorem op_sim {A : Ann} (S : Sim P w I β hp B M w0) {a : Act} {sl : Nat → V} (hs : SRel P w I β hp a sl) {nb : Nat} {o : Oper} (hnc : isCall o.op = false) {r : R} {rd : List Nat}
 (h : (opRd P A sl nb o).run C hp = some (r, rd)) : OpOk P ((execOp a.eval o).run P w) w I β hp B M w0 r := by
 obtain ⟨dst, op, ty, pos, after, guard⟩ := o
 cases op <;> simp only [opRd] at h <;> first | (cases h; done) | skip
 case move x =>
  obtain rfl := run_ret' h
  exact ⟨_, w, I, β, .inl (by simp [execOp]), Le.refl w I β hp, S, hs.ev ty x⟩
 case assign x =>
  obtain rfl := run_ret' h
  exact ⟨_, w, I, β, .inl (by simp [execOp]), Le.refl w I β hp, S, hs.ev ty x⟩
 case pick c x y =>
  have hc := hs.ev ty c
  cases hcv : evO P ty sl c <;> rw [hcv] at h hc <;> simp only at h <;> first | (cases h; done) | skip
  rename_i t
  have hcv2 := hc.bool_inv
  have hx := hs.ev ty x
  have hy := hs.ev ty y
  have fin : ∀ z : V, VRel P w I β hp (if t then a.eval x else a.eval y) z → OpOk P ((execOp a.eval ⟨dst, .pick c x y, ty, pos, after, guard⟩).run P w) w I β hp B M w0 ⟨z, []⟩ := by
   intro z hz
   exact ⟨_, w, I, β, .inl (by simp [execOp, hcv2, asBool]), Le.refl w I β hp, S, hz⟩
  cases hg1 : gone (evO P ty sl x) with
  | true =>
   rw [hg1] at h
   obtain ⟨h1, h⟩ := run_chk h
   obtain rfl := run_ret' h
   have : t = false := by simpa using h1
   subst this
   refine fin _ ?_
   simpa using hy
  | false =>
   rw [hg1] at h
   simp only [cond_false] at h
   cases hg2 : gone (evO P ty sl y) with
   | true =>
    rw [hg2] at h
    obtain ⟨h1, h⟩ := run_chk h
    obtain rfl := run_ret' h
    subst h1
    refine fin _ ?_
    simpa using hx
   | false =>
    rw [hg2] at h
    obtain rfl := run_ret' h
    exact fin _ (pickV_sim hx hy)
 case alloc e =>
  exact .val rfl (alloc_op_sim S h)
 case box e x =>
  exact .val rfl (box_op_sim S (hs.ev e x) h)
 case build t ps => exact .val rfl (build_op_sim S hs h)
 case buildSlice t len ps =>
  cases hu : P.underlying t with
  | none => rw [hu] at h; cases h
  | some d =>
   rw [hu] at h
   cases d <;> simp only at h <;> first | (cases h; done) | skip
   exact .val rfl (buildSlice_op_sim S hs hu h)
 case load t x => exact .val rfl (load_sim S (hs.ev ty x) h)
 case store t x y =>
  have := store_sim S (hs.ev ty x) (hs.ev t y) h
  exact this.op
 case nilCheck x =>
  have hx := hs.ev ty x
  cases hxv : evO P ty sl x <;> rw [hxv] at h hx <;> simp only at h <;> first | (cases h; done) | skip
  · obtain ⟨⟨blk, hid, hd⟩, l, h⟩ := run_alive h
    obtain rfl := run_ret' h
    have hx' := hx
    obtain ⟨b, hb, he⟩ := hx.ptr_inv hid hd
    rw [he] at hx'
    exact ⟨_, w, I, β, .inl (by simp only [execOp, he]; rfl), Le.refl w I β hp, S, hx'⟩
  · obtain rfl := run_ret' h
    have hx' := hx
    obtain ⟨b, o, he, _⟩ := hx.pref_inv
    rw [he] at hx'
    exact ⟨_, w, I, β, .inl (by simp only [execOp, he]; rfl), Le.refl w I β hp, S, hx'⟩
  · obtain ⟨e0, es, vers, l, hid, h1, h2, h3, h⟩ := rowAt_run h
    obtain rfl := run_ret' h
    have hx' := hx
    obtain ⟨b, o, he, _⟩ := hx.at_off hid h1 h2 h3
    rw [he] at hx'
    exact ⟨_, w, I, β, .inl (by simp only [execOp, he]; rfl), Le.refl w I β hp, S, hx'⟩
 case binOp op t x y yt =>
  have hx := hs.ev t x
  have hy := hs.ev t y
  refine .val (s := do eqGuard op t x y (a.eval x) (a.eval y); binOp op t (a.eval x) (a.eval y)) rfl ?_
  cases hxv : evO P t sl x <;> cases hyv : evO P t sl y <;> rw [hxv, hyv] at h <;> rw [hxv] at hx <;> rw [hyv] at hy <;> first | (simp only [binRd] at h; cases h; done) | skip
  · rw [hx.int_inv, hy.int_inv]
    have := bin_int_sim S h
    simpa [run_eqGuard_int] using this
  · rw [hx.bool_inv, hy.bool_inv]
    have := bin_bool_sim S h
    simpa [run_eqGuard_bool] using this
  · obtain ⟨s1, e1, l1⟩ := hx.str_inv
    obtain ⟨s2, e2, l2⟩ := hy.str_inv
    rw [e1, e2]
    rw [← l1, ← l2] at h
    have := bin_str_sim (t := t) S h
    simpa [run_eqGuard_str] using this
  · obtain ⟨cs, e1, h1, h2⟩ := hx.agg_inv
    obtain ⟨ds, e2, h3, h4⟩ := hy.agg_inv
    rw [e1, e2]
    exact eqAgg_sim S h1 h3 h2 h4 h
 case unOp op t x => exact .val rfl (un_sim S (hs.ev ty x) h)
 case convert src dst x =>
  have hx := hs.ev ty x
  refine .val (s := convert src dst (a.eval x)) rfl ?_
  cases hs1 : P.underlying src with
  | none => rw [hs1] at h; cases h
  | some d1 =>
   cases hs2 : P.underlying dst with
   | none => rw [hs1, hs2] at h; cases d1 <;> cases h
   | some d2 =>
    rw [hs1, hs2] at h
    cases d1 <;> (try (cases d2 <;> cases h; done))
    · cases d2 <;> (try (cases h; done))
      rename_i k1 k2
      cases hxv : evO P ty sl x <;> rw [hxv] at h hx <;> simp only at h <;> first | (cases h; done) | skip
      obtain rfl := run_ret' h
      rw [hx.int_inv]
      exact .same S (by simp [convert, run_underlying hs1, run_underlying hs2, Conv.intToInt]) .int
    · rename_i e
      cases d2 <;> (try (cases h; done))
      simp only at h
      cases he : P.underlying e with
      | none => rw [he] at h; cases h
      | some d3 =>
       rw [he] at h
       cases d3 <;> (try (cases h; done))
       rename_i k
       cases k <;> (try (cases h; done))
       exact bytes_sim S hs1 he hs2 hx h
 case fieldAddr s x f => exact .val rfl (fieldAddr_sim S (hs.ev ty x) h)
 case field s x f => exact .val rfl (field_sim S (hs.ev ty x) h)
 case indexAddr t x y => exact .val rfl (indexAddr_sim S (hs.ev ty x) (hs.ev 0 y) h)
 case index t x y =>
  have hx := hs.ev ty x
  have hy := hs.ev 0 y
  refine .val (s := Instr.index t (a.eval x) (a.eval y)) rfl ?_
  cases hu : P.underlying t with
  | none => rw [hu] at h; cases h
  | some d =>
   rw [hu] at h
   cases d <;> (try (cases h; done))
   cases hxv : evO P ty sl x <;> rw [hxv] at h hx <;> (try (cases h; done))
   cases hyv : evO P 0 sl y <;> rw [hyv] at h hy <;> (try (cases h; done))
   obtain ⟨s, e1, l1⟩ := hx.str_inv
   rw [e1, hy.int_inv]
   exact index_sim S hu l1 h
 case slice t x lo hi mx =>
  cases mx with
  | some m => cases h
  | none =>
   simp only at h
   refine .val (s := Instr.sliceAt t (a.eval x) (lo.map a.eval) (hi.map a.eval) none) (by simp [execOp]) (slice_sim S (hs.ev ty x) (fun y hy => ?_) (fun y hy => ?_) (fun hy => ?_) (fun hy => ?_) h)
   · cases lo with
     | none => cases hy
     | some l => cases hy; exact ⟨_, rfl, hs.ev 0 l⟩
   · cases hi with
     | none => cases hy
     | some l => cases hy; exact ⟨_, rfl, hs.ev 0 l⟩
   · cases lo with
     | none => rfl
     | some l => cases hy
   · cases hi with
     | none => rfl
     | some l => cases hy
 case extract x i =>
  have hx := hs.ev ty x
  cases hxv : evO P ty sl x <;> rw [hxv] at h hx <;> simp only at h <;> first | (cases h; done) | skip
  exact .val (s := Instr.extract (a.eval x) i) rfl (extract_sim S hx h)
 case makeSlice t l c =>
  have hl := hs.ev 0 l
  have hc := hs.ev 0 c
  refine .val (s := Instr.makeSlice t (a.eval l) (a.eval c)) rfl ?_
  cases hu : P.underlying t with
  | none => rw [hu] at h; cases h
  | some d =>
   rw [hu] at h
   cases d <;> (try (cases h; done))
   cases hlv : evO P 0 sl l <;> rw [hlv] at h hl <;> (try (cases h; done))
   cases hcv : evO P 0 sl c <;> rw [hcv] at h hc <;> (try (cases h; done))
   rw [hl.int_inv, hc.int_inv]
   cases dst with
   | none => exact makeSlice_op_sim S hu h
   | some d =>
    simp only at h
    cases hg : memN A.nstNow d with
    | true => rw [hg] at h; exact makeNest_op_sim S hu h
    | false => rw [hg] at h; exact makeSlice_op_sim S hu h
 case call c =>
  obtain ⟨callee, args, argTypes⟩ := c
  cases callee with
  | invoke r m => cases h
  | value f =>
   cases f with
   | func f => cases hnc
   | _ => cases h
  | builtin b =>
   have one : ∀ {x : Operand}, args.toList = [x] → args = #[x] := fun h => by rw [← Array.toArray_toList (xs := args), h]
   have hexec : ∀ (s : Array TypeId → TypeId → Array Value → Sem Value), builtin b argTypes ty (args.map fun | .const _ => true | _ => false) (args.map a.eval) = (do Pure.pure (Next.value (← s argTypes ty (args.map a.eval)))) →
    execOp a.eval ⟨dst, .call ⟨.builtin b, args, argTypes⟩, ty, pos, after, guard⟩ = (do Pure.pure (Next.value (← s argTypes ty (args.map a.eval)))) := by
    intro s hb
    simp only [execOp, resolve, pure_bind, invoke]
    exact hb
   cases b <;> (try (cases h; done))
   case append =>
    simp only at h
    cases ha : args.toList with
    | nil => rw [ha] at h; cases h
    | cons x l =>
     cases l with
     | nil => rw [ha] at h; cases h
     | cons y l2 =>
      cases l2 with
      | cons _ _ => rw [ha] at h; cases h
      | nil =>
       cases hat : argTypes.toList with
       | nil => rw [ha, hat] at h; cases h
       | cons t l3 =>
        cases l3 with
        | nil => rw [ha, hat] at h; cases h
        | cons u l4 =>
         cases l4 with
         | cons _ _ => rw [ha, hat] at h; cases h
         | nil =>
          rw [ha, hat] at h
          simp only at h
          have e1 : args = #[x, y] := by rw [← Array.toArray_toList (xs := args), ha]
          have e2 : argTypes = #[t, u] := by rw [← Array.toArray_toList (xs := argTypes), hat]
          cases hu : P.underlying t with
          | none => rw [hu] at h; cases h
          | some d =>
           rw [hu] at h
           cases d <;> (try (cases h; done))
           obtain ⟨hc, h⟩ := run_chk h
           rw [Nat.beq_eq] at hc
           subst hc
           have := append_sim (ty := ty) S hu (hs.ev t x) (hs.ev t y) h
           refine .val (hexec Builtin.append_ rfl) ?_
           rw [e1, e2]
           simpa using this
   case len =>
    simp only at h
    cases ha : args.toList with
    | nil => rw [ha] at h; cases h
    | cons x l =>
     cases l with
     | cons _ _ => rw [ha] at h; cases h
     | nil =>
      cases hat : argTypes.toList with
      | nil => rw [ha, hat] at h; cases h
      | cons t l3 =>
       cases l3 with
       | cons _ _ => rw [ha, hat] at h; cases h
       | nil =>
        rw [ha, hat] at h
        simp only at h
        have e1 : args = #[x] := by rw [← Array.toArray_toList (xs := args), ha]
        have e2 : argTypes = #[t] := by rw [← Array.toArray_toList (xs := argTypes), hat]
        have hx := hs.ev ty x
        refine .val (hexec Builtin.len_ rfl) ?_
        rw [e1, e2]
        cases hu : P.underlying t with
        | none => rw [hu] at h; cases h
        | some d =>
         rw [hu] at h
         cases d <;> (try (cases h; done))
         · cases hxv : evO P ty sl x <;> rw [hxv] at h hx <;> (try (cases h; done))
           have := len_sim (t := t) (ty := ty) S hx (fun l hl => hu) (fun hn => absurd rfl (hn _)) h
           simpa using this
         · have h2 : (∀ l, evO P ty sl x ≠ .str l) ∧ (lenRd P (evO P ty sl x)).run C hp = some (r, rd) := by
            cases hxv : evO P ty sl x <;> rw [hxv] at h <;> first | (cases h; done) | exact ⟨fun l => by simp, h⟩
           have := len_sim (t := t) (ty := ty) S hx (fun l hl => absurd hl (h2.1 l)) (fun _ => ⟨_, hu⟩) h2.2
           simpa using this
   case max =>
    simp only at h
    cases ha : args.toList with
    | nil => rw [ha] at h; cases h
    | cons x l =>
     rw [ha] at h
     simp only at h
     have := minMax_sim S true (vs := l.map a.eval) (xs := l.map (evO P ty sl)) (hs.ev ty x) (by simp) (fun j u y hu hy => by
      simp only [List.getElem?_map] at hu hy
      cases hl : l[j]? with
      | none => rw [hl] at hu; cases hu
      | some z => rw [hl] at hu hy; cases hu; cases hy; exact hs.ev ty z) h
     refine .val (hexec Builtin.max_ rfl) ?_
     simpa [Builtin.max_, ha] using this
   case min =>
    simp only at h
    cases ha : args.toList with
    | nil => rw [ha] at h; cases h
    | cons x l =>
     rw [ha] at h
     simp only at h
     have := minMax_sim S false (vs := l.map a.eval) (xs := l.map (evO P ty sl)) (hs.ev ty x) (by simp) (fun j u y hu hy => by
      simp only [List.getElem?_map] at hu hy
      cases hl : l[j]? with
      | none => rw [hl] at hu; cases hu
      | some z => rw [hl] at hu hy; cases hu; cases hy; exact hs.ev ty z) h
     refine .val (hexec Builtin.min_ rfl) ?_
     simpa [Builtin.min_, ha] using this
end
end Go.AM

/-
 AM: what a call says of its results; how a call ends.
-/
namespace Go.AM
section
variable {P : Program} {w w' : World} {I I' I2 : Nat → Prop} {β β' : Nat → Option Nat} {hp hp' : Nat → Option Blk} {C : CallF} {B : Nat} {M : Nat → Prop} {w0 : Start}
/-- Blocks under numbers from lo to hi, each related by itself; and what holds where they stand. -/
def PartOk (P : Program) (w : World) (I : Nat → Prop) (lo hi : Nat) (own : Nat → Prop) (bs : List (Nat × Blk)) (K : (Nat → Option Nat) → (Nat → Option Blk) → Prop) : Prop :=
 ∃ ω : Nat → Option Nat,
  (∀ p ∈ bs, lo ≤ p.1 ∧ p.1 < hi ∧ p.2 ≠ .dead ∧ (∀ β hp, BlkRel P w I β hp (ω p.1) p.2) ∧ ∀ b, Owns P w (ω p.1) p.2 b → own b) ∧
  (∀ p ∈ bs, ∀ q ∈ bs, p.1 = q.1 → p = q) ∧
  (∀ p ∈ bs, ∀ q ∈ bs, ∀ b, Owns P w (ω p.1) p.2 b → Owns P w (ω q.1) q.2 b → p.1 = q.1) ∧
  ∀ β hp, (∀ p ∈ bs, hp p.1 = some p.2 ∧ β p.1 = ω p.1) → K β hp
theorem PartOk.nil {lo hi : Nat} {own : Nat → Prop} {K : (Nat → Option Nat) → (Nat → Option Blk) → Prop} (h : ∀ β hp, K β hp) : PartOk P w I lo hi own [] K :=
 ⟨fun _ => none, by simp, by simp, by simp, fun β hp _ => h β hp⟩
theorem PartOk.one {lo hi n : Nat} {blk : Blk} {own : Nat → Prop} {o : Option Nat} {K : (Nat → Option Nat) → (Nat → Option Blk) → Prop} (h1 : lo ≤ n) (h2 : n < hi) (h3 : blk ≠ .dead)
 (h4 : ∀ β hp, BlkRel P w I β hp o blk) (h5 : ∀ b, Owns P w o blk b → own b) (h : ∀ β hp, hp n = some blk → β n = o → K β hp) : PartOk P w I lo hi own [(n, blk)] K :=
 ⟨fun _ => o, by
  intro p hp
  simp only [List.mem_singleton] at hp
  subst hp
  exact ⟨h1, h2, h3, h4, h5⟩, by
  intro p hp q hq _
  simp only [List.mem_singleton] at hp hq
  rw [hp, hq], by
  intro p hp q hq _ _ _
  simp only [List.mem_singleton] at hp hq
  rw [hp, hq], fun β hp hh => h β hp (hh _ (List.mem_singleton.2 rfl)).1 (hh _ (List.mem_singleton.2 rfl)).2⟩
theorem PartOk.mono {lo hi lo' hi' : Nat} {own own' : Nat → Prop} {bs : List (Nat × Blk)} {K K' : (Nat → Option Nat) → (Nat → Option Blk) → Prop} (h : PartOk P w I lo hi own bs K)
 (h1 : lo' ≤ lo) (h2 : hi ≤ hi') (ho : ∀ b, own b → own' b) (hk : ∀ β hp, K β hp → K' β hp) : PartOk P w I lo' hi' own' bs K' := by
 obtain ⟨ω, a, b, c, d⟩ := h
 refine ⟨ω, fun p hp => ?_, b, c, fun β hp hh => hk _ _ (d β hp hh)⟩
 obtain ⟨x1, x2, x3, x4, x5⟩ := a p hp
 exact ⟨by omega, by omega, x3, x4, fun b hb => ho _ (x5 b hb)⟩
theorem PartOk.append {lo mid hi : Nat} {own1 own2 : Nat → Prop} {bs1 bs2 : List (Nat × Blk)} {K1 K2 : (Nat → Option Nat) → (Nat → Option Blk) → Prop}
 (h1 : PartOk P w I lo mid own1 bs1 K1) (h2 : PartOk P w I mid hi own2 bs2 K2) (hl : lo ≤ mid) (hm : mid ≤ hi) (hd : ∀ b, own1 b → own2 b → False) :
 PartOk P w I lo hi (fun b => own1 b ∨ own2 b) (bs1 ++ bs2) (fun β hp => K1 β hp ∧ K2 β hp) := by
 obtain ⟨ω1, a1, b1, c1, d1⟩ := h1
 obtain ⟨ω2, a2, b2, c2, d2⟩ := h2
 have e1 : ∀ p ∈ bs1, (if p.1 < mid then ω1 p.1 else ω2 p.1) = ω1 p.1 := fun p hp => by rw [if_pos (a1 p hp).2.1]
 have e2 : ∀ p ∈ bs2, (if p.1 < mid then ω1 p.1 else ω2 p.1) = ω2 p.1 := fun p hp => by rw [if_neg (by have := (a2 p hp).1; omega)]
 refine ⟨fun n => if n < mid then ω1 n else ω2 n, fun p hp => ?_, fun p hp q hq he => ?_, fun p hp q hq b hb1 hb2 => ?_, fun β hp hh => ⟨d1 β hp fun p hp => ?_, d2 β hp fun p hp => ?_⟩⟩
 · rcases List.mem_append.1 hp with h | h
   · obtain ⟨x1, x2, x3, x4, x5⟩ := a1 p h
     simp only [e1 p h]
     exact ⟨x1, by omega, x3, x4, fun b hb => .inl (x5 b hb)⟩
   · obtain ⟨x1, x2, x3, x4, x5⟩ := a2 p h
     simp only [e2 p h]
     exact ⟨by omega, x2, x3, x4, fun b hb => .inr (x5 b hb)⟩
 · rcases List.mem_append.1 hp with h | h <;> rcases List.mem_append.1 hq with h' | h'
   · exact b1 p h q h' he
   · have := (a1 p h).2.1; have := (a2 q h').1; omega
   · have := (a2 p h).1; have := (a1 q h').2.1; omega
   · exact b2 p h q h' he
 · rcases List.mem_append.1 hp with h | h <;> rcases List.mem_append.1 hq with h' | h'
   · simp only [e1 p h] at hb1; simp only [e1 q h'] at hb2; exact c1 p h q h' b hb1 hb2
   · simp only [e1 p h] at hb1; simp only [e2 q h'] at hb2
     exact (hd b ((a1 p h).2.2.2.2 b hb1) ((a2 q h').2.2.2.2 b hb2)).elim
   · simp only [e2 p h] at hb1; simp only [e1 q h'] at hb2
     exact (hd b ((a1 q h').2.2.2.2 b hb2) ((a2 p h).2.2.2.2 b hb1)).elim
   · simp only [e2 p h] at hb1; simp only [e2 q h'] at hb2; exact c2 p h q h' b hb1 hb2
 · have := hh p (List.mem_append.2 (.inl hp))
   simp only [e1 p hp] at this
   exact this
 · have := hh p (List.mem_append.2 (.inr hp))
   simp only [e2 p hp] at this
   exact this
/-- A block that was handed in, at the end. -/
def MemOk (P : Program) (w : World) (I : Nat → Prop) (o : Option Nat) : V → V → Prop
 | .agg sh, .agg l => likeAll sh l = true ∧ ∀ β hp, BlkRel P w I β hp o (.var l)
 | .own e es0, .own e' es => e' = e ∧ es.length = es0.length ∧ ∀ β hp, BlkRel P w I β hp o (.arr e es false)
 | _, _ => False
structure After (P : Program) (A : Ann) (f : FuncId) (fn : Func) (w : World) (I : Nat → Prop) (μ : Nat → Option Nat) (mem : List V) (w' : World) (v : Value) (r : V) (mem' : List V) (I2 : Nat → Prop) : Prop where
 imm : ∀ b, I b → I2 b
 new : ∀ b, I2 b → I b ∨ (∃ j, j < mem.length ∧ μ j = some b) ∨ w.heap.size ≤ b
 lt : ∀ b, I2 b → b < w'.heap.size
 io : w'.os = w.os ∧ w'.output = w.output
 size : w.heap.size ≤ w'.heap.size
 keep : ∀ b, b < w.heap.size → ¬ (∃ j, j < mem.length ∧ μ j = some b) → w'.heap[b]? = w.heap[b]?
 len : mem'.length = mem.length
 mems : ∀ j x, mem[j]? = some x → ∃ y, mem'[j]? = some y ∧ MemOk P w' I2 (μ j) x y
 bs : ∀ j b, j < mem.length → μ j = some b → bsize w' b = bsize w b
 res : ∀ nb, ∃ hi, PartOk P w' I2 nb hi (fun b => w.heap.size ≤ b) (callOut P A f fn nb r).2 (fun β hp => VRel P w' I2 β hp v (callOut P A f fn nb r).1)
/-- What the abstract call says of the model's. -/
def CallSim (P : Program) (A : Ann) (C : CallF) : Prop :=
 ∀ f args mem r mem', C f args mem = some (r, mem') → ∃ fn c, P.funcs[f]? = some fn ∧ fn.body = some c ∧
  ∀ (w : World) (I : Nat → Prop) (μ : Nat → Option Nat) (vals : List Value),
   HRel P w I μ (hpOf (memBlks mem)) w.heap.size (fun b => ∃ j, j < mem.length ∧ μ j = some b) →
   vals.length = args.length → (∀ (j : Nat) v x, vals[j]? = some v → args[j]? = some x → VRel P w I μ (hpOf (memBlks mem)) v x) →
   Calls P f vals.toArray w fun e w' => ∃ v I2, e = .returned v ∧ After P A f fn w I μ mem w' v r mem' I2
/-- The numbers that a part of the results has used up. -/
structure UsedOk (hp : Nat → Option Blk) (u u' : Used) : Prop where
 own : ∀ id, id ∈ u.own → id ∈ u'.own
 frz : ∀ id, id ∈ u.frz → id ∈ u'.frz
 isArr : ∀ id, id ∈ u'.frz → id ∈ u.frz ∨ ∃ e es, (∃ fz, hp id = some (.arr e es fz)) ∨ ∃ vers, hp id = some (.nest e es vers)
 isBlk : ∀ id, id ∈ u'.own → id ∈ u.own ∨ ∃ blk, hp id = some blk ∧ blk ≠ .dead ∧ ∀ e es, blk ≠ .arr e es true
theorem UsedOk.refl (u : Used) : UsedOk hp u u := ⟨fun _ h => h, fun _ h => h, fun _ h => .inl h, fun _ h => .inl h⟩
theorem UsedOk.trans {u1 u2 u3 : Used} (h1 : UsedOk hp u1 u2) (h2 : UsedOk hp u2 u3) : UsedOk hp u1 u3 :=
 ⟨fun id h => h2.own id (h1.own id h), fun id h => h2.frz id (h1.frz id h), fun id h => (h2.isArr id h).elim (h1.isArr id) .inr, fun id h => (h2.isBlk id h).elim (h1.isBlk id) .inr⟩
/-- What is asked of the world's blocks that are not to turn again. -/
structure EndI (P : Program) (w : World) (hp : Nat → Option Blk) (I I2 : Nat → Prop) (β : Nat → Option Nat) (u : Used) : Prop where
 imm : ∀ b, I b → I2 b
 frz : ∀ id, id ∈ u.frz → ∀ b, Held P w β hp id b → I2 b
 own : ∀ id, id ∈ u.own → ∀ b, β id = some b → ¬ I2 b
theorem EndI.of {u u' : Used} (h : EndI P w hp I I2 β u') (hu : UsedOk hp u u') : EndI P w hp I I2 β u :=
 ⟨h.imm, fun id hi => h.frz id (hu.frz id hi), fun id hi => h.own id (hu.own id hi)⟩
def newOwn (β : Nat → Option Nat) (u u' : Used) (b : Nat) : Prop := ∃ id, id ∈ u'.own ∧ id ∉ u.own ∧ β id = some b
theorem newOwn_disj (S : Sim P w I β hp B M w0) {u1 u2 u3 : Used} (h12 : UsedOk hp u1 u2) (h23 : UsedOk hp u2 u3) (b : Nat) (h1 : newOwn β u1 u2 b) (h2 : newOwn β u2 u3 b) : False := by
 obtain ⟨i, a1, a2, a3⟩ := h1
 obtain ⟨j, b1, b2, b3⟩ := h2
 obtain ⟨x, hx, dx, _⟩ := (h12.isBlk i a1).resolve_left a2
 obtain ⟨y, hy, dy, _⟩ := (h23.isBlk j b1).resolve_left b2
 have := S.h.inj0 i j x y b hx hy dx dy a3 b3
 subst this
 exact b2 a1
theorem newOwn_mono {u1 u2 u3 : Used} (h12 : UsedOk hp u1 u2) (h23 : UsedOk hp u2 u3) (b : Nat) (h : newOwn β u1 u2 b ∨ newOwn β u2 u3 b) : newOwn β u1 u3 b := by
 rcases h with ⟨i, a1, a2, a3⟩ | ⟨i, a1, a2, a3⟩
 · exact ⟨i, h23.own i a1, a2, a3⟩
 · exact ⟨i, a1, fun h => a2 (h12.own i h), a3⟩
end
end Go.AM

/-
 AM: how a call ends: the results.
-/
namespace Go.AM
section
variable {P : Program} {w w' : World} {I I' I2 : Nat → Prop} {β β' : Nat → Option Nat} {hp hp' : Nat → Option Blk} {C : CallF} {B : Nat} {M : Nat → Prop} {w0 : Start}
theorem typed_list {t e : TypeId} {es : List V} (h : typed1 P t (.list e es) = true) : P.underlying t = some (.slice e) := by
 unfold typed1 at h
 split at h <;> simp_all
theorem resUnpack_plain {nb k : Nat} {t : TypeId} {ts : List TypeId} {fl : List Bool} {x : V} (h : fl.headD false = false) :
 resUnpack P nb (t :: ts) fl k x = (retype1 P t (x.cell k) :: (resUnpack P nb ts fl.tail (k + 1) x).1, (resUnpack P nb ts fl.tail (k + 1) x).2) := by
 simp only [resUnpack, h, cond_false]
 split <;> rfl
theorem resUnpack_own {nb k : Nat} {t e : TypeId} {ts : List TypeId} {fl : List Bool} {x : V} (ht : P.underlying t = some (.slice e)) (h : fl.headD false = true) :
 resUnpack P nb (t :: ts) fl k x = (.whole e (nb + k) :: (resUnpack P nb ts fl.tail (k + 1) x).1, (nb + k, .arr e (x.cell k).toList false) :: (resUnpack P nb ts fl.tail (k + 1) x).2) := by
 simp only [resUnpack, ht, h, cond_true]
theorem outCells_ok (S : Sim P w I β hp B M w0) : ∀ {ts : List TypeId} {fl : List Bool} {xs : List V} {u : Used} {r : List V} {u' : Used} {rd : List Nat} {vs : List Value},
 (outCells P ts fl xs u).run C hp = some ((r, u'), rd) → vs.length = xs.length → (∀ (j : Nat) v x, vs[j]? = some v → xs[j]? = some x → VRel P w I β hp v x) →
 r.length = xs.length ∧ ts.length = xs.length ∧ UsedOk hp u u' ∧ ∀ I2, EndI P w hp I I2 β u' → ∀ (nb k : Nat) (x : V), (∀ (j : Nat) y, r[j]? = some y → x.cell (k + j) = y) →
  (resUnpack P nb ts fl k x).1.length = xs.length ∧
  PartOk P w I2 (nb + k) (nb + k + ts.length) (newOwn β u u') (resUnpack P nb ts fl k x).2 (fun β' hp' => ∀ (j : Nat) (v : Value) (y : V), vs[j]? = some v → (resUnpack P nb ts fl k x).1[j]? = some y → VRel P w I2 β' hp' v y)
 | [], fl, xs, u, r, u', rd, vs, h, hl, hv => by
  cases xs with
  | cons _ _ => cases h
  | nil =>
   cases h
   refine ⟨rfl, rfl, .refl _, fun I2 hI nb k x hx => ⟨rfl, .nil fun β' hp' j v y hj hy => ?_⟩⟩
   simp [resUnpack] at hy
 | t :: ts, fl, xs, u, r, u', rd, vs, h, hl, hv => by
  cases xs with
  | nil => cases h
  | cons x0 xs =>
   cases vs with
   | nil => simp at hl
   | cons v0 vs =>
    have hl' : vs.length = xs.length := by simpa using hl
    have hv0 := hv 0 v0 x0 rfl rfl
    have hv' : ∀ (j : Nat) v x, vs[j]? = some v → xs[j]? = some x → VRel P w I β hp v x := fun j v x hj hx => hv (j + 1) v x (by simpa using hj) (by simpa using hx)
    simp only [outCells] at h
    cases hf : fl.headD false with
    | true =>
     rw [hf] at h
     simp only [cond_true] at h
     cases x0 <;> simp only at h <;> first | (cases h; done) | skip
     · -- nil
       rename_i e
       obtain ⟨ht, h⟩ := run_chk h
       obtain ⟨⟨r', u1⟩, l1, l2, h1, h⟩ := run_bnd h
       have h := run_ret h
       cases h
       obtain ⟨a1, a2, a3, a4⟩ := outCells_ok S h1 hl' hv'
       refine ⟨by simp [a1], by simp [a2], a3, fun I2 hI nb k x hx => ?_⟩
       have hc : x.cell k = .own e [] := by simpa using hx 0 _ rfl
       obtain ⟨b1, b2⟩ := a4 I2 hI nb (k + 1) x (fun j y hj => by have := hx (j + 1) y (by simpa using hj); rwa [show k + (j + 1) = k + 1 + j by omega] at this)
       rw [resUnpack_own (typed_list ht) hf, hc]
       refine ⟨by simp [b1], ?_⟩
       have c1 : PartOk P w I2 (nb + k) (nb + k + 1) (fun _ => False) [(nb + k, Blk.arr e [] false)] (fun β' hp' => VRel P w I2 β' hp' v0 (.whole e (nb + k))) := by
        refine .one (Nat.le_refl _) (by omega) (by simp) (fun β hp => .arrNil rfl) (fun b hb => by have := hb.flat (by simp); cases this) fun β' hp' h1 h2 => ?_
        cases hv0 with
        | nilS => exact .wholeNil h1 h2
       refine (c1.append b2 (by omega) (by omega) (fun _ h _ => h)).mono (Nat.le_refl _) (by simp; omega) (fun b hb => hb.resolve_left id) fun β' hp' hk j v y hj hy => ?_
       cases j with
       | zero => simp at hj hy; subst hj; subst hy; exact hk.1
       | succ j => exact hk.2 j v y (by simpa using hj) (by simpa using hy)
     · rename_i e id
       obtain ⟨hnm, h⟩ := run_chk h
       obtain ⟨l, h⟩ := run_get h
       cases hid : hp id with
       | none => rw [hid] at h; cases h
       | some blk =>
        rw [hid] at h
        cases blk with
        | dead => cases h
        | var _ => cases h
        | nest _ _ _ => cases h
        | arr e' es fz =>
         cases fz with
         | true => cases h
         | false =>
          simp only at h
          obtain ⟨hc, h3⟩ := run_chk h
          clear h
          simp only [Bool.and_eq_true, Nat.beq_eq] at hc
          obtain ⟨he, ht⟩ := hc
          subst he
          obtain ⟨⟨r', u1⟩, l1, l2, h1, h4⟩ := run_bnd h3
          have h5 := run_ret h4
          clear h4 h3
          simp only at h5
          cases h5
          have hnm' : id ∉ u.own := fun hm => by rw [memN_of hm] at hnm; cases hnm
          obtain ⟨a1, a2, a3, a4⟩ := outCells_ok S h1 hl' hv'
          have hu0 : UsedOk hp u { own := id :: u.own, frz := u.frz } :=
           ⟨fun i hi => List.mem_cons_of_mem _ hi, fun i hi => hi, fun i hi => .inl hi, fun i hi => (List.mem_cons.1 hi).elim (fun e => .inr ⟨_, e ▸ hid, by simp, by simp⟩) .inl⟩
          refine ⟨by simp [a1], by simp [a2], hu0.trans a3, fun I2 hI nb k x hx => ?_⟩
          have hc : x.cell k = .own e es := by simpa using hx 0 _ rfl
          obtain ⟨b1, b2⟩ := a4 I2 hI nb (k + 1) x (fun j y hj => by have := hx (j + 1) y (by simpa using hj); rwa [show k + (j + 1) = k + 1 + j by omega] at this)
          rw [resUnpack_own (typed_list ht) hf, hc]
          refine ⟨by simp [b1], ?_⟩
          have hio : id ∈ u'.own := a3.own id (by simp)
          have c1 : PartOk P w I2 (nb + k) (nb + k + 1) (newOwn β u { own := id :: u.own, frz := u.frz }) [(nb + k, Blk.arr e es false)] (fun β' hp' => VRel P w I2 β' hp' v0 (.whole e (nb + k))) := by
           refine .one (o := β id) (Nat.le_refl _) (by omega) (by simp) (fun β' hp' => ?_) (fun b hb => ⟨id, by simp, hnm', hb.flat (by simp)⟩) fun β' hp' h1 h2 => ?_
           · have hr := S.h.rel id _ hid
             cases hr with
             | arrNil hb => rw [hb]; exact .arrNil rfl
             | arr hok hb hh hs hf2 hnf hxx =>
              refine .arr hok hb hh hs (fun hfz => by cases hfz) (fun _ => hI.own id hio _ hb) fun i j x t' y1 y2 y3 => ?_
              obtain ⟨v, hv1, hv2⟩ := hxx i j x t' y1 y2 y3
              exact ⟨v, hv1, hv2.mono hI.imm fun _ _ => rfl⟩
           · cases hv0 with
             | wholeNil hid' hb =>
              rw [hid] at hid'
              cases hid'
              exact .wholeNil h1 (h2.trans hb)
             | whole hid' hb hcap hc2 hm =>
              rw [hid] at hid'
              cases hid'
              exact .whole h1 (h2.trans hb) hcap hc2 hm
             | wholeDead hid' => rw [hid] at hid'; cases hid'
             | wholeN hid' => rw [hid] at hid'; cases hid'
          refine (c1.append b2 (by omega) (by omega) (newOwn_disj S hu0 a3)).mono (Nat.le_refl _) (by simp; omega) (newOwn_mono hu0 a3) fun β' hp' hk j v y hj hy => ?_
          cases j with
          | zero => simp at hj hy; subst hj; subst hy; exact hk.1
          | succ j => exact hk.2 j v y (by simpa using hj) (by simpa using hy)
    | false =>
     rw [hf] at h
     simp only [cond_false] at h
     obtain ⟨⟨y0, upd⟩, l1, l2, h1, h⟩ := run_bnd h
     obtain ⟨ht, h⟩ := run_chk h
     obtain ⟨⟨r', u1⟩, l3, l4, h2, h⟩ := run_bnd h
     have h := run_ret h
     cases h
     obtain ⟨p1, p2⟩ := pure1_sim S.h.rel h1 hv0
     obtain ⟨a1, a2, a3, a4⟩ := outCells_ok S h2 hl' hv'
     have hu0 : UsedOk hp u { own := u.own, frz := upd.map (·.1) ++ u.frz } := by
      refine ⟨fun i hi => hi, fun i hi => List.mem_append.2 (.inr hi), fun i hi => ?_, fun i hi => .inl hi⟩
      rcases List.mem_append.1 hi with h | h
      · obtain ⟨q, hq, rfl⟩ := List.mem_map.1 h
        obtain ⟨e, es, _, hh⟩ := p1 q hq
        exact .inr ⟨e, es, hh⟩
      · exact .inl h
     refine ⟨by simp [a1], by simp [a2], hu0.trans a3, fun I2 hI nb k x hx => ?_⟩
     have hc : x.cell k = y0 := by simpa using hx 0 _ rfl
     obtain ⟨b1, b2⟩ := a4 I2 hI nb (k + 1) x (fun j y hj => by have := hx (j + 1) y (by simpa using hj); rwa [show k + (j + 1) = k + 1 + j by omega] at this)
     rw [resUnpack_plain hf, hc, typed1_retype1 ht]
     refine ⟨by simp [b1], ?_⟩
     refine b2.mono (by omega) (by simp; omega) (fun b hb => ?_) fun β' hp' hk j v y hj hy => ?_
     · obtain ⟨i, c1, c2, c3⟩ := hb
       exact ⟨i, c1, c2, c3⟩
     · cases j with
       | zero =>
        simp at hj hy
        subst hj; subst hy
        exact .of_pure ((p2 I2 hI.imm fun q hq b hb => hI.frz q.1 (a3.frz _ (List.mem_append.2 (.inl (List.mem_map.2 ⟨q, hq, rfl⟩)))) b hb).pure ht)
       | succ j => exact hk j v y (by simpa using hj) (by simpa using hy)
end
end Go.AM

/-
 AM: how a call ends: each result, all of them, and the blocks that were handed in.
-/
namespace Go.AM
section
variable {P : Program} {w w' : World} {I I' I2 : Nat → Prop} {β β' : Nat → Option Nat} {hp hp' : Nat → Option Blk} {C : CallF} {B : Nat} {M : Nat → Prop} {w0 : Start}
def tyLen (P : Program) (t : TypeId) : Nat := (bif isAggT P t then flat P t else [t]).length
theorem agg_ptr {t e : TypeId} (h : P.underlying t = some (.pointer e)) : isAggT P t = false := by simp [isAggT, h]
theorem cell_agg (l : List V) (j : Nat) (y : V) (h : l[j]? = some y) : (V.agg l).cell j = y := nth_get l j y h
theorem retypeCells_zip {ts : List TypeId} {r : List V} (h : ts.length = r.length) (ht : ∀ (j : Nat) t y, ts[j]? = some t → r[j]? = some y → retype1 P t y = y) : retypeCells P ts 0 (.agg r) = r := by
 apply List.ext_getElem?
 intro j
 cases hr : r[j]? with
 | none =>
  rw [List.getElem?_eq_none_iff] at hr
  rw [List.getElem?_eq_none]
  rw [retypeCells_length]; omega
 | some y =>
  have hj : j < (retypeCells P ts 0 (.agg r)).length := by rw [retypeCells_length, h]; exact (List.getElem?_eq_some_iff.1 hr).1
  rw [List.getElem?_eq_getElem hj]
  obtain ⟨t', h1, h2⟩ := retypeCells_get ts 0 (.agg r) j _ (List.getElem?_eq_getElem hj)
  rw [h2, Nat.zero_add, cell_agg r j y hr, ht j t' y h1 hr]
theorem resUnpack_nofl {nb : Nat} {x : V} : ∀ (ts : List TypeId) (k : Nat), resUnpack P nb ts [] k x = (retypeCells P ts k x, [])
 | [], _ => rfl
 | t :: ts, k => by
  rw [resUnpack_plain rfl, List.tail_nil, resUnpack_nofl ts (k + 1)]
  rfl
theorem outFlat_ok (S : Sim P w I β hp B M w0) {t : TypeId} {fl : List Bool} {x r : V} {u u' : Used} {rd : List Nat} {v : Value}
 (h : (outFlat P t fl x u).run C hp = some ((r, u'), rd)) (hv : VRel P w I β hp v x) :
 UsedOk hp u u' ∧ ∀ I2, EndI P w hp I I2 β u' → ∀ nb, PartOk P w I2 nb (nb + tyLen P t) (newOwn β u u') (resFlat P nb t fl r).2 (fun β' hp' => VRel P w I2 β' hp' v (resFlat P nb t fl r).1) := by
 unfold outFlat at h
 cases ha : isAggT P t with
 | true =>
  rw [ha] at h
  simp only [cond_true] at h
  cases x <;> simp only at h <;> first | (cases h; done) | skip
  rename_i cs
  obtain ⟨ds, rfl, h1, h2⟩ := hv.agg_inv
  obtain ⟨⟨rs, u1⟩, l1, l2, h3, h4⟩ := run_bnd h
  have h5 := run_ret h4
  cases h5
  obtain ⟨a1, a2, a3, a4⟩ := outCells_ok S (vs := ds.toList) h3 (by simpa using h1) (fun j v x hj hx => h2 j v x (by simpa using hj) hx)
  refine ⟨a3, fun I2 hI nb => ?_⟩
  obtain ⟨b1, b2⟩ := a4 I2 hI nb 0 (.agg rs) (fun j y hj => by rw [Nat.zero_add]; exact cell_agg rs j y hj)
  simp only [resFlat, ha, cond_true]
  refine b2.mono (by omega) (by simp [tyLen, ha]) (fun _ h => h) fun β' hp' hk => ?_
  exact .agg (by rw [b1]; exact h1) fun j v y hj hy => hk j v y (by simpa using hj) hy
 | false =>
  rw [ha] at h
  simp only [cond_false] at h
  obtain ⟨⟨rs, u1⟩, l1, l2, h3, h4⟩ := run_bnd h
  have h5 := run_ret h4
  cases h5
  obtain ⟨a1, a2, a3, a4⟩ := outCells_ok S (vs := [v]) h3 rfl (fun j v' x' hj hx => by
   cases j with
   | zero => simp at hj hx; subst hj; subst hx; exact hv
   | succ j => simp at hj)
  refine ⟨a3, fun I2 hI nb => ?_⟩
  obtain ⟨b1, b2⟩ := a4 I2 hI nb 0 (.agg [V.nth rs 0]) (fun j y hj => by
   cases j with
   | zero => simp only [V.cell, V.nth]; exact nth_get rs 0 y hj
   | succ j => rw [List.getElem?_eq_none (by rw [a1]; simp)] at hj; cases hj)
  simp only [resFlat, ha, cond_false]
  refine b2.mono (by omega) (by simp [tyLen, ha]) (fun _ h => h) fun β' hp' hk => ?_
  have hlt : 0 < (resUnpack P nb [t] fl 0 (.agg [V.nth rs 0])).1.length := by rw [b1]; simp
  rw [nth_get _ 0 _ (List.getElem?_eq_getElem hlt)]
  exact hk 0 v _ rfl (List.getElem?_eq_getElem hlt)
theorem out1_ok (S : Sim P w I β hp B M w0) {t : TypeId} {fl : List Bool} {x r : V} {u u' : Used} {rd : List Nat} {v : Value}
 (h : (out1 P t fl x u).run C hp = some ((r, u'), rd)) (hv : VRel P w I β hp v x) :
 UsedOk hp u u' ∧ ∀ I2, EndI P w hp I I2 β u' → ∀ nb, PartOk P w I2 nb (nb + tyLen P t) (newOwn β u u') (res1 P nb t fl r).2 (fun β' hp' => VRel P w I2 β' hp' v (res1 P nb t fl r).1) := by
 by_cases hq : ∃ e, P.underlying t = some (.pointer e)
 case neg =>
  have e1 : out1 P t fl x u = outFlat P t fl x u := by
   unfold out1
   split
   · rename_i e he; exact absurd ⟨e, he⟩ hq
   · rfl
  have e2 : ∀ nb r, res1 P nb t fl r = resFlat P nb t fl r := by
   intro nb r
   unfold res1
   split
   · rename_i e he; exact absurd ⟨e, he⟩ hq
   · rfl
  rw [e1] at h
  simp only [e2]
  exact outFlat_ok S h hv
 obtain ⟨e, he⟩ := hq
 simp only [out1, he] at h
 cases x <;> simp only at h <;> first | (cases h; done) | skip
 rename_i id i c
 obtain ⟨hc, h1⟩ := run_chk h
 simp only [Bool.and_eq_true, Nat.beq_eq] at hc
 obtain ⟨h0, h0', hnm⟩ := hc
 subst h0; subst h0'
 obtain ⟨l, h2⟩ := run_get h1
 cases hid : hp id with
 | none => rw [hid] at h2; cases h2
 | some blk =>
  rw [hid] at h2
  cases blk with
  | dead => cases h2
  | arr _ _ _ => cases h2
  | nest _ _ _ => cases h2
  | var cs =>
   simp only at h2
   obtain ⟨⟨rs, u1⟩, l1, l2, h3, h4⟩ := run_bnd h2
   have h5 := run_ret h4
   cases h5
   obtain ⟨b, hb, hve⟩ := hv.ptr_inv hid (by simp)
   have hr := S.h.rel id _ hid
   rw [hb] at hr
   generalize hcs : some b = ob at hr
   cases hr with
   | var hb' hh hs hnI hx =>
    rename_i b0 Ca T
    rw [← hcs] at hb'
    cases hb'
    clear hcs
    obtain ⟨a1, a2, a3, a4⟩ := outCells_ok S (vs := Ca.toList) h3 (by simpa using hs) (fun j v x hj hx' => hx j v x (by simpa using hj) hx')
    have hu0 : UsedOk hp u { own := id :: u.own, frz := u.frz } :=
     ⟨fun i hi => List.mem_cons_of_mem _ hi, fun i hi => hi, fun i hi => .inl hi, fun i hi => (List.mem_cons.1 hi).elim (fun e => .inr ⟨_, e ▸ hid, by simp, by simp⟩) .inl⟩
    refine ⟨hu0.trans a3, fun I2 hI nb => ?_⟩
    obtain ⟨b1, b2⟩ := a4 I2 hI nb 0 (.agg rs) (fun j y hj => by rw [Nat.zero_add]; exact cell_agg rs j y hj)
    have hres : res1 P nb t fl (.agg rs) = (.ptr nb 0 0, [(nb, .var (retypeCells P (bif isAggT P e then flat P e else [e]) 0 (.agg rs)))]) := by
     unfold res1; rw [he]
    rw [hres]
    obtain ⟨ω, _, _, _, hk⟩ := b2
    rw [resUnpack_nofl] at hk b1
    have hnm' : id ∉ u.own := fun hm => by rw [memN_of hm] at hnm; cases hnm
    refine .one (o := β id) (Nat.le_refl _) (by simp [tyLen, agg_ptr he]) (by simp) (fun β' hp' => ?_) (fun b' hb' => ⟨id, a3.own id (by simp), hnm', hb'.flat (by simp)⟩) fun β' hp' e1 e2 => ?_
    · refine .var hb hh (by rw [b1]; exact hs) (hI.own id (a3.own id (by simp)) _ hb) fun j v y hj hy => ?_
      have := hk (fun _ => none) (fun _ => none) (by simp) j v y (by simpa using hj) hy
      have hpure : ∀ {y : V}, VRel P w I2 (fun _ => none) (fun _ => none) v y → VRel P w I2 β' hp' v y := by
       intro y hy
       refine hy.mono ⟨fun _ h => h, fun _ _ => rfl, fun id blk h => (by cases h), fun _ _ _ _ h => (by cases h), fun _ _ _ _ _ _ _ _ _ _ _ _ _ _ _ h => (by cases h)⟩
      exact hpure this
    · rw [hve]
      have := VRel.ptr (P := P) (w := w) (I := I2) (i := 0) (c := 0) e1 (by simp) (e2.trans hb)
      simpa [Blk.sz] using this
theorem drop_tail (fl : List Bool) : fl.drop 1 = fl.tail := by cases fl <;> rfl
theorem outAll_ok (S : Sim P w I β hp B M w0) : ∀ {ts : List TypeId} {fl : List Bool} {xs : List V} {u : Used} {r : List V} {u' : Used} {rd : List Nat} {vs : List Value},
 (outAll P ts fl xs u).run C hp = some ((r, u'), rd) → vs.length = xs.length → (∀ (j : Nat) v x, vs[j]? = some v → xs[j]? = some x → VRel P w I β hp v x) →
 r.length = xs.length ∧ ts.length = xs.length ∧ UsedOk hp u u' ∧ ∀ I2, EndI P w hp I I2 β u' → ∀ (nb k : Nat) (x : V), (∀ (j : Nat) y, r[j]? = some y → x.comp (k + j) = y) →
  (resAll P nb ts fl k x).1.length = xs.length ∧
  ∃ hi, nb ≤ hi ∧ PartOk P w I2 nb hi (newOwn β u u') (resAll P nb ts fl k x).2 (fun β' hp' => ∀ (j : Nat) (v : Value) (y : V), vs[j]? = some v → (resAll P nb ts fl k x).1[j]? = some y → VRel P w I2 β' hp' v y)
 | [], fl, xs, u, r, u', rd, vs, h, hl, hv => by
  cases xs with
  | cons _ _ => cases h
  | nil =>
   cases h
   refine ⟨rfl, rfl, .refl _, fun I2 hI nb k x hx => ⟨rfl, nb, Nat.le_refl _, .nil fun β' hp' j v y hj hy => ?_⟩⟩
   simp [resAll] at hy
 | t :: ts, fl, xs, u, r, u', rd, vs, h, hl, hv => by
  cases xs with
  | nil => cases h
  | cons x0 xs =>
   cases vs with
   | nil => simp at hl
   | cons v0 vs =>
    simp only [outAll] at h
    obtain ⟨⟨y0, u1⟩, l1, l2, h1, h2⟩ := run_bnd h
    obtain ⟨⟨rs, u2⟩, l3, l4, h3, h4⟩ := run_bnd h2
    have h5 := run_ret h4
    cases h5
    obtain ⟨p1, p2⟩ := out1_ok S h1 (hv 0 v0 x0 rfl rfl)
    obtain ⟨a1, a2, a3, a4⟩ := outAll_ok S h3 (vs := vs) (by simpa using hl) (fun j v x hj hx => hv (j + 1) v x (by simpa using hj) (by simpa using hx))
    refine ⟨by simp [a1], by simp [a2], p1.trans a3, fun I2 hI nb k x hx => ?_⟩
    have hc : x.comp k = y0 := by simpa using hx 0 _ rfl
    obtain ⟨b1, hi, b0, b2⟩ := a4 I2 hI (nb + tyLen P t) (k + 1) x (fun j y hj => by have := hx (j + 1) y (by simpa using hj); rwa [show k + (j + 1) = k + 1 + j by omega] at this)
    have hd : resAll P nb (t :: ts) fl k x = ((res1 P nb t fl y0).1 :: (resAll P (nb + tyLen P t) ts (fl.drop (tyLen P t)) (k + 1) x).1, (res1 P nb t fl y0).2 ++ (resAll P (nb + tyLen P t) ts (fl.drop (tyLen P t)) (k + 1) x).2) := by
     rw [← hc]; rfl
    rw [hd]
    refine ⟨?_, hi, by omega, ?_⟩
    · simp only [List.length_cons]
      exact congrArg (· + 1) b1
    refine ((p2 I2 (hI.of a3) nb).append b2 (by omega) b0 (newOwn_disj S p1 a3)).mono (Nat.le_refl _) (Nat.le_refl _) (newOwn_mono p1 a3) fun β' hp' hk j v y hj hy => ?_
    cases j with
    | zero => simp at hj hy; subst hj; subst hy; exact hk.1
    | succ j =>
     rw [List.getElem?_cons_succ] at hy
     exact hk.2 j v y (by simpa using hj) hy
theorem memBlks_get : ∀ {mem : List V} {j : Nat}, hpOf (memBlks mem) j = (mem[j]?).map fun | .agg cs => Blk.var cs | .own e es => .arr e es false | _ => .dead
 | [], j => by simp [memBlks, hpOf]
 | x :: mem, j => by
  have h0 : memBlks (x :: mem) = (match x with | .agg cs => Blk.var cs | .own e es => .arr e es false | _ => .dead) :: memBlks mem := by
   cases x <;> rfl
  rw [h0]
  cases j with
  | zero => simp [hpOf]
  | succ j => simp only [hpOf, memBlks_get, List.getElem?_cons_succ]
theorem likeAll_len : ∀ {sh l : List V}, likeAll sh l = true → sh.length = l.length
 | [], [], _ => rfl
 | [], _ :: _, h => by simp [likeAll] at h
 | x :: sh, [], h => by cases x <;> simp [likeAll] at h
 | x :: sh, y :: l, h => by
  have : likeAll sh l = true := by
   cases x <;> cases y <;> simp [likeAll] at h <;> first | exact h | exact h.2
  simp [likeAll_len this]
theorem Plain.vrel {v : Value} {y : V} (h : Plain P w I v y) : VRel P w I β hp v y := by
 cases y with
 | int k n => simp only [Plain] at h; subst h; exact .int
 | bool b => simp only [Plain] at h; subst h; exact .bool
 | str l => simp only [Plain] at h; obtain ⟨s, rfl, hl⟩ := h; exact .str hl
 | list e es => exact .list h
 | _ => exact h.elim
/-- A block that was handed in, at the end of the call. -/
def MemEnd (P : Program) (w : World) (I : Nat → Prop) (hp : Nat → Option Blk) (j : Nat) (o : Option Nat) : V → V → Prop
 | .agg sh, .agg l => likeAll sh l = true ∧ ∀ β hp, BlkRel P w I β hp o (.var l)
 | .own e _, .own e' es => e' = e ∧ hp j = some (.arr e es false) ∧ ∀ β hp, BlkRel P w I β hp o (.arr e es false)
 | _, _ => False
theorem outMem_ok (S : Sim P w I β hp B M w0) : ∀ {mem : List V} {j0 : Nat} {u : Used} {r : List V} {u' : Used} {rd : List Nat}, (outMem j0 mem u).run C hp = some ((r, u'), rd) →
 r.length = mem.length ∧ u'.own = u.own ∧ UsedOk hp u u' ∧ (∀ j, j < mem.length → ∃ blk, hp (j0 + j) = some blk ∧ blk ≠ .dead ∧ ∀ e es, blk ≠ .arr e es true) ∧
 ∀ I2, EndI P w hp I I2 β u' → (∀ j, j < mem.length → ∀ b, β (j0 + j) = some b → ¬ I2 b) → ∀ (j : Nat) x, mem[j]? = some x → ∃ y, r[j]? = some y ∧ MemEnd P w I2 hp (j0 + j) (β (j0 + j)) x y
 | [], j0, u, r, u', rd, h => by
  cases h
  refine ⟨rfl, rfl, .refl _, fun j hj => by simp at hj, fun I2 _ _ j x hx => by simp at hx⟩
 | x0 :: mem, j0, u, r, u', rd, h => by
  cases x0 <;> simp only [outMem] at h <;> first | (cases h; done) | skip
  · rename_i e es0
    obtain ⟨l, h1⟩ := run_get h
    cases hid : hp j0 with
    | none => rw [hid] at h1; cases h1
    | some blk =>
     rw [hid] at h1
     cases blk with
     | dead => cases h1
     | var _ => cases h1
     | nest _ _ _ => cases h1
     | arr e' es fz =>
      cases fz with
      | true => cases h1
      | false =>
       simp only at h1
       obtain ⟨hc, h2⟩ := run_chk h1
       rw [Nat.beq_eq] at hc
       subst hc
       obtain ⟨⟨rs, u1⟩, l1, l2, h3, h4⟩ := run_bnd h2
       have h5 := run_ret h4
       simp only at h5
       injection h5 with h6 h7
       subst h6; subst h7
       obtain ⟨a1, a2, a3, a4, a5⟩ := outMem_ok S h3
       refine ⟨by simp [a1], a2, a3, fun j hj => ?_, fun I2 hI hn j x hx => ?_⟩
       · cases j with
         | zero => exact ⟨_, hid, by simp, by simp⟩
         | succ j => rw [show j0 + (j + 1) = j0 + 1 + j by omega]; exact a4 j (by simpa using hj)
       · cases j with
         | zero =>
          simp at hx
          subst hx
          refine ⟨_, rfl, rfl, hid, fun β' hp' => ?_⟩
          have hr := S.h.rel j0 _ hid
          cases hr with
          | arrNil hb => exact .arrNil hb
          | arr hok hb hh hs hf2 hnf hxx =>
           refine .arr hok hb hh hs (fun hfz => by cases hfz) (fun _ => hn 0 (by simp) _ hb) fun i j x t' y1 y2 y3 => ?_
           obtain ⟨v, hv1, hv2⟩ := hxx i j x t' y1 y2 y3
           exact ⟨v, hv1, hv2.mono hI.imm fun _ _ => rfl⟩
         | succ j =>
          have := a5 I2 hI (fun j hj b hb => hn (j + 1) (by simpa using hj) b (by rw [show j0 + (j + 1) = j0 + 1 + j by omega]; exact hb)) j x (by simpa using hx)
          rw [show j0 + (j + 1) = j0 + 1 + j by omega]
          simpa using this
  · rename_i sh
    obtain ⟨l, h1⟩ := run_get h
    cases hid : hp j0 with
    | none => rw [hid] at h1; cases h1
    | some blk =>
     rw [hid] at h1
     cases blk with
     | dead => cases h1
     | arr _ _ _ => cases h1
     | nest _ _ _ => cases h1
     | var cs =>
      simp only at h1
      obtain ⟨⟨ys, upd⟩, l1, l2, h2, h3⟩ := run_bnd h1
      obtain ⟨hlk, h4⟩ := run_chk h3
      obtain ⟨⟨rs, u1⟩, l3, l4, h5, h6⟩ := run_bnd h4
      have h7 := run_ret h6
      simp only at h7
      injection h7 with h8 h9
      subst h8; subst h9
      obtain ⟨a1, a2, a3, a4, a5⟩ := outMem_ok S h5
      have hr := S.h.rel j0 _ hid
      generalize hbo : β j0 = bo at hr
      cases hr with
      | @var _ b Ca T hb hh hs hnI hxx =>
       subst hb
       obtain ⟨p0, p1, p2⟩ := pureL_sim S.h.rel (vs := Ca.toList) h2 (by simpa using hs) (fun j v x hj hx => hxx j v x (by simpa using hj) hx)
       have hu0 : UsedOk hp u { own := u.own, frz := upd.map (·.1) ++ u.frz } := by
        refine ⟨fun i hi => hi, fun i hi => List.mem_append.2 (.inr hi), fun i hi => ?_, fun i hi => .inl hi⟩
        rcases List.mem_append.1 hi with h | h
        · obtain ⟨q, hq, rfl⟩ := List.mem_map.1 h
          obtain ⟨e, es, _, hh⟩ := p1 q hq
          exact .inr ⟨e, es, hh⟩
        · exact .inl h
       refine ⟨by simp [a1], a2, hu0.trans a3, fun j hj => ?_, fun I2 hI hn j x hx => ?_⟩
       · cases j with
         | zero => exact ⟨_, hid, by simp, by simp⟩
         | succ j => rw [show j0 + (j + 1) = j0 + 1 + j by omega]; exact a4 j (by simpa using hj)
       · cases j with
         | zero =>
          simp at hx
          subst hx
          refine ⟨_, rfl, hlk, fun β' hp' => ?_⟩
          rw [Nat.add_zero, hbo]
          refine .var rfl hh (by rw [p0]; exact hs) (hn 0 (by simp) _ hbo) fun j v y hj hy => ?_
          exact (p2 I2 hI.imm (fun q hq b' hb' => hI.frz q.1 (a3.frz _ (List.mem_append.2 (.inl (List.mem_map.2 ⟨q, hq, rfl⟩)))) b' hb') j v y (by simpa using hj) hy).vrel
         | succ j =>
          have := a5 I2 hI (fun j hj b hb => hn (j + 1) (by simpa using hj) b (by rw [show j0 + (j + 1) = j0 + 1 + j by omega]; exact hb)) j x (by simpa using hx)
          rw [show j0 + (j + 1) = j0 + 1 + j by omega]
          simpa using this
theorem resVals_ok (S : Sim P w I β hp B M w0) {a : Act} {st : St} (hs : SRel P w I β hp a st.sl) : ∀ {l : List ResultVar} {xs : List V} {rd : List Nat}, (resVals P st l).run C hp = some (xs, rd) →
 ∃ vs : List Value, (l.mapM fun | .tmp t => Pure.pure (a.tmps.getD t undef) | .cell x t => do loadVar t (← asAddr (a.tmps.getD x undef)) : Sem (List Value)).run P w = .ok vs w ∧ vs.length = xs.length ∧ l.length = xs.length ∧
  ∀ (j : Nat) v x, vs[j]? = some v → xs[j]? = some x → VRel P w I β hp v x
 | [], xs, rd, h => by
  cases h
  exact ⟨[], by simp, rfl, rfl, by simp⟩
 | .tmp t :: l, xs, rd, h => by
  simp only [resVals] at h
  obtain ⟨ys, l1, l2, h1, h2⟩ := run_bnd h
  have h3 := run_ret h2
  subst h3
  obtain ⟨vs, a1, a2, a3, a4⟩ := resVals_ok S hs h1
  refine ⟨a.tmps.getD t undef :: vs, by simp only [List.mapM_cons, Sem.run_bind, Sem.run_pure, Result.andThen_ok, a1], by simp [a2], by simp [a3], fun j v x hj hx => ?_⟩
  cases j with
  | zero => simp at hj hx; subst hj; subst hx; have := hs t; simpa using this
  | succ j => exact a4 j v x (by simpa using hj) (by simpa using hx)
 | .cell y t :: l, xs, rd, h => by
  simp only [resVals] at h
  obtain ⟨r, l1, l2, h1, h2⟩ := run_bnd h
  obtain ⟨ys, l3, l4, h3, h4⟩ := run_bnd h2
  have h5 := run_ret h4
  subst h5
  obtain ⟨v0, b1, b2, b3, ad, b4⟩ := load_same S (hs y) h1
  obtain ⟨vs, a1, a2, a3, a4⟩ := resVals_ok S hs h3
  refine ⟨v0 :: vs, ?_, by simp [a2], by simp [a3], fun j v x hj hx => ?_⟩
  · have e1 : (do loadVar t (← asAddr (a.tmps.getD y undef)) : Sem Value).run P w = .ok v0 w := by
     rw [b4] at b1 ⊢
     simpa [Instr.loadAt, Instr.sureAddr, asAddr] using b1
    simp only [List.mapM_cons, Sem.run_bind, e1, Result.andThen_ok, a1, Sem.run_pure]
  cases j with
  | zero => simp at hj hx; subst hj; subst hx; exact b2
  | succ j => exact a4 j v x (by simpa using hj) (by simpa using hx)
end
end Go.AM

/-
 AM: how a call ends: all together.
-/
namespace Go.AM
section
variable {P : Program} {A : Ann} {w w' : World} {I I' I2 : Nat → Prop} {μ β β' : Nat → Option Nat} {hp hp' : Nat → Option Blk} {C : CallF} {B : Nat} {M : Nat → Prop} {w0 : Start}
theorem overlap_false {a b : List Nat} (h : overlap a b = false) {x : Nat} (ha : x ∈ a) : x ∉ b := by
 intro hb
 unfold overlap at h
 rw [List.any_eq_false] at h
 exact h x ha (memN_of hb)
/-- One result, or the tuple of several. -/
def packV : List Value → Value
 | [v] => v
 | l => .tuple l.toArray
theorem packV_tup {vs : List Value} (h : vs.length ≠ 1) : packV vs = .tuple vs.toArray := by
 match vs, h with
 | [], _ => rfl
 | [v], h => simp at h
 | v :: v2 :: l, _ => rfl
theorem run_results {fn : Func} {a : Act} {st : St} (S : Sim P w I β st.hp B M w0) (hs : SRel P w I β st.hp a st.sl) {xs : List V} {rd : List Nat} (h : (resVals P st fn.results.toList).run C st.hp = some (xs, rd)) :
 ∃ vs : List Value, (results fn a.tmps).run P w = .ok (packV vs) w ∧ vs.length = xs.length ∧
  ∀ (j : Nat) v x, vs[j]? = some v → xs[j]? = some x → VRel P w I β st.hp v x := by
 obtain ⟨vs, a1, a2, _, a4⟩ := resVals_ok S hs h
 refine ⟨vs, ?_, a2, a4⟩
 unfold results
 rw [Array.mapM_eq_mapM_toList]
 simp only [map_eq_pure_bind, bind_assoc, pure_bind, Sem.run_bind]
 refine (congrArg (fun r : Result (List Value) => r.andThen _) a1).trans ?_
 simp only [Result.andThen_ok, Sem.run_pure]
 match vs with
 | [] => simp [packV]
 | [v] => simp [packV]
 | v :: v2 :: l => simp [packV]
theorem leave_ok {f : FuncId} {fn : Func} {mem : List V} {a : Act} {st : St} {r : V} {mem' : List V} {rd : List Nat}
 (he : HRel P w I μ (hpOf (memBlks mem)) w.heap.size (fun b => ∃ j, j < mem.length ∧ μ j = some b))
 (S : Sim P w' I' β' st.hp w.heap.size (fun b => ∃ j, j < mem.length ∧ μ j = some b) ⟨w, I⟩) (hle : Le P w I μ (hpOf (memBlks mem)) w' I' β' st.hp)
 (hs : SRel P w' I' β' st.hp a st.sl) (h : (leaveRd P A f fn mem st).run C st.hp = some ((r, mem'), rd)) :
 ∃ v I2, (results fn a.tmps).run P w' = .ok v w' ∧ After P A f fn w I μ mem w' v r mem' I2 := by
 unfold leaveRd at h
 obtain ⟨xs, l1, l2, h1, h2⟩ := run_bnd h
 obtain ⟨⟨rs, u⟩, l3, l4, h3, h4⟩ := run_bnd h2
 obtain ⟨⟨ms, u'⟩, l5, l6, h5, h6⟩ := run_bnd h4
 obtain ⟨hc, h7⟩ := run_chk h6
 have h8 := run_ret h7
 simp only at h8
 injection h8 with h9 h10
 subst h9; subst h10
 simp only [Bool.and_eq_true, Bool.not_eq_true', List.all_eq_true, Nat.ble_eq] at hc
 obtain ⟨hov, hfr, how⟩ := hc
 obtain ⟨vs, e1, e2, e3⟩ := run_results S hs h1
 obtain ⟨a1, a2, a3, a4⟩ := outAll_ok S h3 e2 e3
 obtain ⟨b1, b2, b3, b4, b5⟩ := outMem_ok S h5
 simp only [Nat.zero_add] at b4 b5
 have ua := a3.trans b3
 have isArr : ∀ id, id ∈ u'.frz → ∃ e es, (∃ fz, st.hp id = some (.arr e es fz)) ∨ ∃ vers, st.hp id = some (.nest e es vers) := fun id hi => (ua.isArr id hi).resolve_left (by simp)
 have isBlk : ∀ id, id ∈ u'.own → ∃ blk, st.hp id = some blk ∧ blk ≠ .dead ∧ ∀ e es, blk ≠ .arr e es true := fun id hi => (ua.isBlk id hi).resolve_left (by simp)
 have hnI : ∀ id blk b, st.hp id = some blk → blk ≠ .dead → (∀ e es, blk ≠ .arr e es true) → β' id = some b → ¬ I' b := by
  intro id blk b h1 h2 h3 hb
  have hr := S.h.rel id blk h1
  rw [hb] at hr
  generalize hg : some b = o at hr
  cases hr with
  | var hb' hh hs hn hx => rw [← hg] at hb'; cases hb'; exact hn
  | arrNil hb' => rw [← hg] at hb'; cases hb'
  | @arr e es fz b' Ca hok hb' hh hs hf hnf hx =>
   rw [← hg] at hb'
   cases hb'
   cases fz with
   | true => exact absurd rfl (h3 e es)
   | false => exact hnf rfl
  | dead => exact absurd rfl h2
  | nest hb' hr _ => rw [← hg] at hb'; cases hb'; exact (hr _ _ _ _ .here).nI
 refine ⟨_, fun b => I' b ∨ ∃ id, id ∈ u'.frz ∧ Held P w' β' st.hp id b, e1, ?_⟩
 have hI : EndI P w' st.hp I' (fun b => I' b ∨ ∃ id, id ∈ u'.frz ∧ Held P w' β' st.hp id b) β' u' := by
  refine ⟨fun b h => .inl h, fun id hi b hb => .inr ⟨id, hi, hb⟩, fun id hi b hb hI2 => ?_⟩
  obtain ⟨blk, k1, k2, k3⟩ := isBlk id hi
  rcases hI2 with h | ⟨id', hi', hb'⟩
  · exact hnI id blk b k1 k2 k3 hb h
  · obtain ⟨blk', hh, ho⟩ := hb'
    have := S.h.inj id' id _ _ b hh k1 ho (.root k2 hb)
    subst this
    exact overlap_false hov hi' hi
 have hblk : ∀ j, j < mem.length → ∃ blk0 blk, hpOf (memBlks mem) j = some blk0 ∧ st.hp j = some blk ∧ blk0.le blk ∧ blk ≠ .dead ∧ (∀ e es, blk ≠ .arr e es true) ∧ β' j = μ j := by
  intro j hj
  obtain ⟨blk, k1, k2, k3⟩ := b4 j hj
  have : ∃ blk0, hpOf (memBlks mem) j = some blk0 := by
   rw [memBlks_get, List.getElem?_eq_getElem hj]
   exact ⟨_, rfl⟩
  obtain ⟨blk0, m1⟩ := this
  obtain ⟨blk', m2, m3, m4⟩ := hle.blk j blk0 m1
  rw [k1] at m2
  cases m2
  exact ⟨blk0, blk, m1, k1, m3, k2, k3, m4 k2⟩
 have hmn : ∀ j, j < mem.length → ∀ b, β' j = some b → ¬ (I' b ∨ ∃ id, id ∈ u'.frz ∧ Held P w' β' st.hp id b) := by
  intro j hj b hb hI2
  obtain ⟨blk0, blk, k0, k1, _, k2, k3, _⟩ := hblk j hj
  rcases hI2 with h | ⟨id', hi', hb'⟩
  · exact hnI j blk b k1 k2 k3 hb h
  · obtain ⟨blk', hh, ho⟩ := hb'
    have := S.h.inj id' j _ _ b hh k1 ho (.root k2 hb)
    subst this
    have := hfr _ hi'
    omega
 have hnew : ∀ b, newOwn β' {} u b → w.heap.size ≤ b := by
  intro b ⟨id, i1, _, i3⟩
  have hiu : id ∈ u'.own := b3.own id i1
  obtain ⟨blk, k1, k2, k3⟩ := isBlk id hiu
  rcases S.h.own0 id blk b k1 k2 i3 with ⟨j, hj, hb⟩ | h
  · obtain ⟨blk0, blk', m0, m1, _, m2, m3, m4⟩ := hblk j hj
    have := S.h.inj0 id j _ _ b k1 m1 k2 m2 i3 (m4.trans hb)
    subst this
    have := how _ hiu
    omega
  · exact h
 refine ⟨fun b h => .inl (hle.imm b h), fun b hb => ?_, fun b hb => ?_, S.io, S.size, fun b h1 h2 => S.keep b h1 h2, b1, fun j x hx => ?_, fun j b hj hb => ?_, fun nb => ?_⟩
 · rcases hb with h | ⟨id, hi, hb⟩
   · exact S.new b h
   · obtain ⟨blk', hh, ho⟩ := hb
     exact .inr (S.h.own id _ b hh ho)
 · rcases hb with h | ⟨id, hi, hb⟩
   · exact S.h.Ilt b h
   · obtain ⟨blk', hh, ho⟩ := hb
     exact S.h.lt hh ho
 · obtain ⟨y, hy, hm⟩ := b5 _ hI hmn j x hx
   refine ⟨y, hy, ?_⟩
   have hj : j < mem.length := (List.getElem?_eq_some_iff.1 hx).1
   obtain ⟨blk0, blk, m0, m1, m2, m3, m4, m5⟩ := hblk j hj
   rw [m5] at hm
   cases x <;> cases y <;> simp only [MemEnd] at hm <;> first | exact hm.elim | skip
   · obtain ⟨q1, q2, q3⟩ := hm
     rw [m1] at q2
     cases q2
     rw [memBlks_get, hx] at m0
     simp only [Option.map_some] at m0
     cases m0
     exact ⟨q1, m2.2.symm, q3⟩
   · exact hm
 · obtain ⟨blk0, blk, m0, m1, m2, m3, m4, m5⟩ := hblk j hj
   exact hle.size j blk0 blk b m0 m1 m3 hb
 · obtain ⟨c1, hi, _, c2⟩ := a4 (fun b => I' b ∨ ∃ id, id ∈ u'.frz ∧ Held P w' β' st.hp id b) (hI.of b3) nb 0 (.tup rs) (fun j y hj => by rw [Nat.zero_add]; exact nth_get rs j y hj)
   refine ⟨hi, ?_⟩
   have tup : vs.length ≠ 1 → PartOk P w' (fun b => I' b ∨ ∃ id, id ∈ u'.frz ∧ Held P w' β' st.hp id b) nb hi (fun b => w.heap.size ≤ b) (resAll P nb fn.resultTypes.toList (A.own f) 0 (.tup rs)).2
    (fun β hp => VRel P w' (fun b => I' b ∨ ∃ id, id ∈ u'.frz ∧ Held P w' β' st.hp id b) β hp (packV vs) (.tup (resAll P nb fn.resultTypes.toList (A.own f) 0 (.tup rs)).1)) := by
    intro hne
    refine c2.mono (Nat.le_refl _) (Nat.le_refl _) hnew fun β hp hk => ?_
    rw [packV_tup hne]
    exact .tup (by rw [c1]; simpa using e2) fun j v x hj hx => hk j v x (by simpa using hj) hx
   have hlen : rs.length = fn.resultTypes.toList.length := a1.trans a2.symm
   have hvl : vs.length = fn.resultTypes.toList.length := e2.trans a2.symm
   clear h3 h4 h2 h1
   unfold callOut
   generalize fn.resultTypes.toList = tys at *
   match tys, rs, vs, hlen, hvl with
   | [], [], [], _, _ => exact tup (by simp)
   | [t], [y], [v], _, _ =>
    simp only [resAll, List.append_nil] at c2
    exact c2.mono (Nat.le_refl _) (Nat.le_refl _) hnew fun β hp hk => hk 0 v _ rfl rfl
   | t :: t2 :: ts, y :: y2 :: ys, v :: v2 :: vs', _, _ => exact tup (by simp)
end
end Go.AM

/-
 AM: what a caller hands on, and what it gets back.
-/
namespace Go.AM
section
variable {P : Program} {A : Ann} {w w' : World} {I I' I2 : Nat → Prop} {μ β β' : Nat → Option Nat} {hp hp' : Nat → Option Blk} {C : CallF} {B : Nat} {M : Nat → Prop} {w0 : Start}
/-- What one entry of the memory that is handed on says of its block. -/
def PassMem (hp : Nat → Option Blk) (id : Nat) (m : V) (sh : List V) : Prop :=
 (∃ cs, hp id = some (.var cs) ∧ scalarCells cs = true ∧ m = .agg cs ∧ sh = cs) ∨ (∃ e es, hp id = some (.arr e es false) ∧ m = .own e es)
structure PassOk (P : Program) (w : World) (I : Nat → Prop) (β : Nat → Option Nat) (hp : Nat → Option Blk) (vs : List Value) (p : Pass) : Prop where
 args : p.args.length = vs.length
 mem : p.mem.length = p.ids.length
 shapes : p.shapes.length = p.ids.length
 nodup : p.ids.Nodup
 blk : ∀ (j : Nat) id m sh, p.ids[j]? = some id → p.mem[j]? = some m → p.shapes[j]? = some sh → PassMem hp id m sh
 upd : ∀ q ∈ p.upd, Frz hp q
 rel : ∀ (I' : Nat → Prop) (μ : Nat → Option Nat) (hp0 : Nat → Option Blk), (∀ b, I b → I' b) → (∀ q ∈ p.upd, ∀ b, Held P w β hp q.1 b → I' b) →
  (∀ (j : Nat) id, p.ids[j]? = some id → μ j = β id ∧ hp0 j = hp id) → ∀ (j : Nat) v x, vs[j]? = some v → p.args[j]? = some x → VRel P w I' μ hp0 v x
theorem getElem?_snoc {α : Type} (l : List α) (x : α) (j : Nat) : (l ++ [x])[j]? = if j < l.length then l[j]? else if j = l.length then some x else none := by
 by_cases h : j < l.length
 · rw [List.getElem?_append_left h, if_pos h]
 · rw [List.getElem?_append_right (by omega), if_neg h]
   by_cases h2 : j = l.length
   · subst h2; simp
   · rw [if_neg h2, List.getElem?_eq_none]; simp; omega
theorem get_snoc_old {α : Type} {l : List α} {x y : α} {j : Nat} (h : l[j]? = some y) : (l ++ [x])[j]? = some y := by
 rw [List.getElem?_append_left (List.getElem?_eq_some_iff.1 h).1]; exact h
/-- One more value is handed on, that stands by itself. -/
theorem PassOk.snoc {vs : List Value} {p : Pass} (h : PassOk P w I β hp vs p) {v : Value} {x : V} {u : List (Nat × Blk)} (hu : ∀ q ∈ u, Frz hp q)
 (hr : ∀ (I' : Nat → Prop) (μ : Nat → Option Nat) (hp0 : Nat → Option Blk), (∀ b, I b → I' b) → (∀ q ∈ u, ∀ b, Held P w β hp q.1 b → I' b) → VRel P w I' μ hp0 v x) :
 PassOk P w I β hp (vs ++ [v]) { p with args := p.args ++ [x], upd := p.upd ++ u } := by
 refine ⟨by simp [h.args], h.mem, h.shapes, h.nodup, h.blk, fun q hq => (List.mem_append.1 hq).elim (h.upd q) (hu q), fun I' μ hp0 h1 h2 h3 j v' x' hv hx => ?_⟩
 rw [getElem?_snoc] at hv hx
 simp only [h.args] at hx
 by_cases hj : j < vs.length
 · rw [if_pos hj] at hv hx
   exact h.rel I' μ hp0 h1 (fun q hq => h2 q (List.mem_append.2 (.inl hq))) h3 j v' x' hv hx
 · rw [if_neg hj] at hv hx
   by_cases hj2 : j = vs.length
   · rw [if_pos hj2] at hv hx
     cases hv; cases hx
     exact hr I' μ hp0 h1 fun q hq => h2 q (List.mem_append.2 (.inr hq))
   · rw [if_neg hj2] at hv; cases hv
/-- One more value is handed on, that comes to a block. -/
theorem PassOk.snocBlk {vs : List Value} {p : Pass} (h : PassOk P w I β hp vs p) {v : Value} {x m : V} {sh : List V} {id : Nat} (hid : id ∉ p.ids) (hm : PassMem hp id m sh)
 (hr : ∀ (I' : Nat → Prop) (μ : Nat → Option Nat) (hp0 : Nat → Option Blk), (∀ b, I b → I' b) → μ p.ids.length = β id → hp0 p.ids.length = hp id → VRel P w I' μ hp0 v x) :
 PassOk P w I β hp (vs ++ [v]) { p with args := p.args ++ [x], ids := p.ids ++ [id], mem := p.mem ++ [m], shapes := p.shapes ++ [sh] } := by
 refine ⟨by simp [h.args], by simp [h.mem], by simp [h.shapes], ?_, fun j i m' s' h1 h2 h3 => ?_, h.upd, fun I' μ hp0 h1 h2 h3 j v' x' hv hx => ?_⟩
 · rw [List.nodup_append]
   exact ⟨h.nodup, by simp, fun a ha b hb => by simp at hb; subst hb; exact fun e => hid (e ▸ ha)⟩
 · rw [getElem?_snoc] at h1 h2 h3
   simp only [h.mem, h.shapes] at h2 h3
   by_cases hj : j < p.ids.length
   · rw [if_pos hj] at h1 h2 h3
     exact h.blk j i m' s' h1 h2 h3
   · rw [if_neg hj] at h1 h2 h3
     by_cases hj2 : j = p.ids.length
     · rw [if_pos hj2] at h1 h2 h3
       cases h1; cases h2; cases h3
       exact hm
     · rw [if_neg hj2] at h1; cases h1
 · rw [getElem?_snoc] at hv hx
   simp only [h.args] at hx
   by_cases hj : j < vs.length
   · rw [if_pos hj] at hv hx
     exact h.rel I' μ hp0 h1 h2 (fun j id hj => h3 j id (get_snoc_old hj)) j v' x' hv hx
   · rw [if_neg hj] at hv hx
     by_cases hj2 : j = vs.length
     · rw [if_pos hj2] at hv hx
       cases hv; cases hx
       have := h3 p.ids.length id (by simp)
       exact hr I' μ hp0 h1 this.1 this.2
     · rw [if_neg hj2] at hv; cases hv
theorem not_contains {l : List Nat} {a : Nat} (h : (!(l.contains a)) = true) : a ∉ l := by
 simpa using h
theorem scalarCells_rel : ∀ {cs : List V} {j : Nat} {x : V} {v : Value}, scalarCells cs = true → cs[j]? = some x → VRel P w I β hp v x → ∀ β' hp', VRel P w I β' hp' v x
 | [], j, x, v, _, hx, _ => by simp at hx
 | y :: cs, j, x, v, hs, hx, hv => by
  have hs' : scalarCells cs = true := by
   cases y <;> simp only [scalarCells] at hs <;> first | (cases hs; done) | exact hs
  cases j with
  | succ j => exact scalarCells_rel hs' (by simpa using hx) hv
  | zero =>
   simp at hx
   subst hx
   intro β' hp'
   cases y <;> simp only [scalarCells] at hs <;> first | (cases hs; done) | skip
   · rw [hv.int_inv]; exact .int
   · rw [hv.bool_inv]; exact .bool
   · obtain ⟨s, rfl, h⟩ := hv.str_inv; exact .str h
   · cases hv with
     | list h => exact .list h
theorem flat_pure (S : Sim P w I β hp B M w0) {x : V} {t : TypeId} {v : Value} {y : V} {u : List (Nat × Blk)} {rd : List Nat} (h : (pure1 x).run C hp = some ((y, u), rd)) (ht : typed1 P t y = true) (hv : VRel P w I β hp v x) :
 (∀ q ∈ u, Frz hp q) ∧ ∀ (I' : Nat → Prop) (μ : Nat → Option Nat) (hp0 : Nat → Option Blk), (∀ b, I b → I' b) → (∀ q ∈ u, ∀ b, Held P w β hp q.1 b → I' b) → VRel P w I' μ hp0 v y := by
 obtain ⟨p1, p2⟩ := pure1_sim S.h.rel h hv
 exact ⟨p1, fun I' μ hp0 h1 h2 => .of_pure ((p2 I' h1 h2).pure ht)⟩
theorem pass_ok (S : Sim P w I β hp B M w0) : ∀ {ts : List TypeId} {fl : List Bool} {xs : List V} {p : Pass} {k : Pass → Rd R} {r : R} {rd : List Nat} {vs0 vs : List Value},
 (passRd P ts fl xs p k).run C hp = some (r, rd) → PassOk P w I β hp vs0 p → vs.length = xs.length → (∀ (j : Nat) v x, vs[j]? = some v → xs[j]? = some x → VRel P w I β hp v x) →
 ∃ p' rd', (k p').run C hp = some (r, rd') ∧ PassOk P w I β hp (vs0 ++ vs) p'
 | [], fl, xs, p, k, r, rd, vs0, vs, h, hp0, hl, hv => by
  cases xs with
  | cons x xs => simp only [passRd] at h; cases h
  | nil =>
   obtain rfl : vs = [] := List.eq_nil_of_length_eq_zero hl
   exact ⟨p, rd, h, by simpa using hp0⟩
 | t :: ts, fl, xs, p, k, r, rd, vs0, vs, h, hp0, hl, hv => by
  cases xs with
  | nil => simp only [passRd] at h; cases h
  | cons x xs =>
   cases vs with
   | nil => simp at hl
   | cons v vs =>
    have hl' : vs.length = xs.length := by simpa using hl
    have hx := hv 0 v x rfl rfl
    have hv' : ∀ (j : Nat) v x, vs[j]? = some v → xs[j]? = some x → VRel P w I β hp v x := fun j v x hj hx => hv (j + 1) v x (by simpa using hj) (by simpa using hx)
    have next : ∀ {p1 : Pass} {rd1 : List Nat}, PassOk P w I β hp (vs0 ++ [v]) p1 → (passRd P ts fl.tail xs p1 k).run C hp = some (r, rd1) → ∃ p' rd', (k p').run C hp = some (r, rd') ∧ PassOk P w I β hp (vs0 ++ v :: vs) p' := by
     intro p1 rd1 h1 h2
     obtain ⟨p', rd', a, b⟩ := pass_ok S h2 h1 hl' hv'
     exact ⟨p', rd', a, by simpa using b⟩
    have plain : ∀ {rd1 : List Nat}, ((pure1 x).bind fun r => .chk (!(isAggT P t) && typed1 P t r.1) (passRd P ts fl.tail xs { p with args := p.args ++ [r.1], upd := p.upd ++ r.2 } k)).run C hp = some (r, rd1) →
     ∃ p' rd', (k p').run C hp = some (r, rd') ∧ PassOk P w I β hp (vs0 ++ v :: vs) p' := by
     intro rd1 h
     obtain ⟨⟨y, u⟩, l1, l2, h1, h2⟩ := run_bnd h
     obtain ⟨hc, h3⟩ := run_chk h2
     simp only [Bool.and_eq_true] at hc
     obtain ⟨p1, p2⟩ := flat_pure S h1 hc.2 hx
     exact next (hp0.snoc p1 p2) h3
    cases x with
    | ptr id i c =>
     simp only [passRd] at h
     obtain ⟨hc, h1⟩ := run_chk h
     simp only [Bool.and_eq_true, Nat.beq_eq] at hc
     obtain ⟨h0, h0', hni⟩ := hc
     subst h0; subst h0'
     obtain ⟨l, h2⟩ := run_get h1
     cases hid : hp id with
     | none => rw [hid] at h2; cases h2
     | some blk =>
      rw [hid] at h2
      cases blk with
      | dead => cases h2
      | arr _ _ _ => cases h2
      | nest _ _ _ => cases h2
      | var cs =>
       simp only at h2
       obtain ⟨hsc, h3⟩ := run_chk h2
       refine next (hp0.snocBlk (m := .agg cs) (sh := cs) (not_contains hni) (.inl ⟨cs, hid, hsc, rfl, rfl⟩) fun I' μ hpq h1 h2 h3 => ?_) h3
       obtain ⟨b, hb, rfl⟩ := hx.ptr_inv hid (by simp)
       have := VRel.ptr (P := P) (w := w) (I := I') (i := 0) (c := 0) (h3.trans hid) (by simp) (h2.trans hb)
       simpa [Blk.sz] using this
    | nilp => simp only [passRd] at h; cases h
    | fn f cap =>
     cases cap with
     | nil =>
      simp only [passRd] at h
      cases hx with
      | fn => exact next (p1 := { p with args := p.args ++ [.fn f []] }) (by simpa using hp0.snoc (u := []) (by simp) fun I' μ hpq _ _ => .fn) h
     | cons a l =>
      simp only [passRd] at h
      exact plain h
    | whole e id =>
     simp only [passRd] at h
     cases hf : fl.headD false with
     | false =>
      rw [hf] at h
      exact plain h
     | true =>
      rw [hf] at h
      simp only [cond_true] at h
      obtain ⟨hni, h1⟩ := run_chk h
      obtain ⟨l, h2⟩ := run_get h1
      cases hid : hp id with
      | none => rw [hid] at h2; cases h2
      | some blk =>
       rw [hid] at h2
       cases blk with
       | dead => cases h2
       | var _ => cases h2
       | nest _ _ _ => cases h2
       | arr e' es fz =>
        cases fz with
        | true => cases h2
        | false =>
         simp only at h2
         obtain ⟨hc, h3⟩ := run_chk h2
         rw [Nat.beq_eq] at hc
         subst hc
         refine next (hp0.snocBlk (m := .own e es) (sh := []) (not_contains hni) (.inr ⟨e, es, hid, rfl⟩) fun I' μ hpq j1 j2 j3 => ?_) h3
         cases hx with
         | wholeNil hid' hb =>
          rw [hid] at hid'
          injection hid' with hid'
          injection hid' with q1 q2 q3
          subst q2; subst q3
          exact .wholeNil (j3.trans hid) (j2.trans hb)
         | whole hid' hb hcap hc2 hm =>
          rw [hid] at hid'
          injection hid' with hid'
          injection hid' with q1 q2 q3
          subst q2; subst q3
          exact .whole (j3.trans hid) (j2.trans hb) hcap hc2 hm
         | wholeDead hid' => rw [hid] at hid'; cases hid'
         | wholeN hid' => rw [hid] at hid'; cases hid'
    | agg cs =>
     simp only [passRd] at h
     obtain ⟨⟨ys, u⟩, l1, l2, h1, h2⟩ := run_bnd h
     obtain ⟨hc, h3⟩ := run_chk h2
     simp only [Bool.and_eq_true] at hc
     obtain ⟨ds, rfl, e1, e2⟩ := hx.agg_inv
     obtain ⟨p0, p1, p2⟩ := pureL_sim S.h.rel (vs := ds.toList) h1 (by simpa using e1) (fun j v x hj hx => e2 j v x (by simpa using hj) hx)
     obtain ⟨t1, t2⟩ := typedAll_get hc.2
     refine next (hp0.snoc p1 fun I' μ hpq i1 i2 => .agg (by rw [p0]; exact e1) fun j v y hj hy => ?_) h3
     have hjt : j < (flat P t).length := by rw [t1]; exact (List.getElem?_eq_some_iff.1 hy).1
     exact .of_pure ((p2 I' i1 i2 j v y (by simpa using hj) hy).pure (t2 j _ y (List.getElem?_eq_getElem hjt) hy))
    | undef => simp only [passRd] at h; exact plain h
    | int _ _ => simp only [passRd] at h; exact plain h
    | bool _ => simp only [passRd] at h; exact plain h
    | str _ => simp only [passRd] at h; exact plain h
    | list _ _ => simp only [passRd] at h; exact plain h
    | own _ _ => simp only [passRd] at h; exact plain h
    | nilS _ => simp only [passRd] at h; exact plain h
    | tup _ => simp only [passRd] at h; exact plain h
    | sub _ _ _ _ => simp only [passRd] at h; exact plain h
    | pref _ _ => simp only [passRd] at h; exact plain h
    | row _ _ _ _ => simp only [passRd] at h; exact plain h
    | elt _ _ _ _ _ => simp only [passRd] at h; exact plain h
end
end Go.AM

/-
 AM: a caller's state behind a call.
-/
namespace Go.AM
section
variable {P : Program} {A : Ann} {w w' : World} {I I' I2 : Nat → Prop} {μ β β' : Nat → Option Nat} {hp hp' : Nat → Option Blk} {C : CallF} {B : Nat} {M : Nat → Prop} {w0 : Start}
theorem likeCells_eq : ∀ {sh l pre : List V}, likeAll sh l = true → likeCells sh pre.length (.agg (pre ++ l)) = l
 | [], [], pre, _ => rfl
 | [], _ :: _, pre, h => by simp [likeAll] at h
 | x :: sh, [], pre, h => by cases x <;> simp [likeAll] at h
 | x :: sh, y :: l, pre, h => by
  have hc : (V.agg (pre ++ y :: l)).cell pre.length = y := nth_get _ _ _ (by simp)
  have h2 : likeAll sh l = true := by
   cases x <;> cases y <;> simp [likeAll] at h <;> first | exact h | exact h.2
  have h3 : like x y = y := by
   cases x <;> cases y <;> simp [likeAll] at h <;> first | rfl | (obtain ⟨e, _⟩ := h; subst e; rfl)
  have h4 := likeCells_eq (pre := pre ++ [y]) h2
  simp only [likeCells, hc, h3]
  congr 1
  simpa using h4
/-- What has become of a block that was handed on. -/
def NewBlk (P : Program) (w : World) (I : Nat → Prop) (hp : Nat → Option Blk) (id : Nat) (o : Option Nat) (b : Blk) : Prop :=
 ∃ b0, hp id = some b0 ∧ (∀ e es vers, b0 ≠ .nest e es vers) ∧ (∀ e es vers, b ≠ .nest e es vers) ∧ b0 ≠ .dead ∧ (∀ e es, b0 ≠ .arr e es true) ∧ b0.le b ∧ b ≠ .dead ∧ ∀ β hp, BlkRel P w I β hp o b
theorem backUpd_ok : ∀ {ids : List Nat} {mem : List V} {shs : List (List V)} {r : List V} {o : Nat → Option Nat}, mem.length = ids.length → shs.length = ids.length → r.length = mem.length →
 (∀ (j : Nat) id m sh, ids[j]? = some id → mem[j]? = some m → shs[j]? = some sh → PassMem hp id m sh) →
 (∀ (j : Nat) x, mem[j]? = some x → ∃ y, r[j]? = some y ∧ MemOk P w I2 (o j) x y) →
 (∀ q ∈ backUpd ids mem shs r, ∃ j : Nat, ids[j]? = some q.1 ∧ NewBlk P w I2 hp q.1 (o j) q.2) ∧ (∀ id ∈ ids, ∃ b, (id, b) ∈ backUpd ids mem shs r)
 | [], mem, shs, r, o, h1, h2, h3, h4, h5 => by
  refine ⟨fun q hq => ?_, fun id hi => by simp at hi⟩
  simp [backUpd] at hq
 | id :: ids, mem, shs, r, o, h1, h2, h3, h4, h5 => by
  cases mem with
  | nil => simp at h1
  | cons m mem =>
   cases shs with
   | nil => simp at h2
   | cons sh shs =>
    cases r with
    | nil => simp at h3
    | cons y r =>
     obtain ⟨k1, k2⟩ := backUpd_ok (ids := ids) (mem := mem) (shs := shs) (r := r) (o := fun j => o (j + 1)) (by simpa using h1) (by simpa using h2) (by simpa using h3)
      (fun j i m s a b c => h4 (j + 1) i m s (by simpa using a) (by simpa using b) (by simpa using c)) (fun j x hx => by simpa using h5 (j + 1) x (by simpa using hx))
     obtain ⟨y', hy, hm⟩ := h5 0 m rfl
     simp at hy
     subst hy
     have fin : ∀ blk, backUpd (id :: ids) (m :: mem) (sh :: shs) (y :: r) = (id, blk) :: backUpd ids mem shs r → NewBlk P w I2 hp id (o 0) blk →
      (∀ q ∈ backUpd (id :: ids) (m :: mem) (sh :: shs) (y :: r), ∃ j : Nat, (id :: ids)[j]? = some q.1 ∧ NewBlk P w I2 hp q.1 (o j) q.2) ∧ (∀ i ∈ id :: ids, ∃ b, (i, b) ∈ backUpd (id :: ids) (m :: mem) (sh :: shs) (y :: r)) := by
      intro blk he hn
      rw [he]
      refine ⟨fun q hq => ?_, fun i hi => ?_⟩
      · rcases List.mem_cons.1 hq with e | hq
        · subst e; exact ⟨0, rfl, hn⟩
        · obtain ⟨j, a, b⟩ := k1 q hq
          exact ⟨j + 1, by simpa using a, b⟩
      · rcases List.mem_cons.1 hi with e | hi
        · subst e; exact ⟨blk, by simp⟩
        · obtain ⟨b, hb⟩ := k2 i hi
          exact ⟨b, List.mem_cons_of_mem _ hb⟩
     rcases h4 0 id m sh rfl rfl rfl with ⟨cs, q1, q2, q3, q4⟩ | ⟨e, es, q1, q2⟩
     · subst q3; subst q4
       cases y <;> simp only [MemOk] at hm <;> first | exact hm.elim | skip
       rename_i l
       refine fin (.var l) ?_ ⟨_, q1, by simp, by simp, by simp, by simp, trivial, by simp, hm.2⟩
       simp only [backUpd, V.nth, List.tail_cons]
       have := likeCells_eq (pre := []) hm.1
       simp only [List.length_nil, List.nil_append] at this
       rw [this]
     · subst q2
       cases y <;> simp only [MemOk] at hm <;> first | exact hm.elim | skip
       rename_i e' es'
       obtain ⟨z1, z2, z3⟩ := hm
       subst z1
       exact fin (.arr e' es' false) rfl ⟨_, q1, by simp, by simp, by simp, by simp, ⟨rfl, z2.symm⟩, by simp, z3⟩
open Classical in
theorem back_ok (S : Sim P w I β hp B M w0) {p : Pass} {f : FuncId} {fn : Func} {v : Value} {r : V} {mem' : List V} {nb : Nat} (h1 : p.mem.length = p.ids.length) (h2 : p.shapes.length = p.ids.length)
 (h3 : ∀ (j : Nat) id m sh, p.ids[j]? = some id → p.mem[j]? = some m → p.shapes[j]? = some sh → PassMem hp id m sh) (hμ : ∀ (j : Nat) id, p.ids[j]? = some id → μ j = β id)
 (ha : After P A f fn w I μ p.mem w' v r mem' I2) (hfr : ∀ q ∈ (callOut P A f fn nb r).2, hp q.1 = none) :
 ∃ β2, Le P w I β hp w' I2 β2 (updH hp ((callOut P A f fn nb r).2 ++ backUpd p.ids p.mem p.shapes mem')) ∧ Sim P w' I2 β2 (updH hp ((callOut P A f fn nb r).2 ++ backUpd p.ids p.mem p.shapes mem')) B M w0 ∧
  VRel P w' I2 β2 (updH hp ((callOut P A f fn nb r).2 ++ backUpd p.ids p.mem p.shapes mem')) v (callOut P A f fn nb r).1 := by
 obtain ⟨hi, ω, r1, r2, r3, r4⟩ := ha.res nb
 obtain ⟨k1, k2⟩ := backUpd_ok (hp := hp) (o := μ) h1 h2 ha.len h3 ha.mems
 generalize hout : (callOut P A f fn nb r).2 = out at *
 generalize hback : backUpd p.ids p.mem p.shapes mem' = back at *
 generalize hhp2 : updH hp (out ++ back) = hp2
 let β2 : Nat → Option Nat := fun n => if ∃ q ∈ out, q.1 = n then ω n else β n
 have hMc : ∀ b, (∃ j, j < p.mem.length ∧ μ j = some b) → ∃ id, id ∈ p.ids ∧ β id = some b ∧ ∃ b0, hp id = some b0 ∧ b0 ≠ .dead ∧ ∀ e es, b0 ≠ .arr e es true := by
  intro b ⟨j, hj, hb⟩
  have hj' : j < p.ids.length := by omega
  obtain ⟨bk, hbk⟩ := k2 p.ids[j] (List.getElem_mem hj')
  obtain ⟨j', q1, b0, q2, _, _, q3, q4, _⟩ := k1 _ hbk
  exact ⟨p.ids[j], List.getElem_mem hj', (hμ j _ (List.getElem?_eq_getElem hj')).symm.trans hb, b0, q2, q3, q4⟩
 have cls : ∀ id, (∃ b, (id, b) ∈ out ∧ hp2 id = some b ∧ hp id = none ∧ β2 id = ω id) ∨ (∃ b, hp2 id = some b ∧ NewBlk P w' I2 hp id (β id) b ∧ β2 id = β id ∧ id ∈ p.ids) ∨ (hp2 id = hp id ∧ id ∉ p.ids ∧ β2 id = β id) := by
  intro id
  by_cases hm : ∃ b, (id, b) ∈ out ++ back
  · obtain ⟨b, hm⟩ := hm
    obtain ⟨b', hm', he⟩ := updH_mem (hp := hp) hm
    rw [hhp2] at he
    rcases List.mem_append.1 hm' with h | h
    · exact .inl ⟨b', h, he, hfr _ h, if_pos ⟨_, h, rfl⟩⟩
    · obtain ⟨j, q1, q2⟩ := k1 _ h
      refine .inr (.inl ⟨b', he, ?_, if_neg ?_, List.mem_of_getElem? q1⟩)
      · rw [← hμ j id q1]; exact q2
      · rintro ⟨q, hq, rfl⟩
        obtain ⟨b0, x, _⟩ := q2
        rw [hfr q hq] at x
        cases x
  · refine .inr (.inr ⟨?_, fun hi => ?_, if_neg ?_⟩)
    · rcases updH_of (hp := hp) (l := out ++ back) (id := id) with h | ⟨b, hb, _⟩
      · rw [hhp2] at h; exact h
      · exact absurd ⟨b, hb⟩ hm
    · obtain ⟨b, hb⟩ := k2 id hi
      exact hm ⟨b, List.mem_append.2 (.inr hb)⟩
    · rintro ⟨q, hq, rfl⟩
      exact hm ⟨q.2, List.mem_append.2 (.inl hq)⟩
 have hnI : ∀ id blk b, hp id = some blk → blk ≠ .dead → (∀ e es, blk ≠ .arr e es true) → β id = some b → ¬ I b := by
  intro id blk b h1 h2 h3 hb
  have hr := S.h.rel id blk h1
  rw [hb] at hr
  generalize hg : some b = o at hr
  cases hr with
  | var hb' hh hs hn hx => rw [← hg] at hb'; cases hb'; exact hn
  | arrNil hb' => rw [← hg] at hb'; cases hb'
  | @arr e es fz b' Ca hok hb' hh hs hf hnf hx =>
   rw [← hg] at hb'
   cases hb'
   cases fz with
   | true => exact absurd rfl (h3 e es)
   | false => exact hnf rfl
  | dead => exact absurd rfl h2
  | nest hb' hr _ => rw [← hg] at hb'; cases hb'; exact (hr _ _ _ _ .here).nI
 -- a block of another number stays
 have other : ∀ id blk b, hp id = some blk → Owns P w (β id) blk b → id ∉ p.ids → w'.heap[b]? = w.heap[b]? ∧ (I2 b → I b) := by
  intro id blk b e1 e3 e4
  have hlt := S.h.lt e1 e3
  have hno : ¬ ∃ j, j < p.mem.length ∧ μ j = some b := by
   intro hx
   obtain ⟨id', i1, i2, b0, i3, i4, _⟩ := hMc b hx
   have := S.h.inj id id' _ _ b e1 i3 e3 (.root i4 i2)
   subst this
   exact e4 i1
  refine ⟨ha.keep b hlt hno, fun h => ?_⟩
  rcases ha.new b h with h | h | h
  · exact h
  · exact absurd h hno
  · omega
 have hle : Le P w I β hp w' I2 β2 hp2 := by
  refine ⟨ha.imm, fun b hb => ?_, fun id blk hid => ?_, fun id blk blk' b hid hid' hd hb => ?_, fun id e es vers e' es' vers' b q i c t v e1 l hid hid' hb _ _ _ hc => ?_⟩
  · refine ha.keep b (S.h.Ilt b hb) fun hx => ?_
    obtain ⟨id', i1, i2, b0, i3, i4, i5⟩ := hMc b hx
    exact hnI id' b0 b i3 i4 i5 i2 hb
  · rcases cls id with ⟨b, c1, c2, c3, c4⟩ | ⟨b, c1, ⟨b0, d1, _, _, d2, d3, d4, _⟩, c3, _⟩ | ⟨c1, c2, c3⟩
    · rw [hid] at c3; cases c3
    · rw [hid] at d1; cases d1
      exact ⟨b, c1, d4, fun _ => c3⟩
    · exact ⟨blk, c1.trans hid, Blk.le_refl _, fun _ => c3⟩
  · rcases cls id with ⟨bb, c1, c2, c3, c4⟩ | ⟨bb, c1, _, c3, c4⟩ | ⟨c1, c2, c3⟩
    · rw [hid] at c3; cases c3
    · obtain ⟨j, hj, hje⟩ := List.mem_iff_getElem.1 c4
      exact ha.bs j b (by omega) ((hμ j id (by rw [List.getElem?_eq_getElem hj, hje])).trans hb)
    · rw [c1, hid] at hid'
      cases hid'
      simp only [bsize, (other id blk b hid (.root hd hb) c2).1]
  · rcases cls id with ⟨bb, c1, c2, c3, c4⟩ | ⟨bb, c1, ⟨b0, d1, d2, _⟩, c3, c4⟩ | ⟨c1, c2, c3⟩
    · rw [hid] at c3; cases c3
    · rw [hid] at d1; cases d1; exact absurd rfl (d2 _ _ _)
    · rw [c1, hid] at hid'
      cases hid'
      exact ⟨l, rfl, hc.mono fun _ _ _ _ h => (other id _ _ hid (.row hb h) c2).1⟩
 -- where a block of the new state lies
 have place : ∀ id blk b, hp2 id = some blk → Owns P w' (β2 id) blk b → ((∃ q ∈ out, q.1 = id ∧ q.2 = blk) ∧ Owns P w' (ω id) blk b ∧ w.heap.size ≤ b) ∨ (b < w.heap.size ∧ ∃ b0, hp id = some b0 ∧ Owns P w (β id) b0 b) := by
  intro id blk b e1 e3
  rcases cls id with ⟨bb, c1, c2, c3, c4⟩ | ⟨bb, c1, ⟨b0, d1, d2, d3, d4, _⟩, c3, c4⟩ | ⟨c1, c2, c3⟩
  · rw [c4] at e3
    rw [c2] at e1; cases e1
    exact .inl ⟨⟨_, c1, rfl, rfl⟩, e3, (r1 _ c1).2.2.2.2 b e3⟩
  · rw [c3] at e3
    rw [c1] at e1; cases e1
    have := Owns.root (P := P) (w := w) d4 (e3.flat d3)
    exact .inr ⟨S.h.lt d1 this, b0, d1, this⟩
  · rw [c3] at e3
    rw [c1] at e1
    have := e3.mono (w := w) fun b hb => (other id blk b e1 hb c2).1
    exact .inr ⟨S.h.lt e1 this, blk, e1, this⟩
 refine ⟨β2, hle, ⟨⟨fun id blk hid => ?_, fun i1 i2 b1 b2 b e1 e2 f1 f2 => ?_, fun id blk b hid hb => ?_, ha.lt⟩, fun b hb hM => ?_, Nat.le_trans S.size ha.size, fun b hb => ?_, ⟨ha.io.1.trans S.io.1, ha.io.2.trans S.io.2⟩⟩, ?_⟩
 · rcases cls id with ⟨b, c1, c2, c3, c4⟩ | ⟨b, c1, ⟨b0, d1, _, _, d2, d3, d4, d5, d6⟩, c3, _⟩ | ⟨c1, c2, c3⟩
   · rw [c2] at hid; cases hid
     rw [c4]
     exact (r1 _ c1).2.2.2.1 _ _
   · rw [c1] at hid; cases hid
     rw [c3]
     exact d6 _ _
   · rw [c1] at hid
     rw [c3]
     exact (S.h.rel id blk hid).mono hle fun b hb => other id blk b hid hb c2
 · rcases place i1 b1 b e1 f1 with ⟨⟨q, hq, rfl, rfl⟩, g1, g2⟩ | ⟨g1, x1, x2, x3⟩ <;> rcases place i2 b2 b e2 f2 with ⟨⟨q', hq', rfl, rfl⟩, g1', g2'⟩ | ⟨g1', y1, y2, y3⟩
   · exact r3 q hq q' hq' b g1 g1'
   · omega
   · omega
   · exact S.h.inj i1 i2 _ _ b x2 y2 x3 y3
 · rcases place id blk b hid hb with ⟨_, g1, g2⟩ | ⟨g1, x1, x2, x3⟩
   · exact .inr (Nat.le_trans S.size g2)
   · exact S.h.own id x1 b x2 x3
 · refine (ha.keep b (Nat.lt_of_lt_of_le hb S.size) fun hx => ?_).trans (S.keep b hb hM)
   obtain ⟨id', i1, i2, b0, i3, i4, i5⟩ := hMc b hx
   rcases S.h.own0 id' b0 b i3 i4 i2 with h | h
   · exact hM h
   · omega
 · rcases ha.new b hb with h | h | h
   · exact S.new b h
   · obtain ⟨id', i1, i2, b0, i3, i4, i5⟩ := hMc b h
     exact .inr (S.h.own0 id' b0 b i3 i4 i2)
   · exact .inr (.inr (Nat.le_trans S.size h))
 · refine r4 β2 hp2 fun q hq => ?_
   rcases cls q.1 with ⟨b, c1, c2, c3, c4⟩ | ⟨b, c1, ⟨b0, d1, _⟩, c3, _⟩ | ⟨c1, c2, c3⟩
   · have := r2 _ c1 q hq rfl
     rw [← this]
     exact ⟨c2, c4⟩
   · rw [hfr q hq] at d1; cases d1
   · obtain ⟨b', hm', he⟩ := updH_mem (hp := hp) (l := out ++ back) (id := q.1) (b := q.2) (List.mem_append.2 (.inl hq))
     rw [hhp2, c1, hfr q hq] at he
     cases he
end
end Go.AM

/-
 AM: a call, seen by its caller.
-/
namespace Go.AM
section
variable {P : Program} {A : Ann} {w w' : World} {I I' I2 : Nat → Prop} {μ β β' : Nat → Option Nat} {hp hp' : Nat → Option Blk} {C : CallF} {B : Nat} {M : Nat → Prop} {w0 : Start}
/-- Values that cannot hold what was shown. -/
inductive SafeV : V → Prop
 | int {k : IntKind} {n : Int} : SafeV (.int k n)
 | bool {b : Bool} : SafeV (.bool b)
 | str {l : List UInt8} : SafeV (.str l)
 | whole {e : TypeId} {id : Nat} : SafeV (.whole e id)
 | agg {l : List V} : (∀ x ∈ l, SafeV x) → SafeV (.agg l)
 | tup {l : List V} : (∀ x ∈ l, SafeV x) → SafeV (.tup l)
theorem VRel.safe {v : Value} {x : V} (h : VRel P w I' β hp v x) (hs : SafeV x) : VRel P w I β hp v x := by
 induction h with
 | undef => cases hs
 | int => exact .int
 | bool => exact .bool
 | str h => exact .str h
 | list h => cases hs
 | nilS => cases hs
 | agg h1 _ ih =>
  cases hs with
  | agg hl => exact .agg h1 fun j v x hj hx => ih j v x hj hx (hl x (List.mem_of_getElem? hx))
 | tup h1 _ ih =>
  cases hs with
  | tup hl => exact .tup h1 fun j v x hj hx => ih j v x hj hx (hl x (List.mem_of_getElem? hx))
 | nilp => cases hs
 | fn => cases hs
 | pref => cases hs
 | wholeDead h => exact .wholeDead h
 | subDead => cases hs
 | ptrDead => cases hs
 | wholeNil a b => exact .wholeNil a b
 | whole a b c d e => exact .whole a b c d e
 | subNil => cases hs
 | sub => cases hs
 | ptr => cases hs
 | wholeN a b c d e => exact .wholeN a b c d e
 | rowPast => cases hs
 | atPast => cases hs
 | row => cases hs
 | elt => cases hs
theorem Pure.scalar {t : TypeId} {v : Value} {x : V} (h : Pure P w I' t v x) (hn : ∀ e, P.underlying t ≠ some (.slice e)) : Pure P w I t v x := by
 cases h with
 | int h => exact .int h
 | bool h => exact .bool h
 | str h hl => exact .str h hl
 | nil h => exact absurd h (hn _)
 | emp h => exact absurd h (hn _)
 | list g h => exact absurd h (hn _)
theorem flatScalar_of {e t : TypeId} {j : Nat} (h : flatScalar P e = true) (ht : (etys P e)[j]? = some t) (e' : TypeId) : P.underlying t ≠ some (.slice e') := by
 intro hu
 have h2 := List.all_eq_true.1 h t (List.mem_of_getElem? ht)
 rw [hu] at h2
 cases h2
theorem BlkRel.safe {o : Option Nat} {e : TypeId} {es : List V} (h : BlkRel P w I' β hp o (.arr e es false)) (hs : flatScalar P e = true) (hi : ∀ b, I b → I' b) : BlkRel P w I β hp o (.arr e es false) := by
 cases h with
 | arrNil hb => exact .arrNil hb
 | arr hok hb hh hs2 hf hnf hx =>
  refine .arr hok hb hh hs2 (fun h => by cases h) (fun h hi2 => hnf h (hi _ hi2)) fun i j x t' y1 y2 y3 => ?_
  obtain ⟨v, hv1, hv2⟩ := hx i j x t' y1 y2 y3
  exact ⟨v, hv1, hv2.scalar (flatScalar_of hs y2)⟩
theorem scalarOnly_like : ∀ {sh l : List V} {j : Nat} {y : V}, scalarOnly sh = true → likeAll sh l = true → l[j]? = some y → SafeV y
 | [], [], j, y, _, _, h => by simp at h
 | [], _ :: _, j, y, _, h, _ => by simp [likeAll] at h
 | x :: sh, [], j, y, _, h, _ => by cases x <;> simp [likeAll] at h
 | x :: sh, z :: l, j, y, hs, h, hy => by
  cases j with
  | zero =>
   simp at hy
   subst hy
   cases x <;> simp only [scalarOnly] at hs <;> first | (cases hs; done) | skip
   · cases z <;> simp [likeAll] at h; exact .int
   · cases z <;> simp [likeAll] at h; exact .bool
   · cases z <;> simp [likeAll] at h; exact .str
  | succ j =>
   have h2 : likeAll sh l = true := by
    cases x <;> cases z <;> simp [likeAll] at h <;> first | exact h | exact h.2
   have h3 : scalarOnly sh = true := by
    cases x <;> simp only [scalarOnly] at hs <;> first | (cases hs; done) | exact hs
   exact scalarOnly_like (j := j) h3 h2 (by simpa using hy)
theorem memScalar_get : ∀ {mem : List V} {j : Nat} {x : V}, memScalar P mem = true → mem[j]? = some x → (∃ cs, x = .agg cs ∧ scalarOnly cs = true) ∨ ∃ e es, x = .own e es ∧ flatScalar P e = true
 | [], j, x, _, h => by simp at h
 | y :: mem, j, x, hm, h => by
  have h2 : memScalar P mem = true := by
   cases y <;> simp [memScalar] at hm <;> exact hm.2
  cases j with
  | succ j => exact memScalar_get (j := j) h2 (by simpa using h)
  | zero =>
   simp at h
   subst h
   cases y <;> simp [memScalar] at hm
   · exact .inr ⟨_, _, rfl, hm.1⟩
   · exact .inl ⟨_, rfl, hm.1⟩
def SafeBs (P : Program) (bs : List (Nat × Blk)) : Prop := ∀ q ∈ bs, ∃ e es, q.2 = .arr e es false ∧ flatScalar P e = true
theorem resUnpack_len {nb : Nat} {x : V} : ∀ (ts : List TypeId) (fl : List Bool) (k : Nat), (resUnpack P nb ts fl k x).1.length = ts.length
 | [], _, _ => rfl
 | t :: ts, fl, k => by
  have ih := resUnpack_len (nb := nb) (x := x) ts fl.tail (k + 1)
  simp only [resUnpack]
  split
  · cases fl.headD false with
    | true => simp only [cond_true, List.length_cons]; omega
    | false => simp only [cond_false, List.length_cons]; omega
  · simp only [List.length_cons]; omega
theorem safe_unpack {nb : Nat} {x : V} : ∀ {ts : List TypeId} {fl : List Bool} {k : Nat}, safeCells P ts fl = true → (∀ y ∈ (resUnpack P nb ts fl k x).1, SafeV y) ∧ SafeBs P (resUnpack P nb ts fl k x).2
 | [], fl, k, _ => ⟨fun y hy => by simp [resUnpack] at hy, fun q hq => by simp [resUnpack] at hq⟩
 | t :: ts, fl, k, h => by
  simp only [safeCells, Bool.and_eq_true] at h
  obtain ⟨h1, h2⟩ := h
  obtain ⟨a, b⟩ := safe_unpack (fl := fl.tail) (k := k + 1) h2
  have sc : (fl.headD false = true → ∀ e, P.underlying t ≠ some (.slice e)) → SafeV (retype1 P t (x.cell k)) → (∀ y ∈ (resUnpack P nb (t :: ts) fl k x).1, SafeV y) ∧ SafeBs P (resUnpack P nb (t :: ts) fl k x).2 := by
   intro hn hy
   have he : resUnpack P nb (t :: ts) fl k x = (retype1 P t (x.cell k) :: (resUnpack P nb ts fl.tail (k + 1) x).1, (resUnpack P nb ts fl.tail (k + 1) x).2) := by
    cases hf : fl.headD false with
    | false => exact resUnpack_plain hf
    | true =>
     simp only [resUnpack]
     split
     · rename_i e he; exact absurd he (hn hf e)
     · rfl
   rw [he]
   exact ⟨fun y hm => (List.mem_cons.1 hm).elim (fun e => e ▸ hy) (a y), b⟩
  cases hu : P.underlying t with
  | none => rw [hu] at h1; cases h1
  | some d =>
   rw [hu] at h1
   cases d <;> simp only at h1 <;> first | (cases h1; done) | skip
   · exact sc (fun _ e he => by rw [hu] at he; cases he) (by simp only [retype1, hu]; exact .bool)
   · exact sc (fun _ e he => by rw [hu] at he; cases he) (by simp only [retype1, hu]; exact .int)
   · exact sc (fun _ e he => by rw [hu] at he; cases he) (by simp only [retype1, hu]; exact .str)
   · rename_i e
     simp only [Bool.and_eq_true] at h1
     rw [resUnpack_own hu h1.1]
     refine ⟨fun y hm => (List.mem_cons.1 hm).elim (fun e => e ▸ .whole) (a y), fun q hq => ?_⟩
     rcases List.mem_cons.1 hq with e | h
     · subst e; exact ⟨_, _, rfl, h1.2⟩
     · exact b q h
theorem safeCells_append : ∀ {ts us : List TypeId} {fl : List Bool}, safeCells P (ts ++ us) fl = true → safeCells P ts fl = true ∧ safeCells P us (fl.drop ts.length) = true
 | [], us, fl, h => ⟨rfl, by simpa using h⟩
 | t :: ts, us, fl, h => by
  simp only [List.cons_append, safeCells, Bool.and_eq_true] at h
  obtain ⟨h1, h2⟩ := h
  obtain ⟨a, b⟩ := safeCells_append (ts := ts) h2
  refine ⟨by simp only [safeCells, Bool.and_eq_true]; exact ⟨h1, a⟩, ?_⟩
  cases fl with
  | nil => simpa using b
  | cons _ _ => simpa using b
theorem safe_res1 {nb : Nat} {t : TypeId} {fl : List Bool} {x : V} (h : safeCells P (bif isAggT P t then flat P t else [t]) fl = true) : SafeV (res1 P nb t fl x).1 ∧ SafeBs P (res1 P nb t fl x).2 := by
 have hnp : ∀ e, P.underlying t ≠ some (.pointer e) := by
  intro e he
  rw [agg_ptr he] at h
  simp [safeCells, he] at h
 have e2 : res1 P nb t fl x = resFlat P nb t fl x := by
  unfold res1
  split
  · rename_i e he; exact absurd he (hnp e)
  · rfl
 rw [e2]
 unfold resFlat
 cases ha : isAggT P t with
 | true =>
  rw [ha] at h
  obtain ⟨a, b⟩ := safe_unpack (nb := nb) (x := x) (k := 0) h
  exact ⟨.agg a, b⟩
 | false =>
  rw [ha] at h
  obtain ⟨a, b⟩ := safe_unpack (nb := nb) (x := .agg [x]) (k := 0) h
  refine ⟨?_, b⟩
  simp only [cond_false]
  refine a _ ?_
  have : ∀ l : List V, l ≠ [] → V.nth l 0 ∈ l := by
   intro l hl
   cases l with
   | nil => exact absurd rfl hl
   | cons y l => simp [V.nth]
  refine this _ ?_
  intro he
  have := resUnpack_len (P := P) (nb := nb) (x := .agg [x]) [t] fl 0
  rw [show resUnpack P nb [t] fl 0 (.agg [x]) = resUnpack P nb (bif false then flat P t else [t]) fl 0 (.agg [x]) from rfl, he] at this
  cases this
theorem safe_resAll {x : V} : ∀ {ts : List TypeId} {fl : List Bool} {nb k : Nat}, safeCells P (resCells P ts) fl = true → (∀ y ∈ (resAll P nb ts fl k x).1, SafeV y) ∧ SafeBs P (resAll P nb ts fl k x).2
 | [], fl, nb, k, _ => ⟨fun y hy => by simp [resAll] at hy, fun q hq => by simp [resAll] at hq⟩
 | t :: ts, fl, nb, k, h => by
  have h0 : resCells P (t :: ts) = (bif isAggT P t then flat P t else [t]) ++ resCells P ts := rfl
  rw [h0] at h
  obtain ⟨h1, h2⟩ := safeCells_append h
  obtain ⟨a, b⟩ := safe_res1 (nb := nb) (x := x.comp k) h1
  obtain ⟨c, d⟩ := safe_resAll (nb := nb + tyLen P t) (k := k + 1) h2
  refine ⟨fun y hy => ?_, fun q hq => ?_⟩
  · rcases List.mem_cons.1 hy with e | h
    · rw [e]; exact a
    · exact c y h
  · rcases List.mem_append.1 hq with h | h
    · exact b q h
    · exact d q h
theorem safe_out {f : FuncId} {fn : Func} {nb : Nat} {r : V} (h : safeRes P A fn f = true) : SafeV (callOut P A f fn nb r).1 ∧ SafeBs P (callOut P A f fn nb r).2 := by
 unfold safeRes at h
 unfold callOut
 generalize fn.resultTypes.toList = ts at *
 have multi : SafeV (.tup (resAll P nb ts (A.own f) 0 r).1) ∧ SafeBs P (resAll P nb ts (A.own f) 0 r).2 := by
  obtain ⟨a, b⟩ := safe_resAll (nb := nb) (k := 0) (x := r) h
  exact ⟨.tup a, b⟩
 match ts, h, multi with
 | [], _, m => exact m
 | [t], h, _ =>
  have h0 : resCells P [t] = (bif isAggT P t then flat P t else [t]) ++ [] := rfl
  rw [h0, List.append_nil] at h
  exact safe_res1 h
 | t :: t2 :: ts, _, m => exact m
theorem After.safe {f : FuncId} {fn : Func} {mem : List V} {v : Value} {r : V} {mem' : List V} (ha : After P A f fn w I' μ mem w' v r mem' I2) (hi : ∀ b, I b → I' b)
 (h1 : safeRes P A fn f = true) (h2 : memScalar P mem = true) : After P A f fn w I μ mem w' v r mem' I := by
 have hi2 : ∀ b, I b → I2 b := fun b h => ha.imm b (hi b h)
 refine ⟨fun _ h => h, fun b h => .inl h, fun b h => ha.lt b (hi2 b h), ha.io, ha.size, ha.keep, ha.len, fun j x hx => ?_, ha.bs, fun nb => ?_⟩
 · obtain ⟨y, hy, hm⟩ := ha.mems j x hx
   refine ⟨y, hy, ?_⟩
   rcases memScalar_get h2 hx with ⟨cs, rfl, hs⟩ | ⟨e, es, rfl, hs⟩
   · cases y <;> simp only [MemOk] at hm ⊢ <;> first | exact hm.elim | skip
     rename_i l
     refine ⟨hm.1, fun β hp => ?_⟩
     have hr := hm.2 β hp
     cases hr with
     | var hb hh hs2 hn hx2 => exact .var hb hh hs2 (fun h => hn (hi2 _ h)) fun j v y hj hy => (hx2 j v y hj hy).safe (scalarOnly_like hs hm.1 hy)
   · cases y <;> simp only [MemOk] at hm ⊢ <;> first | exact hm.elim | skip
     exact ⟨hm.1, hm.2.1, fun β hp => (hm.2.2 β hp).safe hs hi2⟩
 · obtain ⟨hi', ω, a, b, c, d⟩ := ha.res nb
   obtain ⟨s1, s2⟩ := safe_out (nb := nb) (r := r) h1
   refine ⟨hi', ω, fun p hp => ?_, b, c, fun β hp hh => (d β hp hh).safe s1⟩
   obtain ⟨x1, x2, x3, x4, x5⟩ := a p hp
   refine ⟨x1, x2, x3, fun β hp' => ?_, x5⟩
   obtain ⟨e, es, q1, q2⟩ := s2 p hp
   have := x4 β hp'
   rw [q1] at this ⊢
   exact this.safe q2 hi2
end
end Go.AM

/-
 AM: every operation of a region.
-/
namespace Go.AM
section
variable {P : Program} {A : Ann} {w w' : World} {I I' I2 : Nat → Prop} {μ β β' : Nat → Option Nat} {hp hp' : Nat → Option Blk} {C : CallF} {B : Nat} {M : Nat → Prop} {w0 : Start}
theorem fresh_run : ∀ {bs : List (Nat × Blk)} {k : Rd R} {r : R} {rd : List Nat}, (freshAll bs k).run C hp = some (r, rd) → (∀ q ∈ bs, hp q.1 = none) ∧ ∃ l, k.run C hp = some (r, l)
 | [], k, r, rd, h => ⟨by simp, rd, h⟩
 | (id, b) :: bs, k, r, rd, h => by
  simp only [freshAll] at h
  obtain ⟨l, h1⟩ := run_get h
  cases hid : hp id with
  | some x => rw [hid] at h1; cases h1
  | none =>
   rw [hid] at h1
   obtain ⟨a, b'⟩ := fresh_run h1
   exact ⟨fun q hq => (List.mem_cons.1 hq).elim (fun e => e ▸ hid) (a q), b'⟩
theorem updH_app (hp : Nat → Option Blk) : ∀ (a b : List (Nat × Blk)), updH hp (a ++ b) = updH (updH hp b) a
 | [], b => rfl
 | (i, x) :: a, b => by simp only [List.cons_append, updH, updH_app hp a b]
theorem updH_notin {hp : Nat → Option Blk} {l : List (Nat × Blk)} {id : Nat} (h : ∀ q ∈ l, q.1 ≠ id) : updH hp l id = hp id := by
 rcases updH_of (hp := hp) (l := l) (id := id) with h1 | ⟨b, hb, _⟩
 · exact h1
 · exact absurd rfl (h _ hb)
/-- No function of the program is the one that counts the goroutines. -/
def NoCount (P : Program) : Prop := ∀ (f : Nat) fn, P.funcs[f]? = some fn → (fn.name == "runtime.NumGoroutine") = false
/-- What an operation must show of itself: whatever follows. -/
def StepOk (P : Program) (o : Oper) (a : Act) (w : World) (I : Nat → Prop) (β : Nat → Option Nat) (hp : Nat → Option Blk) (B : Nat) (M : Nat → Prop) (w0 : Start) (r : R) : Prop :=
 ∀ (next : Act → World → Prop) (Q : Exit → Act → World → Prop),
  (∀ v w' I' β', Le P w I β hp w' I' β' (updH hp r.upd) → Sim P w' I' β' (updH hp r.upd) B M w0 → VRel P w' I' β' (updH hp r.upd) v r.v → next (a.put o.dst v) w') → o.wp P a w next Q
theorem OpOk.step {o : Oper} {a : Act} {r : R} (h : OpOk P ((execOp a.eval o).run P w) w I β hp B M w0 r) : StepOk P o a w I β hp B M w0 r := by
 obtain ⟨v, w', I', β', h1, h2, h3, h4⟩ := h
 intro next Q hn
 unfold Oper.wp
 rcases h1 with h1 | ⟨h1, rfl⟩
 · rw [h1]; exact hn v w' I' β' h2 h3 h4
 · rw [h1]; exact hn _ w' I' β' h2 h3 h4
theorem call_sim (hC : CallSim P A C) (hP : NoCount P) (S : Sim P w I β hp B M w0) {a : Act} {sl : Nat → V} (hs : SRel P w I β hp a sl) {nb : Nat} {o : Oper} {f : FuncId} {args : Array Operand} {argTypes : Array TypeId}
 (ho : o.op = .call ⟨.value (.func f), args, argTypes⟩) (hat : args.size = argTypes.size) {r : R} {rd : List Nat}
 (h : (callRd P A nb f ((args.toList.zip argTypes.toList).map fun p => evO P p.2 sl p.1)).run C hp = some (r, rd)) : StepOk P o a w I β hp B M w0 r := by
 intro next Q hn
 unfold callRd at h
 cases hf : P.funcs[f]? with
 | none => rw [hf] at h; cases h
 | some fn =>
  rw [hf] at h
  have hlen : (args.toList.map a.eval).length = ((args.toList.zip argTypes.toList).map fun p => evO P p.2 sl p.1).length := by simp; omega
  obtain ⟨p, l1, h1, hp1⟩ := pass_ok S (vs0 := []) (vs := args.toList.map a.eval) h ⟨rfl, rfl, rfl, by simp, by simp, by simp, by simp⟩ hlen fun j v x hv hx => by
   simp only [List.getElem?_map, List.getElem?_zip_eq_some, Option.map_eq_some_iff] at hv hx
   obtain ⟨x1, hx1, rfl⟩ := hv
   obtain ⟨⟨y1, t1⟩, ⟨hy1, _⟩, rfl⟩ := hx
   rw [hx1] at hy1
   cases hy1
   exact hs.ev t1 _
  simp only [List.nil_append] at hp1
  obtain ⟨hov, h2⟩ := run_chk h1
  cases hc : C f p.args p.mem with
  | none =>
   simp only [Rd.run, hc] at h2
   cases h2
  | some rm =>
   obtain ⟨r0, mem'⟩ := rm
   have h3 : (freshAll (callOut P A f fn nb r0).2 (.ret ⟨(callOut P A f fn nb r0).1, (callOut P A f fn nb r0).2 ++ (backUpd p.ids p.mem p.shapes mem' ++ (bif safeRes P A fn f && memScalar P p.mem then [] else p.upd))⟩)).run C hp = some (r, l1) := by
    simpa only [Rd.run, hc, Option.bind_some] using h2
   obtain ⟨hfr, l2, h4⟩ := fresh_run h3
   obtain rfl := run_ret' h4
   obtain ⟨fn', c, hf', hb, hcall⟩ := hC _ _ _ _ _ hc
   rw [hf] at hf'
   cases hf'
   have hov' : ∀ id ∈ p.ids, ∀ q ∈ p.upd, q.1 ≠ id := by
    intro id hi q hq e
    have : overlap (p.upd.map (·.1)) p.ids = false := by simpa using hov
    exact overlap_false this (List.mem_map.2 ⟨q, hq, rfl⟩) (e ▸ hi)
   obtain ⟨hle1, S1⟩ := freeze_sim S hp1.upd
   let μ : Nat → Option Nat := fun j => (p.ids[j]?).bind β
   have hμ : ∀ (j : Nat) id, p.ids[j]? = some id → μ j = β id := fun j id hj => by simp [μ, hj]
   have hmem : ∀ (j : Nat) id, p.ids[j]? = some id → hpOf (memBlks p.mem) j = hp id ∧ ∃ b0, hp id = some b0 ∧ b0 ≠ .dead ∧ (∀ cs, b0 = .var cs → scalarCells cs = true) ∧ ∀ e es vers, b0 ≠ .nest e es vers := by
    intro j id hj
    have hjl : j < p.ids.length := (List.getElem?_eq_some_iff.1 hj).1
    have hjm : j < p.mem.length := by rw [hp1.mem]; exact hjl
    have hjs : j < p.shapes.length := by rw [hp1.shapes]; exact hjl
    rw [memBlks_get, List.getElem?_eq_getElem hjm]
    rcases hp1.blk j id _ _ hj (List.getElem?_eq_getElem hjm) (List.getElem?_eq_getElem hjs) with ⟨cs, q1, q2, q3, q4⟩ | ⟨e, es, q1, q2⟩
    · rw [q3, q1]; exact ⟨rfl, _, rfl, by simp, fun cs' h => by cases h; exact q2, by simp⟩
    · rw [q2, q1]; exact ⟨rfl, _, rfl, by simp, by simp, by simp⟩
   have hrange : ∀ j blk, hpOf (memBlks p.mem) j = some blk → ∃ id, p.ids[j]? = some id := by
    intro j blk hj
    rw [memBlks_get] at hj
    cases hm : p.mem[j]? with
    | none => rw [hm] at hj; cases hj
    | some m =>
     have := (List.getElem?_eq_some_iff.1 hm).1
     exact ⟨_, List.getElem?_eq_getElem (by rw [← hp1.mem]; exact this)⟩
   have hentry : HRel P w (IFrz P w I β hp p.upd) μ (hpOf (memBlks p.mem)) w.heap.size (fun b => ∃ j, j < p.mem.length ∧ μ j = some b) := by
    refine ⟨fun j blk hj => ?_, fun j j' blk blk' b e1 e2 f1 f2 => ?_, fun j blk b e1 f1 => ?_, S1.h.Ilt⟩
    · obtain ⟨id, hid⟩ := hrange j blk hj
      obtain ⟨m1, b0, m2, m3, m4, m5⟩ := hmem j id hid
      rw [m1] at hj
      have hr := S1.h.rel id blk (by rw [updH_notin (fun q hq => hov' id (List.mem_of_getElem? hid) q hq)]; exact hj)
      rw [hμ j id hid]
      cases hr with
      | var hb hh hs hnI hx =>
       exact .var hb hh hs hnI fun j v x hv hx' => scalarCells_rel (m4 _ (by rw [m2] at hj; exact Option.some.inj hj)) hx' (hx j v x hv hx') _ _
      | arrNil hb => exact .arrNil hb
      | arr a1 a2 a3 a4 a5 a6 a7 => exact .arr a1 a2 a3 a4 a5 a6 a7
      | dead => exact .dead
      | nest _ _ _ => rw [m2] at hj; exact absurd (Option.some.inj hj) (m5 _ _ _)
    · obtain ⟨id, hid⟩ := hrange j blk e1
      obtain ⟨id', hid'⟩ := hrange j' blk' e2
      rw [(hmem j id hid).1] at e1
      rw [(hmem j' id' hid').1] at e2
      rw [hμ j id hid] at f1
      rw [hμ j' id' hid'] at f2
      have := S.h.inj id id' _ _ b e1 e2 f1 f2
      subst this
      obtain ⟨q1, q2⟩ := List.getElem?_eq_some_iff.1 hid
      obtain ⟨q3, q4⟩ := List.getElem?_eq_some_iff.1 hid'
      exact (List.getElem_inj hp1.nodup).1 (q2.trans q4.symm)
    · obtain ⟨id, hid⟩ := hrange j blk e1
      obtain ⟨m1, b0, m2, m3, m4, m5⟩ := hmem j id hid
      rw [m1, m2] at e1
      cases e1
      exact .inl ⟨j, by rw [hp1.mem]; exact (List.getElem?_eq_some_iff.1 hid).1, f1.flat m5⟩
   have hcalls := hcall w (IFrz P w I β hp p.upd) μ (args.toList.map a.eval) hentry (by rw [hp1.args]) fun j v x hv hx =>
    hp1.rel (IFrz P w I β hp p.upd) μ (hpOf (memBlks p.mem)) (fun b h => .inl h) (fun q hq b hb => .inr ⟨q, hq, hb⟩) (fun j id hj => ⟨hμ j id hj, (hmem j id hj).1⟩) j v x hv hx
   have hex : (execOp a.eval o).run P w = .ok (.enter f (args.toList.map a.eval).toArray) w := by
    obtain ⟨dst, op, ty, pos, after, guard⟩ := o
    simp only at ho
    subst ho
    have e1 : (args.toList.map a.eval).toArray = args.map a.eval := by
     apply Array.toList_inj.1; simp
    rw [e1]
    simp [execOp, resolve, Act.eval, Deferred.ofValue, invoke, MuLone.run_callFunc_enter hf (hP f _ hf) hb]
   unfold Oper.wp
   rw [hex, Oper.upon_enter]
   refine hcalls.mono fun e w' hew => ?_
   obtain ⟨v, I2, rfl, ha⟩ := hew
   simp only
   cases hsafe : (safeRes P A fn f && memScalar P p.mem) with
   | true =>
    rw [hsafe] at hn
    simp only [Bool.and_eq_true] at hsafe
    have ha' := ha.safe (fun b h => .inl h) hsafe.1 hsafe.2
    obtain ⟨β2, k1, k2, k3⟩ := back_ok S hp1.mem hp1.shapes hp1.blk hμ ha' hfr
    simp only [cond_true, List.append_nil] at hn
    exact hn v w' I β2 k1 k2 k3
   | false =>
    rw [hsafe] at hn
    simp only [cond_false] at hn
    have hbase : ∀ id ∈ p.ids, updH hp p.upd id = hp id := fun id hi => updH_notin fun q hq => hov' id hi q hq
    obtain ⟨β2, k1, k2, k3⟩ := back_ok S1 hp1.mem hp1.shapes (fun j id m sh e1 e2 e3 => by
     have := hp1.blk j id m sh e1 e2 e3
     unfold PassMem at this ⊢
     rw [hbase id (List.mem_of_getElem? e1)]
     exact this) hμ ha (fun q hq => by
      rw [updH_notin fun q' hq' e => ?_]
      · exact hfr q hq
      · obtain ⟨e1, es, _, h5⟩ := hp1.upd q' hq'
        rw [e, hfr q hq] at h5
        rcases h5 with ⟨_, h5⟩ | ⟨_, h5⟩ <;> cases h5)
    refine hn v w' I2 β2 ?_ ?_ ?_
    · rw [← List.append_assoc, updH_app]; exact hle1.trans k1
    · rw [← List.append_assoc, updH_app]; exact k2
    · rw [← List.append_assoc, updH_app]; exact k3
theorem step_sim (hC : CallSim P A C) (hP : NoCount P) (S : Sim P w I β hp B M w0) {a : Act} {sl : Nat → V} (hs : SRel P w I β hp a sl) {nb : Nat} {o : Oper} {r : R} {rd : List Nat}
 (h : (opRd P A sl nb o).run C hp = some (r, rd)) : StepOk P o a w I β hp B M w0 r := by
 cases hc : isCall o.op with
 | false => exact (op_sim S hs hc h).step
 | true =>
  obtain ⟨dst, op, ty, pos, after, guard⟩ := o
  cases op <;> simp only [isCall] at hc <;> first | (cases hc; done) | skip
  rename_i c
  obtain ⟨callee, args, argTypes⟩ := c
  cases callee with
  | invoke r m => cases hc
  | builtin b => cases hc
  | value f =>
   cases f with
   | func f =>
    simp only [opRd] at h
    obtain ⟨h1, h2⟩ := run_chk h
    rw [Nat.beq_eq] at h1
    exact call_sim hC hP S hs rfl h1 h2
   | _ => cases hc
end
end Go.AM

/-
 AM: regions: one operation with its guard; operations in another order.
-/
namespace Go.AM
section
variable {P : Program} {A : Ann} {w w' : World} {I I' I2 : Nat → Prop} {μ β β' : Nat → Option Nat} {hp hp' : Nat → Option Blk} {C : CallF} {B : Nat} {M : Nat → Prop} {w0 : Start}
/-- The act of a call that stands where the evaluator stands. -/
structure ARel (P : Program) (w : World) (I : Nat → Prop) (β : Nat → Option Nat) (n : Nat) (a : Act) (st : St) : Prop where
 sl : SRel P w I β st.hp a st.sl
 size : a.tmps.size = n
 defers : a.defers = []
theorem put_rel {n : Nat} {a : Act} {st : St} {o : Oper} {v : Value} {x : V} {hp' : Nat → Option Blk} (h : ARel P w I β n a st) (hle : Le P w I β st.hp w' I' β' hp') (hd : dstOk o n = true)
 (hv : VRel P w' I' β' hp' v x) : ARel P w' I' β' n (a.put o.dst v) ⟨putO st.sl o.dst x, hp', st.nb⟩ := by
 cases hdst : o.dst with
 | none => exact ⟨fun k => (h.sl k).mono hle, h.size, h.defers⟩
 | some d =>
  have hlt : d < a.tmps.size := by
   unfold dstOk at hd
   rw [hdst] at hd
   rw [h.size]
   simpa using hd
  refine ⟨fun k => ?_, by simp [Act.put, h.size], h.defers⟩
  simp only [Act.put, putO, setN]
  cases hb : Nat.beq k d with
  | true =>
   rw [Nat.beq_eq] at hb
   subst hb
   simpa [hlt] using hv
  | false =>
   have hne : d ≠ k := fun e => by rw [e, Nat.beq_refl] at hb; cases hb
   have := (h.sl k).mono hle
   simpa [Array.getElem?_setIfInBounds_ne hne] using this
theorem bool_at {n : Nat} {a : Act} {st : St} {d : Nat} {b : Bool} (h : ARel P w I β n a st) (hd : st.sl d = .bool b) : a.tmps[d]? = some (.bool b) := by
 have := h.sl d
 rw [hd] at this
 have := this.bool_inv
 cases ht : a.tmps[d]? with
 | none => simp [ht] at this; cases this
 | some v => simp [ht] at this; rw [this]
theorem guardV_some {x : V} {b : Bool} (h : guardV x = some (some b)) : x = .bool b := by
 cases x with
 | bool c => simp only [guardV] at h; injection h with h; injection h with h; rw [h]
 | tup vs => cases vs <;> simp [guardV] at h
 | _ => simp [guardV] at h
theorem guardV_none {x : V} (h : guardV x = some none) : x = .tup [] := by
 cases x with
 | tup vs => cases vs with
  | nil => rfl
  | cons _ _ => simp [guardV] at h
 | bool c => simp [guardV] at h
 | _ => simp [guardV] at h
theorem VRel.tup_nil {v : Value} (h : VRel P w I β hp v (.tup [])) : v = .tuple #[] := by
 cases h with
 | @tup cs _ hs _ =>
  have : cs = #[] := by
   apply Array.eq_empty_of_size_eq_zero
   simpa using hs
  rw [this]
theorem VRel.undef_tup : VRel P w I β hp Go.undef (.tup []) := .tup (by rfl) (fun j v x _ hx => by simp at hx)
theorem oneOp_sim (hC : CallSim P A C) (hP : NoCount P) {ops : Array Oper} {n i nb : Nat} {o : Oper} (ho : ops[i]? = some o) {a : Act} {st st' : St} {R W : List Nat} (S : Sim P w I β st.hp B M w0) (hA : ARel P w I β n a st)
 (h : stepOp P A C n ops i o nb st = some (st', R, W)) {K : Act → World → Prop} {Q : Exit → Act → World → Prop}
 (hK : ∀ a' w' I' β', Le P w I β st.hp w' I' β' st'.hp → Sim P w' I' β' st'.hp B M w0 → ARel P w' I' β' n a' st' → K a' w') : wpOp P ops Q i K a w := by
 unfold stepOp at h
 cases hd : dstOk o n with
 | false => rw [hd] at h; cases h
 | true =>
  rw [hd] at h
  simp only [cond_true] at h
  have go : ∀ {st'' : St} {R W : List Nat}, (((opRd P A st.sl (nb + 64 * i) o).run C st.hp).bind fun r => some ((⟨putO st.sl o.dst r.1.v, updH st.hp r.1.upd, st.nb⟩ : St), r.2, r.1.upd.map (·.1))) = some (st'', R, W) → st'' = st' →
   o.wp P a w K Q := by
   intro st'' R W h e
   obtain ⟨⟨r, rd⟩, h1, h2⟩ := bind_some h
   cases h2
   subst e
   exact step_sim hC hP S hA.sl h1 K Q fun v w' I' β' k1 k2 k3 => hK _ w' I' β' k1 k2 (put_rel hA k1 hd k3)
  unfold wpOp
  rw [ho]
  simp only
  cases hg : o.guard with
  | none =>
   rw [hg] at h
   simp only [Region.wanted, hg, if_true]
   exact .inl (go h rfl)
  | some gw =>
   obtain ⟨g, want⟩ := gw
   rw [hg] at h
   simp only at h
   cases hgd : (ops[g]?).bind (·.dst) with
   | none => rw [hgd] at h; cases h
   | some d =>
    rw [hgd] at h
    simp only at h
    cases hgv : guardV (st.sl d) with
    | none => rw [hgv] at h; cases h
    | some ob =>
    rw [hgv] at h
    cases ob with
    | none =>
     have hsl := guardV_none hgv
     have hy : yielded ops a.tmps g = none := by
      unfold yielded
      rw [hgd]
      have := hA.sl d
      rw [hsl] at this
      have hu := VRel.tup_nil this
      simp only [Option.bind_some]
      cases ht : a.tmps[d]? with
      | none => rfl
      | some v => simp [ht] at hu; subst hu; rfl
     simp only [Region.wanted, hg, hy]
     injection h with h
     injection h with h3 h4
     subst h3
     have h2 : ((none : Option Bool) == some want) = false := rfl
     simp only [h2, Bool.false_eq_true, if_false]
     exact hK _ w I β (Le.refl w I β st.hp) S (put_rel hA (Le.refl w I β st.hp) hd VRel.undef_tup)
    | some b =>
    simp only at h
    have hsl := guardV_some hgv
    have hy : yielded ops a.tmps g = some b := by
     unfold yielded
     rw [hgd]
     simp only [Option.bind_some, bool_at hA hsl]
    simp only [Region.wanted, hg, hy]
    by_cases hb : b = want
    · subst hb
      simp only [beq_self_eq_true, cond_true] at h
      simp only [beq_self_eq_true, if_true]
      exact .inl (go h rfl)
    · have h1 : (b == want) = false := by simp [hb]
      have h2 : (some b == some want) = false := by simp [hb]
      rw [h1] at h
      simp only [cond_false] at h
      injection h with h
      injection h with h3 h4
      subst h3
      simp only [h2, Bool.false_eq_true, if_false]
      exact hK _ w I β (Le.refl w I β st.hp) S (put_rel hA (Le.refl w I β st.hp) hd VRel.undef_tup)
/-! One operation by its footprint. -/
theorem run_congr {α : Type} : ∀ {p : Rd α} {r : α} {rd : List Nat}, p.run C hp = some (r, rd) → (∀ id ∈ rd, hp' id = hp id) → p.run C hp' = some (r, rd)
 | .ret a, r, rd, h, _ => h
 | .fail, r, rd, h, _ => by cases h
 | .get id k, r, rd, h, he => by
  obtain ⟨x, h1, h2⟩ := bind_some h
  cases h2
  have e1 : hp' id = hp id := he id (by simp)
  have := run_congr (p := k (hp id)) (r := x.1) (rd := x.2) h1 (fun i hi => he i (by simp [hi]))
  simp only [Rd.run, e1, this, Option.bind_some]
 | .opt o k, r, rd, h, he => by
  obtain ⟨x, h1, h2⟩ := bind_some h
  simp only [Rd.run, h1, Option.bind_some]
  exact run_congr h2 he
 | .chk b k, r, rd, h, he => by
  obtain ⟨h1, h2⟩ := run_chk h
  simp only [Rd.run, h1, cond_true]
  exact run_congr h2 he
 | .call f a m k, r, rd, h, he => by
  obtain ⟨x, h1, h2⟩ := bind_some h
  simp only [Rd.run, h1, Option.bind_some]
  exact run_congr h2 he
theorem evO_congr {sl sl' : Nat → V} {t : TypeId} {x : Operand} (h : ∀ k, x = .tmp k → sl k = sl' k) : evO P t sl x = evO P t sl' x := by
 cases x with
 | tmp k => exact h k rfl
 | _ => rfl
theorem opRd_congr {sl sl' : Nat → V} {nb : Nat} {o : Oper} (h : ∀ x ∈ o.op.operands, ∀ k, x = .tmp k → sl k = sl' k) : opRd P A sl nb o = opRd P A sl' nb o := by
 have hev : ∀ t x, x ∈ o.op.operands → evO P t sl x = evO P t sl' x := fun t x hx => evO_congr (h x hx)
 obtain ⟨dst, op, ty, pos, after, guard⟩ := o
 have pairs : ∀ (t : TypeId) (ps : Array (Nat × Operand)), (∀ x ∈ ps.map (·.2), evO P t sl x = evO P t sl' x) →
  (ps.toList.map fun p => (p.1, evO P t sl p.2)) = ps.toList.map fun p => (p.1, evO P t sl' p.2) := fun t ps hp =>
  List.map_congr_left fun p hm => by rw [hp p.2 (Array.mem_map.2 ⟨p, Array.mem_toList_iff.1 hm, rfl⟩)]
 have pairs2 : ∀ (t : TypeId) (ps : Array (Nat × Operand)), (∀ x ∈ ps.map (·.2), evO P t sl x = evO P t sl' x) →
  (ps.toList.map fun p => (evO P t sl p.2).cells) = ps.toList.map fun p => (evO P t sl' p.2).cells := fun t ps hp =>
  List.map_congr_left fun p hm => by rw [hp p.2 (Array.mem_map.2 ⟨p, Array.mem_toList_iff.1 hm, rfl⟩)]
 cases op <;> simp only [Op.operands] at hev <;> simp only [opRd]
 case pick c x y => rw [hev ty c (by simp), hev ty x (by simp), hev ty y (by simp)]
 case build t ps => rw [pairs ty ps fun x hx => hev ty x (by simpa using hx), pairs2 ty ps fun x hx => hev ty x (by simpa using hx)]
 case buildSlice t len ps =>
  split
  · rename_i e _
    rw [pairs e ps fun x hx => hev e x (by simpa using hx)]
  · rfl
 case slice t x lo hi mx =>
  cases mx with
  | some m => rfl
  | none =>
   have e1 : lo.map (evO P 0 sl) = lo.map (evO P 0 sl') := by
    cases lo with
    | none => rfl
    | some l => simp only [Option.map_some, hev 0 l (by simp)]
   have e2 : hi.map (evO P 0 sl) = hi.map (evO P 0 sl') := by
    cases hi with
    | none => rfl
    | some l => simp only [Option.map_some, hev 0 l (by simp)]
   simp only [hev ty x (by simp), e1, e2]
 case call c =>
  obtain ⟨callee, args, argTypes⟩ := c
  have hargs : ∀ t x, x ∈ args → evO P t sl x = evO P t sl' x := fun t x hx => hev t x (by simp [Call.operands, hx])
  have hl : ∀ t (l : List Operand), (∀ x ∈ l, x ∈ args) → l.map (evO P t sl) = l.map (evO P t sl') := fun t l hl => List.map_congr_left fun x hx => hargs t x (hl x hx)
  have hz : ((args.toList.zip argTypes.toList).map fun p => evO P p.2 sl p.1) = (args.toList.zip argTypes.toList).map fun p => evO P p.2 sl' p.1 :=
   List.map_congr_left fun p hp => hargs p.2 p.1 (Array.mem_toList_iff.1 (List.of_mem_zip hp).1)
  cases callee with
  | invoke r m => rfl
  | builtin b =>
   have hal : ∀ x ∈ args.toList, ∀ t, evO P t sl x = evO P t sl' x := fun x hx t => hargs t x (Array.mem_toList_iff.1 hx)
   have hml : ∀ t (l : List Operand), (∀ x ∈ l, ∀ t, evO P t sl x = evO P t sl' x) → l.map (evO P t sl) = l.map (evO P t sl') := fun t l h => List.map_congr_left fun x hx => h x hx t
   cases b <;> first | rfl | skip
   case append =>
    dsimp only
    generalize args.toList = al at hal
    match al, hal, argTypes.toList with
    | [s, x], hal, [t, u] => simp only [hal s (by simp), hal x (by simp)]
    | [], _, _ => rfl
    | [_], _, _ => rfl
    | _ :: _ :: _ :: _, _, _ => rfl
    | [_, _], _, [] => rfl
    | [_, _], _, [_] => rfl
    | [_, _], _, _ :: _ :: _ :: _ => rfl
   case len =>
    dsimp only
    generalize args.toList = al at hal
    match al, hal, argTypes.toList with
    | [x], hal, [t] => simp only [hal x (by simp)]
    | [], _, _ => rfl
    | _ :: _ :: _, _, _ => rfl
    | [_], _, [] => rfl
    | [_], _, _ :: _ :: _ => rfl
   case max =>
    dsimp only
    generalize args.toList = al at hal
    match al, hal with
    | [], _ => rfl
    | x :: l, hal => simp only [hal x (by simp), hml ty l (fun y hy => hal y (by simp [hy]))]
   case min =>
    dsimp only
    generalize args.toList = al at hal
    match al, hal with
    | [], _ => rfl
    | x :: l, hal => simp only [hal x (by simp), hml ty l (fun y hy => hal y (by simp [hy]))]
  | value f =>
   cases f <;> first | rfl | skip
   simp only [hz]
 all_goals first
  | rfl
  | (simp [hev]; done)
end
end Go.AM

/-
 AM: the operations of a region in another order.
-/
namespace Go.AM
section
variable {P : Program} {A : Ann} {w w' : World} {I I' I2 : Nat → Prop} {μ β β' : Nat → Option Nat} {hp hp' : Nat → Option Blk} {C : CallF} {B : Nat} {M : Nat → Prop} {w0 : Start}
theorem step_char {n i nb : Nat} {ops : Array Oper} {o : Oper} {st st' : St} {R W : List Nat} (h : stepOp P A C n ops i o nb st = some (st', R, W)) :
 ∃ x upd, st' = ⟨putO st.sl o.dst x, updH st.hp upd, st.nb⟩ ∧ W = upd.map (·.1) ∧ ∀ st2 : St, (∀ d ∈ o.looksAt ops, st2.sl d = st.sl d) → (∀ id ∈ R, st2.hp id = st.hp id) →
  stepOp P A C n ops i o nb st2 = some (⟨putO st2.sl o.dst x, updH st2.hp upd, st2.nb⟩, R, W) := by
 unfold stepOp at h
 cases hd : dstOk o n with
 | false => rw [hd] at h; cases h
 | true =>
  rw [hd] at h
  simp only [cond_true] at h
  have go : (((opRd P A st.sl (nb + 64 * i) o).run C st.hp).bind fun r => some ((⟨putO st.sl o.dst r.1.v, updH st.hp r.1.upd, st.nb⟩ : St), r.2, r.1.upd.map (·.1))) = some (st', R, W) →
   ∃ x upd, st' = ⟨putO st.sl o.dst x, updH st.hp upd, st.nb⟩ ∧ W = upd.map (·.1) ∧ ∀ st2 : St, (∀ d ∈ o.looksAt ops, st2.sl d = st.sl d) → (∀ id ∈ R, st2.hp id = st.hp id) →
    (((opRd P A st2.sl (nb + 64 * i) o).run C st2.hp).bind fun r => some ((⟨putO st2.sl o.dst r.1.v, updH st2.hp r.1.upd, st2.nb⟩ : St), r.2, r.1.upd.map (·.1))) = some (⟨putO st2.sl o.dst x, updH st2.hp upd, st2.nb⟩, R, W) := by
   intro h
   obtain ⟨⟨r, rd⟩, h1, h2⟩ := bind_some h
   cases h2
   refine ⟨r.v, r.upd, rfl, rfl, fun st2 hs hh => ?_⟩
   rw [opRd_congr (sl' := st.sl) fun x hx k hk => ?_, run_congr h1 hh]
   · rfl
   · subst hk
     exact hs k (List.mem_append_left _ (List.mem_filterMap.2 ⟨.tmp k, by simpa using hx, rfl⟩))
  cases hg : o.guard with
  | none =>
   rw [hg] at h
   obtain ⟨x, upd, e1, e2, e3⟩ := go h
   refine ⟨x, upd, e1, e2, fun st2 hs hh => ?_⟩
   unfold stepOp
   simp only [hd, cond_true, hg]
   exact e3 st2 hs hh
  | some gw =>
   obtain ⟨g, want⟩ := gw
   rw [hg] at h
   simp only at h
   cases hgd : (ops[g]?).bind (·.dst) with
   | none => rw [hgd] at h; cases h
   | some d =>
    rw [hgd] at h
    simp only at h
    have hdl : d ∈ o.looksAt ops := List.mem_append_right _ (by rw [hg]; simp [hgd])
    cases hgv : guardV (st.sl d) with
    | none => rw [hgv] at h; cases h
    | some ob =>
    rw [hgv] at h
    cases ob with
    | none =>
     injection h with h
     injection h with h3 h4
     injection h4 with h5 h6
     subst h5; subst h6
     refine ⟨.tup [], [], h3.symm, rfl, fun st2 hs hh => ?_⟩
     unfold stepOp
     simp only [hd, cond_true, hg, hgd, hs d hdl, hgv]
     rfl
    | some b =>
    simp only at h
    cases hb : b == want with
    | true =>
     rw [hb] at h
     obtain ⟨x, upd, e1, e2, e3⟩ := go h
     refine ⟨x, upd, e1, e2, fun st2 hs hh => ?_⟩
     unfold stepOp
     simp only [hd, cond_true, hg, hgd, hs d hdl, hgv, hb]
     exact e3 st2 hs hh
    | false =>
     rw [hb] at h
     simp only [cond_false] at h
     injection h with h
     injection h with h3 h4
     injection h4 with h5 h6
     subst h5; subst h6
     refine ⟨.tup [], [], h3.symm, rfl, fun st2 hs hh => ?_⟩
     unfold stepOp
     simp only [hd, cond_true, hg, hgd, hs d hdl, hgv, hb, cond_false]
     rfl
theorem putO_ne {sl : Nat → V} {d : Option Nat} {x : V} {k : Nat} (h : d ≠ some k) : putO sl d x k = sl k := by
 cases d with
 | none => rfl
 | some d => exact setN_ne _ _ fun e => h (by rw [e])
theorem updH_comm {hp : Nat → Option Blk} {a b : List (Nat × Blk)} (h : ∀ q ∈ a, ∀ q' ∈ b, q.1 ≠ q'.1) : updH (updH hp a) b = updH (updH hp b) a := by
 funext id
 by_cases ha : ∃ q ∈ a, q.1 = id
 · have hb : ∀ q ∈ b, q.1 ≠ id := by
    obtain ⟨q, hq, rfl⟩ := ha
    exact fun q' hq' e => h q hq q' hq' e.symm
   rw [updH_notin hb]
   obtain ⟨q, hq, rfl⟩ := ha
   have same : ∀ (hp1 hp2 : Nat → Option Blk) (l : List (Nat × Blk)) (q : Nat × Blk), q ∈ l → updH hp1 l q.1 = updH hp2 l q.1 := by
    intro hp1 hp2 l
    induction l with
    | nil => intro q hq; simp at hq
    | cons p l ih =>
     intro q hq
     simp only [updH, setN]
     cases hb : Nat.beq q.1 p.1 with
     | true => rfl
     | false =>
      simp only [cond_false]
      refine ih q ((List.mem_cons.1 hq).resolve_left fun e => ?_)
      rw [e, Nat.beq_refl] at hb; cases hb
   exact same _ _ a q hq
 · rw [updH_notin (hp := updH hp b) (l := a) fun q hq e => ha ⟨q, hq, e⟩]
   have same : ∀ (hp1 hp2 : Nat → Option Blk) (l : List (Nat × Blk)), hp1 id = hp2 id → updH hp1 l id = updH hp2 l id := by
    intro hp1 hp2 l he
    induction l with
    | nil => exact he
    | cons p l ih =>
     simp only [updH, setN]
     cases hb : Nat.beq id p.1 with
     | true => rfl
     | false => exact ih
   exact same _ _ b (updH_notin fun q hq e => ha ⟨q, hq, e⟩)
structure Indep (ops : Array Oper) (o1 o2 : Oper) (R1 W1 R2 W2 : List Nat) : Prop where
 apart : Oper.apart ops o1 o2 = true
 w : ∀ id ∈ W1, id ∉ R2 ∧ id ∉ W2
 r : ∀ id ∈ R1, id ∉ W2
theorem step_swap {n i j nb : Nat} {ops : Array Oper} {o1 o2 : Oper} {st st1 st2 : St} {R1 W1 R2 W2 : List Nat} (h1 : stepOp P A C n ops i o1 nb st = some (st1, R1, W1)) (h2 : stepOp P A C n ops j o2 nb st1 = some (st2, R2, W2))
 (hi : Indep ops o1 o2 R1 W1 R2 W2) : ∃ st1', stepOp P A C n ops j o2 nb st = some (st1', R2, W2) ∧ stepOp P A C n ops i o1 nb st1' = some (st2, R1, W1) := by
 obtain ⟨x1, u1, e1, f1, g1⟩ := step_char h1
 obtain ⟨x2, u2, e2, f2, g2⟩ := step_char h2
 obtain ⟨a1, a2, a3⟩ := Oper.apart_spec hi.apart
 subst e1
 refine ⟨_, g2 st (fun d hd => ?_) (fun id hd => ?_), ?_⟩
 · simp only
   rw [putO_ne fun e => a1 d e hd]
 · simp only
   rw [updH_notin fun q hq e => (hi.w id (by rw [f1]; exact List.mem_map.2 ⟨q, hq, e⟩)).1 hd]
 · rw [g1 _ (fun d hd => ?_) (fun id hd => ?_), e2]
   · congr 3
     · funext k
       cases hd1 : o1.dst with
       | none => rfl
       | some d1 =>
        cases hd2 : o2.dst with
        | none => rfl
        | some d2 =>
         have hne : d2 ≠ d1 := fun e => a2 d1 hd1 (by rw [hd2, e])
         simp only [putO, setN]
         cases hk1 : Nat.beq k d1 <;> cases hk2 : Nat.beq k d2 <;> simp only [cond_true, cond_false]
         rw [Nat.beq_eq] at hk1 hk2
         exact absurd (hk2.symm.trans hk1) hne
     · exact (updH_comm fun q hq q' hq' e => (hi.w q.1 (by rw [f1]; exact List.mem_map.2 ⟨q, hq, rfl⟩)).2 (by rw [f2]; exact List.mem_map.2 ⟨q', hq', e.symm⟩)).symm
   · simp only
     rw [putO_ne fun e => a3 d e hd]
   · simp only
     rw [updH_notin fun q hq e => hi.r id hd (by rw [f2]; exact List.mem_map.2 ⟨q, hq, e⟩)]
/-- Operations one after the other, each with its footprint. -/
def Runs (P : Program) (A : Ann) (C : CallF) (n : Nat) (ops : Array Oper) (nb : Nat) : List (Nat × Oper × List Nat × List Nat) → St → St → Prop
 | [], st, st' => st = st'
 | (i, o, R, W) :: l, st, st' => ∃ st1, stepOp P A C n ops i o nb st = some (st1, R, W) ∧ Runs P A C n ops nb l st1 st'
def noteOf (x : Nat × Oper × List Nat × List Nat) : Nat × List Nat × List Nat := (x.1, x.2.2.1, x.2.2.2)
theorem runOps_runs {n nb : Nat} {ops : Array Oper} : ∀ {l : List (Nat × Oper)} {st st' : St} {log log' : Log}, runOps P A C n ops nb l st log = some (st', log') →
 ∃ g, g.map (fun x => (x.1, x.2.1)) = l ∧ log' = log ++ g.map noteOf ∧ Runs P A C n ops nb g st st'
 | [], st, st', log, log', h => by
  cases h
  exact ⟨[], rfl, by simp, rfl⟩
 | (i, o) :: l, st, st', log, log', h => by
  obtain ⟨⟨st1, R, W⟩, h1, h2⟩ := bind_some h
  obtain ⟨g, a, b, c⟩ := runOps_runs h2
  exact ⟨(i, o, R, W) :: g, by simp [a], by simp [b, noteOf], st1, h1, c⟩
def IndepX (ops : Array Oper) (x y : Nat × Oper × List Nat × List Nat) : Prop := Indep ops x.2.1 y.2.1 x.2.2.1 x.2.2.2 y.2.2.1 y.2.2.2
theorem runs_pull {n nb : Nat} {ops : Array Oper} {y : Nat × Oper × List Nat × List Nat} {g2 : List (Nat × Oper × List Nat × List Nat)} : ∀ {g1 : List (Nat × Oper × List Nat × List Nat)} {st st' : St},
 Runs P A C n ops nb (g1 ++ y :: g2) st st' → (∀ x ∈ g1, IndepX ops x y) → ∃ st1, stepOp P A C n ops y.1 y.2.1 nb st = some (st1, y.2.2.1, y.2.2.2) ∧ Runs P A C n ops nb (g1 ++ g2) st1 st'
 | [], st, st', h, _ => h
 | x :: g1, st, st', h, hi => by
  obtain ⟨st1, h1, h2⟩ := h
  obtain ⟨st2, h3, h4⟩ := runs_pull h2 fun z hz => hi z (List.mem_cons_of_mem _ hz)
  obtain ⟨st1', h5, h6⟩ := step_swap h1 h3 (hi x (by simp))
  exact ⟨st1', h5, st2, h6, h4⟩
theorem runs_seq (hC : CallSim P A C) (hP : NoCount P) {n nb : Nat} {ops : Array Oper} {Q : Exit → Act → World → Prop} : ∀ {g : List (Nat × Oper × List Nat × List Nat)} {st st' : St} {a : Act} {w : World} {I : Nat → Prop} {β : Nat → Option Nat},
 Runs P A C n ops nb g st st' → (∀ x ∈ g, ops[x.1]? = some x.2.1) → Sim P w I β st.hp B M w0 → ARel P w I β n a st →
 (∀ a' w' I' β', Le P w I β st.hp w' I' β' st'.hp → Sim P w' I' β' st'.hp B M w0 → ARel P w' I' β' n a' st' → Q .normal a' w') → wpOps P ops Q (g.map (·.1)) a w
 | [], st, st', a, w, I, β, h, _, S, hA, hQ => by
  cases h
  exact hQ a w I β (Le.refl w I β _) S hA
 | x :: g, st, st', a, w, I, β, h, ho, S, hA, hQ => by
  obtain ⟨st1, h1, h2⟩ := h
  rw [List.map_cons, wpOps_cons]
  refine oneOp_sim hC hP (ho x (by simp)) S hA h1 fun a' w' I' β' k1 k2 k3 => ?_
  exact runs_seq hC hP h2 (fun y hy => ho y (List.mem_cons_of_mem _ hy)) k2 k3 fun a2 w2 I2 β2 m1 m2 m3 => hQ a2 w2 I2 β2 (k1.trans m1) m2 m3
end
end Go.AM

/-
 AM: regions whole.
-/
namespace Go.AM
section
variable {P : Program} {A : Ann} {w w' : World} {I I' I2 : Nat → Prop} {μ β β' : Nat → Option Nat} {hp hp' : Nat → Option Blk} {C : CallF} {B : Nat} {M : Nat → Prop} {w0 : Start}
/-- One operation stands before another by the order's edges. -/
inductive Anc (ops : Array Oper) : Nat → Nat → Prop
 | edge {i x : Nat} {o : Oper} {e : Edge} : ops[i]? = some o → e ∈ o.after → Region.binds .any e = true → e.on = x → Anc ops i x
 | trans {i x : Nat} {o : Oper} {e : Edge} : ops[i]? = some o → e ∈ o.after → Region.binds .any e = true → Anc ops e.on x → Anc ops i x
theorem bits_fold {acc : Array Nat} {x : Nat} : ∀ {l : List Edge} {s : Nat}, (l.foldl (fun s e => if Region.binds .any e then s ||| 2 ^ e.on ||| acc.getD e.on 0 else s) s).testBit x = true →
 s.testBit x = true ∨ ∃ e ∈ l, Region.binds .any e = true ∧ (e.on = x ∨ (acc.getD e.on 0).testBit x = true)
 | [], s, h => .inl h
 | e :: l, s, h => by
  simp only [List.foldl_cons] at h
  rcases bits_fold h with h1 | ⟨e', a, b⟩
  · by_cases hb : Region.binds .any e = true
    · rw [if_pos hb, Nat.testBit_or, Nat.testBit_or, Bool.or_eq_true, Bool.or_eq_true] at h1
      rcases h1 with (h1 | h1) | h1
      · exact .inl h1
      · rw [Nat.testBit_two_pow] at h1
        exact .inr ⟨e, by simp, hb, .inl (by simpa using h1)⟩
      · exact .inr ⟨e, by simp, hb, .inr h1⟩
    · rw [if_neg hb] at h1
      exact .inl h1
  · exact .inr ⟨e', List.mem_cons_of_mem _ a, b⟩
theorem before_go {ops : Array Oper} {x : Nat} : ∀ {l : List Oper} {acc : Array Nat}, (∀ j o, l[j]? = some o → ops[acc.size + j]? = some o) → (∀ j, (acc.getD j 0).testBit x = true → Anc ops j x) →
 ∀ j, ((l.foldl (fun acc o => acc.push (o.after.foldl (fun s e => if Region.binds .any e then s ||| 2 ^ e.on ||| acc.getD e.on 0 else s) 0)) acc).getD j 0).testBit x = true → Anc ops j x
 | [], acc, _, hacc, j, h => hacc j h
 | o :: l, acc, hl, hacc, j, h => by
  simp only [List.foldl_cons] at h
  refine before_go (l := l) ?_ ?_ j h
  · intro j o' hj
    have := hl (j + 1) o' (by simpa using hj)
    rw [Array.size_push]
    rwa [show acc.size + 1 + j = acc.size + (j + 1) by omega]
  · intro k hk
    simp only [Array.getD_eq_getD_getElem?, Array.getElem?_push] at hk
    by_cases hks : k = acc.size
    · rw [if_pos hks] at hk
      simp only [Option.getD_some] at hk
      rw [← Array.foldl_toList] at hk
      have ho := hl 0 o rfl
      rw [Nat.add_zero] at ho
      rw [hks]
      have hk2 : (o.after.toList.foldl (fun s e => if Region.binds .any e then s ||| 2 ^ e.on ||| acc.getD e.on 0 else s) 0).testBit x = true := by simpa [Array.getD_eq_getD_getElem?] using hk
      rcases bits_fold hk2 with h0 | ⟨e, he, hb, h1⟩
      · simp at h0
      · rcases h1 with h1 | h1
        · exact .edge ho (Array.mem_toList_iff.1 he) hb h1
        · exact .trans ho (Array.mem_toList_iff.1 he) hb (hacc _ h1)
    · rw [if_neg hks] at hk
      exact hacc k (by simpa [Array.getD_eq_getD_getElem?] using hk)
theorem before_anc {ops : Array Oper} {i x : Nat} (h : ((Region.before ops).getD i 0).testBit x = true) : Anc ops i x := by
 unfold Region.before at h
 rw [← Array.foldl_toList] at h
 refine before_go (l := ops.toList) (acc := #[]) (fun j o hj => by simpa using hj) (fun j hj => by simp at hj) i h
/-- The listed ones are closed under the order. -/
def Closed (ops : Array Oper) (listed : Array Bool) : Prop := ∀ i o, ops[i]? = some o → listed.getD i false = true → ∀ e ∈ o.after, Region.binds .any e = true → listed.getD e.on false = true
theorem anc_listed {ops : Array Oper} {listed : Array Bool} (hc : Closed ops listed) {i x : Nat} (h : Anc ops i x) (hi : ∀ o, ops[i]? = some o → ∀ e ∈ o.after, Region.binds .any e = true → listed.getD e.on false = true) : listed.getD x false = true := by
 induction h with
 | edge ho he hb hx => rw [← hx]; exact hi _ ho _ he hb
 | trans ho he hb _ ih => exact ih fun o' ho' e' he' hb' => hc _ o' ho' (hi _ ho _ he hb) e' he' hb'
theorem ord_spec : ∀ {l : List Oper} {k j : Nat} {o : Oper}, ordFrom k l = true → l[j]? = some o → ∀ e ∈ o.after, Region.binds .any e = true → e.on < k + j
 | [], k, j, o, _, h => by simp at h
 | o' :: l, k, j, o, hk, h => by
  simp only [ordFrom, Bool.and_eq_true] at hk
  cases j with
  | zero =>
   simp at h
   subst h
   intro e he hb
   have := List.all_eq_true.1 hk.1 e (Array.mem_toList_iff.2 he)
   simp [hb] at this
   omega
  | succ j =>
   intro e he hb
   have := ord_spec hk.2 (j := j) (by simpa using h) e he hb
   omega
theorem logOk_spec {ops : Array Oper} {bef : Array Nat} : ∀ {l : Log}, logOk ops bef l = true → l.Pairwise fun x y => pairOk ops bef x y = true
 | [], _ => .nil
 | x :: l, h => by
  simp only [logOk, Bool.and_eq_true] at h
  exact .cons (fun y hy => List.all_eq_true.1 h.1 y hy) (logOk_spec h.2)
theorem getD_listed {listed : Array Bool} {i : Nat} (h : listed.getD i true = false) : i < listed.size ∧ listed.getD i false = false := by
 rcases Nat.lt_or_ge i listed.size with h' | h'
 · refine ⟨h', ?_⟩
   simpa [h'] using h
 · simp [Array.getElem?_eq_none h'] at h
theorem any_sim (hC : CallSim P A C) (hP : NoCount P) {n nb : Nat} {ops : Array Oper} {Q : Exit → Act → World → Prop} (hord : ordFrom 0 ops.toList = true) :
 ∀ (fuel : Nat) {g : List (Nat × Oper × List Nat × List Nat)} {listed : Array Bool} {st st' : St} {a : Act} {w : World} {I : Nat → Prop} {β : Nat → Option Nat},
 g.length = fuel → Runs P A C n ops nb g st st' → (∀ x ∈ g, ops[x.1]? = some x.2.1) → (g.map (·.1)).Pairwise (· < ·) → (g.map noteOf).Pairwise (fun x y => pairOk ops (Region.before ops) x y = true) →
 listed.size = ops.size → (∀ i, i < ops.size → (listed.getD i false = false ↔ i ∈ g.map (·.1))) → Closed ops listed →
 Sim P w I β st.hp B M w0 → ARel P w I β n a st →
 (∀ a' w' I' β', Le P w I β st.hp w' I' β' st'.hp → Sim P w' I' β' st'.hp B M w0 → ARel P w' I' β' n a' st' → Q .normal a' w') → wpAny P .any ops Q fuel listed a w
 | 0, g, listed, st, st', a, w, I, β, hf, hr, ho, hlt, hpair, hsz, hun, hcl, S, hA, hQ => by
  obtain rfl : g = [] := List.eq_nil_of_length_eq_zero hf
  cases hr
  refine ⟨?_, hQ a w I β (Le.refl w I β _) S hA⟩
  rw [List.eq_nil_iff_forall_not_mem]
  intro i hi
  obtain ⟨h0, _⟩ := mem_ready.1 hi
  obtain ⟨h1, h2⟩ := getD_listed h0
  have := (hun i (by omega)).1 h2
  simp at this
 | fuel + 1, g, listed, st, st', a, w, I, β, hf, hr, ho, hlt, hpair, hsz, hun, hcl, S, hA, hQ => by
  refine ⟨fun hnil => ?_, fun i hi => ?_⟩
  · exfalso
    cases g with
    | nil => simp at hf
    | cons x g =>
     have hx := ho x (by simp)
     have hxs : x.1 < ops.size := (Array.getElem?_eq_some_iff.1 hx).1
     have hin : x.1 ∈ Region.ready .any ops listed := by
      rw [mem_ready]
      have h0 := (hun x.1 hxs).2 (by simp)
      refine ⟨?_, x.2.1, hx, fun e he hb => ?_⟩
      · have hl : x.1 < listed.size := by omega
        simpa [hl] using h0
      · have hlt' := ord_spec hord (j := x.1) (by simpa using hx) e he hb
        rw [Nat.zero_add] at hlt'
        cases hle : listed.getD e.on false with
        | true => rfl
        | false =>
         have hm := (hun e.on (by omega)).1 hle
         simp only [List.map_cons, List.mem_cons] at hm
         rw [List.map_cons, List.pairwise_cons] at hlt
         rcases hm with hm | hm
         · omega
         · have := hlt.1 _ hm; omega
     rw [hnil] at hin
     cases hin
  · obtain ⟨h0, oi, hoi, hed⟩ := mem_ready.1 hi
    obtain ⟨h1, h2⟩ := getD_listed h0
    have hig := (hun i (by omega)).1 h2
    obtain ⟨y, hy, hyi⟩ := List.mem_map.1 hig
    obtain ⟨g1, g2, rfl⟩ := List.append_of_mem hy
    subst hyi
    have hyo := ho y hy
    rw [hoi] at hyo
    have hyo' : oi = y.2.1 := Option.some.inj hyo
    have hnd : ((g1 ++ y :: g2).map (·.1)).Nodup := hlt.imp fun h => Nat.ne_of_lt h
    have hind : ∀ x ∈ g1, IndepX ops x y := by
     intro x hx
     have hp : pairOk ops (Region.before ops) (noteOf x) (noteOf y) = true := by
      rw [List.map_append, List.map_cons, List.pairwise_append] at hpair
      exact hpair.2.2 _ (List.mem_map.2 ⟨x, hx, rfl⟩) _ (by simp)
     have hxo := ho x (List.mem_append.2 (.inl hx))
     unfold pairOk at hp
     rw [Bool.or_eq_true] at hp
     rcases hp with hp | hp
     · have hl := anc_listed hcl (before_anc hp) fun o ho' e he hb => by
        have : o = oi := by
         have h3 : ops[y.1]? = some o := ho'
         rw [hoi] at h3
         exact (Option.some.inj h3).symm
        subst this
        exact hed e he hb
       have hxs : x.1 < ops.size := (Array.getElem?_eq_some_iff.1 hxo).1
       have := (hun x.1 hxs).2 (List.mem_map.2 ⟨x, List.mem_append.2 (.inl hx), rfl⟩)
       rw [show (noteOf x).1 = x.1 from rfl, this] at hl
       cases hl
     · simp only [noteOf, Array.getD_eq_getD_getElem?, hxo, hoi, Option.getD_some, Bool.and_eq_true, Bool.not_eq_true'] at hp
       obtain ⟨q1, q2, q3⟩ := hp
       refine ⟨hyo' ▸ q1, fun id hid => ?_, fun id hid => overlap_false q3 hid⟩
       have := overlap_false q2 hid
       rw [List.mem_append] at this
       exact ⟨fun h => this (.inl h), fun h => this (.inr h)⟩
    obtain ⟨st1, hs1, hs2⟩ := runs_pull hr hind
    rw [← hyo'] at hs1
    refine oneOp_sim hC hP hoi S hA hs1 fun a' w' I' β' k1 k2 k3 => ?_
    have hsub : List.Sublist (g1 ++ g2) (g1 ++ y :: g2) := List.Sublist.append_left (List.sublist_cons_self y g2) g1
    have hset : ∀ j, j ≠ y.1 → (listed.setIfInBounds y.1 true).getD j false = listed.getD j false := fun j hj => getD_set_ne false (Ne.symm hj)
    refine any_sim hC hP hord fuel (g := g1 ++ g2) (st' := st') ?_ hs2 (fun x hx => ho x (hsub.subset hx)) (hlt.sublist (hsub.map _)) (hpair.sublist (hsub.map _)) (by simp [hsz]) (fun j hj => ?_) (fun j o hjo hjl e he hb => ?_) k2 k3 fun a2 w2 I2 β2 m1 m2 m3 => hQ a2 w2 I2 β2 (k1.trans m1) m2 m3
    · simp at hf ⊢; omega
    · by_cases hjy : j = y.1
      · subst hjy
        have hl : y.1 < listed.size := by omega
        simp only [Array.getD_eq_getD_getElem?, Array.getElem?_setIfInBounds_self_of_lt hl, Option.getD_some]
        refine ⟨fun h => (by cases h), fun h => ?_⟩
        exfalso
        rw [List.map_append, List.map_cons, List.nodup_append, List.nodup_cons] at hnd
        rw [List.map_append, List.mem_append] at h
        rcases h with h | h
        · exact hnd.2.2 _ h _ (by simp) rfl
        · exact hnd.2.1.1 h
      · rw [hset j hjy, hun j hj]
        simp only [List.map_append, List.map_cons, List.mem_append, List.mem_cons]
        constructor
        · rintro (h | h | h)
          · exact .inl h
          · exact absurd h hjy
          · exact .inr h
        · rintro (h | h)
          · exact .inl h
          · exact .inr (.inr h)
    · by_cases hjy : j = y.1
      · subst hjy
        rw [hoi] at hjo
        cases hjo
        exact getD_set_true (hed e he hb)
      · rw [hset j hjy] at hjl
        exact getD_set_true (hcl j o hjo hjl e he hb)
end
end Go.AM

/-
 AM: a region's wp.
-/
namespace Go.AM
section
variable {P : Program} {A : Ann} {w w' : World} {I I' I2 : Nat → Prop} {μ β β' : Nat → Option Nat} {hp hp' : Nat → Option Blk} {C : CallF} {B : Nat} {M : Nat → Prop} {w0 : Start}
theorem withIdx_get : ∀ {l : List Oper} {k j : Nat}, (withIdx k l)[j]? = (l[j]?).map fun o => (k + j, o)
 | [], k, j => by simp [withIdx]
 | o :: l, k, 0 => by simp [withIdx]
 | o :: l, k, j + 1 => by
  simp only [withIdx, List.getElem?_cons_succ, withIdx_get]
  congr 1
  funext o
  rw [show k + 1 + j = k + (j + 1) by omega]
theorem withIdx_fst : ∀ {l : List Oper} {k : Nat}, (withIdx k l).map (·.1) = List.range' k l.length
 | [], k => rfl
 | o :: l, k => by simp [withIdx, withIdx_fst, List.range'_succ]
theorem region_sim (hC : CallSim P A C) (hP : NoCount P) (hm : P.follows .mixedOrders = true) {n id : Nat} {ops : Array Oper} {draw : Bool} {st st' : St} {a : Act} {Q : Exit → Act → World → Prop}
 (h : runRegion P A C n ops draw st = some st') (S : Sim P w I β st.hp B M w0) (hA : ARel P w I β n a st)
 (hQ : ∀ a' w' I' β', Le P w I β st.hp w' I' β' st'.hp → Sim P w' I' β' st'.hp B M w0 → ARel P w' I' β' n a' st' → Q .normal a' w') : (Code.region id ops draw).wp P Q a w := by
 obtain ⟨⟨st1, log⟩, h1, h2⟩ := bind_some h
 obtain ⟨g, g1, g2, g3⟩ := runOps_runs h1
 have hfst : g.map (·.1) = List.range ops.size := by
  have : g.map (·.1) = (g.map fun x => (x.1, x.2.1)).map (·.1) := by simp
  rw [this, g1, withIdx_fst, List.range_eq_range']
  simp
 have hop : ∀ x ∈ g, ops[x.1]? = some x.2.1 := by
  intro x hx
  have : (x.1, x.2.1) ∈ withIdx 0 ops.toList := by rw [← g1]; exact List.mem_map.2 ⟨x, hx, rfl⟩
  obtain ⟨j, hj⟩ := List.mem_iff_getElem?.1 this
  rw [withIdx_get] at hj
  cases ho : ops.toList[j]? with
  | none => rw [ho] at hj; cases hj
  | some o =>
   rw [ho] at hj
   simp only [Option.map_some, Nat.zero_add, Option.some.injEq, Prod.mk.injEq] at hj
   rw [← hj.1, ← hj.2]
   simpa using ho
 cases draw with
 | false =>
  simp only [Bool.not_false, Bool.true_or, cond_true] at h2
  cases h2
  refine wp_region ?_
  rw [← hfst]
  exact runs_seq hC hP g3 hop S hA hQ
 | true =>
  simp only [Bool.not_true, Bool.false_or] at h2
  cases hc : (Region.noSelect ops && logsOk ops log) with
  | false => rw [hc] at h2; cases h2
  | true =>
   rw [hc] at h2
   cases h2
   simp only [Bool.and_eq_true, logsOk] at hc
   obtain ⟨hns, hord, hlog⟩ := hc
   simp only [List.nil_append] at g2
   refine wp_region_any hm ?_
   have hlen : g.length = ops.size := by
    have := congrArg List.length hfst
    simpa using this
   refine any_sim hC hP hord ops.size (g := g) (st' := st') hlen g3 hop (by rw [hfst]; exact List.pairwise_lt_range) (by rw [← g2]; exact logOk_spec hlog) (by simp) (fun i hi => ?_) (fun i o ho hl => ?_)
    (w := w.drew) S.drew ⟨fun k => (hA.sl k).mono (Le.drew w I β _), hA.size, hA.defers⟩ fun a' w' I' β' k1 k2 k3 => hQ a' w' I' β' ((Le.drew w I β _).trans k1) k2 k3
   · rw [hfst]
     simp [hi]
   · have hi := (Array.getElem?_eq_some_iff.1 ho).1
     simp [hi] at hl
end
end Go.AM

/-
 AM: the end of a region: freezing.
-/
namespace Go.AM
section
variable {P : Program} {A : Ann} {w w' : World} {I I' I2 : Nat → Prop} {μ β β' : Nat → Option Nat} {hp hp' : Nat → Option Blk} {C : CallF} {B : Nat} {M : Nat → Prop} {w0 : Start}
theorem frzIds_sim : ∀ {l : List Nat} {hp : Nat → Option Blk} {I : Nat → Prop}, Sim P w I β hp B M w0 → ∃ I', Le P w I β hp w I' β (frzIds hp l) ∧ Sim P w I' β (frzIds hp l) B M w0
 | [], hp, I, S => ⟨I, Le.refl w I β hp, S⟩
 | id :: l, hp, I, S => by
  simp only [frzIds]
  cases hid : hp id with
  | none => exact frzIds_sim S
  | some blk =>
   cases blk with
   | dead => exact frzIds_sim S
   | var _ => exact frzIds_sim S
   | arr e es fz =>
    obtain ⟨h1, h2⟩ := freeze_sim S (upd := [(id, .arr e es true)]) (fun p hp => by
     simp only [List.mem_singleton] at hp
     subst hp
     exact ⟨e, es, rfl, .inl ⟨fz, hid⟩⟩)
    obtain ⟨I', h3, h4⟩ := frzIds_sim (l := l) h2
    exact ⟨I', h1.trans h3, h4⟩
   | nest e es vers =>
    obtain ⟨h1, h2⟩ := freeze_sim S (upd := [(id, .arr e es true)]) (fun p hp => by
     simp only [List.mem_singleton] at hp
     subst hp
     exact ⟨e, es, rfl, .inr ⟨vers, hid⟩⟩)
    obtain ⟨I', h3, h4⟩ := frzIds_sim (l := l) h2
    exact ⟨I', h1.trans h3, h4⟩
theorem freeze_ok {n m : Nat} {pur : List Nat} {a : Act} {st : St} (S : Sim P w I β st.hp B M w0) (hA : ARel P w I β n a st) :
 ∃ I', Le P w I β st.hp w I' β (freeze m pur st).hp ∧ Sim P w I' β (freeze m pur st).hp B M w0 ∧ ARel P w I' β n a (freeze m pur st) := by
 obtain ⟨I', h1, h2⟩ := frzIds_sim (l := (purIds st pur).filter fun id => Nat.ble m id) S
 exact ⟨I', h1, h2, fun k => (hA.sl k).mono h1, hA.size, hA.defers⟩
/-! Renumbering. -/
/-- The new numbering of blocks: those of 'ord', and behind them empty arrays without a block. -/
structure Ren (hp : Nat → Option Blk) (β : Nat → Option Nat) (ord : List Nat) (hp' : Nat → Option Blk) (β' : Nat → Option Nat) : Prop where
 /-- A kept block: the same kind, the same place. -/
 arr : ∀ (j : Nat) id e es fz, ord[j]? = some id → hp id = some (.arr e es fz) → hp' j = some (.arr e es fz)
 var : ∀ (j : Nat) id cs, ord[j]? = some id → hp id = some (.var cs) → ∃ cs', hp' j = some (.var cs')
 dead : ∀ (j : Nat) id, ord[j]? = some id → hp id = some .dead → hp' j = some .dead
 place : ∀ (j : Nat) id, ord[j]? = some id → β' j = β id
 nest : ∀ (j : Nat) id e es vers, ord[j]? = some id → hp id = some (.nest e es vers) → hp' j = some (.nest e es (vers.map fun _ => 0))
theorem posN_spec : ∀ {l : List Nat} {n i j : Nat}, posN l n i = some j → ∃ k, j = i + k ∧ l[k]? = some n
 | [], n, i, j, h => by cases h
 | a :: l, n, i, j, h => by
  simp only [posN] at h
  cases hb : Nat.beq n a with
  | true =>
   rw [hb] at h
   cases h
   rw [Nat.beq_eq] at hb
   exact ⟨0, rfl, by rw [hb]; rfl⟩
  | false =>
   rw [hb] at h
   obtain ⟨k, h1, h2⟩ := posN_spec h
   exact ⟨k + 1, by omega, by simpa using h2⟩
/-- The new empty arrays, from number n on. -/
def Fresh (hp' : Nat → Option Blk) (β' : Nat → Option Nat) (n : Nat) (bs : List Blk) : Prop :=
 ∀ (k : Nat) b, bs[k]? = some b → hp' (n + k) = some b ∧ β' (n + k) = none
theorem verAt_zero : ∀ (vers : List Nat) (k : Nat), verAt (vers.map fun _ => 0) k = 0
 | [], _ => rfl
 | _ :: _, 0 => rfl
 | _ :: vs, k + 1 => verAt_zero vs k
theorem past_not {e : TypeId} {es : List V} {vers : List Nat} {path : Path} {ver : Nat} (hc : (Nat.blt 0 path.length && (Nat.ble path.length vers.length && Nat.beq (verAt vers (path.length - 1)) ver)) = true)
 (h : (Blk.nest e es vers).past path ver) : False := by
 simp only [Bool.and_eq_true, Nat.blt_eq, Nat.ble_eq, Nat.beq_eq] at hc
 obtain ⟨h1, h2, h3⟩ := hc
 rcases h with h | h | h
 · subst h; simp at h1
 · omega
 · omega
theorem ren1_sim (S : Sim P w I β hp B M w0) {ord : List Nat} (hR : Ren hp β ord hp' β') {n : Nat} {v : Value} {x : V} (hv : VRel P w I β hp v x) (hF : Fresh hp' β' n (ren1 hp ord n x).2) :
 VRel P w I β' hp' v (ren1 hp ord n x).1 := by
 cases hv with
 | undef => exact .undef
 | int => exact .int
 | bool => exact .bool
 | str h => exact .str h
 | list h => exact .list h
 | nilS =>
  obtain ⟨h1, h2⟩ := hF 0 _ rfl
  exact .wholeNil h1 h2
 | agg => exact .undef
 | tup => exact .undef
 | nilp => exact .nilp
 | fn => exact .fn
 | pref a b c => exact .pref a b c
 | @wholeDead _ e id hid =>
  simp only [ren1]
  cases hp1 : posN ord id 0 with
  | none => simp only [hid]; exact .undef
  | some j =>
   obtain ⟨k, rfl, hk⟩ := posN_spec hp1
   exact .wholeDead (hR.dead _ id (by simpa using hk) hid)
 | @subDead _ e id off len hid =>
  simp only [ren1]
  cases hp1 : posN ord id 0 with
  | none => simp only [hid]; exact .undef
  | some j =>
   obtain ⟨k, rfl, hk⟩ := posN_spec hp1
   exact .subDead (hR.dead _ id (by simpa using hk) hid)
 | @ptrDead _ id i c hid =>
  simp only [ren1]
  cases hp1 : posN ord id 0 with
  | none => exact .undef
  | some j =>
   obtain ⟨k, rfl, hk⟩ := posN_spec hp1
   exact .ptrDead (hR.dead _ id (by simpa using hk) hid)
 | @wholeNil e id fz hid hb =>
  simp only [ren1]
  cases hp1 : posN ord id 0 with
  | none =>
   simp only [hid]
   cases fz with
   | false => exact .undef
   | true => simp only [Nat.beq_refl, cond_true]; exact .list .nil
  | some j =>
   obtain ⟨k, rfl, hk⟩ := posN_spec hp1
   have hk' : ord[0 + k]? = some id := by simpa using hk
   exact .wholeNil (hR.arr _ id _ _ _ hk' hid) ((hR.place _ id hk').trans hb)
 | @whole e id es fz b cap hid hb hsz hcap hm =>
  simp only [ren1]
  cases hp1 : posN ord id 0 with
  | none =>
   simp only [hid]
   cases fz with
   | false => exact .undef
   | true =>
    simp only [Nat.beq_refl, cond_true]
    have hr := S.h.rel id _ hid
    cases hr with
    | arrNil hb' => rw [hb'] at hb; cases hb
    | arr hok hb' hh hs hf hnf hx =>
     rw [hb] at hb'; cases hb'
     have := arr_plain (I' := I) (off := 0) (len := es.length) (o := 0) hh hx (okTy_etys hok) (by omega) hcap (fun _ => by simp) (fun _ h => h) (hf rfl)
     exact .list (by simpa using this)
  | some j =>
   obtain ⟨k, rfl, hk⟩ := posN_spec hp1
   have hk' : ord[0 + k]? = some id := by simpa using hk
   exact .whole (hR.arr _ id _ _ _ hk' hid) ((hR.place _ id hk').trans hb) hsz hcap hm
 | @subNil e id fz hid hb =>
  simp only [ren1]
  cases hp1 : posN ord id 0 with
  | none =>
   simp only [hid]
   cases fz with
   | false => exact .undef
   | true => simp only [Nat.beq_refl, cond_true]; exact .list (by simpa using PList.nil)
  | some j =>
   obtain ⟨k, rfl, hk⟩ := posN_spec hp1
   have hk' : ord[0 + k]? = some id := by simpa using hk
   exact .subNil (hR.arr _ id _ _ _ hk' hid) ((hR.place _ id hk').trans hb)
 | @sub e id off len es fz b o cap hid hb hol hcap ho =>
  simp only [ren1]
  cases hp1 : posN ord id 0 with
  | none =>
   simp only [hid]
   cases fz with
   | false => exact .undef
   | true =>
    simp only [Nat.beq_refl, cond_true]
    have hr := S.h.rel id _ hid
    cases hr with
    | arrNil hb' => rw [hb'] at hb; cases hb
    | arr hok hb' hh hs hf hnf hx =>
     rw [hb] at hb'; cases hb'
     exact .list (arr_plain (I' := I) hh hx (okTy_etys hok) hol hcap ho (fun _ h => h) (hf rfl))
  | some j =>
   obtain ⟨k, rfl, hk⟩ := posN_spec hp1
   have hk' : ord[0 + k]? = some id := by simpa using hk
   exact .sub (hR.arr _ id _ _ _ hk' hid) ((hR.place _ id hk').trans hb) hol hcap ho
 | @ptr id i c b blk hid hd hb =>
  simp only [ren1]
  cases hp1 : posN ord id 0 with
  | none => exact .undef
  | some j =>
   obtain ⟨k, rfl, hk⟩ := posN_spec hp1
   have hk' : ord[0 + k]? = some id := by simpa using hk
   cases blk with
   | dead => exact absurd rfl hd
   | var cs =>
    obtain ⟨cs', h'⟩ := hR.var _ id cs hk' hid
    exact .ptr (blk := .var cs') h' (by simp) ((hR.place _ id hk').trans hb)
   | arr e es fz => exact .ptr (blk := .arr e es fz) (hR.arr _ id _ _ _ hk' hid) (by simp) ((hR.place _ id hk').trans hb)
   | nest e es vers => exact .ptr (blk := .nest e es (vers.map fun _ => 0)) (hR.nest _ id _ _ _ hk' hid) (by simp) ((hR.place _ id hk').trans hb)
 | @wholeN e id es vers b cap hid hb hsz hcap hm =>
  simp only [ren1]
  cases hp1 : posN ord id 0 with
  | none => simp only [hid]; exact .undef
  | some j =>
   obtain ⟨k, rfl, hk⟩ := posN_spec hp1
   have hk' : ord[0 + k]? = some id := by simpa using hk
   exact .wholeN (hR.nest _ id _ _ _ hk' hid) ((hR.place _ id hk').trans hb) hsz hcap hm
 | @rowPast v e id ver path blk hid hpast =>
  simp only [ren1]
  split
  · rename_i j e1 es1 vers h1 h2
    rw [hid] at h2
    cases h2
    cases hc : (Nat.blt 0 path.length && (Nat.ble path.length vers.length && Nat.beq (verAt vers (path.length - 1)) ver)) with
    | false => exact .undef
    | true => exact (past_not hc hpast).elim
  · exact .undef
 | @atPast v id ver i c path blk hid hpast =>
  simp only [ren1]
  split
  · rename_i j e1 es1 vers h1 h2
    rw [hid] at h2
    cases h2
    cases hc : (Nat.blt 0 path.length && (Nat.ble path.length vers.length && Nat.beq (verAt vers (path.length - 1)) ver)) with
    | false => exact .undef
    | true => exact (past_not hc hpast).elim
  · exact .undef
 | @row v e e0 t id ver b i c q es l vers hid hb hq hv ht hc =>
  simp only [ren1]
  split
  · rename_i j e1 es1 vers1 h1 h2
    obtain ⟨k, rfl, hk⟩ := posN_spec h1
    have hk' : ord[0 + k]? = some id := by simpa using hk
    cases hx : (Nat.blt 0 (q ++ [(i, c)]).length && (Nat.ble (q ++ [(i, c)]).length vers1.length && Nat.beq (verAt vers1 ((q ++ [(i, c)]).length - 1)) ver)) with
    | false => exact .undef
    | true => exact .row (hR.nest _ id _ _ _ hk' hid) ((hR.place _ id hk').trans hb) (by simpa using hq) (verAt_zero _ _) ht hc
  · exact .undef
 | @elt e e0 t id ver b b1 len cap i0 c0 i c q es l vers hid hb hq hv ht hl0 hc =>
  simp only [ren1]
  split
  · rename_i j e1 es1 vers1 h1 h2
    obtain ⟨k, rfl, hk⟩ := posN_spec h1
    have hk' : ord[0 + k]? = some id := by simpa using hk
    cases hx : (Nat.blt 0 (q ++ [(i0, c0)]).length && (Nat.ble (q ++ [(i0, c0)]).length vers1.length && Nat.beq (verAt vers1 ((q ++ [(i0, c0)]).length - 1)) ver)) with
    | false => exact .undef
    | true => exact .elt (hR.nest _ id _ _ _ hk' hid) ((hR.place _ id hk').trans hb) (by simpa using hq) (verAt_zero _ _) ht hl0 hc
  · exact .undef
end
end Go.AM

/-
 AM: the end of a region: renumbering whole.
-/
namespace Go.AM
section
variable {P : Program} {A : Ann} {w w' : World} {I I' I2 : Nat → Prop} {μ β β' : Nat → Option Nat} {hp hp' : Nat → Option Blk} {C : CallF} {B : Nat} {M : Nat → Prop} {w0 : Start}
theorem Fresh.left {n : Nat} {a b : List Blk} (h : Fresh hp' β' n (a ++ b)) : Fresh hp' β' n a := fun k x hx =>
 h k x (by rw [List.getElem?_append_left (List.getElem?_eq_some_iff.1 hx).1]; exact hx)
theorem Fresh.right {n : Nat} {a b : List Blk} (h : Fresh hp' β' n (a ++ b)) : Fresh hp' β' (n + a.length) b := fun k x hx => by
 have := h (a.length + k) x (by rw [List.getElem?_append_right (by omega), Nat.add_sub_cancel_left]; exact hx)
 rwa [← Nat.add_assoc] at this
def AllNil (bs : List Blk) : Prop := ∀ b ∈ bs, ∃ e, b = .arr e [] false
theorem AllNil.app {a b : List Blk} (h1 : AllNil a) (h2 : AllNil b) : AllNil (a ++ b) := fun x hx => (List.mem_append.1 hx).elim (h1 x) (h2 x)
theorem AllNil.nil : AllNil [] := fun x hx => by simp at hx
theorem ren1_nil {ord : List Nat} {n : Nat} {x : V} : AllNil (ren1 hp ord n x).2 := by
 cases x <;> simp only [ren1] <;> first | exact .nil | skip
 · intro b hb
   simp only [List.mem_singleton] at hb
   exact ⟨_, hb⟩
 · split
   · exact .nil
   · split
     · cases Nat.beq _ _ <;> exact .nil
     · exact .nil
 · split
   · exact .nil
   · split
     · cases Nat.beq _ _ <;> exact .nil
     · exact .nil
 · split <;> exact .nil
 · split <;> exact .nil
 · split
   · cases (Nat.blt 0 _ && (Nat.ble _ _ && Nat.beq _ _)) <;> exact .nil
   · exact .nil
 · split
   · cases (Nat.blt 0 _ && (Nat.ble _ _ && Nat.beq _ _)) <;> exact .nil
   · exact .nil
theorem renL_nil {ord : List Nat} : ∀ {xs : List V} {n : Nat}, AllNil (renL hp ord n xs).2
 | [], n => .nil
 | x :: xs, n => by
  simp only [renL]
  exact ren1_nil.app renL_nil
theorem renL_len {ord : List Nat} : ∀ {xs : List V} {n : Nat}, (renL hp ord n xs).1.length = xs.length
 | [], n => rfl
 | x :: xs, n => by simp only [renL, List.length_cons, renL_len]
theorem renL_sim (S : Sim P w I β hp B M w0) {ord : List Nat} (hR : Ren hp β ord hp' β') : ∀ {xs : List V} {vs : List Value} {n : Nat}, (∀ (j : Nat) v x, vs[j]? = some v → xs[j]? = some x → VRel P w I β hp v x) →
 Fresh hp' β' n (renL hp ord n xs).2 → ∀ (j : Nat) v y, vs[j]? = some v → (renL hp ord n xs).1[j]? = some y → VRel P w I β' hp' v y
 | [], vs, n, h, hF, j, v, y, hv, hy => by simp [renL] at hy
 | x :: xs, vs, n, h, hF, j, v, y, hv, hy => by
  simp only [renL] at hF hy
  cases j with
  | zero =>
   simp at hy
   subst hy
   exact ren1_sim S hR (h 0 v x hv rfl) hF.left
  | succ j =>
   cases vs with
   | nil => simp at hv
   | cons v0 vs => exact renL_sim S hR (vs := vs) (fun j v x hj hx => h (j + 1) v x (by simpa using hj) (by simpa using hx)) hF.right j v y (by simpa using hv) (by simpa using hy)
theorem renV_nil {ord : List Nat} {n : Nat} {x : V} : AllNil (renV hp ord n x).2 := by
 cases x <;> simp only [renV] <;> first | exact ren1_nil | exact renL_nil
theorem renV_sim (S : Sim P w I β hp B M w0) {ord : List Nat} (hR : Ren hp β ord hp' β') {n : Nat} {v : Value} {x : V} (hv : VRel P w I β hp v x) (hF : Fresh hp' β' n (renV hp ord n x).2) :
 VRel P w I β' hp' v (renV hp ord n x).1 := by
 cases x with
 | agg cs =>
  obtain ⟨ds, rfl, h1, h2⟩ := hv.agg_inv
  simp only [renV] at hF ⊢
  exact .agg (by rw [renL_len]; exact h1) fun j v y hj hy => renL_sim S hR (vs := ds.toList) (fun j v x hj hx => h2 j v x (by simpa using hj) hx) hF j v y (by simpa using hj) hy
 | tup cs =>
  obtain ⟨ds, rfl, h1, h2⟩ := hv.tup_inv
  simp only [renV] at hF ⊢
  exact .tup (by rw [renL_len]; exact h1) fun j v y hj hy => renL_sim S hR (vs := ds.toList) (fun j v x hj hx => h2 j v x (by simpa using hj) hx) hF j v y (by simpa using hj) hy
 | _ => exact ren1_sim S hR hv hF
theorem renSlots_nil {ord : List Nat} {sl : Nat → V} : ∀ {l : List Nat} {n : Nat}, AllNil (renSlots hp ord sl n l).2
 | [], n => .nil
 | s :: l, n => by
  simp only [renSlots]
  exact renV_nil.app renSlots_nil
theorem renSlots_get {ord : List Nat} {sl : Nat → V} {k : Nat} {y : V} : ∀ {l : List Nat} {n : Nat}, Fresh hp' β' n (renSlots hp ord sl n l).2 → lookupN (renSlots hp ord sl n l).1 k = some y →
 ∃ n', Fresh hp' β' n' (renV hp ord n' (sl k)).2 ∧ y = (renV hp ord n' (sl k)).1
 | [], n, _, h => by cases h
 | s :: l, n, hF, h => by
  simp only [renSlots] at hF h
  simp only [lookupN] at h
  cases hb : Nat.beq k s with
  | true =>
   rw [hb] at h
   rw [Nat.beq_eq] at hb
   subst hb
   cases h
   exact ⟨n, hF.left, rfl⟩
  | false =>
   rw [hb] at h
   exact renSlots_get hF.right h
theorem renB_nil {ord : List Nat} {n id : Nat} : AllNil (renB hp ord n id).2 := by
 unfold renB
 split
 · exact renL_nil
 · exact .nil
 · exact .nil
 · exact .nil
theorem renBlks_nil {ord : List Nat} : ∀ {l : List Nat} {n : Nat}, AllNil (renBlks hp ord n l).2
 | [], n => .nil
 | s :: l, n => by
  simp only [renBlks]
  exact renB_nil.app renBlks_nil
theorem renBlks_len {ord : List Nat} : ∀ {l : List Nat} {n : Nat}, (renBlks hp ord n l).1.length = l.length
 | [], n => rfl
 | x :: xs, n => by simp only [renBlks, List.length_cons, renBlks_len]
theorem renBlks_get {ord : List Nat} : ∀ {l : List Nat} {n j : Nat} {id : Nat}, l[j]? = some id → ∃ n', (Fresh hp' β' n (renBlks hp ord n l).2 → Fresh hp' β' n' (renB hp ord n' id).2) ∧ (renBlks hp ord n l).1[j]? = some (renB hp ord n' id).1
 | [], n, j, id, h => by simp at h
 | s :: l, n, j, id, h => by
  simp only [renBlks]
  cases j with
  | zero =>
   simp at h
   subst h
   exact ⟨n, fun hF => hF.left, rfl⟩
  | succ j =>
   obtain ⟨n', h1, h2⟩ := renBlks_get (n := n + (renB hp ord n s).2.length) (j := j) (by simpa using h)
   exact ⟨n', fun hF => h1 hF.right, by simpa using h2⟩
theorem hpOf_get : ∀ {l : List Blk} {j : Nat}, hpOf l j = l[j]?
 | [], j => by simp [hpOf]
 | b :: l, 0 => rfl
 | b :: l, j + 1 => by simp only [hpOf, hpOf_get, List.getElem?_cons_succ]
theorem addNew_spec : ∀ {l acc : List Nat}, ∃ t, addNew hp acc l = acc ++ t ∧ (acc.Nodup → (acc ++ t).Nodup)
 | [], acc => ⟨[], by simp [addNew], by simp⟩
 | id :: l, acc => by
  simp only [addNew]
  cases hb : (memN acc id || !(liveB hp id)) with
  | true => exact addNew_spec
  | false =>
   obtain ⟨t, h1, h2⟩ := addNew_spec (l := l) (acc := acc ++ [id])
   refine ⟨id :: t, by simp only [cond_false, h1, List.append_assoc, List.singleton_append], fun hn => ?_⟩
   have : acc ++ id :: t = (acc ++ [id]) ++ t := by simp
   rw [this]
   refine h2 ?_
   rw [List.nodup_append]
   refine ⟨hn, by simp, fun a ha b hb' => ?_⟩
   simp only [List.mem_singleton] at hb'
   subst hb'
   intro e
   subst e
   rw [memN_of ha] at hb
   cases hb
theorem grow_spec : ∀ {n : Nat} {l : List Nat}, ∃ t, grow hp n l = l ++ t ∧ (l.Nodup → (l ++ t).Nodup)
 | 0, l => ⟨[], by simp [grow], by simp⟩
 | n + 1, l => by
  simp only [grow]
  obtain ⟨t, h1, h2⟩ := addNew_spec (hp := hp) (acc := l) (l := l.flatMap (refsB hp))
  rw [h1]
  obtain ⟨t', h3, h4⟩ := grow_spec (n := n) (l := l ++ t)
  exact ⟨t ++ t', by rw [h3, List.append_assoc], fun hn => by rw [← List.append_assoc]; exact h4 (h2 hn)⟩
theorem ordOf_spec {m : Nat} {live : List Nat} {st : St} : ∃ t, ordOf m live st = List.range m ++ t ∧ (List.range m ++ t).Nodup := by
 unfold ordOf
 obtain ⟨t, h1, h2⟩ := addNew_spec (hp := st.hp) (acc := List.range m) (l := live.flatMap fun s => refsV (st.sl s))
 rw [h1]
 obtain ⟨t', h3, h4⟩ := grow_spec (hp := st.hp) (n := 2) (l := List.range m ++ t)
 exact ⟨t ++ t', by rw [h3, List.append_assoc], by rw [← List.append_assoc]; exact h4 (h2 List.nodup_range)⟩
end
end Go.AM

/-
 AM: the end of a region: the state under its new numbers.
-/
namespace Go.AM
section
variable {P : Program} {A : Ann} {w w' : World} {I I' I2 : Nat → Prop} {μ β β' : Nat → Option Nat} {hp hp' hp0 : Nat → Option Blk} {C : CallF} {B : Nat} {M : Nat → Prop} {w0 : Start}
theorem canon_ok {n m : Nat} {live : List Nat} {a : Act} {st : St} (S : Sim P w I β st.hp B M w0) (hA : ARel P w I β n a st) (hE : Le P w0.w w0.I μ hp0 w I β st.hp) (hm : ∀ id blk, hp0 id = some blk → id < m) (hm0 : ∀ id e es vers, hp0 id ≠ some (.nest e es vers)) :
 ∃ β', Sim P w I β' (canon m live st).hp B M w0 ∧ ARel P w I β' n a (canon m live st) ∧ Le P w0.w w0.I μ hp0 w I β' (canon m live st).hp := by
 obtain ⟨t, ho1, ho2⟩ := ordOf_spec (m := m) (live := live) (st := st)
 generalize hord : ordOf m live st = ord at *
 have hcanon : canon m live st = mk (renSlots st.hp ord st.sl (ord.length + (renBlks st.hp ord ord.length ord).2.length) live).1
  ((renBlks st.hp ord ord.length ord).1 ++ ((renBlks st.hp ord ord.length ord).2 ++ (renSlots st.hp ord st.sl (ord.length + (renBlks st.hp ord ord.length ord).2.length) live).2)) := by
  unfold canon
  rw [hord]
 rw [hcanon]
 let hp' := hpOf ((renBlks st.hp ord ord.length ord).1 ++ ((renBlks st.hp ord ord.length ord).2 ++ (renSlots st.hp ord st.sl (ord.length + (renBlks st.hp ord ord.length ord).2.length) live).2))
 let β' : Nat → Option Nat := fun j => if j < ord.length then (ord[j]?).bind β else none
 have hlen : (renBlks st.hp ord ord.length ord).1.length = ord.length := renBlks_len
 have hlo : ∀ j, j < ord.length → hp' j = (renBlks st.hp ord ord.length ord).1[j]? := by
  intro j hj
  simp only [hp', hpOf_get]
  rw [List.getElem?_append_left (by omega)]
 have hhi : ∀ k, hp' (ord.length + k) = ((renBlks st.hp ord ord.length ord).2 ++ (renSlots st.hp ord st.sl (ord.length + (renBlks st.hp ord ord.length ord).2.length) live).2)[k]? := by
  intro k
  simp only [hp', hpOf_get]
  rw [List.getElem?_append_right (by omega), hlen, Nat.add_sub_cancel_left]
 have hF : Fresh hp' β' ord.length ((renBlks st.hp ord ord.length ord).2 ++ (renSlots st.hp ord st.sl (ord.length + (renBlks st.hp ord ord.length ord).2.length) live).2) := by
  intro k b hb
  refine ⟨(hhi k).trans hb, ?_⟩
  simp only [β']
  rw [if_neg (by omega)]
 have hnil : AllNil ((renBlks st.hp ord ord.length ord).2 ++ (renSlots st.hp ord st.sl (ord.length + (renBlks st.hp ord ord.length ord).2.length) live).2) := renBlks_nil.app renSlots_nil
 have hβ : ∀ (j : Nat) id, ord[j]? = some id → β' j = β id := by
  intro j id hj
  simp only [β']
  rw [if_pos (List.getElem?_eq_some_iff.1 hj).1, hj]
  rfl
 have hblk : ∀ (j : Nat) id, ord[j]? = some id → ∃ n', Fresh hp' β' n' (renB st.hp ord n' id).2 ∧ hp' j = some (renB st.hp ord n' id).1 := by
  intro j id hj
  obtain ⟨n', h1, h2⟩ := renBlks_get (hp := st.hp) (hp' := hp') (β' := β') (ord := ord) (n := ord.length) hj
  exact ⟨n', h1 hF.left, (hlo j (List.getElem?_eq_some_iff.1 hj).1).trans h2⟩
 have hR : Ren st.hp β ord hp' β' := by
  refine ⟨fun j id e es fz hj hid => ?_, fun j id cs hj hid => ?_, fun j id hj hid => ?_, hβ, fun j id e es vers hj hid => ?_⟩
  · obtain ⟨n', _, h2⟩ := hblk j id hj
    rw [h2]; simp only [renB, hid]
  · obtain ⟨n', _, h2⟩ := hblk j id hj
    rw [h2]; simp only [renB, hid]; exact ⟨_, rfl⟩
  · obtain ⟨n', _, h2⟩ := hblk j id hj
    rw [h2]; simp only [renB, hid]
  · obtain ⟨n', _, h2⟩ := hblk j id hj
    rw [h2]; simp only [renB, hid]
 -- a block of the new state
 have cls : ∀ j blk', hp' j = some blk' → (∃ id, ord[j]? = some id ∧ ((blk' = .dead) ∨ ∃ blk, st.hp id = some blk ∧ blk ≠ .dead ∧ ∀ o b, Owns P w o blk' b → Owns P w o blk b)) ∨ (∃ e, blk' = .arr e [] false ∧ β' j = none) := by
  intro j blk' hj
  rcases Nat.lt_or_ge j ord.length with h | h
  · have hj' := List.getElem?_eq_getElem h
    obtain ⟨n', _, h2⟩ := hblk j _ hj'
    rw [hj] at h2
    refine .inl ⟨_, hj', ?_⟩
    cases hid : st.hp ord[j] with
    | none => left; simp only [renB, hid] at h2; exact Option.some.inj h2
    | some blk =>
     cases blk with
     | dead => left; simp only [renB, hid] at h2; exact Option.some.inj h2
     | var cs => exact .inr ⟨_, rfl, by simp, fun o b h => by simp only [renB, hid] at h2; rw [Option.some.inj h2] at h; exact .root (by simp) (h.flat (by simp))⟩
     | arr e es fz => exact .inr ⟨_, rfl, by simp, fun o b h => by simp only [renB, hid] at h2; rw [Option.some.inj h2] at h; exact .root (by simp) (h.flat (by simp))⟩
     | nest e es vers =>
      refine .inr ⟨_, rfl, by simp, fun o b h => ?_⟩
      simp only [renB, hid] at h2
      rw [Option.some.inj h2] at h
      cases h with
      | root _ h => exact .root (by simp) h
      | row h1 h2 => exact .row h1 h2
  · obtain ⟨k, rfl⟩ : ∃ k, j = ord.length + k := ⟨j - ord.length, by omega⟩
    rw [hhi] at hj
    obtain ⟨e, he⟩ := hnil _ (List.mem_of_getElem? hj)
    exact .inr ⟨e, he, (hF k _ hj).2⟩
 refine ⟨β', ⟨⟨fun j blk' hj => ?_, fun j1 j2 b1 b2 b e1 e2 f1 f2 => ?_, fun j blk b e1 f1 => ?_, S.h.Ilt⟩, S.keep, S.size, S.new, S.io⟩, ⟨fun k => ?_, hA.size, hA.defers⟩, ⟨hE.imm, hE.keep, fun id blk hid => ?_, fun id blk blk' b hid hid' hd hb => ?_, fun id e es vers e' es' vers' b q i c t v e1 l hid => absurd hid (hm0 _ _ _ _)⟩⟩
 · change hp' j = some blk' at hj
   rcases Nat.lt_or_ge j ord.length with h | h
   · have hj' := List.getElem?_eq_getElem h
     obtain ⟨n', hF', h2⟩ := hblk j _ hj'
     rw [hj] at h2
     rw [hβ j _ hj']
     cases hid : st.hp ord[j] with
     | none => simp only [renB, hid] at h2; rw [Option.some.inj h2]; exact .dead
     | some blk =>
      have hr := S.h.rel _ _ hid
      generalize β ord[j] = o at hr
      cases hr with
      | dead => simp only [renB, hid] at h2; rw [Option.some.inj h2]; exact .dead
      | arrNil hb => simp only [renB, hid] at h2; rw [Option.some.inj h2]; exact .arrNil hb
      | arr a1 a2 a3 a4 a5 a6 a7 => simp only [renB, hid] at h2; rw [Option.some.inj h2]; exact .arr a1 a2 a3 a4 a5 a6 a7
      | nest a1 a2 a3 => simp only [renB, hid] at h2; rw [Option.some.inj h2]; exact .nest a1 a2 a3
      | @var xs b Ca T hb hh hs hnI hx =>
       simp only [renB, hid] at h2 hF'
       rw [Option.some.inj h2]
       exact .var hb hh (by rw [renL_len]; exact hs) hnI fun i v y hi hy => renL_sim S hR (vs := Ca.toList) (fun i v x hi hx' => hx i v x (by simpa using hi) hx') hF' i v y (by simpa using hi) hy
   · rcases cls j blk' hj with ⟨id, hid, _⟩ | ⟨e, he, hb⟩
     · have := (List.getElem?_eq_some_iff.1 hid).1; omega
     · rw [he]; exact .arrNil hb
 · rcases cls j1 b1 e1 with ⟨id1, o1, x1⟩ | ⟨e, _, hb⟩
   · rcases cls j2 b2 e2 with ⟨id2, o2, x2⟩ | ⟨e, _, hb⟩
     · obtain ⟨c1, y1, z1, g1⟩ := x1.resolve_left f1.alive
       obtain ⟨c2, y2, z2, g2⟩ := x2.resolve_left f2.alive
       rw [hβ _ _ o1] at f1
       rw [hβ _ _ o2] at f2
       have := S.h.inj id1 id2 c1 c2 b y1 y2 (g1 _ _ f1) (g2 _ _ f2)
       subst this
       obtain ⟨q1, q2⟩ := List.getElem?_eq_some_iff.1 o1
       obtain ⟨q3, q4⟩ := List.getElem?_eq_some_iff.1 o2
       exact (List.getElem_inj (ho1 ▸ ho2)).1 (q2.trans q4.symm)
     · subst ‹b2 = _›; have := f2.flat (by simp); rw [hb] at this; cases this
   · subst ‹b1 = _›; have := f1.flat (by simp); rw [hb] at this; cases this
 · rcases cls j blk e1 with ⟨id1, o1, x1⟩ | ⟨e, _, hb⟩
   · obtain ⟨c1, y1, z1, g1⟩ := x1.resolve_left f1.alive
     rw [hβ _ _ o1] at f1
     exact S.h.own id1 c1 b y1 (g1 _ _ f1)
   · subst ‹blk = _›; have := f1.flat (by simp); rw [hb] at this; cases this
 · change VRel P w I β' hp' (a.tmps.getD k undef) (slOf _ k)
   unfold slOf
   cases hlk : lookupN (renSlots st.hp ord st.sl (ord.length + (renBlks st.hp ord ord.length ord).2.length) live).1 k with
   | none => exact .undef
   | some y =>
    obtain ⟨n', h1, h2⟩ := renSlots_get hF.right hlk
    simp only [Option.getD_some, h2]
    exact renV_sim S hR (hA.sl k) h1
 · obtain ⟨blk1, k1, k2, k3⟩ := hE.blk id blk hid
   have hlt := hm id blk hid
   have ho : ord[id]? = some id := by
    rw [ho1, List.getElem?_append_left (by simpa using hlt)]
    simp [hlt]
   cases blk1 with
   | dead => exact ⟨.dead, hR.dead id id ho k1, k2, fun h => absurd rfl h⟩
   | var cs =>
    obtain ⟨cs', h'⟩ := hR.var id id cs ho k1
    refine ⟨_, h', ?_, fun _ => (hβ id id ho).trans (k3 (by simp))⟩
    cases blk <;> simp_all [Blk.le]
   | arr e es fz => exact ⟨_, hR.arr id id e es fz ho k1, k2, fun _ => (hβ id id ho).trans (k3 (by simp))⟩
   | nest e es vers => cases blk <;> simp_all [Blk.le]
 · obtain ⟨blk1, k1, k2, k3⟩ := hE.blk id blk hid
   have hlt := hm id blk hid
   have ho : ord[id]? = some id := by
    rw [ho1, List.getElem?_append_left (by simpa using hlt)]
    simp [hlt]
   refine hE.size id blk blk1 b hid k1 (fun hdd => ?_) hb
   subst hdd
   have := hR.dead id id ho k1
   change hp' id = some blk' at hid'
   rw [this] at hid'
   exact hd (Option.some.inj hid').symm
end
end Go.AM

/-
 AM: code.
-/
namespace Go.AM
section
variable {P : Program} {A : Ann} {w w' : World} {I I' I2 : Nat → Prop} {μ β β' : Nat → Option Nat} {hp hp' hp0 : Nat → Option Blk} {C : CallF} {B : Nat} {M : Nat → Prop} {w0 : Start}
theorem exists_min (p : Nat → Prop) (h : ∃ n, p n) : ∃ n, p n ∧ ∀ m, p m → n ≤ m := by
 obtain ⟨n, hn⟩ := h
 induction n using Nat.strongRecOn with
 | _ n ih =>
  by_cases hx : ∃ m, m < n ∧ p m
  · obtain ⟨m, hm, hp⟩ := hx
    exact ih m hm hp
  · exact ⟨n, hn, fun m hm => Nat.le_of_not_lt fun hlt => hx ⟨m, hlt, hm⟩⟩
open Classical in
theorem wp_loop_n {c : Code} {Q : Exit → Act → World → Prop} (J : Nat → Act → World → Prop) (h0 : ∀ a w, ¬ J 0 a w) (round : ∀ n a w, J (n + 1) a w → c.wp P (Exit.then (J n) Q) a w) {n : Nat} {a : Act} {w : World} (h : J n a w) :
 (Code.loop c).wp P Q a w := by
 refine wp_loop (fun a w => ∃ n, J n a w) (fun a w => if h : ∃ n, J n a w then (exists_min _ h).choose else 0) ⟨n, h⟩ fun a w hJ => ?_
 obtain ⟨h1, h2⟩ := (exists_min _ hJ).choose_spec
 generalize hk : (exists_min _ hJ).choose = k at h1 h2
 cases k with
 | zero => exact absurd h1 (h0 a w)
 | succ k =>
  refine wp_mono (round k a w h1) fun e a' w' he => ?_
  cases e with
  | normal =>
   have hex : ∃ n, J n a' w' := ⟨k, he⟩
   refine ⟨hex, ?_⟩
   have h3 := (exists_min _ hex).choose_spec.2 k he
   rw [dif_pos hex, dif_pos hJ, hk]
   omega
  | _ => exact he
def exitOf : Out → Exit
 | .norm => .normal
 | .exit id => .exit id
 | .ret => .ret
/-- The state of a call in its code. -/
def Inv (P : Program) (B : Nat) (M : Nat → Prop) (w0 : Start) (μ : Nat → Option Nat) (hp0 : Nat → Option Blk) (n : Nat) (a : Act) (w : World) (st : St) : Prop :=
 ∃ I β, Sim P w I β st.hp B M w0 ∧ ARel P w I β n a st ∧ Le P w0.w w0.I μ hp0 w I β st.hp
theorem Inv.canon {n m : Nat} {a : Act} {st : St} {live : List Nat} (h : Inv P B M w0 μ hp0 n a w st) (hm : ∀ id blk, hp0 id = some blk → id < m) (hm0 : ∀ id e es vers, hp0 id ≠ some (.nest e es vers)) : Inv P B M w0 μ hp0 n a w (canon m live st) := by
 obtain ⟨I, β, S, hA, hE⟩ := h
 obtain ⟨β', a, b, c⟩ := canon_ok (live := live) S hA hE hm hm0
 exact ⟨I, β', a, b, c⟩
theorem CallSim.here (h : CallSim P A C) (f : FuncId) (id : Nat) : CallSim P (A.here f id) C := by
 intro g args mem r mem' hh
 obtain ⟨fn, c, h1, h2, h3⟩ := h g args mem r mem' hh
 refine ⟨fn, c, h1, h2, fun w I μ vals a b d => (h3 w I μ vals a b d).mono fun e w' hx => ?_⟩
 obtain ⟨v, I2, q1, q2⟩ := hx
 exact ⟨v, I2, q1, ⟨q2.imm, q2.new, q2.lt, q2.io, q2.size, q2.keep, q2.len, q2.mems, q2.bs, q2.res⟩⟩
theorem exec_sim (hC : CallSim P A C) (hP : NoCount P) (hmo : P.follows .mixedOrders = true) {f : FuncId} {n m : Nat} (hm : ∀ id blk, hp0 id = some blk → id < m) (hm0 : ∀ id e es vers, hp0 id ≠ some (.nest e es vers)) :
 ∀ (c : Code) {st st' : St} {out : Out} {Q : Exit → Act → World → Prop} {a : Act} {w : World}, exec P A C f n m c st = some (out, st') → Inv P B M w0 μ hp0 n a w st →
  (∀ a' w', Inv P B M w0 μ hp0 n a' w' st' → Q (exitOf out) a' w') → c.wp P Q a w := by
 intro c
 induction c with
 | skip =>
  intro st st' out Q a w h hI hQ
  simp only [exec, Option.some.injEq, Prod.mk.injEq] at h
  obtain ⟨rfl, rfl⟩ := h
  exact wp_skip (hQ a w hI)
 | exit id =>
  intro st st' out Q a w h hI hQ
  simp only [exec, Option.some.injEq, Prod.mk.injEq] at h
  obtain ⟨rfl, rfl⟩ := h
  exact wp_exit (hQ a w hI)
 | ret =>
  intro st st' out Q a w h hI hQ
  simp only [exec, Option.some.injEq, Prod.mk.injEq] at h
  obtain ⟨rfl, rfl⟩ := h
  exact wp_ret (hQ a w hI)
 | region id ops draw =>
  intro st st' out Q a w h hI hQ
  simp only [exec] at h
  obtain ⟨st1, h1, h2⟩ := bind_some h
  simp only [Option.some.injEq, Prod.mk.injEq] at h2
  obtain ⟨rfl, rfl⟩ := h2
  obtain ⟨I, β, S, hA, hE⟩ := hI
  refine region_sim (hC.here f id) hP hmo h1 S hA fun a' w' I' β' k1 k2 k3 => ?_
  obtain ⟨I2, l1, l2, l3⟩ := freeze_ok (m := m) (pur := A.pur f id) k2 k3
  have hE2 := (hE.trans k1).trans l1
  exact hQ a' w' (Inv.canon ⟨I2, β', l2, l3, hE2⟩ hm hm0)
 | seq x y ihx ihy =>
  intro st st' out Q a w h hI hQ
  simp only [exec] at h
  obtain ⟨⟨o1, st1⟩, h1, h2⟩ := bind_some h
  refine wp_seq (ihx h1 hI fun a' w' hI' => ?_)
  cases o1 with
  | norm => exact ihy h2 hI' hQ
  | exit id =>
   simp only [Option.some.injEq, Prod.mk.injEq] at h2
   obtain ⟨rfl, rfl⟩ := h2
   exact hQ a' w' hI'
  | ret =>
   simp only [Option.some.injEq, Prod.mk.injEq] at h2
   obtain ⟨rfl, rfl⟩ := h2
   exact hQ a' w' hI'
 | cond c x y ihx ihy =>
  intro st st' out Q a w h hI hQ
  cases c with
  | tmp t =>
   simp only [exec] at h
   cases hs : st.sl t <;> rw [hs] at h <;> simp only at h <;> first | (cases h; done) | skip
   rename_i b
   obtain ⟨⟨o1, st1⟩, h1, h2⟩ := bind_some h
   obtain ⟨I, β, S, hA, hE⟩ := hI
   have hev : a.eval (.tmp t) = .bool b := by
    have := bool_at hA hs
    simp [Act.eval, this]
   have fin : ∀ a' w', Inv P B M w0 μ hp0 n a' w' st1 → Q (exitOf o1) a' w' := by
    intro a' w' hI'
    cases o1 with
    | norm =>
     simp only [Option.some.injEq, Prod.mk.injEq] at h2
     obtain ⟨rfl, rfl⟩ := h2
     exact hQ a' w' (hI'.canon hm hm0)
    | exit id =>
     simp only [Option.some.injEq, Prod.mk.injEq] at h2
     obtain ⟨rfl, rfl⟩ := h2
     exact hQ a' w' hI'
    | ret =>
     simp only [Option.some.injEq, Prod.mk.injEq] at h2
     obtain ⟨rfl, rfl⟩ := h2
     exact hQ a' w' hI'
   refine wp_cond hev ?_
   cases b with
   | true => exact ihx h1 ⟨I, β, S, hA, hE⟩ fin
   | false => exact ihy h1 ⟨I, β, S, hA, hE⟩ fin
  | _ => simp only [exec] at h; cases h
 | block id c ih =>
  intro st st' out Q a w h hI hQ
  simp only [exec] at h
  obtain ⟨⟨o1, st1⟩, h1, h2⟩ := bind_some h
  refine wp_block (ih h1 hI fun a' w' hI' => ?_)
  cases o1 with
  | norm =>
   simp only [Option.some.injEq, Prod.mk.injEq] at h2
   obtain ⟨rfl, rfl⟩ := h2
   exact hQ a' w' (hI'.canon hm hm0)
  | exit id' =>
   simp only at h2
   cases hb : Nat.beq id' id with
   | true =>
    rw [hb] at h2
    simp only [cond_true, Option.some.injEq, Prod.mk.injEq] at h2
    obtain ⟨rfl, rfl⟩ := h2
    rw [Nat.beq_eq] at hb
    simp only [exitOf, Exit.inBlock, hb, if_true]
    exact hQ a' w' (hI'.canon hm hm0)
   | false =>
    rw [hb] at h2
    simp only [cond_false, Option.some.injEq, Prod.mk.injEq] at h2
    obtain ⟨rfl, rfl⟩ := h2
    have hne : id' ≠ id := fun e => by rw [e, Nat.beq_refl] at hb; cases hb
    simp only [exitOf, Exit.inBlock, hne, if_false]
    exact hQ a' w' hI'
  | ret =>
   simp only [Option.some.injEq, Prod.mk.injEq] at h2
   obtain ⟨rfl, rfl⟩ := h2
   exact hQ a' w' hI'
 | loop c ih =>
  intro st st' out Q a w h hI hQ
  simp only [exec] at h
  have hex : ∃ k r, iterN (exec P A C f n m c) k st = some r := by
   unfold iterLim at h
   split at h
   · assumption
   · cases h
  have hit : ∃ k, iterN (exec P A C f n m c) k st = some (out, st') := by
   unfold iterLim at h
   rw [dif_pos hex] at h
   exact ⟨_, (Option.some.inj h) ▸ hex.choose_spec.choose_spec⟩
  obtain ⟨k, hk⟩ := hit
  refine wp_loop_n (J := fun k a w => ∃ s, Inv P B M w0 μ hp0 n a w s ∧ iterN (exec P A C f n m c) k s = some (out, st')) (fun a w ⟨s, _, h⟩ => by cases h) (fun k a w ⟨s, hs, hk⟩ => ?_) ⟨st, hI, hk⟩
  simp only [iterN] at hk
  obtain ⟨⟨o1, s1⟩, h1, h2⟩ := bind_some hk
  refine ih h1 hs fun a' w' hI' => ?_
  cases o1 with
  | norm => exact ⟨s1, hI', h2⟩
  | exit id =>
   simp only [Option.some.injEq, Prod.mk.injEq] at h2
   obtain ⟨rfl, rfl⟩ := h2
   exact hQ a' w' hI'
  | ret =>
   simp only [Option.some.injEq, Prod.mk.injEq] at h2
   obtain ⟨rfl, rfl⟩ := h2
   exact hQ a' w' hI'
 | _ => intro st st' out Q a w h; simp only [exec] at h; cases h
end
end Go.AM

/-
 AM: the evaluator's call is the model's.
-/
namespace Go.AM
section
variable {P : Program} {A : Ann} {w w' : World} {C : CallF}
theorem argSlots_get : ∀ {args : List V} {i k : Nat}, lookupN (argSlots i args) k = if i ≤ k then args[k - i]? else none
 | [], i, k => by simp [argSlots, lookupN]
 | v :: vs, i, k => by
  simp only [argSlots, lookupN]
  cases hb : Nat.beq k i with
  | true =>
   rw [Nat.beq_eq] at hb
   subst hb
   simp
  | false =>
   have hne : k ≠ i := fun e => by rw [e, Nat.beq_refl] at hb; cases hb
   simp only [cond_false, argSlots_get]
   by_cases h : i ≤ k
   · rw [if_pos (by omega), if_pos h]
     obtain ⟨d, rfl⟩ : ∃ d, k = i + 1 + d := ⟨k - (i + 1), by omega⟩
     rw [show i + 1 + d - (i + 1) = d by omega, show i + 1 + d - i = d + 1 by omega]
     rfl
   · rw [if_neg (by omega), if_neg h]
theorem body_sim (hC : CallSim P A C) (hP : NoCount P) (hmo : P.follows .mixedOrders = true) : CallSim P A (callBody P A C) := by
 intro f args mem r mem' h
 unfold callBody at h
 cases hf : P.funcs[f]? with
 | none => rw [hf] at h; cases h
 | some fn =>
  rw [hf] at h
  simp only at h
  cases hb : fn.body with
  | none => rw [hb] at h; cases h
  | some c =>
   rw [hb] at h
   simp only at h
   cases hc : (Nat.beq args.length fn.params.size && Nat.ble args.length fn.ntmps) with
   | false => rw [hc] at h; cases h
   | true =>
    rw [hc] at h
    simp only [cond_true] at h
    simp only [Bool.and_eq_true, Nat.beq_eq, Nat.ble_eq] at hc
    obtain ⟨⟨out, st'⟩, h1, h2⟩ := bind_some h
    refine ⟨fn, c, rfl, hb, fun w I μ vals hH hl hv => ?_⟩
    have h3 : out ≠ .norm → out = .ret ∨ ∃ id, out = .exit id := by cases out <;> simp
    have hleave : (∀ id, out ≠ .exit id) ∧ ∃ rd, (leaveRd P A f fn mem st').run C st'.hp = some ((r, mem'), rd) := by
     cases out with
     | exit id => cases h2
     | norm =>
      refine ⟨by simp, ?_⟩
      simp only [Option.map_eq_some_iff] at h2
      obtain ⟨⟨x, rd⟩, e1, e2⟩ := h2
      simp only at e2
      subst e2
      exact ⟨rd, e1⟩
     | ret =>
      refine ⟨by simp, ?_⟩
      simp only [Option.map_eq_some_iff] at h2
      obtain ⟨⟨x, rd⟩, e1, e2⟩ := h2
      simp only at e2
      subst e2
      exact ⟨rd, e1⟩
    obtain ⟨hne, rd, hlv⟩ := hleave
    refine calls_of_wp hf hb ?_
    have hm : ∀ id blk, hpOf (memBlks mem) id = some blk → id < mem.length := by
     intro id blk hid
     rw [memBlks_get] at hid
     cases hx : mem[id]? with
     | none => rw [hx] at hid; cases hid
     | some x => exact (List.getElem?_eq_some_iff.1 hx).1
    have hm0 : ∀ id e es vers, hpOf (memBlks mem) id ≠ some (.nest e es vers) := by
     intro id e es vers hid
     rw [memBlks_get] at hid
     cases hx : mem[id]? with
     | none => rw [hx] at hid; cases hid
     | some x => rw [hx] at hid; cases x <;> cases hid
    refine exec_sim (w0 := ⟨w, I⟩) (μ := μ) (hp0 := hpOf (memBlks mem)) (B := w.heap.size) (M := fun b => ∃ j, j < mem.length ∧ μ j = some b) hC hP hmo hm hm0 c h1 ?_ ?_
    · refine ⟨I, μ, ⟨hH, fun _ _ _ => rfl, Nat.le_refl _, fun b h => .inl h, ⟨rfl, rfl⟩⟩, ⟨fun k => ?_, ?_, rfl⟩, Le.refl w I μ _⟩
      · change VRel P w I μ (hpOf (memBlks mem)) _ (slOf (argSlots 0 args) k)
        unfold slOf
        rw [argSlots_get]
        simp only [Nat.zero_le, if_true, Nat.sub_zero]
        cases hk : args[k]? with
        | none => exact .undef
        | some x =>
         have hkl : k < vals.length := by rw [hl]; exact (List.getElem?_eq_some_iff.1 hk).1
         have := hv k vals[k] x (List.getElem?_eq_getElem hkl) hk
         have e1 : (vals.toArray ++ Array.replicate (fn.ntmps - vals.toArray.size) undef).getD k undef = vals[k] := by
          simp [Array.getElem?_append, hkl]
         rw [Option.getD_some]
         exact e1 ▸ this
      · simp
        omega
    · intro a' w' hI
      obtain ⟨I', β', S, hA, hE⟩ := hI
      obtain ⟨v, I2, q1, q2⟩ := leave_ok hH S hE hA.sl hlv
      cases out with
      | exit id => exact absurd rfl (hne id)
      | norm => exact ⟨hA.defers, v, q1, v, I2, rfl, q2⟩
      | ret => exact ⟨hA.defers, v, q1, v, I2, rfl, q2⟩
theorem callN_sim (hP : NoCount P) (hmo : P.follows .mixedOrders = true) : ∀ n, CallSim P A (callN P A n)
 | 0 => fun _ _ _ _ _ h => by cases h
 | n + 1 => body_sim (callN_sim hP hmo n) hP hmo
/-- What the evaluator gives is what the model's call gives. -/
theorem Call_sim (hP : NoCount P) (hmo : P.follows .mixedOrders = true) : CallSim P A (Call P A) := by
 intro f args mem r mem' h
 have hn : ∃ n, callN P A n f args mem = some (r, mem') := by
  unfold Call at h
  split at h
  · rename_i hex
    have := hex.choose_spec.choose_spec
    rw [Option.some.inj h] at this
    exact ⟨_, this⟩
  · cases h
 obtain ⟨n, hn⟩ := hn
 exact callN_sim hP hmo n f args mem r mem' hn
end
end Go.AM

/-
 AM: a call is its body, with the calls in it.
-/
namespace Go.AM
section
variable {P : Program} {A : Ann} {C : CallF} {D : Nat → CallF}
/-- From some number on the family answers as C does. -/
def Tends (C : CallF) (D : Nat → CallF) : Prop := ∀ f a m r, C f a m = some r → ∃ n, ∀ k, n ≤ k → D k f a m = some r
theorem run_tends {α : Type} (h : Tends C D) {hp : Nat → Option Blk} : ∀ {p : Rd α} {r : α × List Nat}, p.run C hp = some r → ∃ n, ∀ k, n ≤ k → p.run (D k) hp = some r
 | .ret a, r, e => ⟨0, fun _ _ => e⟩
 | .fail, r, e => by cases e
 | .get id q, r, e => by
  obtain ⟨x, h1, h2⟩ := bind_some e
  obtain ⟨n, hn⟩ := run_tends h h1
  exact ⟨n, fun k hk => by simp only [Rd.run, hn k hk, Option.bind_some]; exact h2⟩
 | .opt o q, r, e => by
  obtain ⟨x, h1, h2⟩ := bind_some e
  obtain ⟨n, hn⟩ := run_tends h h2
  exact ⟨n, fun k hk => by simp only [Rd.run, h1, Option.bind_some]; exact hn k hk⟩
 | .chk b q, r, e => by
  obtain ⟨h1, h2⟩ := run_chk e
  obtain ⟨n, hn⟩ := run_tends h h2
  exact ⟨n, fun k hk => by simp only [Rd.run, h1, cond_true]; exact hn k hk⟩
 | .call f a m q, r, e => by
  obtain ⟨x, h1, h2⟩ := bind_some e
  obtain ⟨n1, hn1⟩ := h f a m x h1
  obtain ⟨n2, hn2⟩ := run_tends h h2
  exact ⟨max n1 n2, fun k hk => by simp only [Rd.run, hn1 k (by omega), Option.bind_some]; exact hn2 k (by omega)⟩
theorem step_tends (h : Tends C D) {n i nb : Nat} {ops : Array Oper} {o : Oper} {st : St} {r : St × List Nat × List Nat} (e : stepOp P A C n ops i o nb st = some r) : ∃ N, ∀ k, N ≤ k → stepOp P A (D k) n ops i o nb st = some r := by
 unfold stepOp at e
 have go : (((opRd P A st.sl (nb + 64 * i) o).run C st.hp).bind fun r => some ((⟨putO st.sl o.dst r.1.v, updH st.hp r.1.upd, st.nb⟩ : St), r.2, r.1.upd.map (·.1))) = some r →
  ∃ N, ∀ k, N ≤ k → (((opRd P A st.sl (nb + 64 * i) o).run (D k) st.hp).bind fun r => some ((⟨putO st.sl o.dst r.1.v, updH st.hp r.1.upd, st.nb⟩ : St), r.2, r.1.upd.map (·.1))) = some r := by
  intro e
  obtain ⟨x, h1, h2⟩ := bind_some e
  obtain ⟨N, hN⟩ := run_tends h h1
  exact ⟨N, fun k hk => by rw [hN k hk]; exact h2⟩
 unfold stepOp
 cases hd : dstOk o n with
 | false => rw [hd] at e; cases e
 | true =>
  rw [hd] at e
  simp only [cond_true] at e ⊢
  cases hg : o.guard with
  | none => rw [hg] at e; exact go e
  | some gw =>
   obtain ⟨g, want⟩ := gw
   rw [hg] at e
   simp only at e ⊢
   cases hgd : (ops[g]?).bind (·.dst) with
   | none => rw [hgd] at e; cases e
   | some d =>
    rw [hgd] at e
    simp only at e ⊢
    cases hgv : guardV (st.sl d) with
    | none => rw [hgv] at e; cases e
    | some ob =>
    rw [hgv] at e
    cases ob with
    | none => exact ⟨0, fun _ _ => e⟩
    | some b =>
    simp only at e ⊢
    cases hb : b == want with
    | true => rw [hb] at e; exact go e
    | false => rw [hb] at e; exact ⟨0, fun _ _ => e⟩
theorem runOps_tends (h : Tends C D) {n nb : Nat} {ops : Array Oper} : ∀ {l : List (Nat × Oper)} {st : St} {log : Log} {r : St × Log}, runOps P A C n ops nb l st log = some r → ∃ N, ∀ k, N ≤ k → runOps P A (D k) n ops nb l st log = some r
 | [], st, log, r, e => ⟨0, fun _ _ => e⟩
 | (i, o) :: l, st, log, r, e => by
  obtain ⟨x, h1, h2⟩ := bind_some e
  obtain ⟨N1, hN1⟩ := step_tends h h1
  obtain ⟨N2, hN2⟩ := runOps_tends h h2
  exact ⟨max N1 N2, fun k hk => by simp only [runOps, hN1 k (by omega), Option.bind_some]; exact hN2 k (by omega)⟩
theorem exec_tends (h : Tends C D) {f : FuncId} {n m : Nat} : ∀ (c : Code) {st : St} {r : Out × St}, exec P A C f n m c st = some r → ∃ N, ∀ k, N ≤ k → exec P A (D k) f n m c st = some r := by
 intro c
 induction c with
 | skip => exact fun e => ⟨0, fun _ _ => e⟩
 | exit id => exact fun e => ⟨0, fun _ _ => e⟩
 | ret => exact fun e => ⟨0, fun _ _ => e⟩
 | region id ops draw =>
  intro st r e
  simp only [exec] at e ⊢
  obtain ⟨x, h1, h2⟩ := bind_some e
  obtain ⟨y, h3, h4⟩ := bind_some h1
  obtain ⟨N, hN⟩ := runOps_tends h h3
  refine ⟨N, fun k hk => ?_⟩
  have : runRegion P (A.here f id) (D k) n ops draw st = some x := by
   unfold runRegion
   rw [hN k hk]
   exact h4
  rw [this]
  exact h2
 | seq x y ihx ihy =>
  intro st r e
  simp only [exec] at e ⊢
  obtain ⟨⟨o, s1⟩, h1, h2⟩ := bind_some e
  obtain ⟨N1, hN1⟩ := ihx h1
  cases o with
  | norm =>
   obtain ⟨N2, hN2⟩ := ihy h2
   exact ⟨max N1 N2, fun k hk => by rw [hN1 k (by omega)]; exact hN2 k (by omega)⟩
  | exit id => exact ⟨N1, fun k hk => by rw [hN1 k hk]; exact h2⟩
  | ret => exact ⟨N1, fun k hk => by rw [hN1 k hk]; exact h2⟩
 | cond c x y ihx ihy =>
  intro st r e
  cases c with
  | tmp t =>
   simp only [exec] at e ⊢
   cases hs : st.sl t <;> rw [hs] at e <;> simp only at e ⊢ <;> first | (cases e; done) | skip
   rename_i b
   obtain ⟨x1, h1, h2⟩ := bind_some e
   cases b with
   | true =>
    obtain ⟨N, hN⟩ := ihx h1
    exact ⟨N, fun k hk => by simp only [cond_true, hN k hk, Option.bind_some]; exact h2⟩
   | false =>
    obtain ⟨N, hN⟩ := ihy h1
    exact ⟨N, fun k hk => by simp only [cond_false, hN k hk, Option.bind_some]; exact h2⟩
  | _ => simp only [exec] at e; cases e
 | block id c ih =>
  intro st r e
  simp only [exec] at e ⊢
  obtain ⟨x1, h1, h2⟩ := bind_some e
  obtain ⟨N, hN⟩ := ih h1
  exact ⟨N, fun k hk => by rw [hN k hk]; exact h2⟩
 | loop c ih =>
  intro st r e
  simp only [exec] at e ⊢
  obtain ⟨q, hq⟩ := iterLim_some e
  have key : ∀ (q : Nat) (st : St), iterN (exec P A C f n m c) q st = some r → ∃ N, ∀ k, N ≤ k → iterN (exec P A (D k) f n m c) q st = some r := by
   intro q
   induction q with
   | zero => intro st e; cases e
   | succ q ihq =>
    intro st e
    simp only [iterN] at e ⊢
    obtain ⟨⟨o, s1⟩, h1, h2⟩ := bind_some e
    obtain ⟨N1, hN1⟩ := ih h1
    cases o with
    | norm =>
     obtain ⟨N2, hN2⟩ := ihq s1 h2
     exact ⟨max N1 N2, fun k hk => by rw [hN1 k (by omega)]; exact hN2 k (by omega)⟩
    | exit id => exact ⟨N1, fun k hk => by rw [hN1 k hk]; exact h2⟩
    | ret => exact ⟨N1, fun k hk => by rw [hN1 k hk]; exact h2⟩
  obtain ⟨N, hN⟩ := key q st hq
  exact ⟨N, fun k hk => iterLim_of (hN k hk)⟩
 | _ => intro st r e; simp only [exec] at e; cases e
theorem body_tends (h : Tends C D) {f : FuncId} {args mem : List V} {r : V × List V} (e : callBody P A C f args mem = some r) : ∃ N, ∀ k, N ≤ k → callBody P A (D k) f args mem = some r := by
 unfold callBody at e ⊢
 cases hf : P.funcs[f]? with
 | none => rw [hf] at e; cases e
 | some fn =>
  rw [hf] at e
  simp only at e ⊢
  cases hb : fn.body with
  | none => rw [hb] at e; cases e
  | some c =>
   rw [hb] at e
   simp only at e ⊢
   cases hc : (Nat.beq args.length fn.params.size && Nat.ble args.length fn.ntmps) with
   | false => rw [hc] at e; cases e
   | true =>
    rw [hc] at e
    simp only [cond_true] at e ⊢
    obtain ⟨⟨o, s1⟩, h1, h2⟩ := bind_some e
    obtain ⟨N1, hN1⟩ := exec_tends h c h1
    cases o with
    | exit id => cases h2
    | norm =>
     simp only [Option.map_eq_some_iff] at h2
     obtain ⟨x, e1, e2⟩ := h2
     obtain ⟨N2, hN2⟩ := run_tends h e1
     exact ⟨max N1 N2, fun k hk => by rw [hN1 k (by omega)]; simp only [Option.bind_some, hN2 k (by omega), Option.map_some, e2]⟩
    | ret =>
     simp only [Option.map_eq_some_iff] at h2
     obtain ⟨x, e1, e2⟩ := h2
     obtain ⟨N2, hN2⟩ := run_tends h e1
     exact ⟨max N1 N2, fun k hk => by rw [hN1 k (by omega)]; simp only [Option.bind_some, hN2 k (by omega), Option.map_some, e2]⟩
theorem callN_mono : ∀ n f a m r, callN P A n f a m = some r → callN P A (n + 1) f a m = some r
 | 0, f, a, m, r, h => by cases h
 | n + 1, f, a, m, r, h => by
  obtain ⟨N, hN⟩ := body_tends (C := callN P A n) (D := fun _ => callN P A (n + 1)) (fun f a m r h => ⟨0, fun _ _ => callN_mono n f a m r h⟩) h
  exact hN N (Nat.le_refl _)
theorem callN_le {n k : Nat} (hk : n ≤ k) {f : FuncId} {a m : List V} {r : V × List V} (h : callN P A n f a m = some r) : callN P A k f a m = some r := by
 induction hk with
 | refl => exact h
 | step _ ih => exact callN_mono _ _ _ _ _ ih
theorem Call_some {f : FuncId} {a m : List V} {r : V × List V} : Call P A f a m = some r ↔ ∃ n, callN P A n f a m = some r := by
 constructor
 · intro h
   unfold Call at h
   split at h
   · rename_i hex
     have := hex.choose_spec.choose_spec
     rw [Option.some.inj h] at this
     exact ⟨_, this⟩
   · cases h
 · rintro ⟨n, hn⟩
   have hex : ∃ n r, callN P A n f a m = some r := ⟨n, r, hn⟩
   unfold Call
   rw [dif_pos hex]
   have h2 := hex.choose_spec.choose_spec
   have h3 := callN_le (Nat.le_max_left n hex.choose) hn
   have h4 := callN_le (Nat.le_max_right n hex.choose) h2
   rw [h3] at h4
   exact h4.symm
/-- A call is its body. -/
theorem Call_of_body {f : FuncId} {a m : List V} {r : V × List V} (h : callBody P A (Call P A) f a m = some r) : Call P A f a m = some r := by
 obtain ⟨N, hN⟩ := body_tends (C := Call P A) (D := callN P A) (fun f a m r h => by
  obtain ⟨n, hn⟩ := Call_some.1 h
  exact ⟨n, fun k hk => callN_le hk hn⟩) h
 exact Call_some.2 ⟨N + 1, hN N (Nat.le_refl _)⟩
end
end Go.AM

/-
 AM: code in pieces, each with what follows in hand; loops as limits over plain data.
-/
namespace Go.AM
/-- A part of code, by its place. -/
def codeAt : List Nat → Code → Code
 | [], c => c
 | 0 :: p, .seq a _ => codeAt p a
 | _ :: p, .seq _ b => codeAt p b
 | 0 :: p, .cond _ a _ => codeAt p a
 | _ :: p, .cond _ _ b => codeAt p b
 | _ :: p, .block _ c => codeAt p c
 | _ :: p, .loop c => codeAt p c
 | _, c => c
def bodyOf (P : Program) (f : FuncId) : Code :=
 match P.funcs[f]? with
 | some fn => fn.body.getD .skip
 | none => .skip
def codesAt (P : Program) (f : FuncId) (l : List (List Nat)) : List Code := l.map fun p => codeAt p (bodyOf P f)
section
variable (P : Program) (A : Ann) (C : CallF)
noncomputable def execL {β : Type} (f : FuncId) (n m : Nat) : List Code → St → (Out → St → Option β) → Option β
 | [], st, K => K .norm st
 | [c], st, K => execK P A C f n m c st K
 | c :: l, st, K => execK P A C f n m c st fun o st' =>
  match o with
  | .norm => execL f n m l st' K
  | o => K o st'
/-- Behind a part: the rest of the list. -/
noncomputable def seqK {β : Type} (f : FuncId) (n m : Nat) (l : List Code) (K : Out → St → Option β) : Out → St → Option β := fun o st =>
 match o with
 | .norm => execL P A C f n m l st K
 | o => K o st
def joinK {β : Type} (f : FuncId) (m t : Nat) (K : Out → St → Option β) : Out → St → Option β := fun o st =>
 match o with
 | .norm => K .norm (canon m (A.join f t) st)
 | o => K o st
def blockK {β : Type} (f : FuncId) (m id : Nat) (K : Out → St → Option β) : Out → St → Option β := fun o st =>
 match o with
 | .norm => K .norm (canon m (A.blk f id) st)
 | .exit id' => bif Nat.beq id' id then K .norm (canon m (A.blk f id) st) else K (.exit id') st
 | .ret => K .ret st
noncomputable def finK (f : FuncId) (mem : List V) : Out → St → Option (V × List V) := fun o st =>
 match o with
 | .exit _ => none
 | _ =>
  match P.funcs[f]? with
  | some fn => (leaveRd P A f fn mem st).runK C st.hp [] fun r _ => some r
  | none => none
def ntmpsOf (P : Program) (f : FuncId) : Nat :=
 match P.funcs[f]? with
 | some fn => fn.ntmps
 | none => 0
end
section
variable {P : Program} {A : Ann} {C : CallF}
def flatC : Code → List Code
 | .seq a b => flatC a ++ flatC b
 | c => [c]
theorem seqK_nil {β : Type} (f : FuncId) (n m : Nat) (K : Out → St → Option β) : seqK P A C f n m [] K = K := by
 funext o st
 cases o <;> rfl
theorem execL_cons {β : Type} (f : FuncId) (n m : Nat) (c : Code) (l : List Code) (st : St) (K : Out → St → Option β) :
 execL P A C f n m (c :: l) st K = execK P A C f n m c st (seqK P A C f n m l K) := by
 cases l with
 | nil => rw [seqK_nil]; rfl
 | cons d l => rfl
theorem execL_app {β : Type} {f : FuncId} {n m : Nat} (l1 l2 : List Code) {st : St} {K : Out → St → Option β} :
 execL P A C f n m (l1 ++ l2) st K = execL P A C f n m l1 st (seqK P A C f n m l2 K) := by
 induction l1 generalizing st with
 | nil => rfl
 | cons c l1 ih =>
  rw [List.cons_append, execL_cons, execL_cons]
  congr 1
  funext o st'
  cases o with
  | norm => exact ih
  | exit _ => rfl
  | ret => rfl
theorem execK_flat {β : Type} {f : FuncId} {n m : Nat} : ∀ {c : Code} {st : St} {K : Out → St → Option β}, execK P A C f n m c st K = execL P A C f n m (flatC c) st K := by
 intro c
 induction c with
 | seq a b iha ihb =>
  intro st K
  rw [flatC, execL_app]
  have : execK P A C f n m (.seq a b) st K = execK P A C f n m a st (seqK P A C f n m (flatC b) K) := by
   rw [execK]
   congr 1
   funext o st'
   cases o with
   | norm => exact ihb
   | exit _ => rfl
   | ret => rfl
  rw [this, iha]
 | _ => intros; rfl
/-- The items of a part are those of a list. -/
theorem execK_items {β : Type} {f : FuncId} {n m : Nat} {c : Code} {l : List Code} {st : St} {K : Out → St → Option β} (h : flatC c = l) : execK P A C f n m c st K = execL P A C f n m l st K := by
 rw [execK_flat, h]
theorem execL_block {β : Type} {f : FuncId} {n m id : Nat} {c d : Code} {l : List Code} {st : St} {K : Out → St → Option β} (h : c = .block id d) (hl : flatC d = l) :
 execL P A C f n m [c] st K = execL P A C f n m l st (blockK A f m id K) := by
 rw [h, ← execK_items hl]
 rfl
theorem execL_true {β : Type} {f : FuncId} {n m t : Nat} {c x y : Code} {l : List Code} {st : St} {K : Out → St → Option β} (h : c = .cond (.tmp t) x y) (hl : flatC x = l) (hb : st.sl t = .bool true) :
 execL P A C f n m [c] st K = execL P A C f n m l st (joinK A f m t K) := by
 rw [h, ← execK_items hl]
 simp only [execL, execK, hb, cond_true]
 rfl
theorem execL_false {β : Type} {f : FuncId} {n m t : Nat} {c x y : Code} {l : List Code} {st : St} {K : Out → St → Option β} (h : c = .cond (.tmp t) x y) (hl : flatC y = l) (hb : st.sl t = .bool false) :
 execL P A C f n m [c] st K = execL P A C f n m l st (joinK A f m t K) := by
 rw [h, ← execK_items hl]
 simp only [execL, execK, hb, cond_false]
 rfl
end
def okCall (P : Program) (f : FuncId) (k : Nat) : Bool :=
 match P.funcs[f]? with
 | some fn => fn.body.isSome && (Nat.beq k fn.params.size && Nat.ble k fn.ntmps)
 | none => false
theorem bodyK_fin {P : Program} {A : Ann} {C : CallF} {f : FuncId} {args mem : List V} (h : okCall P f args.length = true) :
 bodyK P A C f args mem = execK P A C f (ntmpsOf P f) mem.length (bodyOf P f) (enter args mem) (finK P A C f mem) := by
 unfold okCall at h
 unfold bodyK ntmpsOf bodyOf finK
 cases hf : P.funcs[f]? with
 | none => rw [hf] at h; cases h
 | some fn =>
  rw [hf] at h
  simp only [Bool.and_eq_true] at h
  obtain ⟨h1, h2, h3⟩ := h
  cases hb : fn.body with
  | none => rw [hb] at h1; cases h1
  | some c =>
   simp only [h2, h3, hb, Bool.and_self, cond_true, Option.getD_some]
   congr 1
/-! What a state says. -/
def arrOf : Option Blk → List V
 | some (.arr _ es _) => es
 | some (.nest _ es _) => es
 | _ => []
def aggOrTup : V → List V
 | .agg cs => cs
 | .tup cs => cs
 | _ => []
def varOf : Option Blk → List V
 | some (.var cs) => cs
 | _ => []
namespace V
def sOff : V → Nat
 | .sub _ _ o _ => o
 | _ => 0
def sLen : V → Nat
 | .sub _ _ _ l => l
 | _ => 0
def pI : V → Nat
 | .ptr _ i _ => i
 | _ => 0
def pC : V → Nat
 | .ptr _ _ c => c
 | _ => 0
def nthQ : List (Nat × Nat) → Nat → Nat
 | [], _ => 0
 | a :: _, 0 => a.1
 | _ :: l, n + 1 => nthQ l n
def qI : V → Nat → Nat
 | .row _ _ _ p, j => nthQ p j
 | .elt _ _ p _ _, j => nthQ p j
 | _, _ => 0
def aI : V → Nat
 | .elt _ _ _ i _ => i
 | _ => 0
end V
/-! Loops over plain data. -/
section
variable {X R : Type}
def loopN (step : X → Option (X ⊕ R)) : Nat → X → Option R
 | 0, _ => none
 | n + 1, x => (step x).bind fun
  | .inl y => loopN step n y
  | .inr r => some r
open Classical in
noncomputable def Loop (step : X → Option (X ⊕ R)) (x : X) : Option R :=
 if h : ∃ n r, loopN step n x = some r then some h.choose_spec.choose else none
theorem loopN_mono (step : X → Option (X ⊕ R)) : ∀ (n : Nat) (x : X) (r : R), loopN step n x = some r → loopN step (n + 1) x = some r := by
 intro n
 induction n with
 | zero => intro x r h; cases h
 | succ n ih =>
  intro x r h
  rw [loopN] at h ⊢
  cases hf : step x with
  | none => rw [hf] at h; cases h
  | some y =>
   rw [hf] at h
   cases y with
   | inl y => exact ih y r h
   | inr r => exact h
theorem loopN_le (step : X → Option (X ⊕ R)) {n m : Nat} (hnm : n ≤ m) {x : X} {r : R} (h : loopN step n x = some r) : loopN step m x = some r := by
 induction hnm with
 | refl => exact h
 | step _ ih => exact loopN_mono step _ _ _ ih
theorem Loop_of {step : X → Option (X ⊕ R)} {n : Nat} {x : X} {r : R} (h : loopN step n x = some r) : Loop step x = some r := by
 have hex : ∃ n r, loopN step n x = some r := ⟨n, r, h⟩
 unfold Loop
 rw [dif_pos hex]
 have h1 := hex.choose_spec.choose_spec
 have h2 := loopN_le step (Nat.le_max_left hex.choose n) h1
 have h3 := loopN_le step (Nat.le_max_right hex.choose n) h
 rw [h2] at h3
 exact h3
theorem Loop_some {step : X → Option (X ⊕ R)} {x : X} {r : R} (h : Loop step x = some r) : ∃ n, loopN step n x = some r := by
 unfold Loop at h
 split at h
 · rename_i hex
   have h1 := hex.choose_spec.choose_spec
   cases h
   exact ⟨_, h1⟩
 · cases h
theorem Loop_iff {step : X → Option (X ⊕ R)} {x : X} {r : R} : Loop step x = some r ↔ ∃ n, loopN step n x = some r := ⟨Loop_some, fun ⟨_, h⟩ => Loop_of h⟩
theorem Loop_eq (step : X → Option (X ⊕ R)) (x : X) : Loop step x = (step x).bind fun
 | .inl y => Loop step y
 | .inr r => some r := by
 apply Option.ext
 intro r
 rw [Loop_iff]
 constructor
 · rintro ⟨n, hn⟩
   cases n with
   | zero => cases hn
   | succ n =>
    rw [loopN] at hn
    cases hf : step x with
    | none => rw [hf] at hn; cases hn
    | some y =>
     rw [hf] at hn
     cases y with
     | inl y => exact Loop_of hn
     | inr r => exact hn
 · intro h
   cases hf : step x with
   | none => rw [hf] at h; cases h
   | some y =>
    rw [hf] at h
    cases y with
    | inl y =>
     obtain ⟨n, hn⟩ := Loop_some h
     exact ⟨n + 1, by rw [loopN, hf]; exact hn⟩
    | inr r => exact ⟨1, by rw [loopN, hf]; exact h⟩
theorem Loop_norm {step : X → Option (X ⊕ R)} {x y : X} (h : step x = some (.inl y)) : Loop step x = Loop step y := by
 rw [Loop_eq, h]; rfl
theorem Loop_end {step : X → Option (X ⊕ R)} {x : X} {r : R} (h : step x = some (.inr r)) : Loop step x = some r := by
 rw [Loop_eq, h]; rfl
/-- A loop's state and ways out, as the evaluator has them. -/
def outS (hd : X → St) (enc : R → Out × St) : X ⊕ R → Out × St
 | .inl y => (.norm, hd y)
 | .inr r => enc r
variable {P : Program} {A : Ann} {C : CallF} {f : FuncId} {n m : Nat}
theorem loopK_eq {c : Code} (hd : X → St) (enc : R → Out × St) (dec : Out → St → Option (X ⊕ R)) (step : X → Option (X ⊕ R))
 (h1 : ∀ x, execK P A C f n m c (hd x) dec = step x)
 (h2 : ∀ x, execK P A C f n m c (hd x) (fun o st => some (o, st)) = execK P A C f n m c (hd x) fun o st => (dec o st).map (outS hd enc))
 (hn : ∀ r, (enc r).1 ≠ .norm) {β : Type} (x : X) (K : Out → St → Option β) :
 execK P A C f n m (.loop c) (hd x) K = (Loop step x).bind fun r => K (enc r).1 (enc r).2 := by
 have hstep : ∀ x, exec P A C f n m c (hd x) = (step x).map (outS hd enc) := by
  intro x
  have a := h2 x
  rw [execK_eq, execK_eq] at a
  have b := h1 x
  rw [execK_eq] at b
  rw [← b]
  have : ∀ o : Option (Out × St), (o.bind fun r => some (r.1, r.2)) = o := by intro o; cases o <;> rfl
  rw [this] at a
  refine a.trans ?_
  cases exec P A C f n m c (hd x) <;> rfl
 have key : ∀ (k : Nat) (x : X), iterN (exec P A C f n m c) k (hd x) = (loopN step k x).map enc := by
  intro k
  induction k with
  | zero => intro x; rfl
  | succ k ih =>
   intro x
   rw [iterN, loopN, hstep]
   cases step x with
   | none => rfl
   | some y =>
    cases y with
    | inl y => exact ih y
    | inr r =>
     have := hn r
     simp only [Option.map_some, Option.bind_some, outS]
 have hl : iterLim (exec P A C f n m c) (hd x) = (Loop step x).map enc := by
  apply Option.ext
  intro r
  constructor
  · intro h
    obtain ⟨k, hk⟩ := iterLim_some h
    rw [key] at hk
    cases hl : loopN step k x with
    | none => rw [hl] at hk; cases hk
    | some s => rw [hl] at hk; rw [Loop_of hl]; exact hk
  · intro h
    cases hl : Loop step x with
    | none => rw [hl] at h; cases h
    | some s =>
     rw [hl] at h
     obtain ⟨k, hk⟩ := Loop_some hl
     exact iterLim_of (n := k) (by rw [key, hk]; exact h)
 unfold execK
 rw [hl]
 cases Loop step x <;> rfl
end
end Go.AM

/-
 AM: what comes in, read as abstract values; a law's contract out of the evaluator's answer.
-/
namespace Go.AM
open Go.ChangeShapes Go.WideShapes Go.RowKit
section
variable (P : Program)
/-- Well-typed plain data: one cell. -/
inductive WT : TypeId → V → Prop
 | int {t : TypeId} {k : IntKind} {n : Int} : P.underlying t = some (.int k) → (Lit.int k n).wf = true → WT t (.int k n)
 | bool {t : TypeId} {b : Bool} : P.underlying t = some .bool → WT t (.bool b)
 | str {t : TypeId} {l : List UInt8} : P.underlying t = some .string → l.length ≤ maxLen → WT t (.str l)
 | list {t e : TypeId} {es : List V} : P.underlying t = some (.slice e) → es.length ≤ maxLen →
  (∀ (i : Nat) x, es[i]? = some x → isAggT P e = true → ∃ xs, x = .agg xs ∧ xs.length = (etys P e).length) →
  (∀ (i j : Nat) x t', es[i]? = some x → (etys P e)[j]? = some t' → WT t' (epart P e x j)) → WT t (.list e es)
/-- Well-typed plain data: one value. -/
def WTv (t : TypeId) (x : V) : Prop :=
 (isAggT P t = true → ∃ xs, x = .agg xs ∧ xs.length = (etys P t).length) ∧ ∀ (j : Nat) t', (etys P t)[j]? = some t' → WT P t' (epart P t x j)
def WTall : List TypeId → List V → Prop
 | [], [] => True
 | t :: ts, x :: xs => WTv P t x ∧ WTall ts xs
 | _, _ => False
def hasB (L : List TypeId) (t : TypeId) : Bool := L.any fun u => Nat.beq u t
def fieldsOk (L : List TypeId) : Nat → List Field → Bool
 | _, [] => true
 | n, f :: fs => hasB L f.type && (Nat.beq f.offset n && (Nat.beq (P.cellsOf f.type) (etys P f.type).length && fieldsOk L (n + P.cellsOf f.type) fs))
def listBeq : List Nat → List Nat → Bool
 | [], [] => true
 | a :: l, b :: m => Nat.beq a b && listBeq l m
 | _, _ => false
/-- The types of data that can come in: closed under parts. -/
def goodTy (L : List TypeId) (t : TypeId) : Bool :=
 Nat.beq (P.cellsOf t) (etys P t).length &&
 match P.underlying t with
 | some (.int _) => true
 | some .bool => true
 | some .string => true
 | some (.slice e) => hasB L e && okTy P e
 | some (.struct fs) => fieldsOk P L 0 fs.toList && listBeq (flat P t) (fs.toList.flatMap fun f => etys P f.type)
 | some (.array n e) => hasB L e && (Nat.beq (P.cellsOf e) (etys P e).length && listBeq (flat P t) (List.replicate n (etys P e)).flatten)
 | _ => false
def goodTys (L : List TypeId) : Bool := L.all fun t => goodTy P L t
end
theorem hasB_mem {L : List TypeId} {t : TypeId} (h : hasB L t = true) : t ∈ L := by
 obtain ⟨u, hu, h2⟩ := List.any_eq_true.1 h
 rw [Nat.beq_eq] at h2
 exact h2 ▸ hu
theorem listBeq_eq : ∀ {l m : List Nat}, listBeq l m = true → l = m
 | [], [], _ => rfl
 | a :: l, b :: m, h => by
  simp only [listBeq, Bool.and_eq_true, Nat.beq_eq] at h
  rw [h.1, listBeq_eq h.2]
 | [], _ :: _, h => by cases h
 | _ :: _, [], h => by cases h
section
variable {P : Program} {H : Type} {enc : TypeId × Value → H} {w : World} {base : Nat} {spare : Nat → Bool} {held : Bool} {L : List TypeId}
/-- All of the heap as it is. -/
def allOf (w : World) : Nat → Prop := fun b => b < w.heap.size
def CellsOk (P : Program) (w : World) (ts : List TypeId) (cs : List Value) (xs : List V) : Prop :=
 cs.length = ts.length ∧ xs.length = ts.length ∧ ∀ (j : Nat) t', ts[j]? = some t' → ∃ v y, cs[j]? = some v ∧ xs[j]? = some y ∧ Pure P w (allOf w) t' v y ∧ WT P t' y
theorem CellsOk.app {ts ts' : List TypeId} {cs cs' : List Value} {xs xs' : List V} (h : CellsOk P w ts cs xs) (h' : CellsOk P w ts' cs' xs') : CellsOk P w (ts ++ ts') (cs ++ cs') (xs ++ xs') := by
 obtain ⟨a, b, c⟩ := h
 obtain ⟨a', b', c'⟩ := h'
 refine ⟨by simp [a, a'], by simp [b, b'], fun j t' hj => ?_⟩
 by_cases hlt : j < ts.length
 · rw [List.getElem?_append_left hlt] at hj
   obtain ⟨v, y, e1, e2, e3⟩ := c j t' hj
   exact ⟨v, y, by rw [List.getElem?_append_left (by omega)]; exact e1, by rw [List.getElem?_append_left (by omega)]; exact e2, e3⟩
 · rw [List.getElem?_append_right (by omega)] at hj
   obtain ⟨v, y, e1, e2, e3⟩ := c' _ t' hj
   exact ⟨v, y, by rw [List.getElem?_append_right (by omega), a]; exact e1, by rw [List.getElem?_append_right (by omega), b]; exact e2, e3⟩
theorem cell_lt {w : World} {a : Addr} {v : Value} (h : w.cell? a = some v) : a.spot = none ∧ a.block < w.heap.size := by
 unfold World.cell? at h
 split at h
 · rename_i hh
   split at h
   · cases h
   · rename_i hs
     exact ⟨by simpa using hs, (Array.getElem?_eq_some_iff.1 hh).1⟩
 all_goals (first | cases h | skip)
theorem fields_cells {rd : TypeId → List Value → Option (DataW H × List MemPlace)} (cs : List Value)
 (ih : ∀ t cs x, t ∈ L → rd t cs = some x → ∃ xs, CellsOk P w (etys P t) cs xs) : ∀ (fs : List Field) (n : Nat), fieldsOk P L n fs = true →
 (∀ f ∈ fs, ∃ x, rd f.type ((cs.drop f.offset).take (P.cellsOf f.type)) = some x) → ∃ m xs, n ≤ m ∧ CellsOk P w (fs.flatMap fun f => etys P f.type) ((cs.drop n).take (m - n)) xs ∧ m - n = (fs.flatMap fun f => etys P f.type).length
 | [], n, _, _ => ⟨n, [], Nat.le_refl _, ⟨by simp, rfl, by simp⟩, by simp⟩
 | f :: fs, n, h, hx => by
  simp only [fieldsOk, Bool.and_eq_true, Nat.beq_eq] at h
  obtain ⟨h1, h2, h3, h4⟩ := h
  obtain ⟨x, hxf⟩ := hx f (by simp)
  obtain ⟨xs, hxs⟩ := ih _ _ _ (hasB_mem h1) hxf
  obtain ⟨m, ys, hm, hys, hml⟩ := fields_cells cs ih fs (n + P.cellsOf f.type) h4 fun g hg => hx g (by simp [hg])
  refine ⟨m, xs ++ ys, by omega, ?_, by simp only [List.flatMap_cons, List.length_append]; omega⟩
  have := hxs.app hys
  rw [List.flatMap_cons]
  rw [h2] at this
  have e : (cs.drop n).take (m - n) = (cs.drop n).take (P.cellsOf f.type) ++ (cs.drop (n + P.cellsOf f.type)).take (m - (n + P.cellsOf f.type)) := by
   rw [show m - n = P.cellsOf f.type + (m - (n + P.cellsOf f.type)) by omega, List.take_add, List.drop_drop]
  rw [e]
  exact this
theorem array_cells {rd : List Value → Option (DataW H × List MemPlace)} (cs : List Value) {e : TypeId} (hs : P.cellsOf e = (etys P e).length)
 (ih : ∀ cs x, rd cs = some x → ∃ xs, CellsOk P w (etys P e) cs xs) : ∀ (n : Nat),
 (∀ i, i < n → ∃ x, rd ((cs.drop (i * P.cellsOf e)).take (P.cellsOf e)) = some x) → ∃ xs, CellsOk P w (List.replicate n (etys P e)).flatten (cs.take (n * P.cellsOf e)) xs
 | 0, _ => ⟨[], by simp, rfl, by simp⟩
 | n + 1, hx => by
  obtain ⟨xs, hxs⟩ := array_cells cs hs ih n fun i hi => hx i (by omega)
  obtain ⟨x, hx1⟩ := hx n (by omega)
  obtain ⟨ys, hys⟩ := ih _ _ hx1
  refine ⟨xs ++ ys, ?_⟩
  rw [List.replicate_succ', List.flatten_append]
  have := hxs.app hys
  rw [Nat.add_mul, Nat.one_mul, List.take_add]
  simpa using this
theorem trod_cells (hL : goodTys P L = true) : ∀ (fuel : Nat) (t : TypeId) (cs : List Value) (x : DataW H × List MemPlace), t ∈ L → DataW.trod enc P w base spare held fuel t cs = some x →
 ∃ xs, CellsOk P w (etys P t) cs xs
 | 0, _, _, _, _, h => by cases h
 | fuel + 1, t, cs, x, ht, h => by
  have hg := List.all_eq_true.1 hL t ht
  unfold goodTy at hg
  rw [Bool.and_eq_true, Nat.beq_eq] at hg
  obtain ⟨hc, hg⟩ := hg
  have one : isAggT P t = false → etys P t = [t] := fun h => by simp [etys, h]
  cases hu : P.underlying t with
  | none => rw [hu] at hg; cases hg
  | some d =>
   rw [hu] at hg
   cases d with
   | int k =>
    obtain ⟨n, rfl, rfl, hwf⟩ := DataW.trod_int hu h
    rw [one (by simp [isAggT, hu])]
    exact ⟨[.int k n], rfl, rfl, fun j t' hj => by
     cases j with
     | zero => cases hj; exact ⟨_, _, rfl, rfl, .int hu, .int hu hwf⟩
     | succ j => simp at hj⟩
   | bool =>
    obtain ⟨b, rfl, rfl⟩ := DataW.trod_bool hu h
    rw [one (by simp [isAggT, hu])]
    exact ⟨[.bool b], rfl, rfl, fun j t' hj => by
     cases j with
     | zero => cases hj; exact ⟨_, _, rfl, rfl, .bool hu, .bool hu⟩
     | succ j => simp at hj⟩
   | string =>
    obtain ⟨s, rfl, rfl, hl⟩ := DataW.trod_string hu h
    rw [one (by simp [isAggT, hu])]
    exact ⟨[.str s.data.toList], rfl, rfl, fun j t' hj => by
     cases j with
     | zero => cases hj; exact ⟨_, _, rfl, rfl, .str hu rfl, .str hu (by simpa using hl)⟩
     | succ j => simp at hj⟩
   | slice e =>
    simp only [Bool.and_eq_true] at hg
    obtain ⟨he, hok⟩ := hg
    rw [one (by simp [isAggT, hu])]
    have single : ∀ v y, cs = [v] → Pure P w (allOf w) t v y → WT P t y → ∃ xs, CellsOk P w [t] cs xs := by
     rintro v y rfl a b
     exact ⟨[y], rfl, rfl, fun j t' hj => by
      cases j with
      | zero => cases hj; exact ⟨_, _, rfl, rfl, a, b⟩
      | succ j => simp at hj⟩
    rcases DataW.trod_slice hu h with ⟨rfl, rfl⟩ | ⟨a, len, cap, elems, rest, n, hn, rfl, rfl, hb, hl, hm, hlen, hel, _, _⟩
    · exact single _ _ rfl (.nil hu) (.list hu (by simp) (by simp) (by simp))
    · cases hn
      have hpos := (okTy_len hok).2
      have hety : P.cellsOf e = (etys P e).length := (okTy_etys hok).symm
      have key : ∀ i, i < len → ∃ cs' xs, w.cells? base (a.add (i * P.cellsOf e)) (P.cellsOf e) = some cs' ∧ CellsOk P w (etys P e) cs' xs := by
       intro i hi
       have h1 := hel i hi
       rw [List.getElem?_eq_getElem (by omega)] at h1
       obtain ⟨cs', h2, h3⟩ := Option.bind_eq_some_iff.1 h1
       obtain ⟨xs, hxs⟩ := trod_cells hL fuel e cs' _ (hasB_mem he) h3
       exact ⟨cs', xs, h2, hxs⟩
      by_cases h0 : len = 0
      · subst h0
        exact single _ _ rfl (.emp hu) (.list hu (by simp) (by simp) (by simp))
      · have hsp : a.spot = none ∧ a.block < w.heap.size := by
         obtain ⟨cs', xs, h2, _⟩ := key 0 (by omega)
         obtain ⟨_, h3, h4⟩ := World.cells?_some h2
         have h5 := h4 0 hpos
         rw [List.getElem?_eq_getElem (by omega)] at h5
         have := cell_lt h5
         simpa [Addr.add] using this
        have hF : ∃ (F : Nat → List Value) (X : Nat → List V), ∀ i, i < len → w.cells? base (a.add (i * P.cellsOf e)) (P.cellsOf e) = some (F i) ∧ CellsOk P w (etys P e) (F i) (X i) := by
         refine ⟨fun i => if hi : i < len then (key i hi).choose else [], fun i => if hi : i < len then (key i hi).choose_spec.choose else [], fun i hi => ?_⟩
         simp only [dif_pos hi]
         exact (key i hi).choose_spec.choose_spec
        obtain ⟨F, X, hFX⟩ := hF
        have hx : ∀ (i j : Nat) y t', ((List.range len).map fun i => mkElem P e (X i))[i]? = some y → (etys P e)[j]? = some t' → i < len ∧ ∃ v, (F i)[j]? = some v ∧ Pure P w (allOf w) t' v (epart P e y j) ∧ WT P t' (epart P e y j) := by
         intro i j y t' hy hj
         have hi : i < len := by
          have := (List.getElem?_eq_some_iff.1 hy).1
          simpa using this
         refine ⟨hi, ?_⟩
         simp [List.getElem?_range hi] at hy
         obtain ⟨c1, c2, c3⟩ := (hFX i hi).2
         obtain ⟨v, z, d1, d2, d3, d4⟩ := c3 j t' hj
         have : epart P e y j = z := by
          rw [← hy]
          unfold epart mkElem
          cases ha : isAggT P e with
          | true =>
           simp only [cond_true, V.cell]
           rw [nth_get _ _ _ d2]
          | false =>
           simp only [cond_false]
           have : etys P e = [e] := by simp [etys, ha]
           rw [this] at hj
           cases j with
           | zero => rw [nth_get _ _ _ d2]
           | succ j => simp at hj
         rw [this]
         exact ⟨v, d1, d3, d4⟩
        have hcell : ∀ i j, i < len → j < P.cellsOf e → w.cell? ⟨a.block, a.off + (i * P.cellsOf e + j), none⟩ = some ((F i).getD j undef) := by
         intro i j hi hj
         obtain ⟨h1, h2⟩ := hFX i hi
         obtain ⟨_, h3, h4⟩ := World.cells?_some h1
         have h5 := h4 j hj
         rw [Go.Deep.add_add] at h5
         have e1 : a.add (i * P.cellsOf e + j) = ⟨a.block, a.off + (i * P.cellsOf e + j), none⟩ := by
          obtain ⟨b, o, s⟩ := a
          simp only at hsp
          rw [hsp.1]
          exact add_none ..
         rw [e1] at h5
         rw [h5, List.getD_eq_getElem?_getD, List.getElem?_eq_getElem (by omega)]
         rfl
        have ha : a = ⟨a.block, a.off, none⟩ := by
         obtain ⟨b, o, s⟩ := a
         simp only at hsp
         rw [hsp.1]
        refine single (.slice (some a) len cap) (.list e ((List.range len).map fun i => mkElem P e (X i))) rfl ?_ ?_
        · rw [ha]
          refine .list (fun i j => (F i).getD j undef) hu (by simp) hl (fun _ => hsp.2) hcell ?_
          intro i j y t' hy hj
          obtain ⟨hi, v, d1, d2, _⟩ := hx i j y t' hy hj
          rw [List.getD_eq_getElem?_getD, d1]
          exact d2
        · refine .list hu (by simp; omega) ?_ ?_
          · intro i y hy hagg
            have hi : i < len := by
             have := (List.getElem?_eq_some_iff.1 hy).1
             simpa using this
            simp [List.getElem?_range hi] at hy
            rw [← hy]
            exact ⟨X i, by simp [mkElem, hagg], (hFX i hi).2.2.1⟩
          · intro i j y t' hy hj
            obtain ⟨_, v, _, _, d3⟩ := hx i j y t' hy hj
            exact d3
   | struct fs =>
    simp only [Bool.and_eq_true] at hg
    obtain ⟨xs, n, hn, rfl, hlen, hxl, hx⟩ := DataW.trod_struct hu h
    cases hn
    have het : etys P t = fs.toList.flatMap fun f => etys P f.type := by
     rw [← listBeq_eq hg.2]
     simp [etys, isAggT, hu]
    obtain ⟨m, ys, _, hys, hm⟩ := fields_cells (w := w) (rd := fun t cs => DataW.trod enc P w base spare held fuel t cs) cs (fun t cs x a b => trod_cells hL fuel t cs x a b) fs.toList 0 hg.1 (by
     intro f hf
     obtain ⟨i, hi⟩ := List.getElem?_of_mem hf
     rw [Array.getElem?_toList] at hi
     have hil : i < fs.size := (Array.getElem?_eq_some_iff.1 hi).1
     exact ⟨_, (hx i f hi).trans (List.getElem?_eq_getElem (by omega))⟩)
    rw [het]
    refine ⟨ys, ?_⟩
    have : (cs.drop 0).take (m - 0) = cs := by
     rw [List.drop_zero, hm, ← het, ← hc, ← hlen, List.take_length]
    rw [this] at hys
    exact hys
   | array n e =>
    simp only [Bool.and_eq_true, Nat.beq_eq] at hg
    obtain ⟨xs, m, hn, rfl, hlen, hxl, hx⟩ := DataW.trod_array hu h
    cases hn
    have het : etys P t = (List.replicate n (etys P e)).flatten := by
     rw [← listBeq_eq hg.2.2]
     simp [etys, isAggT, hu]
    obtain ⟨ys, hys⟩ := array_cells (w := w) (rd := DataW.trod enc P w base spare held fuel e) cs hg.2.1 (fun cs x b => trod_cells hL fuel e cs x (hasB_mem hg.1) b) n (by
     intro i hi
     exact ⟨_, (hx i hi).trans (List.getElem?_eq_getElem (by omega))⟩)
    rw [het]
    refine ⟨ys, ?_⟩
    have : cs.take (n * P.cellsOf e) = cs := by
     have : n * P.cellsOf e = cs.length := by
      rw [hlen, hc, het, hg.2.1]
      simp
     rw [this, List.take_length]
    rw [this] at hys
    exact hys
   | _ => cases hg
end
end Go.AM
