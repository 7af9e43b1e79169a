/-
 AM: the contract of a law: what the evaluator answers at all well-typed arguments is what the row asks.
-/
import Derived.Test.YtffbfcncnleiaaaProg
import Derived.Test.YtffbfcncnleiaaaP2
set_option linter.unusedVariables false
namespace Go.AM
open Go.ChangeShapes Go.WideShapes Go.RowKit
section
variable {P : Program} {H : Type} {enc : TypeId × Value → H} {w : World} {L : List TypeId}
theorem arg_rel {base base' : Nat} {spare : Nat → Bool} {held : Bool} {r : Reach} {β : Nat → Option Nat} {hp : Nat → Option Blk} (hL : goodTys P L = true) {t : TypeId} {v : Value} {d : DataW H} {ps : List MemPlace} (ht : t ∈ L) (hval : Value.okWide P w r base' t v)
 (h : DataW.Trod enc P w base spare held t v d ps) : ∃ x, VRel P w (allOf w) β hp v x ∧ WTv P t x := by
 obtain ⟨fuel, hf⟩ := h
 obtain ⟨xs, c1, c2, c3⟩ := trod_cells hL fuel t _ _ ht hf
 have hg := List.all_eq_true.1 hL t ht
 unfold goodTy at hg
 rw [Bool.and_eq_true, Nat.beq_eq] at hg
 obtain ⟨_, hg⟩ := hg
 have hagg : isAggT P t = true → ∃ x, VRel P w (allOf w) β hp v x ∧ WTv P t x := by
  intro ha
  have hv : ∃ cs, v = .agg cs := by
   unfold Value.okWide at hval
   unfold isAggT at ha
   split at hval
   · obtain ⟨cs, e, _⟩ := hval; exact ⟨cs, e⟩
   · obtain ⟨cs, e, _⟩ := hval; exact ⟨cs, e⟩
   · split at ha <;> simp_all
  obtain ⟨cs, rfl⟩ := hv
  refine ⟨.agg xs, .agg (by simpa [Value.cells] using c1.trans c2.symm) fun j v x hv hx => ?_, fun _ => ⟨xs, rfl, c2⟩, fun j t' hj => ?_⟩
  · have hj : j < (etys P t).length := by rw [← c2]; exact (List.getElem?_eq_some_iff.1 hx).1
    obtain ⟨v', y, e1, e2, e3, _⟩ := c3 j _ (List.getElem?_eq_getElem hj)
    rw [hx] at e2
    cases e2
    have : cs[j]? = some v' := by simpa [Value.cells] using e1
    rw [hv] at this
    cases this
    exact .of_pure e3
  · obtain ⟨v', y, e1, e2, _, e4⟩ := c3 j t' hj
    have : epart P t (.agg xs) j = y := by
     simp only [epart, ha, cond_true, V.cell]
     exact nth_get _ _ _ e2
    rw [this]
    exact e4
 have hone : isAggT P t = false → v.cells = #[v] → ∃ x, VRel P w (allOf w) β hp v x ∧ WTv P t x := by
  intro ha hcv
  have he : etys P t = [t] := by simp [etys, ha]
  rw [he] at c1 c2 c3
  obtain ⟨v', y, e1, e2, e3, e4⟩ := c3 0 t rfl
  rw [hcv] at e1
  cases e1
  refine ⟨y, .of_pure e3, ⟨fun h => absurd (ha.symm.trans h) (by simp), fun j t' hj => ?_⟩⟩
  rw [he] at hj
  cases j with
  | succ j => simp at hj
  | zero =>
   cases hj
   simpa [epart, ha] using e4
 unfold Value.okWide at hval
 cases hu : P.underlying t with
 | none => rw [hu] at hg; cases hg
 | some dsc =>
  rw [hu] at hg hval
  cases dsc with
  | int k =>
   refine hone (by simp [isAggT, hu]) ?_
   simp only [Cell.okWide, Cell.ok, hu] at hval
   cases v <;> first | rfl | (simp at hval; done) | exact hval.elim
  | bool =>
   refine hone (by simp [isAggT, hu]) ?_
   simp only [Cell.okWide, Cell.ok, hu] at hval
   cases v <;> first | rfl | (simp at hval; done) | exact hval.elim
  | string =>
   refine hone (by simp [isAggT, hu]) ?_
   simp only [Cell.okWide, Cell.ok, hu] at hval
   cases v <;> first | rfl | (simp at hval; done) | exact hval.elim
  | slice e =>
   refine hone (by simp [isAggT, hu]) ?_
   simp only [Cell.okWide, Cell.ok, hu] at hval
   cases v <;> first | rfl | (simp at hval; done) | exact hval.elim
  | struct fs => exact hagg (by simp [isAggT, hu])
  | array n e => exact hagg (by simp [isAggT, hu])
  | _ => cases hg
theorem args_rel {base base' : Nat} {spare : Nat → Bool} {held : Bool} {r : Reach} {β : Nat → Option Nat} {hp : Nat → Option Blk} (hL : goodTys P L = true) : ∀ {ts : List TypeId} {vs : List Value} {ds : List (DataW H)} {ps : List MemPlace},
 (∀ t ∈ ts, t ∈ L) → (∀ (j : Nat) t v, ts[j]? = some t → vs[j]? = some v → Value.okWide P w r base' t v) → DataW.TrodAll enc P w base spare held ts vs ds ps →
 ∃ xs, vs.length = xs.length ∧ (∀ (j : Nat) v x, vs[j]? = some v → xs[j]? = some x → VRel P w (allOf w) β hp v x) ∧ WTall P ts xs
 | [], vs, ds, ps, _, _, h => by
  obtain ⟨rfl, rfl, rfl⟩ := trodAll_nil h
  exact ⟨[], rfl, by simp, trivial⟩
 | t :: ts, vs, ds, ps, hm, hval, h => by
  obtain ⟨v, vs1, d, ds1, a, b, rfl, rfl, rfl, h1, h2⟩ := trodAll_cons h
  obtain ⟨x, hx1, hx2⟩ := arg_rel (β := β) (hp := hp) hL (hm t (by simp)) (hval 0 t v rfl rfl) h1
  obtain ⟨xs, hl, hr, hw⟩ := args_rel (β := β) (hp := hp) hL (fun t ht => hm t (by simp [ht])) (fun j t v a b => hval (j + 1) t v (by simpa using a) (by simpa using b)) h2
  refine ⟨x :: xs, by simp [hl], fun j v' x' hv hx => ?_, hx2, hw⟩
  cases j with
  | zero => cases hv; cases hx; exact hx1
  | succ j => exact hr j v' x' (by simpa using hv) (by simpa using hx)
theorem trodAll_len {base : Nat} {spare : Nat → Bool} {held : Bool} : ∀ {ts : List TypeId} {vs : List Value} {ds : List (DataW H)} {ps : List MemPlace}, DataW.TrodAll enc P w base spare held ts vs ds ps → ds.length = ts.length
 | [], vs, ds, ps, h => by obtain ⟨rfl, rfl, rfl⟩ := trodAll_nil h; rfl
 | t :: ts, vs, ds, ps, h => by
  obtain ⟨v, vs1, d, ds1, a, b, rfl, rfl, rfl, h1, h2⟩ := trodAll_cons h
  simp [trodAll_len h2]
theorem trodAll_stays {base : Nat} (hl : laidOutB P = true) {W W' : World} {sp' : Nat → Bool} : ∀ {ts : List TypeId} {vs : List Value} {ds : List (DataW H)} {ps : List MemPlace}, (∀ t ∈ ts, P.readableRec t = true ∧ t < P.types.size) →
 DataW.TrodAll enc P W base (fun _ => true) true ts vs ds ps → (∀ p ∈ ps, W.sameAt W' p) → (∀ p ∈ ps, sp' p.block = true) → DataW.TrodAll enc P W' base sp' true ts vs ds ps
 | [], vs, ds, ps, _, h, _, _ => by obtain ⟨rfl, rfl, rfl⟩ := trodAll_nil h; exact trodAll_mk0
 | t :: ts, vs, ds, ps, hr, h, h1, h2 => by
  obtain ⟨v, vs1, d, ds1, a, b, rfl, rfl, rfl, h3, h4⟩ := trodAll_cons h
  obtain ⟨r1, r2⟩ := hr t (by simp)
  exact trodAll_cons_mk (WideElems.Trod_stays hl r1 r2 h3 (fun p hp => h1 p (by simp [hp])) (fun p hp => h2 p (by simp [hp])))
   (trodAll_stays hl (fun t ht => hr t (by simp [ht])) h4 (fun p hp => h1 p (by simp [hp])) (fun p hp => h2 p (by simp [hp])))
/-- As 'post_of_same', of what was there alone. -/
theorem post_of_old {f : Func} {s : ChangeSpec} {apart fresh handsOn again : Bool} {W W' : World} {args : Array Value} {v : Value} {ds gs : List (DataW H)} {before pa pv : List MemPlace}
 (hW : DataW.Whole enc P f.params.toList s.vars apart W args.toList ds gs before)
 (hres : ∀ (b : Nat) (sp : Nat → Bool) (hd : Bool), DataW.TrodAll enc P W' b sp hd f.resultTypes.toList (v.resultList f.resultTypes.size) (s.fn H (ds ++ gs)).results [])
 (hargs : ∀ sp : Nat → Bool, (∀ p ∈ before, sp p.block = true) → DataW.TrodAll enc P W' 0 sp true f.params.toList args.toList (s.fn H (ds ++ gs)).args pa)
 (hvars : ∀ sp : Nat → Bool, (∀ p ∈ before, sp p.block = true) → DataW.TrodVars enc P W' sp s.vars (s.fn H (ds ++ gs)).vars pv)
 (hps : before = pa ++ pv) (hk : W.keptBut W' (· ∈ before)) (hfz : ∀ a : Addr, a.block < W.heap.size → W'.frozen? a = W.frozen? a)
 (hok : ∀ (j : Nat) (t : TypeId) (r : Value), f.resultTypes[j]? = some t → (v.resultList f.resultTypes.size)[j]? = some r → Value.okWide P W' .any 0 t r) :
 s.post enc P f apart fresh handsOn again W args v W' := by
 have hold : ∀ p ∈ before, (fun b => decide (b < W.heap.size)) p.block = true := fun p hp => by simpa using hW.lt p hp
 refine ⟨ds, gs, before, [], pa, pv, hW, hres _ _ _, hargs _ hold, hvars _ hold, World.keptBut_mono (fun p hp => ⟨hp, ?_⟩) hk, fun _ => ?_⟩
 · rw [hps, List.mem_append] at hp
   exact Or.inr hp
 · have hlt := hW.lt
   obtain ⟨_, _, _, _, _, hz, hn⟩ := hW
   refine ⟨hok, _, _, ([] ++ pa) ++ pv, ⟨[] ++ pa, pv, trodAll_append (hargs _ (fun _ _ => rfl)) (hres _ _ _), hvars _ (fun _ _ => rfl), rfl, ?_, ?_⟩, ?_⟩
   · intro b off hp
     have hb : MemPlace.cell b off ∈ before := by rw [hps]; simpa using hp
     rw [hfz ⟨b, off, none⟩ (hlt _ hb)]
     exact hz b off hb
   · intro ha
     have := hn ha
     rw [hps] at this
     simpa using this
   · intro p hp _
     rw [hps]
     simpa using hp
/-- A law's contract. -/
theorem law_contract {A : Ann} (hP : NoCount P) (hmo : P.follows .mixedOrders = true) {f : FuncId} {fn : Func} {tb : TypeId} {s : ChangeSpec} {apart fresh handsOn again : Bool}
 (hf : P.funcs[f]? = some fn) (hL : goodTys P L = true) (hpl : fn.params.toList.all (fun t => hasB L t) = true) (hrt : fn.resultTypes = #[tb]) (htb : P.underlying tb = some .bool) (hsv : s.vars = [])
 (hs : ∀ ds : List (DataW H), ds.length = fn.params.toList.length → s.fn H ds = { results := [.lit (.bool true)], args := ds })
 (hlaid : laidOutB P = true) (hread : fn.params.toList.all (fun t => P.readableRec t && Nat.blt t P.types.size) = true)
 (hlaw : ∀ xs, WTall P fn.params.toList xs → Call P A f xs [] = some (.bool true, []))
 {W : World} {base : Nat} {args : Array Value} {ds gs : List (DataW H)} {before : List MemPlace}
 (hval : ∀ (j : Nat) t v, fn.params[j]? = some t → args[j]? = some v → Value.okWide P W .any base t v)
 (hW : DataW.Whole enc P fn.params.toList s.vars apart W args.toList ds gs before) :
 Calls P f args W fun e W' => ∃ v, e = .returned v ∧ s.post enc P fn apart fresh handsOn again W args v W' := by
 have hW0 := hW
 obtain ⟨p, q, hA, hV, rfl, hfz, hnd⟩ := hW
 rw [hsv] at hV
 obtain ⟨hgs, hq⟩ : gs = [] ∧ q = [] := by
  cases gs with
  | nil => exact ⟨rfl, hV⟩
  | cons g gs => exact hV.elim
 subst hgs
 subst hq
 obtain ⟨xs, hl, hr, hwt⟩ := args_rel (β := fun _ => none) (hp := fun _ => none) hL (fun t ht => hasB_mem (List.all_eq_true.1 hpl t ht)) (fun j t v a b => hval j t v (by simpa using a) (by simpa using b)) hA
 obtain ⟨fn', c, h1, h2, h3⟩ := Call_sim (A := A) hP hmo f xs [] (.bool true) [] (hlaw xs hwt)
 rw [hf] at h1
 cases h1
 have h4 := h3 W (allOf W) (fun _ => none) args.toList ⟨fun id blk h => (by cases h), fun id id' blk blk' b h => (by cases h), fun id blk b h => (by cases h), fun b h => h⟩ hl (fun j v x hv hx => hr j v x hv hx)
 have ea : args.toList.toArray = args := by simp
 rw [ea] at h4
 refine h4.mono fun e W' ⟨v, I2, he, ha⟩ => ⟨v, he, ?_⟩
 have hkeep : ∀ b, b < W.heap.size → W'.heap[b]? = W.heap[b]? := fun b hb => ha.keep b hb (by rintro ⟨j, hj, _⟩; exact Nat.not_lt_zero _ hj)
 obtain ⟨hi, ω, _, _, _, hK⟩ := ha.res 0
 have hout : (callOut P A f fn 0 (.bool true)) = (.bool true, []) := by
  simp [callOut, hrt, res1, htb, resFlat, isAggT, resUnpack, V.cell, V.nth, retype1, V.toBool]
 rw [hout] at hK
 have hvv := hK ω (fun _ => none) (by simp)
 obtain rfl : v = .bool true := hvv.bool_inv
 have hb1 : Value.okWide P W' .any 0 tb (.bool true) := by simp [Value.okWide, htb, Cell.okWide, Cell.ok]
 have hds : ds.length = fn.params.toList.length := trodAll_len hA
 have hsame : ∀ p' ∈ p ++ [], W.sameAt W' p' := by
  intro p' hp'
  have hlt := hW0.lt p' hp'
  cases p' with
  | cell b o => exact World.cell?_of_block (w := W) (hkeep b hlt)
  | map b => exact hkeep b hlt
 refine post_of_old (pa := p) (pv := []) hW0 ?_ ?_ ?_ rfl ?_ ?_ ?_
 · intro b sp hd
   rw [List.append_nil, hs ds hds, hrt]
   exact trodAll_mk1 ⟨1, by simp [DataW.trod, Value.cells, htb]⟩
 · intro sp hsp
   rw [List.append_nil, hs ds hds]
   refine trodAll_stays hlaid (fun t ht => ?_) hA (fun p' hp' => hsame p' (by simpa using hp')) (fun p' hp' => hsp p' (by simpa using hp'))
   have := List.all_eq_true.1 hread t ht
   simp only [Bool.and_eq_true] at this
   exact ⟨this.1, by simpa [Nat.blt_eq] using this.2⟩
 · intro sp hsp
   rw [hsv, List.append_nil, hs ds hds]
   exact rfl
 · refine ⟨ha.io.1, ha.io.2, fun i hi => ?_⟩
   rw [hkeep i hi]
   split <;> simp_all
 · intro a hlt
   exact World.frozen?_of_block (w := W) (hkeep a.block hlt)
 · intro j t r hj hrj
   rw [hrt] at hj hrj
   cases j with
   | zero =>
    simp [Value.resultList] at hj hrj
    subst hj
    subst hrj
    exact hb1
   | succ j => simp at hj
end
end Go.AM

/-
 AM: small facts for whoever says what lifted functions compute.
-/
namespace Go.AM
@[simp] theorem V.toInt_int (k : IntKind) (n : Int) : V.toInt (.int k n) = n := by cases k <;> rfl
@[simp] theorem V.toBool_bool (b : Bool) : V.toBool (.bool b) = b := by cases b <;> rfl
@[simp] theorem V.toStr_str (s : List UInt8) : V.toStr (.str s) = s := by cases s <;> rfl
@[simp] theorem V.toList_list (e : TypeId) (es : List V) : V.toList (.list e es) = es := by cases es <;> rfl
@[simp] theorem V.toList_own (e : TypeId) (es : List V) : V.toList (.own e es) = es := by cases es <;> rfl
@[simp] theorem V.cell_agg (cs : List V) (j : Nat) : V.cell (.agg cs) j = V.nth cs j := by cases cs <;> rfl
@[simp] theorem V.comp_tup (cs : List V) (j : Nat) : V.comp (.tup cs) j = V.nth cs j := by cases cs <;> rfl
@[simp] theorem V.nth_zero (x : V) (l : List V) : V.nth (x :: l) 0 = x := by cases l <;> rfl
@[simp] theorem V.nth_succ (x : V) (l : List V) (n : Nat) : V.nth (x :: l) (n + 1) = V.nth l n := by cases l <;> rfl
@[simp] theorem V.nth_one (x y : V) (l : List V) : V.nth (x :: y :: l) 1 = y := by cases l <;> rfl
@[simp] theorem V.nth_two (x y z : V) (l : List V) : V.nth (x :: y :: z :: l) 2 = z := by cases l <;> rfl
@[simp] theorem V.nth_three (x y z u : V) (l : List V) : V.nth (x :: y :: z :: u :: l) 3 = u := by cases l <;> rfl
theorem wrap64 {x : Int} (h1 : -9223372036854775808 ≤ x) (h2 : x < 9223372036854775808) : IntKind.wrap .i64 x = x := by
 rw [IntKind.wrap_i64]; omega
theorem wrap8 {x : Int} (h1 : 0 ≤ x) (h2 : x < 256) : IntKind.wrap .u8 x = x := by
 rw [IntKind.wrap_u8]; omega
theorem idx_some {es : List V} {i : Int} {n : Nat} (h : i = n) : idx es i = es[n]? := by
 subst h; simp [idx]
theorem idx_map {α : Type} {f : α → V} {l : List α} {i : Int} {n : Nat} (h : i = n) (hn : n < l.length) : idx (l.map f) i = some (f l[n]) := by
 rw [idx_some h]; simp [hn]
@[simp] theorem idx_nat (es : List V) (n : Nat) : idx es (n : Int) = es[n]? := by simp [idx]
section
variable {X R : Type} {step : X → Option (X ⊕ R)}
/-- A loop whose rounds keep Inv and get nearer to the end. -/
theorem Loop_inv (Inv : X → Prop) (μ : X → Nat) (Q : R → Prop)
 (h : ∀ x, Inv x → (∃ y, step x = some (.inl y) ∧ Inv y ∧ μ y < μ x) ∨ ∃ r, step x = some (.inr r) ∧ Q r) :
 ∀ x, Inv x → ∃ r, Loop step x = some r ∧ Q r := by
 intro x
 induction hm : μ x using Nat.strongRecOn generalizing x with
 | ind m ih =>
  intro hx
  rcases h x hx with ⟨y, h1, h2, h3⟩ | ⟨r, h1, h2⟩
  · obtain ⟨r, h4, h5⟩ := ih (μ y) (by omega) y rfl h2
    exact ⟨r, (Loop_norm h1).trans h4, h5⟩
  · exact ⟨r, Loop_end h1, h2⟩
/-- A loop whose states are known one by one. -/
theorem Loop_rounds (s : Nat → X) (n : Nat) {r : R} (h : ∀ i, i < n → step (s i) = some (.inl (s (i + 1)))) (he : step (s n) = some (.inr r)) : Loop step (s 0) = some r := by
 induction n generalizing s with
 | zero => exact Loop_end he
 | succ n ih =>
  rw [Loop_norm (h 0 (by omega))]
  exact ih (fun i => s (i + 1)) (fun i hi => h (i + 1) (by omega)) he
/-- As before, but a round k may end it. -/
theorem Loop_until (s : Nat → X) (k : Nat) {r : R} (h : ∀ i, i < k → step (s i) = some (.inl (s (i + 1)))) (he : step (s k) = some (.inr r)) : Loop step (s 0) = some r := Loop_rounds s k h he
end
theorem bind_eq {α β : Type} {o : Option α} {a : α} {f : α → Option β} {b : β} (h : o = some a) (h2 : f a = some b) : o.bind f = some b := by rw [h]; exact h2
@[simp] theorem bif_decide {α : Type} (p : Prop) [Decidable p] (a b : α) : (bif decide p then a else b) = if p then a else b := by by_cases h : p <;> simp [h]
@[simp] theorem bif_beq {α : Type} (m n : Int) (a b : α) : (bif m == n then a else b) = if m = n then a else b := by
 by_cases h : m = n
 · simp [h]
 · have : (m == n) = false := by simp [h]
   rw [this, if_neg h]; rfl
@[simp] theorem bif_bne {α : Type} (m n : Int) (a b : α) : (bif m != n then a else b) = if m = n then b else a := by
 by_cases h : m = n
 · simp [h]
 · have : (m != n) = true := by simp [h]
   rw [this, if_neg h]; rfl
@[simp] theorem bif_not {α : Type} (c : Bool) (a b : α) : (bif !c then a else b) = bif c then b else a := by cases c <;> rfl
@[simp] theorem bif_ble {α : Type} (m n : Nat) (a b : α) : (bif Nat.ble m n then a else b) = if m ≤ n then a else b := by
 cases hb : Nat.ble m n with
 | true => rw [if_pos (Nat.le_of_ble_eq_true hb)]; rfl
 | false =>
  rw [if_neg fun h => ?_]
  · rfl
  · rw [Nat.ble_eq_true_of_le h] at hb; cases hb
@[simp] theorem bif_and {α : Type} (c d : Bool) (a b : α) : (bif c && d then a else b) = bif c then (bif d then a else b) else b := by cases c <;> rfl
end Go.AM

/-
 AM: well-typed data of some shapes.
-/
namespace Go.AM
section
variable {P : Program}
/-- No function of this name. -/
def noCountB (P : Program) : Bool := P.funcs.all fun fn => !(fn.name == "runtime.NumGoroutine")
theorem noCount_of (h : noCountB P = true) : NoCount P := by
 intro f fn hf
 unfold noCountB at h
 have := (Array.all_eq_true_iff_forall_mem.1 h) fn (Array.mem_of_getElem? hf)
 simpa using this
theorem wtall_one {t : TypeId} {ts : List TypeId} {xs : List V} (h : WTall P (t :: ts) xs) : ∃ x ys, xs = x :: ys ∧ WTv P t x ∧ WTall P ts ys := by
 cases xs with
 | nil => exact h.elim
 | cons x ys => exact ⟨x, ys, rfl, h.1, h.2⟩
theorem wtall_nil {xs : List V} (h : WTall P [] xs) : xs = [] := by
 cases xs with
 | nil => rfl
 | cons x ys => exact h.elim
theorem WTv.one {t : TypeId} {x : V} (ha : isAggT P t = false) (h : WTv P t x) : WT P t x := by
 have he : etys P t = [t] := by simp [etys, ha]
 have := h.2 0 t (by rw [he]; rfl)
 simpa [epart, ha] using this
theorem WT.int_inv {t : TypeId} {k : IntKind} {x : V} (hu : P.underlying t = some (.int k)) (h : WT P t x) : ∃ n, x = .int k n ∧ k.min ≤ n ∧ n ≤ k.max := by
 cases h with
 | int h1 h2 =>
  rw [hu] at h1
  cases h1
  simp only [Lit.wf, Bool.and_eq_true, decide_eq_true_eq] at h2
  exact ⟨_, rfl, h2⟩
 | bool h1 => rw [hu] at h1; cases h1
 | str h1 => rw [hu] at h1; cases h1
 | list h1 => rw [hu] at h1; cases h1
theorem WT.bool_inv {t : TypeId} {x : V} (hu : P.underlying t = some .bool) (h : WT P t x) : ∃ b, x = .bool b := by
 cases h with
 | int h1 => rw [hu] at h1; cases h1
 | bool h1 => exact ⟨_, rfl⟩
 | str h1 => rw [hu] at h1; cases h1
 | list h1 => rw [hu] at h1; cases h1
theorem WT.str_inv {t : TypeId} {x : V} (hu : P.underlying t = some .string) (h : WT P t x) : ∃ s, x = .str s ∧ s.length ≤ maxLen := by
 cases h with
 | int h1 => rw [hu] at h1; cases h1
 | bool h1 => rw [hu] at h1; cases h1
 | str h1 h2 => exact ⟨_, rfl, h2⟩
 | list h1 => rw [hu] at h1; cases h1
theorem WT.list_inv {t e : TypeId} {x : V} (hu : P.underlying t = some (.slice e)) (h : WT P t x) : ∃ es, x = .list e es ∧ es.length ≤ maxLen ∧ ∀ y ∈ es, WTv P e y := by
 cases h with
 | int h1 => rw [hu] at h1; cases h1
 | bool h1 => rw [hu] at h1; cases h1
 | str h1 => rw [hu] at h1; cases h1
 | list h1 h2 h3 h4 =>
  rw [hu] at h1
  cases h1
  refine ⟨_, rfl, h2, fun y hy => ?_⟩
  obtain ⟨i, hi⟩ := List.getElem?_of_mem hy
  exact ⟨h3 i y hi, fun j t' hj => h4 i j y t' hi hj⟩
/-- An aggregate's cells. -/
theorem WTv.agg_inv {t : TypeId} {x : V} (ha : isAggT P t = true) (h : WTv P t x) : ∃ xs, x = .agg xs ∧ xs.length = (etys P t).length ∧ ∀ (j : Nat) t' y, (etys P t)[j]? = some t' → xs[j]? = some y → WT P t' y := by
 obtain ⟨xs, rfl, hl⟩ := h.1 ha
 refine ⟨xs, rfl, hl, fun j t' y hj hy => ?_⟩
 have := h.2 j t' hj
 simp only [epart, ha, cond_true, V.cell_agg] at this
 rw [nth_get _ _ _ hy] at this
 exact this
theorem map_of_forall {α : Type} {f : α → V} : ∀ {es : List V}, (∀ y ∈ es, ∃ a, y = f a) → ∃ l : List α, es = l.map f
 | [], _ => ⟨[], rfl⟩
 | y :: es, h => by
  obtain ⟨a, rfl⟩ := h y (by simp)
  obtain ⟨l, rfl⟩ := map_of_forall (f := f) (es := es) fun z hz => h z (by simp [hz])
  exact ⟨a :: l, rfl⟩
theorem map_of_forallP {α : Type} {f : α → V} {p : α → Prop} : ∀ {es : List V}, (∀ y ∈ es, ∃ a, y = f a ∧ p a) → ∃ l : List α, es = l.map f ∧ ∀ a ∈ l, p a
 | [], _ => ⟨[], rfl, by simp⟩
 | y :: es, h => by
  obtain ⟨a, rfl, ha⟩ := h y (by simp)
  obtain ⟨l, rfl, hl⟩ := map_of_forallP (f := f) (p := p) (es := es) fun z hz => h z (by simp [hz])
  exact ⟨a :: l, rfl, by
   intro b hb
   rcases List.mem_cons.1 hb with rfl | hb
   · exact ha
   · exact hl b hb⟩
theorem WTv.ints {t e : TypeId} {x : V} (hu : P.underlying t = some (.slice e)) (he : P.underlying e = some (.int .i64)) (h : WTv P t x) :
 ∃ l : List Int, x = .list e (l.map fun n => .int .i64 n) ∧ ∀ n ∈ l, IntKind.min .i64 ≤ n ∧ n ≤ IntKind.max .i64 := by
 obtain ⟨es, rfl, _, h2⟩ := (h.one (by simp [isAggT, hu])).list_inv hu
 obtain ⟨l, rfl, hl⟩ := map_of_forallP (f := fun n : Int => V.int .i64 n) (p := fun n => IntKind.min .i64 ≤ n ∧ n ≤ IntKind.max .i64) fun y hy => by
  obtain ⟨n, e1, e2⟩ := ((h2 y hy).one (by simp [isAggT, he])).int_inv he
  exact ⟨n, e1, e2⟩
 exact ⟨l, rfl, hl⟩
theorem WTv.int {t : TypeId} {x : V} (hu : P.underlying t = some (.int .i64)) (h : WTv P t x) : ∃ n, x = .int .i64 n ∧ IntKind.min .i64 ≤ n ∧ n ≤ IntKind.max .i64 :=
 (h.one (by simp [isAggT, hu])).int_inv hu
theorem WTv.str {t : TypeId} {x : V} (hu : P.underlying t = some .string) (h : WTv P t x) : ∃ s, x = .str s ∧ s.length ≤ maxLen :=
 (h.one (by simp [isAggT, hu])).str_inv hu
end
end Go.AM

/-
 AM: unsigned words of 64 bits as sets of bits.
-/
namespace Go.AM
theorem wrap_u64 (n : Int) : IntKind.u64.wrap n = n % 18446744073709551616 := by simp [IntKind.wrap, IntKind.bits, IntKind.signed]
theorem wrapu64 {A : Nat} (h : A < 2 ^ 64) : IntKind.wrap .u64 (A : Int) = A := by
 rw [wrap_u64]; omega
theorem bv_toNat {n A : Nat} (h : A < 2 ^ n) : (BitVec.ofInt n (A : Int)).toNat = A := by
 rw [BitVec.ofInt_natCast, BitVec.toNat_ofNat]; exact Nat.mod_eq_of_lt h
theorem bv_or {n A B : Nat} (hA : A < 2 ^ n) (hB : B < 2 ^ n) : (BitVec.ofInt n (A : Int) ||| BitVec.ofInt n (B : Int)).toNat = A ||| B := by
 rw [BitVec.toNat_or, bv_toNat hA, bv_toNat hB]
theorem bv_and {n A B : Nat} (hA : A < 2 ^ n) (hB : B < 2 ^ n) : (BitVec.ofInt n (A : Int) &&& BitVec.ofInt n (B : Int)).toNat = A &&& B := by
 rw [BitVec.toNat_and, bv_toNat hA, bv_toNat hB]
theorem bv_andNot {n A B : Nat} (hA : A < 2 ^ n) (i : Nat) : (BitVec.ofInt n (A : Int) &&& ~~~ BitVec.ofInt n (B : Int)).toNat.testBit i = (A.testBit i && !(B.testBit i)) := by
 rw [BitVec.testBit_toNat, BitVec.ofInt_natCast, BitVec.ofInt_natCast]
 by_cases hi : i < n
 · simp only [BitVec.getLsbD_and, BitVec.getLsbD_not, BitVec.getLsbD_ofNat, hi, decide_true, Bool.true_and]
 · have hf : A.testBit i = false := Nat.testBit_lt_two_pow (Nat.lt_of_lt_of_le hA (Nat.pow_le_pow_right (by omega) (by omega)))
   rw [hf, Bool.false_and, BitVec.getLsbD_of_ge _ _ (by omega)]
theorem u64_or {A B : Nat} (hA : A < 2 ^ 64) (hB : B < 2 ^ 64) : IntKind.wrap .u64 ((BitVec.ofInt (IntKind.bits .u64) (A : Int) ||| BitVec.ofInt (IntKind.bits .u64) (B : Int)).toNat) = ((A ||| B : Nat) : Int) := by
 rw [bv_or (n := IntKind.bits .u64) hA hB]
 exact wrapu64 (Nat.or_lt_two_pow hA hB)
theorem u64_and {A B : Nat} (hA : A < 2 ^ 64) (hB : B < 2 ^ 64) : IntKind.wrap .u64 ((BitVec.ofInt (IntKind.bits .u64) (A : Int) &&& BitVec.ofInt (IntKind.bits .u64) (B : Int)).toNat) = ((A &&& B : Nat) : Int) := by
 rw [bv_and (n := IntKind.bits .u64) hA hB]
 exact wrapu64 (Nat.lt_of_le_of_lt Nat.and_le_left hA)
theorem u64_andNot {A : Nat} (B : Nat) (hA : A < 2 ^ 64) : ∃ D : Nat, D < 2 ^ 64 ∧ (∀ i, D.testBit i = (A.testBit i && !(B.testBit i))) ∧
 IntKind.wrap .u64 ((BitVec.ofInt (IntKind.bits .u64) (A : Int) &&& ~~~ BitVec.ofInt (IntKind.bits .u64) (B : Int)).toNat) = (D : Int) :=
 ⟨(BitVec.ofInt (IntKind.bits .u64) (A : Int) &&& ~~~ BitVec.ofInt (IntKind.bits .u64) (B : Int)).toNat, BitVec.isLt _, fun i => bv_andNot hA i, wrapu64 (BitVec.isLt _)⟩
theorem u64_bit {m : Nat} (h : m < 64) : IntKind.wrap .u64 (1 * 2 ^ (min m (IntKind.bits .u64))) = ((2 ^ m : Nat) : Int) := by
 have e : min m (IntKind.bits .u64) = m := Nat.min_eq_left (by show m ≤ 64; omega)
 rw [e]
 have : (1 * 2 ^ m : Int) = ((2 ^ m : Nat) : Int) := by simp
 rw [this]
 exact wrapu64 (Nat.pow_lt_pow_right (by omega) h)
theorem u64_shr {A m : Nat} (h : m < 64) : Int.fdiv (A : Int) (2 ^ (min m (IntKind.bits .u64))) = ((A / 2 ^ m : Nat) : Int) := by
 have e : min m (IntKind.bits .u64) = m := Nat.min_eq_left (by show m ≤ 64; omega)
 rw [e]
 have : (2 ^ m : Int) = ((2 ^ m : Nat) : Int) := by simp
 rw [this, Int.fdiv_eq_ediv_of_nonneg _ (Int.natCast_nonneg _)]
 exact Int.natCast_ediv ..
/-- The bit of a shifted word. -/
theorem u64_has {A m : Nat} (hA : A < 2 ^ 64) (h : m < 64) :
 (IntKind.wrap .u64 ((BitVec.ofInt (IntKind.bits .u64) (Int.fdiv (A : Int) (2 ^ (min m (IntKind.bits .u64)))) &&& BitVec.ofInt (IntKind.bits .u64) 1).toNat) == 1) = A.testBit m := by
 rw [u64_shr h]
 have := u64_and (A := A / 2 ^ m) (B := 1) (Nat.lt_of_le_of_lt (Nat.div_le_self _ _) hA) (by omega)
 rw [show ((1 : Nat) : Int) = 1 from rfl] at this
 rw [this]
 rw [Nat.and_one_is_mod, Nat.testBit_eq_decide_div_mod_eq]
 by_cases hb : A / 2 ^ m % 2 = 1
 · simp [hb]
 · have : A / 2 ^ m % 2 = 0 := by omega
   simp [this]
end Go.AM

set_option maxRecDepth 100000
namespace Go.AM
open Go.Proofs
abbrev F_gosem_cut_init : FuncId := 2
abbrev F_semigrouplaw31_StarfreeBoolean : FuncId := 3
abbrev F_semigrouplaw31_StarfreeCuts : FuncId := 4
abbrev F_semigrouplaw31_StarfreeRaw : FuncId := 5
abbrev F_semigrouplaw31_StarfreeMade : FuncId := 6
abbrev F_semigroupmade_New : FuncId := 7
abbrev F_semigroupmade_Tape_Next : FuncId := 8
abbrev F_semigroupmade_Tape_Graph : FuncId := 9
abbrev F_semigroupmade_Tape_Word : FuncId := 10
abbrev F_semigrouplaw31_at : FuncId := 11
abbrev F_semigrouplaw31_known : FuncId := 12
abbrev F_semigroupmade_Mod : FuncId := 13
abbrev F_starfree_Cut : FuncId := 14
abbrev F_semigroupref31_Same : FuncId := 15
abbrev F_starfree_Accepts : FuncId := 16
abbrev F_starfree_Depth : FuncId := 17
abbrev F_semigrouplaw31_all : FuncId := 18
abbrev F_semigrouplaw31_example : FuncId := 19
abbrev F_starfree_Validate : FuncId := 20
abbrev F_starfree_reached : FuncId := 21
abbrev F_starfree_parts : FuncId := 22
abbrev F_word_Valid : FuncId := 23
abbrev F_starfree_evaluate : FuncId := 24
abbrev F_starfree_cuts_has : FuncId := 25
abbrev F_semigroupref31_Cut : FuncId := 26
abbrev F_starfree_ToExpr : FuncId := 27
abbrev F_semigroupref31_ToExpr : FuncId := 28
abbrev F_semigroupref31_Validate : FuncId := 29
abbrev F_semigroupref31_Accepts : FuncId := 30
abbrev F_semigroupref31_Depth : FuncId := 31
abbrev F_semigroupref04_Compare : FuncId := 32
abbrev F_starfree_validNode : FuncId := 33
abbrev F_starfree_cuts_with : FuncId := 34
abbrev F_starfree_between : FuncId := 35
abbrev F_starfree_cuts_union : FuncId := 36
abbrev F_starfree_cuts_meet : FuncId := 37
abbrev F_starfree_cuts_without : FuncId := 38
abbrev F_starfree_measure : FuncId := 39
abbrev F_starfree_expression : FuncId := 40
abbrev F_semigroupref31_Measure : FuncId := 41
abbrev F_semigroupref31_expression : FuncId := 42
abbrev F_semigroupref01_MayLetters : FuncId := 43
abbrev F_semigroupref01_Valid : FuncId := 44
abbrev F_semigroupref31_Holds : FuncId := 45
abbrev F_semigroupref04_sign : FuncId := 46
abbrev F_starfree_validPart : FuncId := 47
abbrev F_starfree_operation : FuncId := 48
abbrev T_int64 : TypeId := 2
abbrev T_int : TypeId := 3
abbrev T_bool : TypeId := 4
abbrev T_uint8 : TypeId := 5
abbrev T_abi_BoundsErrorCode : TypeId := 6
abbrev T_runtime_boundsError : TypeId := 8
abbrev T_string : TypeId := 9
abbrev T_runtime_errorString : TypeId := 10
abbrev T_runtime_plainError : TypeId := 11
abbrev T_uintptr : TypeId := 12
abbrev T_runtime_errorAddressString : TypeId := 14
abbrev T_maps_unhashableTypeError : TypeId := 19
abbrev T_int32 : TypeId := 21
abbrev T_l_int : TypeId := 22
abbrev T_l_api_SfNode : TypeId := 26
abbrev T_api_SfGraph : TypeId := 28
abbrev T_api_SfNode : TypeId := 31
abbrev T_api_Errno : TypeId := 37
abbrev T_semigroupmade_Tape : TypeId := 47
abbrev T_l_uint8 : TypeId := 48
abbrev T_l_bool : TypeId := 51
abbrev T_l_starfree_table : TypeId := 54
abbrev T_l_starfree_cuts : TypeId := 55
abbrev T_starfree_table : TypeId := 56
abbrev T_uint64 : TypeId := 58
abbrev T__2_uint64 : TypeId := 59
abbrev T_starfree_cuts : TypeId := 60
abbrev T_l_api_Expr : TypeId := 62
abbrev T_api_Expr : TypeId := 64
abbrev T_l_l_l_bool : TypeId := 79
abbrev T_l_l_bool : TypeId := 80
abbrev T_runtime_TypeAssertionError : TypeId := 83
abbrev T__0_p_runtime_PanicNilError : TypeId := 84
abbrev T_runtime_PanicNilError : TypeId := 86
abbrev T_uint32 : TypeId := 88
abbrev T_abi_TFlag : TypeId := 89
abbrev T_abi_Kind : TypeId := 90
abbrev T_abi_NameOff : TypeId := 93
abbrev T_abi_TypeOff : TypeId := 94
abbrev T_abi_Type : TypeId := 96
def annLive : List (Nat × List (Nat × List Nat)) := [(2, [(0, [])]),
 (3, [(0, [0, 1, 2]), (1, [1, 2, 7]), (2, [1, 2, 7, 8]), (3, [1, 2, 7, 8, 9]), (4, [1, 2, 7, 8, 9, 10]), (5, [1, 2, 8, 9, 10, 11, 12]), (6, [1, 2, 8, 9, 10, 11, 12]), (7, [9, 10, 11, 12, 13, 14]), (8, [9, 10, 12, 13, 14, 15, 16]), (9, [6])]),
 (4, [(0, [0, 1, 2]), (1, [1, 2, 7]), (2, [1, 2, 7, 8]), (3, [1, 2, 8, 9]), (4, [2, 8, 9]), (5, [9, 10]), (6, [9, 10, 11, 12]), (7, [9, 10, 11, 12, 13, 14]), (8, [6])]),
 (5, [(0, [1, 2, 3]), (1, [1, 2, 3, 15]), (2, [6]), (3, [6])]),
 (6, [(0, [0, 1, 2, 3]), (1, [1, 2, 3, 9]), (2, [1, 2, 3, 9, 10]), (3, [1, 2, 3, 9, 10, 11]), (4, [1, 2, 3, 10, 11, 12]), (5, [1, 2, 3, 10, 11, 12, 29]), (6, [8]), (7, [1, 3, 10, 11, 12, 13]), (8, [1, 3, 10, 11, 12, 13]), (9, [3, 10, 11, 12, 13, 42]), (10, [3, 10, 11, 12, 13, 42, 43]), (11, [10, 11, 12]), (12, [3, 10, 11, 12, 13, 42, 49]), (13, [10, 11, 12]), (14, [3, 10, 11, 12, 13, 42, 55]), (15, [10, 11, 12]), (16, [3, 10, 11, 12, 13, 42, 61]), (17, [10, 11, 12]), (18, [3, 10, 11, 12, 67]), (19, [10, 11, 12]), (20, [8])]),
 (7, [(0, [0]), (1, [0, 5]), (2, [0]), (3, [2])]),
 (8, [(0, [0, 1]), (1, [0, 1, 14]), (2, [4]), (3, [0, 1]), (4, [4])]),
 (9, [(0, [0, 1, 2, 6]), (1, [0, 1, 2, 6, 7]), (2, [0, 1, 6, 7, 8]), (3, [0, 1, 6, 7, 8, 9]), (4, [0, 1, 6, 7, 8, 9, 17]), (5, [0, 1, 6, 7, 8, 9]), (6, [0, 1, 6, 7, 8, 9, 10]), (7, [0, 1, 6, 7, 8, 9, 10, 25]), (8, [0, 1, 6, 7, 8, 9, 10]), (9, [0, 1, 6, 7, 8, 9, 10, 33]), (10, [0, 1, 6, 7, 8, 9, 10]), (11, [0, 1, 6, 7, 8, 9, 10, 40]), (12, [0, 1, 6, 7, 8, 9, 10]), (13, [0, 1, 6, 7, 8, 9, 10, 52]), (14, [0, 1, 6, 7, 8, 9, 10]), (15, [0, 1, 6, 7, 8, 9]), (16, [6, 7]), (17, [6])]),
 (10, [(0, [0, 1, 2]), (1, [0, 1, 2, 7]), (2, [0, 1, 7, 8]), (3, [0, 1, 7, 8, 14]), (4, [0, 1, 7, 8]), (5, [0, 1, 7, 8]), (6, [6])]),
 (11, [(0, [1, 2, 3]), (1, [2, 3]), (2, [6])]),
 (12, [(0, []), (1, [1]), (2, [0])]),
 (13, [(0, [0, 1]), (1, [0, 1, 6]), (2, [4]), (3, [0, 1]), (4, [0, 1, 11]), (5, [0]), (6, [4])]),
 (14, [(0, [1, 2]), (1, [1, 2, 4]), (2, [1, 2, 4, 13]), (3, [2, 3]), (4, [1, 2, 5]), (5, [1, 2, 5, 6]), (6, [1, 2, 5, 6, 21, 22, 23]), (7, [1, 2, 5, 6, 21, 22, 23, 24]), (8, [1, 2, 5, 6, 7, 8, 21, 22, 23]), (9, [1, 2, 5, 6, 7, 21, 22, 23, 29]), (10, [1, 2, 5, 6, 7, 9, 21, 22, 23]), (11, [1, 2, 5, 6, 7, 9, 21, 22, 23, 38]), (12, [1, 2, 5, 6, 7, 9, 21, 22, 23]), (13, [1, 2, 5, 6, 7, 9, 21, 22, 23, 48]), (14, [1, 2, 5, 6, 7, 9, 21, 22, 23]), (15, [1, 2, 5, 6, 9, 21, 22, 23]), (16, [1, 2, 5, 6, 21, 22, 23]), (17, [1, 2, 5, 6, 21, 22, 23]), (18, [2, 5]), (19, [2, 3])]),
 (15, [(0, [2, 3]), (1, [2, 3, 19]), (2, [4]), (3, [2, 3, 22, 23]), (4, [2, 3, 22, 23, 24]), (5, [2, 3, 5, 22, 23]), (6, [2, 3, 22, 23, 36]), (7, [4]), (8, [2, 3, 22, 23]), (9, [4])]),
 (16, [(0, [1, 2]), (1, [1, 2, 20]), (2, [4]), (3, [1, 2, 5]), (4, [1, 2, 5, 26, 27, 28]), (5, [1, 2, 5, 26, 27, 28, 29]), (6, [1, 2, 5, 6, 7, 26, 27, 28]), (7, [1, 2, 5, 6, 26, 27, 28, 33]), (8, [1, 2, 5, 26, 27, 28]), (9, [1, 2, 5, 26, 27, 28]), (10, [4])]),
 (17, [(0, [1]), (1, [1, 8]), (2, [2]), (3, [1, 3]), (4, [1, 3, 18, 19, 20]), (5, [1, 3, 18, 19, 20, 21]), (6, [1, 3, 4, 5, 18, 19, 20]), (7, [1, 3, 4, 5, 18, 19, 20, 28]), (8, [1, 3, 4, 5, 18, 19, 20]), (9, [1, 3, 4, 5, 18, 19, 20, 40]), (10, [1, 3, 4, 5, 18, 19, 20]), (11, [1, 3, 4, 18, 19, 20, 56]), (12, [1, 3, 18, 19, 20]), (13, [1, 3, 18, 19, 20]), (14, [2])]),
 (18, [(0, [1, 2, 3]), (1, [1, 2, 3, 7, 8]), (2, [1, 2, 3, 7, 8, 9, 10]), (3, [1, 2, 3, 7, 8, 9, 10, 11, 12]), (4, [1, 2, 3, 7, 8, 9, 10, 11, 12, 13, 14]), (5, [6])]),
 (19, [(0, [0]), (1, [0])]),
 (20, [(0, [1, 2]), (1, [1, 2, 12]), (2, [4]), (3, [1, 2, 16]), (4, [4]), (5, [1, 2, 18, 19, 20]), (6, [1, 2, 18, 19, 20, 21]), (7, [1, 2, 5, 6, 18, 19, 20]), (8, [1, 2, 18, 19, 20, 29]), (9, [4]), (10, [1, 2, 18, 19, 20]), (11, [41]), (12, [4]), (13, [4])]),
 (21, [(0, [1]), (1, [1, 3]), (2, [1, 3]), (3, [1, 3, 4]), (4, [1, 3, 4, 17]), (5, [1, 3, 4]), (6, [1, 3, 4, 24]), (7, [1, 3, 4, 5]), (8, [1, 3, 4, 5, 33]), (9, [1, 3, 4, 5]), (10, [1, 3, 4, 5, 41]), (11, [1, 3, 4]), (12, [2])]),
 (22, [(0, [0]), (1, [3]), (2, [3, 4]), (3, [3, 4]), (4, [3, 4]), (5, [2]), (6, [8]), (7, [2]), (8, [2])]),
 (23, [(0, [0, 1]), (1, [0, 1, 16]), (2, [4]), (3, [0, 1, 18, 19]), (4, [0, 1, 18, 19, 20]), (5, [0, 1, 5, 18, 19]), (6, [0, 1, 18, 19, 34]), (7, [4]), (8, [0, 1, 18, 19]), (9, [4])]),
 (24, [(0, [1, 2, 3]), (1, [1, 2, 3, 7]), (2, [1, 2, 3, 7, 15, 16]), (3, [1, 2, 3, 7, 15, 16, 17]), (4, [1, 2, 3, 7, 8, 15, 16]), (5, [1, 2, 3, 7, 8, 15, 16, 20]), (6, [1, 2, 3, 7, 8, 15, 16, 20, 21]), (7, [1, 2, 3, 7, 15, 16]), (8, [1, 2, 3, 7, 8, 15, 16, 20, 32]), (9, [1, 2, 3, 7, 8, 15, 16, 47]), (10, [1, 2, 3, 7, 15, 16]), (11, [1, 2, 3, 7, 8, 15, 16, 20, 58]), (12, [1, 2, 3, 7, 15, 16]), (13, [1, 2, 3, 7, 8, 15, 16, 20, 67]), (14, [1, 2, 3, 7, 15, 16]), (15, [1, 2, 3, 7, 8, 15, 16, 20, 89]), (16, [1, 2, 3, 7, 15, 16]), (17, [1, 2, 3, 7, 8, 15, 16, 20, 111]), (18, [1, 2, 3, 7, 8, 9, 15, 16]), (19, [1, 2, 3, 7, 8, 9, 15, 16, 117]), (20, [1, 2, 3, 7, 8, 9, 15, 16]), (21, [1, 2, 3, 7, 8, 9, 15, 16, 129]), (22, [1, 2, 3, 7, 8, 9, 15, 16]), (23, [1, 2, 3, 7, 8, 15, 16, 146]), (24, [1, 2, 3, 7, 15, 16]), (25, [1, 2, 3, 7, 15, 16]), (26, [6])]),
 (25, [(0, [1, 2]), (1, [4])]),
 (26, [(0, [1, 2]), (1, [1, 2, 4]), (2, [1, 2, 4, 15]), (3, [2, 3]), (4, [1, 2, 5]), (5, [1, 2, 5]), (6, [1, 2, 5, 6]), (7, [1, 2, 5, 6, 29]), (8, [1, 2, 5, 6]), (9, [1, 2, 5, 6, 7]), (10, [1, 2, 5, 6, 7, 45]), (11, [1, 2, 5, 6, 7]), (12, [1, 2, 5, 6, 7, 52]), (13, [1, 2, 5, 6]), (14, [1, 2, 5, 8]), (15, [1, 2, 5, 8, 9]), (16, [2, 5, 8, 9, 62, 63, 64]), (17, [2, 5, 8, 9, 62, 63, 64, 65]), (18, [2, 5, 8, 9, 10, 11, 62, 63, 64]), (19, [2, 5, 8, 9, 10, 11, 62, 63, 64, 73]), (20, [2, 5, 8, 9, 10, 11, 62, 63, 64, 76]), (21, [2, 5, 8, 9, 10, 11, 62, 63, 64]), (22, [2, 5, 8, 9, 10, 11, 62, 63, 64, 85]), (23, [2, 5, 8, 9, 10, 11, 62, 63, 64]), (24, [2, 5, 8, 9, 11, 62, 63, 64]), (25, [2, 5, 8, 9, 62, 63, 64]), (26, [2, 5, 8, 9, 62, 63, 64]), (27, [2, 8]), (28, [2, 3])]),
 (27, [(0, [1, 2, 4]), (1, [2, 4, 6]), (2, [2, 4, 6, 13]), (3, [4, 5]), (4, [2, 4, 7, 8]), (5, [2, 4, 26]), (6, [4, 5]), (7, [4, 5])]),
 (28, [(0, [1, 2, 4]), (1, [2, 4, 6]), (2, [2, 4, 6, 13]), (3, [4, 5]), (4, [2, 4, 7, 8]), (5, [2, 4, 26]), (6, [4, 5]), (7, [4, 5])]),
 (29, [(0, [1, 2]), (1, [1, 2, 11]), (2, [4]), (3, [1, 2, 15]), (4, [4]), (5, [1, 2, 17, 18, 19]), (6, [1, 2, 17, 18, 19, 20]), (7, [1, 2, 5, 6, 17, 18, 19]), (8, [1, 2, 5, 6, 7, 8, 17, 18, 19]), (9, [1, 2, 5, 6, 7, 8, 17, 18, 19, 55]), (10, [4]), (11, [1, 2, 5, 6, 7, 8, 17, 18, 19, 64]), (12, [4]), (13, [1, 2, 17, 18, 19, 89]), (14, [4]), (15, [1, 2, 17, 18, 19]), (16, [145]), (17, [4]), (18, [4])]),
 (30, [(0, [1, 2]), (1, [4])]),
 (31, [(0, [1]), (1, [1, 8]), (2, [2]), (3, [1, 3]), (4, [1, 3, 14, 15, 16]), (5, [1, 3, 14, 15, 16, 17]), (6, [1, 3, 4, 5, 14, 15, 16]), (7, [1, 3, 4, 5, 14, 15, 16, 23]), (8, [1, 3, 4, 5, 14, 15, 16]), (9, [1, 3, 4, 5, 14, 15, 16, 39]), (10, [1, 3, 4, 5, 14, 15, 16]), (11, [1, 3, 4, 14, 15, 16, 55]), (12, [1, 3, 14, 15, 16]), (13, [1, 3, 14, 15, 16]), (14, [2])]),
 (32, [(0, [2, 3]), (1, [2, 3, 7]), (2, [4]), (3, [2, 3, 19]), (4, [4]), (5, [2, 3, 5]), (6, [2, 3, 5, 42]), (7, [2, 3, 5]), (8, [2, 3, 5, 6]), (9, [2, 3, 5, 6, 57]), (10, [4]), (11, [2, 3, 65]), (12, [4]), (13, [4])]),
 (33, [(0, [1, 2, 3]), (1, [1, 2, 3, 14]), (2, [6]), (3, [1, 2, 3, 17]), (4, [1, 3, 26]), (5, [6]), (6, [1, 3, 29]), (7, [6]), (8, [6])]),
 (34, [(0, [1, 2, 4]), (1, [2, 4]), (2, [4])]),
 (35, [(0, [0, 1, 4]), (1, [0, 1, 4, 5]), (2, [1, 4, 5, 6]), (3, [1, 4, 5, 6, 10]), (4, [1, 4, 5, 6]), (5, [1, 4, 5, 6]), (6, [4])]),
 (36, [(0, [2, 3, 4]), (1, [4])]),
 (37, [(0, [2, 3, 4]), (1, [4])]),
 (38, [(0, [2, 3, 4]), (1, [4])]),
 (39, [(0, [1]), (1, [1, 4]), (2, [1, 4, 5]), (3, [1, 4, 5, 21, 22, 23]), (4, [1, 4, 5, 21, 22, 23, 24]), (5, [1, 4, 5, 6, 7, 21, 22, 23]), (6, [1, 4, 5, 6, 7, 21, 22, 23]), (7, [1, 4, 5, 6, 7, 21, 22, 23, 36]), (8, [1, 4, 5, 6, 7, 21, 22, 23]), (9, [1, 4, 5, 6, 7, 21, 22, 23, 46]), (10, [1, 4, 5, 6, 7, 21, 22, 23]), (11, [1, 4, 5, 6, 7, 21, 22, 23]), (12, [1, 4, 5, 6, 7, 21, 22, 23, 70]), (13, [1, 4, 5, 6, 7, 21, 22, 23]), (14, [1, 4, 5, 6, 21, 22, 23]), (15, [1, 4, 5, 21, 22, 23]), (16, [1, 4, 5, 21, 22, 23]), (17, [2, 3])]),
 (40, [(0, [0, 1, 4]), (1, [0, 4, 5]), (2, [0, 4, 5, 6]), (3, [0, 4, 5, 6, 19]), (4, [0, 4, 5, 6]), (5, [0, 4, 5, 6, 26]), (6, [0, 4, 5, 6]), (7, [0, 4, 5, 6, 39]), (8, [4, 6]), (9, [4])]),
 (41, [(0, [1]), (1, [1, 4, 5]), (2, [1, 4, 5, 17, 18, 19]), (3, [1, 4, 5, 17, 18, 19, 20]), (4, [1, 4, 5, 6, 7, 17, 18, 19]), (5, [1, 4, 5, 6, 7, 17, 18, 19]), (6, [1, 4, 5, 6, 7, 17, 18, 19, 32]), (7, [1, 4, 5, 6, 7, 17, 18, 19]), (8, [1, 4, 5, 6, 7, 17, 18, 19, 41]), (9, [1, 4, 5, 6, 7, 17, 18, 19]), (10, [1, 4, 5, 6, 7, 17, 18, 19, 67]), (11, [1, 4, 5, 6, 17, 18, 19]), (12, [1, 4, 5, 17, 18, 19]), (13, [1, 4, 5, 17, 18, 19]), (14, [2, 3])]),
 (42, [(0, [1, 2, 4]), (1, [2, 4, 5]), (2, [2, 4, 5, 13]), (3, [2, 4, 5, 13, 14]), (4, [4]), (5, [2, 4, 5, 13, 17]), (6, [4]), (7, [2, 4, 5, 13, 20]), (8, [4]), (9, [2, 4, 5, 13, 25]), (10, [4]), (11, [2, 4, 5, 30]), (12, [4]), (13, [2, 4, 5, 6]), (14, [2, 4, 5, 6, 40]), (15, [2, 4, 5, 6]), (16, [2, 4, 5, 6, 43]), (17, [2, 4, 5, 6]), (18, [4])]),
 (43, [(0, [0]), (1, [2])]),
 (44, [(0, [0, 1]), (1, [0, 1, 13]), (2, [4]), (3, [0, 1, 5]), (4, [0, 1, 5, 17]), (5, [0, 1, 5]), (6, [0, 1, 5, 32]), (7, [4]), (8, [4])]),
 (45, [(0, [1, 2]), (1, [1, 2, 5]), (2, [1, 2, 5, 6]), (3, [1, 2, 5, 6, 22, 23, 24]), (4, [1, 2, 5, 6, 22, 23, 24, 25]), (5, [1, 2, 5, 6, 7, 8, 22, 23, 24]), (6, [1, 2, 5, 6, 7, 8, 22, 23, 24]), (7, [1, 2, 5, 6, 7, 8, 22, 23, 24, 39, 40]), (8, [1, 2, 5, 6, 7, 8, 22, 23, 24, 39, 40, 41]), (9, [1, 2, 5, 6, 7, 8, 9, 22, 23, 24, 39, 40]), (10, [1, 2, 5, 6, 7, 8, 9, 22, 23, 24, 39, 40]), (11, [1, 2, 5, 6, 7, 8, 9, 10, 22, 23, 24, 39, 40]), (12, [1, 2, 5, 6, 7, 8, 9, 10, 22, 23, 24, 39, 40, 55]), (13, [1, 2, 5, 6, 7, 8, 9, 10, 22, 23, 24, 39, 40]), (14, [1, 2, 5, 6, 7, 8, 9, 10, 11, 22, 23, 24, 39, 40]), (15, [1, 2, 5, 6, 7, 8, 9, 10, 11, 22, 23, 24, 39, 40, 59]), (16, [1, 2, 5, 6, 7, 8, 9, 10, 11, 22, 23, 24, 39, 40, 59, 60]), (17, [1, 2, 5, 6, 7, 8, 9, 10, 11, 22, 23, 24, 39, 40]), (18, [1, 2, 5, 6, 7, 8, 9, 10, 11, 22, 23, 24, 39, 40, 59, 65]), (19, [1, 2, 5, 6, 7, 8, 9, 10, 11, 22, 23, 24, 39, 40]), (20, [1, 2, 5, 6, 7, 8, 9, 10, 11, 22, 23, 24, 39, 40, 59, 81]), (21, [1, 2, 5, 6, 7, 8, 9, 10, 11, 22, 23, 24, 39, 40]), (22, [1, 2, 5, 6, 7, 8, 9, 10, 11, 22, 23, 24, 39, 40, 59, 83]), (23, [1, 2, 5, 6, 7, 8, 9, 10, 11, 22, 23, 24, 39, 40]), (24, [1, 2, 5, 6, 7, 8, 9, 10, 11, 22, 23, 24, 39, 40, 59, 109]), (25, [1, 2, 5, 6, 7, 8, 9, 10, 11, 22, 23, 24, 39, 40]), (26, [1, 2, 5, 6, 7, 8, 9, 10, 11, 22, 23, 24, 39, 40, 59, 135]), (27, [1, 2, 5, 6, 7, 8, 9, 10, 11, 12, 22, 23, 24, 39, 40]), (28, [1, 2, 5, 6, 7, 8, 9, 10, 11, 12, 22, 23, 24, 39, 40, 144]), (29, [1, 2, 5, 6, 7, 8, 9, 10, 11, 12, 22, 23, 24, 39, 40]), (30, [1, 2, 5, 6, 7, 8, 9, 10, 11, 12, 22, 23, 24, 39, 40]), (31, [1, 2, 5, 6, 7, 8, 9, 10, 11, 22, 23, 24, 39, 40, 171]), (32, [1, 2, 5, 6, 7, 8, 9, 10, 11, 22, 23, 24, 39, 40]), (33, [1, 2, 5, 6, 7, 8, 9, 10, 22, 23, 24, 39, 40]), (34, [1, 2, 5, 6, 7, 8, 22, 23, 24, 39, 40]), (35, [1, 2, 5, 6, 22, 23, 24]), (36, [5, 6, 13]), (37, [5, 6, 13, 202, 203]), (38, [5, 6, 13, 202, 203, 204]), (39, [5, 6, 13, 14, 202, 203]), (40, [5, 6, 13, 202, 203]), (41, [5, 6, 13, 202, 203]), (42, [4])]),
 (46, [(0, [0]), (1, [3]), (2, [2]), (3, [2])]),
 (47, [(0, [0, 1, 2]), (1, [0, 1, 7]), (2, [6]), (3, [6])]),
 (48, [(0, [0]), (1, [3]), (2, [3, 4]), (3, [2]), (4, [3, 6]), (5, [2]), (6, [3, 8]), (7, [2]), (8, [3, 10]), (9, [2]), (10, [3, 12]), (11, [2]), (12, [14]), (13, [2]), (14, [2])])]
def annJoin : List (Nat × List (Nat × List Nat)) := [(2, []),
 (3, []),
 (4, []),
 (5, [(15, [1, 2, 3])]),
 (6, [(29, [1, 2, 3, 10, 11, 12]), (43, [10, 11, 12]), (49, [10, 11, 12]), (55, [10, 11, 12]), (61, [10, 11, 12]), (67, [10, 11, 12])]),
 (7, [(5, [0])]),
 (8, [(14, [0, 1])]),
 (9, [(17, [0, 1, 6, 7, 8, 9]), (25, [0, 1, 6, 7, 8, 9, 10]), (33, [0, 1, 6, 7, 8, 9, 10]), (40, [0, 1, 6, 7, 8, 9, 10]), (52, [0, 1, 6, 7, 8, 9, 10])]),
 (10, [(14, [0, 1, 7, 8])]),
 (11, []),
 (12, []),
 (13, [(6, [0, 1]), (11, [0])]),
 (14, [(13, [1, 2]), (24, [1, 2, 5, 6, 21, 22, 23]), (29, [1, 2, 5, 6, 7, 21, 22, 23]), (38, [1, 2, 5, 6, 7, 9, 21, 22, 23]), (48, [1, 2, 5, 6, 7, 9, 21, 22, 23])]),
 (15, [(19, [2, 3]), (24, [2, 3, 22, 23]), (36, [2, 3, 22, 23])]),
 (16, [(20, [1, 2]), (29, [1, 2, 5, 26, 27, 28]), (33, [1, 2, 5, 26, 27, 28])]),
 (17, [(8, [1]), (21, [1, 3, 18, 19, 20]), (28, [1, 3, 4, 5, 18, 19, 20]), (40, [1, 3, 4, 5, 18, 19, 20]), (56, [1, 3, 18, 19, 20])]),
 (18, []),
 (19, []),
 (20, [(12, [1, 2]), (16, [1, 2]), (21, [1, 2, 18, 19, 20]), (29, [1, 2, 18, 19, 20]), (41, [])]),
 (21, [(17, [1, 3, 4]), (24, [1, 3, 4]), (33, [1, 3, 4, 5]), (41, [1, 3, 4])]),
 (22, [(4, [3, 4]), (8, [])]),
 (23, [(16, [0, 1]), (20, [0, 1, 18, 19]), (34, [0, 1, 18, 19])]),
 (24, [(17, [1, 2, 3, 7, 15, 16]), (21, [1, 2, 3, 7, 15, 16]), (32, [1, 2, 3, 7, 15, 16]), (47, [1, 2, 3, 7, 15, 16]), (58, [1, 2, 3, 7, 15, 16]), (67, [1, 2, 3, 7, 15, 16]), (89, [1, 2, 3, 7, 15, 16]), (111, [1, 2, 3, 7, 15, 16]), (117, [1, 2, 3, 7, 8, 9, 15, 16]), (129, [1, 2, 3, 7, 8, 9, 15, 16]), (146, [1, 2, 3, 7, 15, 16])]),
 (25, []),
 (26, [(15, [1, 2]), (29, [1, 2, 5, 6]), (45, [1, 2, 5, 6]), (52, [1, 2, 5, 6]), (65, [2, 5, 8, 9, 62, 63, 64]), (73, [2, 5, 8, 9, 10, 11, 62, 63, 64]), (76, [2, 5, 8, 9, 10, 11, 62, 63, 64]), (85, [2, 5, 8, 9, 10, 11, 62, 63, 64])]),
 (27, [(13, [2, 4]), (26, [2, 4])]),
 (28, [(13, [2, 4]), (26, [2, 4])]),
 (29, [(11, [1, 2]), (15, [1, 2]), (20, [1, 2, 17, 18, 19]), (55, [1, 2, 17, 18, 19]), (64, [1, 2, 17, 18, 19]), (89, [1, 2, 17, 18, 19]), (145, [])]),
 (30, []),
 (31, [(8, [1]), (17, [1, 3, 14, 15, 16]), (23, [1, 3, 4, 5, 14, 15, 16]), (39, [1, 3, 4, 5, 14, 15, 16]), (55, [1, 3, 14, 15, 16])]),
 (32, [(7, [2, 3]), (19, [2, 3]), (42, [2, 3, 5]), (57, [2, 3, 5]), (65, [2, 3])]),
 (33, [(14, [1, 2, 3]), (17, [1, 3]), (26, [1, 3]), (29, [1, 3])]),
 (34, []),
 (35, [(10, [1, 4, 5, 6])]),
 (36, []),
 (37, []),
 (38, []),
 (39, [(24, [1, 4, 5, 21, 22, 23]), (36, [1, 4, 5, 6, 7, 21, 22, 23]), (46, [1, 4, 5, 6, 7, 21, 22, 23]), (70, [1, 4, 5, 6, 21, 22, 23])]),
 (40, [(19, [0, 4, 5, 6]), (26, [0, 4, 5, 6]), (39, [4, 6])]),
 (41, [(20, [1, 4, 5, 17, 18, 19]), (32, [1, 4, 5, 6, 7, 17, 18, 19]), (41, [1, 4, 5, 6, 7, 17, 18, 19]), (67, [1, 4, 5, 6, 17, 18, 19])]),
 (42, [(14, [2, 4, 5]), (17, [2, 4, 5]), (20, [2, 4, 5]), (25, [2, 4, 5]), (30, [2, 4, 5]), (40, [2, 4, 5, 6]), (43, [2, 4, 5, 6])]),
 (43, []),
 (44, [(13, [0, 1]), (17, [0, 1, 5]), (32, [0, 1, 5])]),
 (45, [(25, [1, 2, 5, 6, 22, 23, 24]), (41, [1, 2, 5, 6, 7, 8, 22, 23, 24, 39, 40]), (55, [1, 2, 5, 6, 7, 8, 9, 10, 22, 23, 24, 39, 40]), (60, [1, 2, 5, 6, 7, 8, 9, 10, 11, 22, 23, 24, 39, 40]), (65, [1, 2, 5, 6, 7, 8, 9, 10, 11, 22, 23, 24, 39, 40]), (81, [1, 2, 5, 6, 7, 8, 9, 10, 11, 22, 23, 24, 39, 40]), (83, [1, 2, 5, 6, 7, 8, 9, 10, 11, 22, 23, 24, 39, 40]), (109, [1, 2, 5, 6, 7, 8, 9, 10, 11, 22, 23, 24, 39, 40]), (135, [1, 2, 5, 6, 7, 8, 9, 10, 11, 22, 23, 24, 39, 40]), (144, [1, 2, 5, 6, 7, 8, 9, 10, 12, 22, 23, 24, 39, 40]), (171, [1, 2, 5, 6, 7, 8, 9, 10, 11, 22, 23, 24, 39, 40]), (204, [5, 6, 13, 202, 203])]),
 (46, [(3, [])]),
 (47, [(7, [0])]),
 (48, [(4, []), (6, []), (8, []), (10, []), (12, []), (14, [])])]
def annBlk : List (Nat × List (Nat × List Nat)) := [(2, []),
 (3, []),
 (4, []),
 (5, []),
 (6, [(0, [10, 11, 12])]),
 (7, []),
 (8, []),
 (9, [(0, [6, 7, 8]), (1, [0, 1, 6, 7, 8, 9])]),
 (10, [(0, [7]), (1, [0, 1, 7, 8])]),
 (11, []),
 (12, []),
 (13, []),
 (14, [(0, [2, 5]), (1, [1, 2, 5, 6, 21, 22, 23])]),
 (15, [(0, []), (1, [2, 3, 22, 23])]),
 (16, [(0, [1, 2, 5]), (1, [1, 2, 5, 26, 27, 28])]),
 (17, [(0, [1, 3]), (1, [1, 3, 18, 19, 20])]),
 (18, []),
 (19, []),
 (20, [(0, [2]), (1, [1, 2, 18, 19, 20])]),
 (21, [(0, [3]), (1, [1, 3, 4])]),
 (22, [(0, [])]),
 (23, [(0, []), (1, [0, 1, 18, 19])]),
 (24, [(0, [7]), (1, [1, 2, 3, 7, 15, 16]), (2, [1, 2, 3, 7, 15, 16]), (3, [1, 2, 3, 7, 15, 16]), (4, [1, 2, 3, 7, 8, 9, 15, 16])]),
 (25, []),
 (26, [(0, [1, 2, 5]), (1, [1, 2, 5, 6]), (2, [2, 8]), (3, [2, 5, 8, 9, 62, 63, 64])]),
 (27, []),
 (28, []),
 (29, [(0, [2]), (1, [1, 2, 17, 18, 19]), (2, [1, 2, 17, 18, 19])]),
 (30, []),
 (31, [(0, [1, 3]), (1, [1, 3, 14, 15, 16])]),
 (32, [(0, [2, 3]), (1, [2, 3]), (2, [2, 3, 5])]),
 (33, []),
 (34, []),
 (35, [(0, [4, 5]), (1, [1, 4, 5, 6])]),
 (36, []),
 (37, []),
 (38, []),
 (39, [(0, [1, 4, 5]), (1, [1, 4, 5, 21, 22, 23])]),
 (40, []),
 (41, [(0, [1, 4, 5]), (1, [1, 4, 5, 17, 18, 19])]),
 (42, [(0, [2, 4, 5])]),
 (43, []),
 (44, [(0, []), (1, [0, 1, 5])]),
 (45, [(0, [2, 5, 6]), (1, [1, 2, 5, 6, 22, 23, 24]), (2, [1, 2, 5, 6, 22, 23, 24]), (3, [1, 2, 5, 6, 7, 8, 22, 23, 24, 39, 40]), (4, [1, 2, 5, 6, 7, 8, 22, 23, 24, 39, 40]), (5, [1, 2, 5, 6, 7, 8, 9, 10, 22, 23, 24, 39, 40]), (6, [1, 2, 5, 6, 7, 8, 9, 10, 11, 22, 23, 24, 39, 40]), (7, [1, 2, 5, 6, 7, 8, 9, 10, 11, 22, 23, 24, 39, 40]), (8, [1, 2, 5, 6, 7, 8, 9, 10, 11, 12, 22, 23, 24, 39, 40]), (9, [13]), (10, [5, 6, 13, 202, 203])]),
 (46, []),
 (47, []),
 (48, [(0, [])])]
def annOwn : List (Nat × List Bool) := [(9, [true, false]),
 (14, [true, false, false]),
 (19, [true, false]),
 (21, [true]),
 (24, [true]),
 (26, [true, false, false]),
 (27, [false, false, true, false]),
 (28, [false, false, true, false]),
 (40, [false, false, true]),
 (42, [false, false, true]),
 (45, [true])]
def annRefp : List (Nat × List Bool) := []
def annPur : List (Nat × List (Nat × List Nat)) := []
def annNst : List (Nat × List (Nat × List Nat)) := [(45, [(2, [20]), (6, [33])])]
def ann : Ann := ⟨fun f r => (lookupN ((lookupN annLive f).getD []) r).getD [], fun f r => (lookupN ((lookupN annJoin f).getD []) r).getD [], fun f r => (lookupN ((lookupN annBlk f).getD []) r).getD [], fun f => (lookupN annOwn f).getD [], fun f => (lookupN annRefp f).getD [], fun f r => (lookupN ((lookupN annPur f).getD []) r).getD [], fun f r => (lookupN ((lookupN annNst f).getD []) r).getD [], []⟩
noncomputable abbrev CC : CallF := Call Try.prog ann
end Go.AM

set_option maxRecDepth 100000
namespace Go.AM
open Go.Proofs
/-! semigroup/semigroupmade.Mod -/
noncomputable def s_semigroupmade_Mod_1 (C : CallF) (x n : Int) {β : Type} (k0 : Int → Option β) : Option β :=
 bif decide ((n : Int) < 1) then
  k0 0
 else
  bif !decide (n = 0) then
   bif decide (((Int.tmod x n) : Int) < 0) then
    k0 (IntKind.wrap .i64 ((Int.tmod x n) + n))
   else
    k0 (Int.tmod x n)
  else none
noncomputable abbrev z13_0 (c0 : Int) : St :=
 mk [(4, .int .i64 c0)] []
noncomputable abbrev q13_0 : List Code := codesAt Try.prog 13 [[0], [1, 0, 0], [1, 0, 1], [1, 1, 0], [1, 1, 1, 0, 0], [1, 1, 1, 0, 1], [1, 1, 1, 1, 0], [1, 1, 1, 1, 1]]
noncomputable abbrev z13_1 (c0 c1 : Int) : St :=
 mk [(0, .int .i64 c0), (1, .int .i64 c1)] []
theorem s_semigroupmade_Mod_1_eq (C : CallF) (x n : Int) {β : Type} (K : Out → St → Option β) :
 execL Try.prog ann C 13 16 0 (q13_0) (z13_1 x n) K =
  s_semigroupmade_Mod_1 C x n
   (fun (t40 : Int) => K .ret (z13_0 t40)) := by kernel_rfl
noncomputable def f_semigroupmade_Mod (C : CallF) (x n : Int) : Option (V × List V) :=
 s_semigroupmade_Mod_1 C x n
  (fun (t_1 : Int) =>
   some (.int .i64 t_1, []))
theorem f_semigroupmade_Mod_eq (C : CallF) (x n : Int) : bodyK Try.prog ann C 13 [.int .i64 x, .int .i64 n] [] = f_semigroupmade_Mod C x n :=
 Eq.trans (bodyK_fin (by kernel_rfl)) (Eq.trans (execK_items (by kernel_rfl)) (Eq.trans (s_semigroupmade_Mod_1_eq C x n (finK Try.prog ann C 13 [])) (by kernel_rfl)))
theorem f_semigroupmade_Mod_of {x : Int} {n : Int} {r : V × List V} (h : f_semigroupmade_Mod CC x n = some r) : CC F_semigroupmade_Mod [.int .i64 x, .int .i64 n] [] = some r :=
 Call_of_body ((bodyK_eq ..).trans ((f_semigroupmade_Mod_eq ..).trans h))
end Go.AM

set_option maxRecDepth 100000
namespace Go.AM
open Go.Proofs
/-! semigroup/semigroupmade.New -/
noncomputable def s_semigroupmade_New_1 (C : CallF) (l : List V) {β : Type} (k0 : (List V) → Option β) : Option β :=
 bif decide (((l.length : Int) : Int) > 80) then
  bif decide (80 ≤ (l.length : Int)) then
   k0 ((l.drop 0).take (80 - 0))
  else none
 else
  k0 l
noncomputable abbrev z7_0 (c0 : List V) (c1 : Int) : St :=
 mk [(2, .ptr 0 0 0)] [.var [.list T_int c0, .int .i64 c1]]
noncomputable abbrev q7_0 : List Code := codesAt Try.prog 7 [[0], [1, 0, 0], [1, 0, 1], [1, 1, 0], [1, 1, 1]]
noncomputable abbrev z7_1 (c0 : List V) : St :=
 mk [(0, .list T_int c0)] []
theorem s_semigroupmade_New_1_eq (C : CallF) (l : List V) {β : Type} (K : Out → St → Option β) :
 execL Try.prog ann C 7 11 0 (q7_0) (z7_1 l) K =
  s_semigroupmade_New_1 C l
   (fun (t2s_00 : List V) => K .ret (z7_0 t2s_00 0)) := by kernel_rfl
noncomputable def f_semigroupmade_New (C : CallF) (l : List V) : Option (V × List V) :=
 s_semigroupmade_New_1 C l
  (fun (t2s_1 : List V) =>
   some (.agg [.list T_int t2s_1, .int .i64 0], []))
theorem f_semigroupmade_New_eq (C : CallF) (l : List V) : bodyK Try.prog ann C 7 [.list T_int l] [] = f_semigroupmade_New C l :=
 Eq.trans (bodyK_fin (by kernel_rfl)) (Eq.trans (execK_items (by kernel_rfl)) (Eq.trans (s_semigroupmade_New_1_eq C l (finK Try.prog ann C 7 [])) (by kernel_rfl)))
theorem f_semigroupmade_New_of {l : List V} {r : V × List V} (h : f_semigroupmade_New CC l = some r) : CC F_semigroupmade_New [.list T_int l] [] = some r :=
 Call_of_body ((bodyK_eq ..).trans ((f_semigroupmade_New_eq ..).trans h))
end Go.AM

set_option maxRecDepth 100000
namespace Go.AM
open Go.Proofs
/-! (*semigroup/semigroupmade.Tape).Next -/
noncomputable def s_semigroupmade_Tape_Next_1 (C : CallF) (t_L : List V) (t_At n : Int) {β : Type} (k0 : Int → Int → Option β) : Option β :=
 bif decide ((t_At : Int) ≥ (t_L.length : Int)) then
  k0 0 t_At
 else
  (idx t_L (IntKind.wrap .i64 ((IntKind.wrap .i64 (t_At + 1)) - 1))).bind fun x3 =>
   (C F_semigroupmade_Mod [.int .i64 x3.toInt, .int .i64 n] []).bind fun r4 =>
    k0 r4.1.toInt (IntKind.wrap .i64 (t_At + 1))
noncomputable abbrev z8_0 (c0 : Int) (c1 : List V) (c2 : Int) : St :=
 mk [(4, .int .i64 c0)] [.var [.list T_int c1, .int .i64 c2]]
noncomputable abbrev q8_0 : List Code := codesAt Try.prog 8 [[0], [1, 0, 0], [1, 0, 1], [1, 1, 0], [1, 1, 1, 0], [1, 1, 1, 1]]
noncomputable abbrev z8_1 (c0 : Int) (c1 : List V) (c2 : Int) : St :=
 mk [(0, .ptr 0 0 0), (1, .int .i64 c0)] [.var [.list T_int c1, .int .i64 c2]]
theorem s_semigroupmade_Tape_Next_1_eq (C : CallF) (t_L : List V) (t_At n : Int) {β : Type} (K : Out → St → Option β) :
 execL Try.prog ann C 8 35 1 (q8_0) (z8_1 n t_L t_At) K =
  s_semigroupmade_Tape_Next_1 C t_L t_At n
   (fun (t40 : Int) (b0_10 : Int) => K .ret (z8_0 t40 t_L b0_10)) := by kernel_rfl
noncomputable def f_semigroupmade_Tape_Next (C : CallF) (t_L : List V) (t_At n : Int) : Option (V × List V) :=
 s_semigroupmade_Tape_Next_1 C t_L t_At n
  (fun (t_5 : Int) (b_6 : Int) =>
   some (.int .i64 t_5, [.agg [.list T_int t_L, .int .i64 b_6]]))
theorem f_semigroupmade_Tape_Next_eq (C : CallF) (t_L : List V) (t_At n : Int) : bodyK Try.prog ann C 8 [.ptr 0 0 0, .int .i64 n] [.agg [.list T_int t_L, .int .i64 t_At]] = f_semigroupmade_Tape_Next C t_L t_At n :=
 Eq.trans (bodyK_fin (by kernel_rfl)) (Eq.trans (execK_items (by kernel_rfl)) (Eq.trans (s_semigroupmade_Tape_Next_1_eq C t_L t_At n (finK Try.prog ann C 8 [.agg [.list T_int t_L, .int .i64 t_At]])) (by kernel_rfl)))
theorem f_semigroupmade_Tape_Next_of {t_L : List V} {t_At : Int} {n : Int} {r : V × List V} (h : f_semigroupmade_Tape_Next CC t_L t_At n = some r) : CC F_semigroupmade_Tape_Next [.ptr 0 0 0, .int .i64 n] [.agg [.list T_int t_L, .int .i64 t_At]] = some r :=
 Call_of_body ((bodyK_eq ..).trans ((f_semigroupmade_Tape_Next_eq ..).trans h))
end Go.AM

set_option maxRecDepth 100000
namespace Go.AM
open Go.Proofs
/-! (*semigroup/semigroupmade.Tape).Word -/
noncomputable def d10_1 (C : CallF) (t_L : List V) (t_At most : Int) {β : Type} (k0 : Int → (List V) → Int → Option β) : Option β :=
 (C F_semigroupmade_Tape_Next [.ptr 0 0 0, .int .i64 (IntKind.wrap .i64 (most + 1))] [.agg [.list T_int t_L, .int .i64 t_At]]).bind fun r1 =>
  k0 r1.1.toInt (((V.nth r1.2 0).cell 0).toList) (((V.nth r1.2 0).cell 1).toInt)
noncomputable abbrev z10_0 (c0 c1 : Int) (c2 : List V) (c3 : Int) (c4 : List V) : St :=
 mk [(0, .ptr 0 0 0), (1, .int .i64 c0), (7, .whole T_uint8 1), (8, .int .i64 c1)] [.var [.list T_int c2, .int .i64 c3], .arr T_uint8 c4 false]
noncomputable abbrev q10_0 : List Code := codesAt Try.prog 10 [[0], [1, 0], [1, 1, 0, 0]]
noncomputable abbrev z10_1 (c0 c1 : Int) (c2 : List V) (c3 : Int) : St :=
 mk [(0, .ptr 0 0 0), (1, .int .i64 c0), (2, .int .i64 c1)] [.var [.list T_int c2, .int .i64 c3]]
theorem h10_1_eq (C : CallF) (t_L : List V) (t_At letters most : Int) {β : Type} (K : Out → St → Option β) :
 execL Try.prog ann C 10 27 1 (q10_0) (z10_1 letters most t_L t_At) K =
  d10_1 C t_L t_At most
   (fun (n0 : Int) (ts_00 : List V) (ts_10 : Int) => K .norm (z10_0 letters n0 ts_00 ts_10 ([] : List V))) := by kernel_rfl
noncomputable def d10_2 (C : CallF) (letters n : Int) (ts_0 : List V) (ts_1 : Int) (b's : List V) {β : Type} (k0 : (List V) → Int → (List V) → Option β) (k1 : Option β) : Option β :=
 bif decide ((n : Int) > 0) then
  (C F_semigroupmade_Tape_Next [.ptr 0 0 0, .int .i64 letters] [.agg [.list T_int ts_0, .int .i64 ts_1]]).bind fun r3 =>
   bif Nat.ble ((b's.length + ([.int .u8 (IntKind.wrap .u8 (IntKind.wrap .i64 (97 + r3.1.toInt)))] : List V).length) * 1) maxBytes then
    k0 (((V.nth r3.2 0).cell 0).toList) (((V.nth r3.2 0).cell 1).toInt) (b's ++ ([.int .u8 (IntKind.wrap .u8 (IntKind.wrap .i64 (97 + r3.1.toInt)))] : List V))
   else none
 else
  k1
noncomputable abbrev z10_2 (c0 c1 : Int) (c2 : Bool) (c3 : List V) (c4 : Int) (c5 : List V) : St :=
 mk [(0, .ptr 0 0 0), (1, .int .i64 c0), (7, .whole T_uint8 1), (8, .int .i64 c1), (14, .bool c2)] [.var [.list T_int c3, .int .i64 c4], .arr T_uint8 c5 false]
noncomputable abbrev q10_1 : List Code := codesAt Try.prog 10 [[1, 1, 0, 1, 0, 0, 0, 0], [1, 1, 0, 1, 0, 0, 0, 1], [1, 1, 0, 1, 0, 0, 1, 0], [1, 1, 0, 1, 0, 0, 1, 1]]
theorem h10_2_eq (C : CallF) (letters n : Int) (ts_0 : List V) (ts_1 : Int) (b's : List V) {β : Type} (K : Out → St → Option β) :
 execL Try.prog ann C 10 27 1 (q10_1) (z10_0 letters n ts_0 ts_1 b's) K =
  d10_2 C letters n ts_0 ts_1 b's
   (fun (ts_00 : List V) (ts_10 : Int) (b's0 : List V) => K .norm (z10_0 letters (IntKind.wrap .i64 (n - 1)) ts_00 ts_10 b's0))
   (K (.exit 0) (z10_2 letters n (decide ((n : Int) > 0)) ts_0 ts_1 b's)) := by kernel_rfl
noncomputable def s_semigroupmade_Tape_Word_3L_step (C : CallF) (letters : Int) : (Int × (List V) × Int × (List V)) → Option ((Int × (List V) × Int × (List V)) ⊕ ((Int × Bool × (List V) × Int × (List V)))) := fun (n, ts_0, ts_1, b's) =>
 bif decide ((n : Int) > 0) then
  (C F_semigroupmade_Tape_Next [.ptr 0 0 0, .int .i64 letters] [.agg [.list T_int ts_0, .int .i64 ts_1]]).bind fun r3 =>
   bif Nat.ble ((b's.length + ([.int .u8 (IntKind.wrap .u8 (IntKind.wrap .i64 (97 + r3.1.toInt)))] : List V).length) * 1) maxBytes then
    some (.inl (IntKind.wrap .i64 (n - 1), (((V.nth r3.2 0).cell 0).toList), (((V.nth r3.2 0).cell 1).toInt), (b's ++ ([.int .u8 (IntKind.wrap .u8 (IntKind.wrap .i64 (97 + r3.1.toInt)))] : List V))))
   else none
 else
  some (.inr (n, decide ((n : Int) > 0), ts_0, ts_1, b's))
noncomputable def s_semigroupmade_Tape_Word_3L (C : CallF) (letters n : Int) (ts_0 : List V) (ts_1 : Int) (b's : List V) {β : Type} (k0 : Int → Bool → (List V) → Int → (List V) → Option β) : Option β :=
 (Loop (s_semigroupmade_Tape_Word_3L_step C letters) (n, ts_0, ts_1, b's)).bind fun (n0, t140, ts_00, ts_10, b's0) => k0 n0 t140 ts_00 ts_10 b's0
noncomputable def s_semigroupmade_Tape_Word_3L_dec : Out → St → Option ((Int × (List V) × Int × (List V)) ⊕ ((Int × Bool × (List V) × Int × (List V)))) := fun o st => match o with
 | .norm => some (.inl (V.toInt (st.sl 8), V.toList (V.nth (varOf (st.hp 0)) 0), V.toInt (V.nth (varOf (st.hp 0)) 1), arrOf (st.hp 1)))
 | .exit q => bif Nat.beq q 0 then some (.inr (V.toInt (st.sl 8), V.toBool (st.sl 14), V.toList (V.nth (varOf (st.hp 0)) 0), V.toInt (V.nth (varOf (st.hp 0)) 1), arrOf (st.hp 1))) else none
 | .ret => none
noncomputable def s_semigroupmade_Tape_Word_3L_hd (letters : Int) : (Int × (List V) × Int × (List V)) → St := fun (n, ts_0, ts_1, b's) => z10_0 letters n ts_0 ts_1 b's
noncomputable def s_semigroupmade_Tape_Word_3L_enc (letters : Int) : ((Int × Bool × (List V) × Int × (List V))) → Out × St := fun (n0, t140, ts_00, ts_10, b's0) => (.exit 0, z10_2 letters n0 t140 ts_00 ts_10 b's0)
theorem s_semigroupmade_Tape_Word_3L_eq (C : CallF) (letters n : Int) (ts_0 : List V) (ts_1 : Int) (b's : List V) {β : Type} (K : Out → St → Option β) :
 execL Try.prog ann C 10 27 1 (codesAt Try.prog 10 [[1, 1, 0, 1, 0]]) (z10_0 letters n ts_0 ts_1 b's) K =
  s_semigroupmade_Tape_Word_3L C letters n ts_0 ts_1 b's
   (fun (n0 : Int) (t140 : Bool) (ts_00 : List V) (ts_10 : Int) (b's0 : List V) => K (.exit 0) (z10_2 letters n0 t140 ts_00 ts_10 b's0)) := by
 have hitems : flatC (codeAt [1, 1, 0, 1, 0, 0] (bodyOf Try.prog 10)) = q10_1 := by kernel_rfl
 have hloop : [codeAt [1, 1, 0, 1, 0] (bodyOf Try.prog 10)] = [Code.loop (codeAt [1, 1, 0, 1, 0, 0] (bodyOf Try.prog 10))] := by kernel_rfl
 have h := loopK_eq (P := Try.prog) (A := ann) (C := C) (f := 10) (n := 27) (m := 1) (c := codeAt [1, 1, 0, 1, 0, 0] (bodyOf Try.prog 10)) (s_semigroupmade_Tape_Word_3L_hd letters) (s_semigroupmade_Tape_Word_3L_enc letters) s_semigroupmade_Tape_Word_3L_dec (s_semigroupmade_Tape_Word_3L_step C letters)
  (by rintro ⟨n, ts_0, ts_1, b's⟩; exact Eq.trans (execK_items hitems) (Eq.trans (h10_2_eq C letters n ts_0 ts_1 b's s_semigroupmade_Tape_Word_3L_dec) (by kernel_rfl)))
  (by rintro ⟨n, ts_0, ts_1, b's⟩; exact Eq.trans (execK_items hitems) (Eq.trans (h10_2_eq C letters n ts_0 ts_1 b's (fun o st => some (o, st))) (Eq.trans (by kernel_rfl) (Eq.trans (h10_2_eq C letters n ts_0 ts_1 b's (fun o st => (s_semigroupmade_Tape_Word_3L_dec o st).map (outS (s_semigroupmade_Tape_Word_3L_hd letters) (s_semigroupmade_Tape_Word_3L_enc letters)))).symm (execK_items hitems).symm))))
  (by intro r; intro h; cases h) (n, ts_0, ts_1, b's) K
 refine Eq.trans (congrArg (fun l => execL Try.prog ann C 10 27 1 l (z10_0 letters n ts_0 ts_1 b's) K) hloop) (Eq.trans h ?_)
 · refine congrArg _ (funext fun r => ?_)
   rfl
noncomputable def d10_4 (C : CallF) (letters n : Int) (ts_0 : List V) (ts_1 : Int) (b's : List V) {β : Type} (k0 : (List V) → Int → (List V) → Option β) : Option β :=
 s_semigroupmade_Tape_Word_3L C letters n ts_0 ts_1 b's
  (fun (n_4 : Int) (t_5 : Bool) (ts_6 : List V) (ts_7 : Int) (b's_8 : List V) =>
   k0 ts_6 ts_7 b's_8)
noncomputable abbrev z10_3 (c0 : List V) (c1 : Int) (c2 : List V) : St :=
 mk [(7, .whole T_uint8 1)] [.var [.list T_int c0, .int .i64 c1], .arr T_uint8 c2 false]
theorem h10_4_eq (C : CallF) (letters n : Int) (ts_0 : List V) (ts_1 : Int) (b's : List V) {β : Type} (K : Out → St → Option β) :
 execL Try.prog ann C 10 27 1 (codesAt Try.prog 10 [[1, 1, 0, 1]]) (z10_0 letters n ts_0 ts_1 b's) K =
  d10_4 C letters n ts_0 ts_1 b's
   (fun (b0_00 : List V) (b0_10 : Int) (b's0 : List V) => K .norm (z10_3 b0_00 b0_10 b's0)) := Eq.trans (execL_block (P := Try.prog) (A := ann) (C := C) (f := 10) (n := 27) (m := 1) (id := 0) (c := codeAt [1, 1, 0, 1] (bodyOf Try.prog 10)) (d := codeAt [1, 1, 0, 1, 0] (bodyOf Try.prog 10)) (l := codesAt Try.prog 10 [[1, 1, 0, 1, 0]]) (st := z10_0 letters n ts_0 ts_1 b's) (K := K) (by kernel_rfl) (by kernel_rfl)) (Eq.trans (s_semigroupmade_Tape_Word_3L_eq C letters n ts_0 ts_1 b's (blockK ann 10 1 0 K)) (by kernel_rfl))
noncomputable def d10_5 (C : CallF)  {β : Type} (k0 : Option β) : Option β :=
 k0
noncomputable abbrev z10_4 (c0 : List UInt8) (c1 : List V) (c2 : Int) : St :=
 mk [(6, .str c0)] [.var [.list T_int c1, .int .i64 c2]]
noncomputable abbrev q10_2 : List Code := codesAt Try.prog 10 [[1, 1, 1, 0], [1, 1, 1, 1]]
theorem h10_5_eq (C : CallF) (b0_0 : List V) (b0_1 : Int) (b's : List V) {β : Type} (K : Out → St → Option β) :
 execL Try.prog ann C 10 27 1 (q10_2) (z10_3 b0_0 b0_1 b's) K =
  d10_5 C
   (K .ret (z10_4 (bytesOfV b's) b0_0 b0_1)) := by kernel_rfl
noncomputable def d10_6 (C : CallF) (letters n : Int) (ts_0 : List V) (ts_1 : Int) (b's : List V) {β : Type} (k0 : (List UInt8) → (List V) → Int → Option β) : Option β :=
 d10_4 C letters n ts_0 ts_1 b's
  (fun (b_14 : List V) (b_15 : Int) (b's_16 : List V) =>
   d10_5 C
    (
     k0 (bytesOfV b's_16) b_14 b_15))
noncomputable abbrev q10_3 : List Code := codesAt Try.prog 10 [[1, 1, 0, 1], [1, 1, 1, 0], [1, 1, 1, 1]]
theorem h10_6_eq (C : CallF) (letters n : Int) (ts_0 : List V) (ts_1 : Int) (b's : List V) {β : Type} (K : Out → St → Option β) :
 execL Try.prog ann C 10 27 1 (q10_3) (z10_0 letters n ts_0 ts_1 b's) K =
  d10_6 C letters n ts_0 ts_1 b's
   (fun (t60 : List UInt8) (b0_00 : List V) (b0_10 : Int) => K .ret (z10_4 t60 b0_00 b0_10)) := by
 refine Eq.trans (execL_app (P := Try.prog) (A := ann) (C := C) (f := 10) (n := 27) (m := 1) (codesAt Try.prog 10 [[1, 1, 0, 1]]) (q10_2) (st := z10_0 letters n ts_0 ts_1 b's) (K := K)) (Eq.trans (h10_4_eq C letters n ts_0 ts_1 b's (seqK Try.prog ann C 10 27 1 (q10_2) K)) ?_)
 · exact Eq.trans (by kernel_rfl) (Eq.trans (congrArg (fun HOLE : (List V) → Int → (List V) → Option β => d10_4 C letters n ts_0 ts_1 b's HOLE) (funext fun (b0_00 : List V) => funext fun (b0_10 : Int) => funext fun (b's0 : List V) => h10_5_eq C b0_00 b0_10 b's0 K)) ((by kernel_rfl)))
noncomputable def d10_7 (C : CallF) (t_L : List V) (t_At letters most : Int) {β : Type} (k0 : (List UInt8) → (List V) → Int → Option β) : Option β :=
 d10_1 C t_L t_At most
  (fun (n_17 : Int) (ts_18 : List V) (ts_19 : Int) =>
   d10_6 C letters n_17 ts_18 ts_19 ([] : List V)
    (fun (t_20 : List UInt8) (b_21 : List V) (b_22 : Int) =>
     k0 t_20 b_21 b_22))
noncomputable abbrev q10_4 : List Code := codesAt Try.prog 10 [[0], [1, 0], [1, 1, 0, 0], [1, 1, 0, 1], [1, 1, 1, 0], [1, 1, 1, 1]]
theorem h10_7_eq (C : CallF) (t_L : List V) (t_At letters most : Int) {β : Type} (K : Out → St → Option β) :
 execL Try.prog ann C 10 27 1 (q10_4) (z10_1 letters most t_L t_At) K =
  d10_7 C t_L t_At letters most
   (fun (t60 : List UInt8) (b0_00 : List V) (b0_10 : Int) => K .ret (z10_4 t60 b0_00 b0_10)) := by
 refine Eq.trans (execL_app (P := Try.prog) (A := ann) (C := C) (f := 10) (n := 27) (m := 1) (q10_0) (q10_3) (st := z10_1 letters most t_L t_At) (K := K)) (Eq.trans (h10_1_eq C t_L t_At letters most (seqK Try.prog ann C 10 27 1 (q10_3) K)) ?_)
 · exact Eq.trans (by kernel_rfl) (Eq.trans (congrArg (fun HOLE : Int → (List V) → Int → Option β => d10_1 C t_L t_At most HOLE) (funext fun (n0 : Int) => funext fun (ts_00 : List V) => funext fun (ts_10 : Int) => h10_6_eq C letters n0 ts_00 ts_10 ([] : List V) K)) ((by kernel_rfl)))
noncomputable def f_semigroupmade_Tape_Word (C : CallF) (t_L : List V) (t_At letters most : Int) : Option (V × List V) :=
 (C F_semigroupmade_Tape_Next [.ptr 0 0 0, .int .i64 (IntKind.wrap .i64 (most + 1))] [.agg [.list T_int t_L, .int .i64 t_At]]).bind fun r1 =>
  s_semigroupmade_Tape_Word_3L C letters r1.1.toInt (((V.nth r1.2 0).cell 0).toList) (((V.nth r1.2 0).cell 1).toInt) ([] : List V)
   (fun (n_9 : Int) (t_10 : Bool) (ts_11 : List V) (ts_12 : Int) (b's_13 : List V) =>
    some (.str (bytesOfV b's_13), [.agg [.list T_int ts_11, .int .i64 ts_12]]))
theorem f_semigroupmade_Tape_Word_eq (C : CallF) (t_L : List V) (t_At letters most : Int) : bodyK Try.prog ann C 10 [.ptr 0 0 0, .int .i64 letters, .int .i64 most] [.agg [.list T_int t_L, .int .i64 t_At]] = f_semigroupmade_Tape_Word C t_L t_At letters most :=
 Eq.trans (bodyK_fin (by kernel_rfl)) (Eq.trans (execK_items (by kernel_rfl)) (Eq.trans (h10_7_eq C t_L t_At letters most (finK Try.prog ann C 10 [.agg [.list T_int t_L, .int .i64 t_At]])) (by kernel_rfl)))
theorem f_semigroupmade_Tape_Word_of {t_L : List V} {t_At : Int} {letters : Int} {most : Int} {r : V × List V} (h : f_semigroupmade_Tape_Word CC t_L t_At letters most = some r) : CC F_semigroupmade_Tape_Word [.ptr 0 0 0, .int .i64 letters, .int .i64 most] [.agg [.list T_int t_L, .int .i64 t_At]] = some r :=
 Call_of_body ((bodyK_eq ..).trans ((f_semigroupmade_Tape_Word_eq ..).trans h))
end Go.AM

/-
 What the functions of semigroupmade compute: tapes, numbers, words, graphs.
-/
namespace Go.AM
open Go.Proofs
abbrev vI (n : Int) : V := .int .i64 n
abbrev vIs (l : List Int) : List V := l.map vI
def tapeV (l : List Int) (a : Nat) : V := .agg [.list T_int (vIs l), .int .i64 a]
def modI (x n : Int) : Int := if n < 1 then 0 else x % n
theorem modI_nonneg (x n : Int) : 0 ≤ modI x n := by
 unfold modI; split
 · omega
 · exact Int.emod_nonneg _ (by omega)
theorem modI_lt (x : Int) {n : Int} (h : 1 ≤ n) : modI x n < n := by
 unfold modI; split
 · omega
 · exact Int.emod_lt_of_pos _ (by omega)
theorem mod_spec (x n : Int) (hn : n < 9223372036854775808) : CC F_semigroupmade_Mod [.int .i64 x, .int .i64 n] [] = some (.int .i64 (modI x n), []) := by
 refine f_semigroupmade_Mod_of ?_
 unfold f_semigroupmade_Mod s_semigroupmade_Mod_1 modI
 simp only [bif_decide]
 split
 · rfl
 · rename_i h
   have h1 : ¬ n = 0 := by omega
   simp only [h1, decide_false, Bool.not_false, cond_true]
   by_cases hx : 0 ≤ x
   · have e1 : Int.tmod x n = x % n := Int.tmod_eq_emod_of_nonneg hx
     have e2 : ¬ x % n < 0 := by have := Int.emod_nonneg x h1; omega
     rw [e1, if_neg e2]
   · have e1 : Int.tmod x n = if n ∣ x then 0 else x % n - n := by
      rw [Int.tmod_eq_emod]
      have : ¬ (0 ≤ x ∨ n ∣ x) ↔ ¬ n ∣ x := by simp [hx]
      by_cases hd : n ∣ x
      · simp [hd, Int.emod_eq_zero_of_dvd hd]
      · have : (n.natAbs : Int) = n := by omega
        simp [hx, hd, this]
     by_cases hd : n ∣ x
     · rw [e1, if_pos hd, if_neg (by omega), Int.emod_eq_zero_of_dvd hd]
     · rw [e1, if_neg hd]
       have h2 := Int.emod_nonneg x h1
       have h3 := Int.emod_lt_of_pos x (show 0 < n by omega)
       rw [if_pos (by omega), wrap64 (by omega) (by omega)]
       congr 3
       omega
theorem new_spec (l : List Int) : CC F_semigroupmade_New [.list T_int (vIs l)] [] = some (tapeV (l.take 80) 0, []) := by
 refine f_semigroupmade_New_of ?_
 unfold f_semigroupmade_New s_semigroupmade_New_1 tapeV
 simp only [bif_decide, List.length_map]
 split
 · rw [if_pos (by omega)]; simp
 · rw [List.take_of_length_le (by omega)]; simp
/-- A tape: at most 80 numbers. -/
structure TapeOk (l : List Int) (a : Nat) : Prop where
 len : l.length ≤ 80
 at_le : a ≤ l.length
theorem new_ok (l : List Int) : TapeOk (l.take 80) 0 := ⟨by simp; omega, Nat.zero_le _⟩
theorem next_spec (l : List Int) (a : Nat) (n : Int) (ht : TapeOk l a) (hn : n < 9223372036854775808) :
 ∃ r a', TapeOk l a' ∧ 0 ≤ r ∧ (1 ≤ n → r < n) ∧ (n < 1 → r = 0) ∧ CC F_semigroupmade_Tape_Next [.ptr 0 0 0, .int .i64 n] [tapeV l a] = some (.int .i64 r, [tapeV l a']) := by
 obtain ⟨h1, h2⟩ := ht
 by_cases ha : a < l.length
 · refine ⟨modI l[a] n, a + 1, ⟨h1, by omega⟩, modI_nonneg _ _, fun h => modI_lt _ h, fun h => by simp [modI, h], f_semigroupmade_Tape_Next_of ?_⟩
   unfold f_semigroupmade_Tape_Next s_semigroupmade_Tape_Next_1
   simp only [bif_decide, List.length_map]
   rw [if_neg (by omega)]
   simp (disch := omega) only [wrap64]
   rw [idx_map (n := a) (by omega) ha]
   simp [mod_spec _ _ hn, tapeV]
 · refine ⟨0, a, ⟨h1, h2⟩, by omega, fun h => by omega, fun _ => rfl, f_semigroupmade_Tape_Next_of ?_⟩
   unfold f_semigroupmade_Tape_Next s_semigroupmade_Tape_Next_1
   simp only [bif_decide, List.length_map]
   rw [if_pos (by omega)]
   rfl
/-- A word over some letters. -/
def WordOf (letters : Int) (w : List UInt8) : Prop := ∀ b ∈ w, 97 ≤ b.toNat ∧ (b.toNat : Int) < 97 + letters
theorem word_spec (l : List Int) (a : Nat) (letters most : Int) (ht : TapeOk l a) (hl : 1 ≤ letters ∧ letters ≤ 26) (hm : 0 ≤ most ∧ most < 1000) :
 ∃ w a', TapeOk l a' ∧ WordOf letters w ∧ (w.length : Int) ≤ most ∧ CC F_semigroupmade_Tape_Word [.ptr 0 0 0, .int .i64 letters, .int .i64 most] [tapeV l a] = some (.str w, [tapeV l a']) := by
 obtain ⟨n, a1, ht1, n0, n1, _, hnext⟩ := next_spec l a (most + 1) ht (by omega)
 have n2 := n1 (by omega)
 have key := Loop_inv (step := s_semigroupmade_Tape_Word_3L_step CC letters)
  (fun x => ∃ (k : Int) (a : Nat) (w : List UInt8), 0 ≤ k ∧ k + w.length ≤ most ∧ TapeOk l a ∧ WordOf letters w ∧ x = (k, vIs l, (a : Int), w.map fun b => V.int .u8 b.toNat))
  (fun x => x.1.toNat)
  (fun r => ∃ (k : Int) (b : Bool) (a : Nat) (w : List UInt8), (w.length : Int) ≤ most ∧ TapeOk l a ∧ WordOf letters w ∧ r = (k, b, vIs l, (a : Int), w.map fun b => V.int .u8 b.toNat)) (by
   rintro x ⟨k, a, w, k0, k1, hta, hw, rfl⟩
   unfold s_semigroupmade_Tape_Word_3L_step
   simp only [bif_decide]
   by_cases hk : k > 0
   · left
     obtain ⟨d, a', ht', d0, d1, _, hd⟩ := next_spec l a letters hta (by omega)
     have d2 := d1 (by omega)
     refine ⟨(k - 1, vIs l, (a' : Int), (w ++ [UInt8.ofNat (97 + d).toNat]).map fun b => V.int .u8 b.toNat), ?_, ⟨k - 1, a', w ++ [UInt8.ofNat (97 + d).toNat], by omega, by simp; omega, ht', ?_, rfl⟩, by simp; omega⟩
     · rw [if_pos hk]
       have hd' := hd
       unfold tapeV at hd'
       rw [hd']
       have e : Nat.ble ((List.length (w.map fun b => V.int .u8 b.toNat) + 1) * 1) maxBytes = true := by
        rw [Nat.ble_eq]; simp [maxBytes]; omega
       simp only [Option.bind_some, V.toInt_int, V.nth_zero, V.cell_agg, V.toList_list, V.nth_one, List.length_singleton]
       rw [wrap64 (x := 97 + d) (by omega) (by omega), wrap8 (by omega) (by omega), wrap64 (by omega) (by omega), e]
       have e2 : ((UInt8.ofNat (97 + d).toNat).toNat : Int) = 97 + d := by
        simp; omega
       simp only [cond_true, List.map_append, List.map_cons, List.map_nil, e2]
     · intro b hb
       rcases List.mem_append.1 hb with h | h
       · exact hw b h
       · simp only [List.mem_singleton] at h
         subst h
         have e2 : (UInt8.ofNat (97 + d).toNat).toNat = (97 + d).toNat := by simp; omega
         rw [e2]
         omega
   · right
     rw [if_neg hk]
     exact ⟨_, rfl, k, _, a, w, by omega, hta, hw, rfl⟩)
 obtain ⟨r, hr, k, b, a', w, hwl, ht', hw, rfl⟩ := key (n, vIs l, (a1 : Int), []) ⟨n, a1, [], n0, by simp; omega, ht1, fun b hb => by simp at hb, rfl⟩
 refine ⟨w, a', ht', hw, hwl, f_semigroupmade_Tape_Word_of ?_⟩
 unfold f_semigroupmade_Tape_Word s_semigroupmade_Tape_Word_3L
 unfold tapeV at hnext
 rw [wrap64 (by omega) (by omega), hnext]
 simp only [Option.bind_some, V.toInt_int, V.nth_zero, V.cell_agg, V.toList_list, V.nth_one, hr]
 have : bytesOfV (w.map fun b => V.int .u8 b.toNat) = w := by
  unfold bytesOfV
  rw [List.map_map]
  conv => rhs; rw [← List.map_id w]
  refine List.map_congr_left fun b _ => ?_
  simp
 rw [this]
 rfl
end Go.AM

set_option maxRecDepth 100000
namespace Go.AM
open Go.Proofs
/-! semigroup/starfree.parts -/
noncomputable def s_starfree_parts_1 (C : CallF) (op : Int) {β : Type} (k0 : Int → Option β) (k1 : Option β) : Option β :=
 bif (op : Int) == 5 then
  bif (op : Int) == 5 then
   k0 2
  else
   bif (op : Int) == 8 then
    k0 1
   else
    k1
 else
  bif (op : Int) == 6 then
   bif (op : Int) == 6 then
    k0 2
   else
    bif (op : Int) == 8 then
     k0 1
    else
     k1
  else
   bif (op : Int) == 7 then
    k0 2
   else
    bif (op : Int) == 8 then
     k0 1
    else
     k1
noncomputable abbrev z22_0 (c0 : Int) : St :=
 mk [(2, .int .i64 c0)] []
noncomputable abbrev z22_1  : St :=
 mk [] []
noncomputable abbrev q22_0 : List Code := codesAt Try.prog 22 [[0], [1, 0, 0], [1, 0, 1]]
noncomputable abbrev z22_2 (c0 : Int) : St :=
 mk [(0, .int .i64 c0)] []
theorem s_starfree_parts_1_eq (C : CallF) (op : Int) {β : Type} (K : Out → St → Option β) :
 execL Try.prog ann C 22 10 0 (q22_0) (z22_2 op) K =
  s_starfree_parts_1 C op
   (fun (t20 : Int) => K .ret (z22_0 t20))
   (K .norm (z22_1)) := by kernel_rfl
noncomputable def d22_2 (C : CallF)  {β : Type} (k0 : Option β) : Option β :=
 k0
theorem h22_2_eq (C : CallF)  {β : Type} (K : Out → St → Option β) :
 execL Try.prog ann C 22 10 0 (codesAt Try.prog 22 [[1, 1, 0], [1, 1, 1]]) (z22_1) K =
  d22_2 C
   (K .ret (z22_0 0)) := by kernel_rfl
noncomputable def d22_3 (C : CallF) (op : Int) {β : Type} (k0 : Int → Option β) : Option β :=
 s_starfree_parts_1 C op
  (fun (t_1 : Int) =>
   k0 t_1)
  (
   d22_2 C
    (
     k0 0))
noncomputable abbrev q22_1 : List Code := codesAt Try.prog 22 [[0], [1, 0, 0], [1, 0, 1], [1, 1, 0], [1, 1, 1]]
theorem h22_3_eq (C : CallF) (op : Int) {β : Type} (K : Out → St → Option β) :
 execL Try.prog ann C 22 10 0 (q22_1) (z22_2 op) K =
  d22_3 C op
   (fun (t20 : Int) => K .ret (z22_0 t20)) := by
 refine Eq.trans (execL_app (P := Try.prog) (A := ann) (C := C) (f := 22) (n := 10) (m := 0) (q22_0) (codesAt Try.prog 22 [[1, 1, 0], [1, 1, 1]]) (st := z22_2 op) (K := K)) (Eq.trans (s_starfree_parts_1_eq C op (seqK Try.prog ann C 22 10 0 (codesAt Try.prog 22 [[1, 1, 0], [1, 1, 1]]) K)) ?_)
 · exact Eq.trans (by kernel_rfl) (Eq.trans (congrArg (fun HOLE : Option β => s_starfree_parts_1 C op (fun (t20 : Int) => K .ret (z22_0 t20)) HOLE) (h22_2_eq C K)) ((by kernel_rfl)))
noncomputable def f_starfree_parts (C : CallF) (op : Int) : Option (V × List V) :=
 s_starfree_parts_1 C op
  (fun (t_2 : Int) =>
   some (.int .i64 t_2, []))
  (
   some (.int .i64 0, []))
theorem f_starfree_parts_eq (C : CallF) (op : Int) : bodyK Try.prog ann C 22 [.int .i64 op] [] = f_starfree_parts C op :=
 Eq.trans (bodyK_fin (by kernel_rfl)) (Eq.trans (execK_items (by kernel_rfl)) (Eq.trans (h22_3_eq C op (finK Try.prog ann C 22 [])) (by kernel_rfl)))
theorem f_starfree_parts_of {op : Int} {r : V × List V} (h : f_starfree_parts CC op = some r) : CC F_starfree_parts [.int .i64 op] [] = some r :=
 Call_of_body ((bodyK_eq ..).trans ((f_starfree_parts_eq ..).trans h))
end Go.AM

set_option maxRecDepth 100000
namespace Go.AM
open Go.Proofs
/-! semigroup/starfree.validPart -/
noncomputable def s_starfree_validPart_1 (C : CallF) (part i : Int) (needed : Bool) {β : Type} (k0 : Bool → Option β) : Option β :=
 bif needed then
  bif decide ((part : Int) ≥ 0) then
   k0 (decide ((part : Int) < i))
  else
   k0 false
 else
  k0 ((part : Int) == 0)
noncomputable abbrev z47_0 (c0 : Bool) : St :=
 mk [(6, .bool c0)] []
noncomputable abbrev q47_0 : List Code := codesAt Try.prog 47 [[0], [1, 0, 0], [1, 0, 1], [1, 1, 0], [1, 1, 1]]
noncomputable abbrev z47_1 (c0 c1 : Int) (c2 : Bool) : St :=
 mk [(0, .int .i64 c0), (1, .int .i64 c1), (2, .bool c2)] []
theorem s_starfree_validPart_1_eq (C : CallF) (part i : Int) (needed : Bool) {β : Type} (K : Out → St → Option β) :
 execL Try.prog ann C 47 17 0 (q47_0) (z47_1 part i needed) K =
  s_starfree_validPart_1 C part i needed
   (fun (t60 : Bool) => K .ret (z47_0 t60)) := by kernel_rfl
noncomputable def f_starfree_validPart (C : CallF) (part i : Int) (needed : Bool) : Option (V × List V) :=
 s_starfree_validPart_1 C part i needed
  (fun (t_1 : Bool) =>
   some (.bool t_1, []))
theorem f_starfree_validPart_eq (C : CallF) (part i : Int) (needed : Bool) : bodyK Try.prog ann C 47 [.int .i64 part, .int .i64 i, .bool needed] [] = f_starfree_validPart C part i needed :=
 Eq.trans (bodyK_fin (by kernel_rfl)) (Eq.trans (execK_items (by kernel_rfl)) (Eq.trans (s_starfree_validPart_1_eq C part i needed (finK Try.prog ann C 47 [])) (by kernel_rfl)))
theorem f_starfree_validPart_of {part : Int} {i : Int} {needed : Bool} {r : V × List V} (h : f_starfree_validPart CC part i needed = some r) : CC F_starfree_validPart [.int .i64 part, .int .i64 i, .bool needed] [] = some r :=
 Call_of_body ((bodyK_eq ..).trans ((f_starfree_validPart_eq ..).trans h))
end Go.AM

set_option maxRecDepth 100000
namespace Go.AM
open Go.Proofs
/-! semigroup/starfree.validNode -/
noncomputable def s_starfree_validNode_1 (C : CallF) (n_Op : Int) {β : Type} (k0 : Bool → Option β) : Option β :=
 bif decide ((n_Op : Int) < 1) then
  k0 true
 else
  k0 (decide ((n_Op : Int) > 8))
noncomputable abbrev z33_0 (c0 c1 : Int) (c2 : Bool) (c3 c4 c5 c6 : Int) : St :=
 mk [(1, .int .i64 c0), (2, .int .i64 c1), (3, .ptr 0 0 0), (14, .bool c2)] [.var [.int .i64 c3, .int .i64 c4, .int .i64 c5, .int .i64 c6]]
noncomputable abbrev z33_1 (c0 c1 c2 c3 c4 c5 : Int) : St :=
 mk [(0, .agg [.int .i64 c0, .int .i64 c1, .int .i64 c2, .int .i64 c3]), (1, .int .i64 c4), (2, .int .i64 c5)] []
theorem s_starfree_validNode_1_eq (C : CallF) (n_Op n_Letter n_A n_B i letters : Int) {β : Type} (K : Out → St → Option β) :
 execL Try.prog ann C 33 48 0 (codesAt Try.prog 33 [[0], [1, 0, 0]]) (z33_1 n_Op n_Letter n_A n_B i letters) K =
  s_starfree_validNode_1 C n_Op
   (fun (t140 : Bool) => K .norm (z33_0 i letters t140 n_Op n_Letter n_A n_B)) := by kernel_rfl
noncomputable def s_starfree_validNode_2 (C : CallF) (letters : Int) (t14 : Bool) (ns_0 ns_1 : Int) {β : Type} (k0 : Bool → Option β) (k1 : Option β) : Option β :=
 bif t14 then
  k0 false
 else
  bif (ns_0 : Int) == 3 then
   bif decide ((ns_1 : Int) < 0) then
    k0 false
   else
    bif decide ((ns_1 : Int) ≥ letters) then
     k0 false
    else
     k1
  else
   bif (ns_1 : Int) != 0 then
    k0 false
   else
    k1
noncomputable abbrev z33_2 (c0 : Bool) : St :=
 mk [(6, .bool c0)] []
noncomputable abbrev z33_3 (c0 c1 c2 c3 c4 : Int) : St :=
 mk [(1, .int .i64 c0), (3, .ptr 0 0 0)] [.var [.int .i64 c1, .int .i64 c2, .int .i64 c3, .int .i64 c4]]
noncomputable abbrev q33_0 : List Code := codesAt Try.prog 33 [[1, 0, 1], [1, 1, 0, 0], [1, 1, 0, 1]]
theorem s_starfree_validNode_2_eq (C : CallF) (i letters : Int) (t14 : Bool) (ns_0 ns_1 ns_2 ns_3 : Int) {β : Type} (K : Out → St → Option β) :
 execL Try.prog ann C 33 48 0 (q33_0) (z33_0 i letters t14 ns_0 ns_1 ns_2 ns_3) K =
  s_starfree_validNode_2 C letters t14 ns_0 ns_1
   (fun (t60 : Bool) => K .ret (z33_2 t60))
   (K .norm (z33_3 i ns_0 ns_1 ns_2 ns_3)) := by kernel_rfl
noncomputable def s_starfree_validNode_3 (C : CallF) (i ns_0 ns_2 ns_3 : Int) {β : Type} (k0 : Bool → Option β) : Option β :=
 (C F_starfree_parts [.int .i64 ns_0] []).bind fun r17 =>
  (C F_starfree_validPart [.int .i64 ns_2, .int .i64 i, .bool (decide ((r17.1.toInt : Int) ≥ 1))] []).bind fun r18 =>
   bif r18.1.toBool then
    (C F_starfree_parts [.int .i64 ns_0] []).bind fun r19 =>
     (C F_starfree_validPart [.int .i64 ns_3, .int .i64 i, .bool ((r19.1.toInt : Int) == 2)] []).bind fun r20 =>
      k0 r20.1.toBool
   else
    k0 false
noncomputable abbrev q33_1 : List Code := codesAt Try.prog 33 [[1, 1, 1, 0], [1, 1, 1, 1]]
theorem s_starfree_validNode_3_eq (C : CallF) (i ns_0 ns_1 ns_2 ns_3 : Int) {β : Type} (K : Out → St → Option β) :
 execL Try.prog ann C 33 48 0 (q33_1) (z33_3 i ns_0 ns_1 ns_2 ns_3) K =
  s_starfree_validNode_3 C i ns_0 ns_2 ns_3
   (fun (t60 : Bool) => K .ret (z33_2 t60)) := by kernel_rfl
noncomputable def d33_4 (C : CallF) (i letters : Int) (t14 : Bool) (ns_0 ns_1 ns_2 ns_3 : Int) {β : Type} (k0 : Bool → Option β) : Option β :=
 s_starfree_validNode_2 C letters t14 ns_0 ns_1
  (fun (t_21 : Bool) =>
   k0 t_21)
  (
   s_starfree_validNode_3 C i ns_0 ns_2 ns_3
    (fun (t_22 : Bool) =>
     k0 t_22))
noncomputable abbrev q33_2 : List Code := codesAt Try.prog 33 [[1, 0, 1], [1, 1, 0, 0], [1, 1, 0, 1], [1, 1, 1, 0], [1, 1, 1, 1]]
theorem h33_4_eq (C : CallF) (i letters : Int) (t14 : Bool) (ns_0 ns_1 ns_2 ns_3 : Int) {β : Type} (K : Out → St → Option β) :
 execL Try.prog ann C 33 48 0 (q33_2) (z33_0 i letters t14 ns_0 ns_1 ns_2 ns_3) K =
  d33_4 C i letters t14 ns_0 ns_1 ns_2 ns_3
   (fun (t60 : Bool) => K .ret (z33_2 t60)) := by
 refine Eq.trans (execL_app (P := Try.prog) (A := ann) (C := C) (f := 33) (n := 48) (m := 0) (q33_0) (q33_1) (st := z33_0 i letters t14 ns_0 ns_1 ns_2 ns_3) (K := K)) (Eq.trans (s_starfree_validNode_2_eq C i letters t14 ns_0 ns_1 ns_2 ns_3 (seqK Try.prog ann C 33 48 0 (q33_1) K)) ?_)
 · exact Eq.trans (by kernel_rfl) (Eq.trans (congrArg (fun HOLE : Option β => s_starfree_validNode_2 C letters t14 ns_0 ns_1 (fun (t60 : Bool) => K .ret (z33_2 t60)) HOLE) (s_starfree_validNode_3_eq C i ns_0 ns_1 ns_2 ns_3 K)) ((by kernel_rfl)))
noncomputable def d33_5 (C : CallF) (n_Op n_Letter n_A n_B i letters : Int) {β : Type} (k0 : Bool → Option β) : Option β :=
 s_starfree_validNode_1 C n_Op
  (fun (t_25 : Bool) =>
   d33_4 C i letters t_25 n_Op n_Letter n_A n_B
    (fun (t_26 : Bool) =>
     k0 t_26))
noncomputable abbrev q33_3 : List Code := codesAt Try.prog 33 [[0], [1, 0, 0], [1, 0, 1], [1, 1, 0, 0], [1, 1, 0, 1], [1, 1, 1, 0], [1, 1, 1, 1]]
theorem h33_5_eq (C : CallF) (n_Op n_Letter n_A n_B i letters : Int) {β : Type} (K : Out → St → Option β) :
 execL Try.prog ann C 33 48 0 (q33_3) (z33_1 n_Op n_Letter n_A n_B i letters) K =
  d33_5 C n_Op n_Letter n_A n_B i letters
   (fun (t60 : Bool) => K .ret (z33_2 t60)) := by
 refine Eq.trans (execL_app (P := Try.prog) (A := ann) (C := C) (f := 33) (n := 48) (m := 0) (codesAt Try.prog 33 [[0], [1, 0, 0]]) (q33_2) (st := z33_1 n_Op n_Letter n_A n_B i letters) (K := K)) (Eq.trans (s_starfree_validNode_1_eq C n_Op n_Letter n_A n_B i letters (seqK Try.prog ann C 33 48 0 (q33_2) K)) ?_)
 · exact Eq.trans (by kernel_rfl) (Eq.trans (congrArg (fun HOLE : Bool → Option β => s_starfree_validNode_1 C n_Op HOLE) (funext fun (t140 : Bool) => h33_4_eq C i letters t140 n_Op n_Letter n_A n_B K)) ((by kernel_rfl)))
noncomputable def f_starfree_validNode (C : CallF) (n_Op n_Letter n_A n_B i letters : Int) : Option (V × List V) :=
 s_starfree_validNode_1 C n_Op
  (fun (t_27 : Bool) =>
   s_starfree_validNode_2 C letters t_27 n_Op n_Letter
    (fun (t_23 : Bool) =>
     some (.bool t_23, []))
    (
     s_starfree_validNode_3 C i n_Op n_A n_B
      (fun (t_24 : Bool) =>
       some (.bool t_24, []))))
theorem f_starfree_validNode_eq (C : CallF) (n_Op n_Letter n_A n_B i letters : Int) : bodyK Try.prog ann C 33 [.agg [.int .i64 n_Op, .int .i64 n_Letter, .int .i64 n_A, .int .i64 n_B], .int .i64 i, .int .i64 letters] [] = f_starfree_validNode C n_Op n_Letter n_A n_B i letters :=
 Eq.trans (bodyK_fin (by kernel_rfl)) (Eq.trans (execK_items (by kernel_rfl)) (Eq.trans (h33_5_eq C n_Op n_Letter n_A n_B i letters (finK Try.prog ann C 33 [])) (by kernel_rfl)))
theorem f_starfree_validNode_of {n_Op : Int} {n_Letter : Int} {n_A : Int} {n_B : Int} {i : Int} {letters : Int} {r : V × List V} (h : f_starfree_validNode CC n_Op n_Letter n_A n_B i letters = some r) : CC F_starfree_validNode [.agg [.int .i64 n_Op, .int .i64 n_Letter, .int .i64 n_A, .int .i64 n_B], .int .i64 i, .int .i64 letters] [] = some r :=
 Call_of_body ((bodyK_eq ..).trans ((f_starfree_validNode_eq ..).trans h))
end Go.AM

set_option maxRecDepth 100000
namespace Go.AM
open Go.Proofs
/-! semigroup/starfree.Validate -/
noncomputable def s_starfree_Validate_1 (C : CallF) (letters : Int) {β : Type} (k0 : Bool → Option β) : Option β :=
 bif decide ((letters : Int) < 1) then
  k0 true
 else
  k0 (decide ((letters : Int) > 6))
noncomputable abbrev z20_0 (c0 : Int) (c1 : Bool) (c2 : List V) (c3 : Int) : St :=
 mk [(1, .int .i64 c0), (2, .ptr 0 0 0), (12, .bool c1)] [.var [.list T_api_SfNode c2, .int .i64 c3]]
noncomputable abbrev z20_1 (c0 : List V) (c1 c2 : Int) : St :=
 mk [(0, .agg [.list T_api_SfNode c0, .int .i64 c1]), (1, .int .i64 c2)] []
theorem s_starfree_Validate_1_eq (C : CallF) (g_Nodes : List V) (g_Root letters : Int) {β : Type} (K : Out → St → Option β) :
 execL Try.prog ann C 20 42 0 (codesAt Try.prog 20 [[0], [1, 0, 0]]) (z20_1 g_Nodes g_Root letters) K =
  s_starfree_Validate_1 C letters
   (fun (t120 : Bool) => K .norm (z20_0 letters t120 g_Nodes g_Root)) := by kernel_rfl
noncomputable def s_starfree_Validate_2 (C : CallF) (t12 : Bool) (gs_0 : List V) {β : Type} (k0 : Int → Option β) (k1 : Option β) : Option β :=
 bif t12 then
  k0 1
 else
  bif decide (((gs_0.length : Int) : Int) > 20000) then
   k0 3
  else
   k1
noncomputable abbrev z20_2 (c0 : Int) : St :=
 mk [(4, .int .i64 c0)] []
noncomputable abbrev z20_3 (c0 : Int) (c1 : List V) (c2 c3 : Int) (c4 : List V) (c5 : Int) : St :=
 mk [(1, .int .i64 c0), (2, .ptr 0 0 0), (18, .list T_api_SfNode c1), (19, .int .i64 c2), (20, .int .i64 c3)] [.var [.list T_api_SfNode c4, .int .i64 c5]]
noncomputable abbrev q20_0 : List Code := codesAt Try.prog 20 [[1, 0, 1], [1, 1, 0, 0], [1, 1, 0, 1], [1, 1, 1, 0, 0]]
theorem s_starfree_Validate_2_eq (C : CallF) (letters : Int) (t12 : Bool) (gs_0 : List V) (gs_1 : Int) {β : Type} (K : Out → St → Option β) :
 execL Try.prog ann C 20 42 0 (q20_0) (z20_0 letters t12 gs_0 gs_1) K =
  s_starfree_Validate_2 C t12 gs_0
   (fun (t40 : Int) => K .ret (z20_2 t40))
   (K .norm (z20_3 letters gs_0 (gs_0.length : Int) 0 gs_0 gs_1)) := by kernel_rfl
noncomputable def d20_3 (C : CallF) (letters : Int) (t18 : List V) (t19 t20 : Int) {β : Type} (k0 : Option β) (k1 : Option β) (k2 : Option β) : Option β :=
 bif decide ((t20 : Int) < t19) then
  (idx t18 t20).bind fun x3 =>
   (C F_starfree_validNode [.agg [.int .i64 ((x3.cell 0).toInt), .int .i64 ((x3.cell 1).toInt), .int .i64 ((x3.cell 2).toInt), .int .i64 ((x3.cell 3).toInt)], .int .i64 t20, .int .i64 letters] []).bind fun r4 =>
    bif !r4.1.toBool then
     k0
    else
     k1
 else
  k2
noncomputable abbrev z20_4 (c0 : Int) (c1 : List V) (c2 c3 : Int) (c4 : Bool) (c5 : List V) (c6 : Int) : St :=
 mk [(1, .int .i64 c0), (2, .ptr 0 0 0), (18, .list T_api_SfNode c1), (19, .int .i64 c2), (20, .int .i64 c3), (21, .bool c4)] [.var [.list T_api_SfNode c5, .int .i64 c6]]
noncomputable abbrev q20_1 : List Code := codesAt Try.prog 20 [[1, 1, 1, 0, 1, 0, 0, 0], [1, 1, 1, 0, 1, 0, 0, 1, 0], [1, 1, 1, 0, 1, 0, 0, 1, 1, 0], [1, 1, 1, 0, 1, 0, 0, 1, 1, 1]]
theorem h20_3_eq (C : CallF) (letters : Int) (t18 : List V) (t19 t20 : Int) (gs_0 : List V) (gs_1 : Int) {β : Type} (K : Out → St → Option β) :
 execL Try.prog ann C 20 42 0 (q20_1) (z20_3 letters t18 t19 t20 gs_0 gs_1) K =
  d20_3 C letters t18 t19 t20
   (K .ret (z20_2 22))
   (K .norm (z20_3 letters t18 t19 (IntKind.wrap .i64 (t20 + 1)) gs_0 gs_1))
   (K (.exit 0) (z20_4 letters t18 t19 t20 (decide ((t20 : Int) < t19)) gs_0 gs_1)) := by kernel_rfl
noncomputable def s_starfree_Validate_4L_step (C : CallF) (letters : Int) (t18 : List V) (t19 : Int) : (Int) → Option ((Int) ⊕ ((Unit) ⊕ (Int × Bool))) := fun t20 =>
 bif decide ((t20 : Int) < t19) then
  (idx t18 t20).bind fun x3 =>
   (C F_starfree_validNode [.agg [.int .i64 ((x3.cell 0).toInt), .int .i64 ((x3.cell 1).toInt), .int .i64 ((x3.cell 2).toInt), .int .i64 ((x3.cell 3).toInt)], .int .i64 t20, .int .i64 letters] []).bind fun r4 =>
    bif !r4.1.toBool then
     some (.inr (.inl ()))
    else
     some (.inl (IntKind.wrap .i64 (t20 + 1)))
 else
  some (.inr (.inr (t20, decide ((t20 : Int) < t19))))
noncomputable def s_starfree_Validate_4L (C : CallF) (letters : Int) (t18 : List V) (t19 t20 : Int) {β : Type} (k0 : Option β) (k1 : Int → Bool → Option β) : Option β :=
 (Loop (s_starfree_Validate_4L_step C letters t18 t19) t20).bind fun
  | (.inl ()) => k0
  | (.inr (t201, t211)) => k1 t201 t211
noncomputable def s_starfree_Validate_4L_dec : Out → St → Option ((Int) ⊕ ((Unit) ⊕ (Int × Bool))) := fun o st => match o with
 | .norm => some (.inl (V.toInt (st.sl 20)))
 | .exit q => bif Nat.beq q 0 then some (.inr (.inr (V.toInt (st.sl 20), V.toBool (st.sl 21)))) else none
 | .ret => some (.inr (.inl ()))
noncomputable def s_starfree_Validate_4L_hd (letters : Int) (t18 : List V) (t19 : Int) (gs_0 : List V) (gs_1 : Int) : (Int) → St := fun t20 => z20_3 letters t18 t19 t20 gs_0 gs_1
noncomputable def s_starfree_Validate_4L_enc (letters : Int) (t18 : List V) (t19 : Int) (gs_0 : List V) (gs_1 : Int) : ((Unit) ⊕ (Int × Bool)) → Out × St := fun
 | (.inl ()) => (.ret, z20_2 22)
 | (.inr (t201, t211)) => (.exit 0, z20_4 letters t18 t19 t201 t211 gs_0 gs_1)
theorem s_starfree_Validate_4L_eq (C : CallF) (letters : Int) (t18 : List V) (t19 t20 : Int) (gs_0 : List V) (gs_1 : Int) {β : Type} (K : Out → St → Option β) :
 execL Try.prog ann C 20 42 0 (codesAt Try.prog 20 [[1, 1, 1, 0, 1, 0]]) (z20_3 letters t18 t19 t20 gs_0 gs_1) K =
  s_starfree_Validate_4L C letters t18 t19 t20
   (K .ret (z20_2 22))
   (fun (t201 : Int) (t211 : Bool) => K (.exit 0) (z20_4 letters t18 t19 t201 t211 gs_0 gs_1)) := by
 have hitems : flatC (codeAt [1, 1, 1, 0, 1, 0, 0] (bodyOf Try.prog 20)) = q20_1 := by kernel_rfl
 have hloop : [codeAt [1, 1, 1, 0, 1, 0] (bodyOf Try.prog 20)] = [Code.loop (codeAt [1, 1, 1, 0, 1, 0, 0] (bodyOf Try.prog 20))] := by kernel_rfl
 have h := loopK_eq (P := Try.prog) (A := ann) (C := C) (f := 20) (n := 42) (m := 0) (c := codeAt [1, 1, 1, 0, 1, 0, 0] (bodyOf Try.prog 20)) (s_starfree_Validate_4L_hd letters t18 t19 gs_0 gs_1) (s_starfree_Validate_4L_enc letters t18 t19 gs_0 gs_1) s_starfree_Validate_4L_dec (s_starfree_Validate_4L_step C letters t18 t19)
  (by rintro t20; exact Eq.trans (execK_items hitems) (Eq.trans (h20_3_eq C letters t18 t19 t20 gs_0 gs_1 s_starfree_Validate_4L_dec) (by kernel_rfl)))
  (by rintro t20; exact Eq.trans (execK_items hitems) (Eq.trans (h20_3_eq C letters t18 t19 t20 gs_0 gs_1 (fun o st => some (o, st))) (Eq.trans (by kernel_rfl) (Eq.trans (h20_3_eq C letters t18 t19 t20 gs_0 gs_1 (fun o st => (s_starfree_Validate_4L_dec o st).map (outS (s_starfree_Validate_4L_hd letters t18 t19 gs_0 gs_1) (s_starfree_Validate_4L_enc letters t18 t19 gs_0 gs_1)))).symm (execK_items hitems).symm))))
  (by intro r; rcases r with r | r <;> intro h <;> cases h) t20 K
 refine Eq.trans (congrArg (fun l => execL Try.prog ann C 20 42 0 l (z20_3 letters t18 t19 t20 gs_0 gs_1) K) hloop) (Eq.trans h ?_)
 · refine congrArg _ (funext fun r => ?_)
   rcases r with r | r <;> rfl
noncomputable def d20_5 (C : CallF) (letters : Int) (t18 : List V) (t19 t20 : Int) {β : Type} (k0 : Option β) (k1 : Option β) : Option β :=
 s_starfree_Validate_4L C letters t18 t19 t20
  (
   k0)
  (fun (t_5 : Int) (t_6 : Bool) =>
   k1)
noncomputable abbrev z20_5 (c0 : List V) (c1 : Int) : St :=
 mk [(2, .ptr 0 0 0)] [.var [.list T_api_SfNode c0, .int .i64 c1]]
theorem h20_5_eq (C : CallF) (letters : Int) (t18 : List V) (t19 t20 : Int) (gs_0 : List V) (gs_1 : Int) {β : Type} (K : Out → St → Option β) :
 execL Try.prog ann C 20 42 0 (codesAt Try.prog 20 [[1, 1, 1, 0, 1]]) (z20_3 letters t18 t19 t20 gs_0 gs_1) K =
  d20_5 C letters t18 t19 t20
   (K .ret (z20_2 22))
   (K .norm (z20_5 gs_0 gs_1)) := Eq.trans (execL_block (P := Try.prog) (A := ann) (C := C) (f := 20) (n := 42) (m := 0) (id := 0) (c := codeAt [1, 1, 1, 0, 1] (bodyOf Try.prog 20)) (d := codeAt [1, 1, 1, 0, 1, 0] (bodyOf Try.prog 20)) (l := codesAt Try.prog 20 [[1, 1, 1, 0, 1, 0]]) (st := z20_3 letters t18 t19 t20 gs_0 gs_1) (K := K) (by kernel_rfl) (by kernel_rfl)) (Eq.trans (s_starfree_Validate_4L_eq C letters t18 t19 t20 gs_0 gs_1 (blockK ann 20 0 0 K)) (by kernel_rfl))
noncomputable def s_starfree_Validate_6 (C : CallF) (gs_0 : List V) (gs_1 : Int) {β : Type} (k0 : Int → Option β) : Option β :=
 bif decide ((gs_1 : Int) < 0) then
  k0 22
 else
  bif decide ((gs_1 : Int) ≥ (gs_0.length : Int)) then
   k0 22
  else
   k0 0
noncomputable abbrev q20_2 : List Code := codesAt Try.prog 20 [[1, 1, 1, 1, 0, 0], [1, 1, 1, 1, 0, 1], [1, 1, 1, 1, 1, 0], [1, 1, 1, 1, 1, 1]]
theorem s_starfree_Validate_6_eq (C : CallF) (gs_0 : List V) (gs_1 : Int) {β : Type} (K : Out → St → Option β) :
 execL Try.prog ann C 20 42 0 (q20_2) (z20_5 gs_0 gs_1) K =
  s_starfree_Validate_6 C gs_0 gs_1
   (fun (t40 : Int) => K .ret (z20_2 t40)) := by kernel_rfl
noncomputable def d20_7 (C : CallF) (letters : Int) (t18 : List V) (t19 t20 : Int) (gs_0 : List V) (gs_1 : Int) {β : Type} (k0 : Int → Option β) : Option β :=
 d20_5 C letters t18 t19 t20
  (
   k0 22)
  (
   s_starfree_Validate_6 C gs_0 gs_1
    (fun (t_9 : Int) =>
     k0 t_9))
noncomputable abbrev q20_3 : List Code := codesAt Try.prog 20 [[1, 1, 1, 0, 1], [1, 1, 1, 1, 0, 0], [1, 1, 1, 1, 0, 1], [1, 1, 1, 1, 1, 0], [1, 1, 1, 1, 1, 1]]
theorem h20_7_eq (C : CallF) (letters : Int) (t18 : List V) (t19 t20 : Int) (gs_0 : List V) (gs_1 : Int) {β : Type} (K : Out → St → Option β) :
 execL Try.prog ann C 20 42 0 (q20_3) (z20_3 letters t18 t19 t20 gs_0 gs_1) K =
  d20_7 C letters t18 t19 t20 gs_0 gs_1
   (fun (t40 : Int) => K .ret (z20_2 t40)) := by
 refine Eq.trans (execL_app (P := Try.prog) (A := ann) (C := C) (f := 20) (n := 42) (m := 0) (codesAt Try.prog 20 [[1, 1, 1, 0, 1]]) (q20_2) (st := z20_3 letters t18 t19 t20 gs_0 gs_1) (K := K)) (Eq.trans (h20_5_eq C letters t18 t19 t20 gs_0 gs_1 (seqK Try.prog ann C 20 42 0 (q20_2) K)) ?_)
 · exact Eq.trans (by kernel_rfl) (Eq.trans (congrArg (fun HOLE : Option β => d20_5 C letters t18 t19 t20 (K .ret (z20_2 22)) HOLE) (s_starfree_Validate_6_eq C gs_0 gs_1 K)) ((by kernel_rfl)))
noncomputable def d20_8 (C : CallF) (letters : Int) (t12 : Bool) (gs_0 : List V) (gs_1 : Int) {β : Type} (k0 : Int → Option β) : Option β :=
 s_starfree_Validate_2 C t12 gs_0
  (fun (t_11 : Int) =>
   k0 t_11)
  (
   d20_7 C letters gs_0 (gs_0.length : Int) 0 gs_0 gs_1
    (fun (t_12 : Int) =>
     k0 t_12))
noncomputable abbrev q20_4 : List Code := codesAt Try.prog 20 [[1, 0, 1], [1, 1, 0, 0], [1, 1, 0, 1], [1, 1, 1, 0, 0], [1, 1, 1, 0, 1], [1, 1, 1, 1, 0, 0], [1, 1, 1, 1, 0, 1], [1, 1, 1, 1, 1, 0], [1, 1, 1, 1, 1, 1]]
theorem h20_8_eq (C : CallF) (letters : Int) (t12 : Bool) (gs_0 : List V) (gs_1 : Int) {β : Type} (K : Out → St → Option β) :
 execL Try.prog ann C 20 42 0 (q20_4) (z20_0 letters t12 gs_0 gs_1) K =
  d20_8 C letters t12 gs_0 gs_1
   (fun (t40 : Int) => K .ret (z20_2 t40)) := by
 refine Eq.trans (execL_app (P := Try.prog) (A := ann) (C := C) (f := 20) (n := 42) (m := 0) (q20_0) (q20_3) (st := z20_0 letters t12 gs_0 gs_1) (K := K)) (Eq.trans (s_starfree_Validate_2_eq C letters t12 gs_0 gs_1 (seqK Try.prog ann C 20 42 0 (q20_3) K)) ?_)
 · exact Eq.trans (by kernel_rfl) (Eq.trans (congrArg (fun HOLE : Option β => s_starfree_Validate_2 C t12 gs_0 (fun (t40 : Int) => K .ret (z20_2 t40)) HOLE) (h20_7_eq C letters gs_0 (gs_0.length : Int) 0 gs_0 gs_1 K)) ((by kernel_rfl)))
noncomputable def d20_9 (C : CallF) (g_Nodes : List V) (g_Root letters : Int) {β : Type} (k0 : Int → Option β) : Option β :=
 s_starfree_Validate_1 C letters
  (fun (t_14 : Bool) =>
   d20_8 C letters t_14 g_Nodes g_Root
    (fun (t_15 : Int) =>
     k0 t_15))
noncomputable abbrev q20_5 : List Code := codesAt Try.prog 20 [[0], [1, 0, 0], [1, 0, 1], [1, 1, 0, 0], [1, 1, 0, 1], [1, 1, 1, 0, 0], [1, 1, 1, 0, 1], [1, 1, 1, 1, 0, 0], [1, 1, 1, 1, 0, 1], [1, 1, 1, 1, 1, 0], [1, 1, 1, 1, 1, 1]]
theorem h20_9_eq (C : CallF) (g_Nodes : List V) (g_Root letters : Int) {β : Type} (K : Out → St → Option β) :
 execL Try.prog ann C 20 42 0 (q20_5) (z20_1 g_Nodes g_Root letters) K =
  d20_9 C g_Nodes g_Root letters
   (fun (t40 : Int) => K .ret (z20_2 t40)) := by
 refine Eq.trans (execL_app (P := Try.prog) (A := ann) (C := C) (f := 20) (n := 42) (m := 0) (codesAt Try.prog 20 [[0], [1, 0, 0]]) (q20_4) (st := z20_1 g_Nodes g_Root letters) (K := K)) (Eq.trans (s_starfree_Validate_1_eq C g_Nodes g_Root letters (seqK Try.prog ann C 20 42 0 (q20_4) K)) ?_)
 · exact Eq.trans (by kernel_rfl) (Eq.trans (congrArg (fun HOLE : Bool → Option β => s_starfree_Validate_1 C letters HOLE) (funext fun (t120 : Bool) => h20_8_eq C letters t120 g_Nodes g_Root K)) ((by kernel_rfl)))
noncomputable def f_starfree_Validate (C : CallF) (g_Nodes : List V) (g_Root letters : Int) : Option (V × List V) :=
 s_starfree_Validate_1 C letters
  (fun (t_16 : Bool) =>
   s_starfree_Validate_2 C t_16 g_Nodes
    (fun (t_13 : Int) =>
     some (.int .i64 t_13, []))
    (
     s_starfree_Validate_4L C letters g_Nodes (g_Nodes.length : Int) 0
      (
       some (.int .i64 22, []))
      (fun (t_7 : Int) (t_8 : Bool) =>
       s_starfree_Validate_6 C g_Nodes g_Root
        (fun (t_10 : Int) =>
         some (.int .i64 t_10, [])))))
theorem f_starfree_Validate_eq (C : CallF) (g_Nodes : List V) (g_Root letters : Int) : bodyK Try.prog ann C 20 [.agg [.list T_api_SfNode g_Nodes, .int .i64 g_Root], .int .i64 letters] [] = f_starfree_Validate C g_Nodes g_Root letters :=
 Eq.trans (bodyK_fin (by kernel_rfl)) (Eq.trans (execK_items (by kernel_rfl)) (Eq.trans (h20_9_eq C g_Nodes g_Root letters (finK Try.prog ann C 20 [])) (by kernel_rfl)))
theorem f_starfree_Validate_of {g_Nodes : List V} {g_Root : Int} {letters : Int} {r : V × List V} (h : f_starfree_Validate CC g_Nodes g_Root letters = some r) : CC F_starfree_Validate [.agg [.list T_api_SfNode g_Nodes, .int .i64 g_Root], .int .i64 letters] [] = some r :=
 Call_of_body ((bodyK_eq ..).trans ((f_starfree_Validate_eq ..).trans h))
end Go.AM

set_option maxRecDepth 100000
namespace Go.AM
open Go.Proofs
/-! semigroup/word.Valid -/
noncomputable def s_word_Valid_1 (C : CallF) (w : List UInt8) (letters : Int) {β : Type} (k0 : Bool → Option β) : Option β :=
 bif decide ((letters : Int) < 1) then
  k0 true
 else
  bif decide ((letters : Int) > 6) then
   k0 true
  else
   k0 (decide (((w.length : Int) : Int) > 2048))
noncomputable abbrev z23_0 (c0 : List UInt8) (c1 : Int) (c2 : Bool) : St :=
 mk [(0, .str c0), (1, .int .i64 c1), (16, .bool c2)] []
noncomputable abbrev z23_1 (c0 : List UInt8) (c1 : Int) : St :=
 mk [(0, .str c0), (1, .int .i64 c1)] []
theorem s_word_Valid_1_eq (C : CallF) (w : List UInt8) (letters : Int) {β : Type} (K : Out → St → Option β) :
 execL Try.prog ann C 23 36 0 (codesAt Try.prog 23 [[0], [1, 0, 0]]) (z23_1 w letters) K =
  s_word_Valid_1 C w letters
   (fun (t160 : Bool) => K .norm (z23_0 w letters t160)) := by kernel_rfl
noncomputable def d23_2 (C : CallF) (t16 : Bool) {β : Type} (k0 : Bool → Option β) (k1 : Option β) : Option β :=
 bif t16 then
  k0 false
 else
  k1
noncomputable abbrev z23_2 (c0 : Bool) : St :=
 mk [(4, .bool c0)] []
noncomputable abbrev z23_3 (c0 : List UInt8) (c1 c2 c3 : Int) : St :=
 mk [(0, .str c0), (1, .int .i64 c1), (18, .int .i64 c2), (19, .int .i64 c3)] []
noncomputable abbrev q23_0 : List Code := codesAt Try.prog 23 [[1, 0, 1], [1, 1, 0, 0]]
theorem h23_2_eq (C : CallF) (w : List UInt8) (letters : Int) (t16 : Bool) {β : Type} (K : Out → St → Option β) :
 execL Try.prog ann C 23 36 0 (q23_0) (z23_0 w letters t16) K =
  d23_2 C t16
   (fun (t40 : Bool) => K .ret (z23_2 t40))
   (K .norm (z23_3 w letters (w.length : Int) 0)) := by kernel_rfl
noncomputable def s_word_Valid_3 (C : CallF) (w : List UInt8) (letters t18 t19 : Int) {β : Type} (k0 : Bool → Option β) (k1 : Option β) (k2 : Option β) : Option β :=
 bif decide ((t19 : Int) < t18) then
  (bif decide (0 ≤ t19) then (w[(t19 : Int).toNat]?).map fun b => V.int .u8 b.toNat else none).bind fun x3 =>
   bif decide ((x3.toInt : Int) < 97) then
    k0 false
   else
    (bif decide (0 ≤ t19) then (w[(t19 : Int).toNat]?).map fun b => V.int .u8 b.toNat else none).bind fun x4 =>
     bif decide (((IntKind.wrap .i64 (IntKind.wrap .u8 (x4.toInt - 97))) : Int) ≥ letters) then
      k0 false
     else
      k1
 else
  k2
noncomputable abbrev z23_4 (c0 : List UInt8) (c1 c2 c3 : Int) (c4 : Bool) : St :=
 mk [(0, .str c0), (1, .int .i64 c1), (18, .int .i64 c2), (19, .int .i64 c3), (20, .bool c4)] []
noncomputable abbrev q23_1 : List Code := codesAt Try.prog 23 [[1, 1, 0, 1, 0, 0, 0], [1, 1, 0, 1, 0, 0, 1, 0], [1, 1, 0, 1, 0, 0, 1, 1, 0], [1, 1, 0, 1, 0, 0, 1, 1, 1]]
theorem s_word_Valid_3_eq (C : CallF) (w : List UInt8) (letters t18 t19 : Int) {β : Type} (K : Out → St → Option β) :
 execL Try.prog ann C 23 36 0 (q23_1) (z23_3 w letters t18 t19) K =
  s_word_Valid_3 C w letters t18 t19
   (fun (t40 : Bool) => K .ret (z23_2 t40))
   (K .norm (z23_3 w letters t18 (IntKind.wrap .i64 (t19 + 1))))
   (K (.exit 0) (z23_4 w letters t18 t19 (decide ((t19 : Int) < t18)))) := by kernel_rfl
noncomputable def s_word_Valid_4L_step (C : CallF) (w : List UInt8) (letters t18 : Int) : (Int) → Option ((Int) ⊕ ((Bool) ⊕ (Int × Bool))) := fun t19 =>
 s_word_Valid_3 C w letters t18 t19
  (fun (t_5 : Bool) =>
   some (.inr (.inl t_5)))
  (
   some (.inl (IntKind.wrap .i64 (t19 + 1))))
  (
   some (.inr (.inr (t19, decide ((t19 : Int) < t18)))))
noncomputable def s_word_Valid_4L (C : CallF) (w : List UInt8) (letters t18 t19 : Int) {β : Type} (k0 : Bool → Option β) (k1 : Int → Bool → Option β) : Option β :=
 (Loop (s_word_Valid_4L_step C w letters t18) t19).bind fun
  | (.inl t40) => k0 t40
  | (.inr (t191, t201)) => k1 t191 t201
noncomputable def s_word_Valid_4L_dec : Out → St → Option ((Int) ⊕ ((Bool) ⊕ (Int × Bool))) := fun o st => match o with
 | .norm => some (.inl (V.toInt (st.sl 19)))
 | .exit q => bif Nat.beq q 0 then some (.inr (.inr (V.toInt (st.sl 19), V.toBool (st.sl 20)))) else none
 | .ret => some (.inr (.inl (V.toBool (st.sl 4))))
noncomputable def s_word_Valid_4L_hd (w : List UInt8) (letters t18 : Int) : (Int) → St := fun t19 => z23_3 w letters t18 t19
noncomputable def s_word_Valid_4L_enc (w : List UInt8) (letters t18 : Int) : ((Bool) ⊕ (Int × Bool)) → Out × St := fun
 | (.inl t40) => (.ret, z23_2 t40)
 | (.inr (t191, t201)) => (.exit 0, z23_4 w letters t18 t191 t201)
theorem s_word_Valid_4L_eq (C : CallF) (w : List UInt8) (letters t18 t19 : Int) {β : Type} (K : Out → St → Option β) :
 execL Try.prog ann C 23 36 0 (codesAt Try.prog 23 [[1, 1, 0, 1, 0]]) (z23_3 w letters t18 t19) K =
  s_word_Valid_4L C w letters t18 t19
   (fun (t40 : Bool) => K .ret (z23_2 t40))
   (fun (t191 : Int) (t201 : Bool) => K (.exit 0) (z23_4 w letters t18 t191 t201)) := by
 have hitems : flatC (codeAt [1, 1, 0, 1, 0, 0] (bodyOf Try.prog 23)) = q23_1 := by kernel_rfl
 have hloop : [codeAt [1, 1, 0, 1, 0] (bodyOf Try.prog 23)] = [Code.loop (codeAt [1, 1, 0, 1, 0, 0] (bodyOf Try.prog 23))] := by kernel_rfl
 have h := loopK_eq (P := Try.prog) (A := ann) (C := C) (f := 23) (n := 36) (m := 0) (c := codeAt [1, 1, 0, 1, 0, 0] (bodyOf Try.prog 23)) (s_word_Valid_4L_hd w letters t18) (s_word_Valid_4L_enc w letters t18) s_word_Valid_4L_dec (s_word_Valid_4L_step C w letters t18)
  (by rintro t19; exact Eq.trans (execK_items hitems) (Eq.trans (s_word_Valid_3_eq C w letters t18 t19 s_word_Valid_4L_dec) (by kernel_rfl)))
  (by rintro t19; exact Eq.trans (execK_items hitems) (Eq.trans (s_word_Valid_3_eq C w letters t18 t19 (fun o st => some (o, st))) (Eq.trans (by kernel_rfl) (Eq.trans (s_word_Valid_3_eq C w letters t18 t19 (fun o st => (s_word_Valid_4L_dec o st).map (outS (s_word_Valid_4L_hd w letters t18) (s_word_Valid_4L_enc w letters t18)))).symm (execK_items hitems).symm))))
  (by intro r; rcases r with r | r <;> intro h <;> cases h) t19 K
 refine Eq.trans (congrArg (fun l => execL Try.prog ann C 23 36 0 l (z23_3 w letters t18 t19) K) hloop) (Eq.trans h ?_)
 · refine congrArg _ (funext fun r => ?_)
   rcases r with r | r <;> rfl
noncomputable def d23_5 (C : CallF) (w : List UInt8) (letters t18 t19 : Int) {β : Type} (k0 : Bool → Option β) (k1 : Option β) : Option β :=
 s_word_Valid_4L C w letters t18 t19
  (fun (t_6 : Bool) =>
   k0 t_6)
  (fun (t_7 : Int) (t_8 : Bool) =>
   k1)
noncomputable abbrev z23_5  : St :=
 mk [] []
theorem h23_5_eq (C : CallF) (w : List UInt8) (letters t18 t19 : Int) {β : Type} (K : Out → St → Option β) :
 execL Try.prog ann C 23 36 0 (codesAt Try.prog 23 [[1, 1, 0, 1]]) (z23_3 w letters t18 t19) K =
  d23_5 C w letters t18 t19
   (fun (t40 : Bool) => K .ret (z23_2 t40))
   (K .norm (z23_5)) := Eq.trans (execL_block (P := Try.prog) (A := ann) (C := C) (f := 23) (n := 36) (m := 0) (id := 0) (c := codeAt [1, 1, 0, 1] (bodyOf Try.prog 23)) (d := codeAt [1, 1, 0, 1, 0] (bodyOf Try.prog 23)) (l := codesAt Try.prog 23 [[1, 1, 0, 1, 0]]) (st := z23_3 w letters t18 t19) (K := K) (by kernel_rfl) (by kernel_rfl)) (Eq.trans (s_word_Valid_4L_eq C w letters t18 t19 (blockK ann 23 0 0 K)) (by kernel_rfl))
noncomputable def d23_6 (C : CallF)  {β : Type} (k0 : Bool → Option β) : Option β :=
 k0 true
noncomputable abbrev q23_2 : List Code := codesAt Try.prog 23 [[1, 1, 1, 0], [1, 1, 1, 1]]
theorem h23_6_eq (C : CallF)  {β : Type} (K : Out → St → Option β) :
 execL Try.prog ann C 23 36 0 (q23_2) (z23_5) K =
  d23_6 C
   (fun (t40 : Bool) => K .ret (z23_2 t40)) := by kernel_rfl
noncomputable def d23_7 (C : CallF) (w : List UInt8) (letters t18 t19 : Int) {β : Type} (k0 : Bool → Option β) : Option β :=
 d23_5 C w letters t18 t19
  (fun (t_12 : Bool) =>
   k0 t_12)
  (
   d23_6 C
    (fun (t_13 : Bool) =>
     k0 t_13))
noncomputable abbrev q23_3 : List Code := codesAt Try.prog 23 [[1, 1, 0, 1], [1, 1, 1, 0], [1, 1, 1, 1]]
theorem h23_7_eq (C : CallF) (w : List UInt8) (letters t18 t19 : Int) {β : Type} (K : Out → St → Option β) :
 execL Try.prog ann C 23 36 0 (q23_3) (z23_3 w letters t18 t19) K =
  d23_7 C w letters t18 t19
   (fun (t40 : Bool) => K .ret (z23_2 t40)) := by
 refine Eq.trans (execL_app (P := Try.prog) (A := ann) (C := C) (f := 23) (n := 36) (m := 0) (codesAt Try.prog 23 [[1, 1, 0, 1]]) (q23_2) (st := z23_3 w letters t18 t19) (K := K)) (Eq.trans (h23_5_eq C w letters t18 t19 (seqK Try.prog ann C 23 36 0 (q23_2) K)) ?_)
 · exact Eq.trans (by kernel_rfl) (Eq.trans (congrArg (fun HOLE : Option β => d23_5 C w letters t18 t19 (fun (t40 : Bool) => K .ret (z23_2 t40)) HOLE) (h23_6_eq C K)) ((by kernel_rfl)))
noncomputable def d23_8 (C : CallF) (w : List UInt8) (letters : Int) (t16 : Bool) {β : Type} (k0 : Bool → Option β) : Option β :=
 d23_2 C t16
  (fun (t_14 : Bool) =>
   k0 t_14)
  (
   d23_7 C w letters (w.length : Int) 0
    (fun (t_15 : Bool) =>
     k0 t_15))
noncomputable abbrev q23_4 : List Code := codesAt Try.prog 23 [[1, 0, 1], [1, 1, 0, 0], [1, 1, 0, 1], [1, 1, 1, 0], [1, 1, 1, 1]]
theorem h23_8_eq (C : CallF) (w : List UInt8) (letters : Int) (t16 : Bool) {β : Type} (K : Out → St → Option β) :
 execL Try.prog ann C 23 36 0 (q23_4) (z23_0 w letters t16) K =
  d23_8 C w letters t16
   (fun (t40 : Bool) => K .ret (z23_2 t40)) := by
 refine Eq.trans (execL_app (P := Try.prog) (A := ann) (C := C) (f := 23) (n := 36) (m := 0) (q23_0) (q23_3) (st := z23_0 w letters t16) (K := K)) (Eq.trans (h23_2_eq C w letters t16 (seqK Try.prog ann C 23 36 0 (q23_3) K)) ?_)
 · exact Eq.trans (by kernel_rfl) (Eq.trans (congrArg (fun HOLE : Option β => d23_2 C t16 (fun (t40 : Bool) => K .ret (z23_2 t40)) HOLE) (h23_7_eq C w letters (w.length : Int) 0 K)) ((by kernel_rfl)))
noncomputable def d23_9 (C : CallF) (w : List UInt8) (letters : Int) {β : Type} (k0 : Bool → Option β) : Option β :=
 s_word_Valid_1 C w letters
  (fun (t_16 : Bool) =>
   d23_8 C w letters t_16
    (fun (t_17 : Bool) =>
     k0 t_17))
noncomputable abbrev q23_5 : List Code := codesAt Try.prog 23 [[0], [1, 0, 0], [1, 0, 1], [1, 1, 0, 0], [1, 1, 0, 1], [1, 1, 1, 0], [1, 1, 1, 1]]
theorem h23_9_eq (C : CallF) (w : List UInt8) (letters : Int) {β : Type} (K : Out → St → Option β) :
 execL Try.prog ann C 23 36 0 (q23_5) (z23_1 w letters) K =
  d23_9 C w letters
   (fun (t40 : Bool) => K .ret (z23_2 t40)) := by
 refine Eq.trans (execL_app (P := Try.prog) (A := ann) (C := C) (f := 23) (n := 36) (m := 0) (codesAt Try.prog 23 [[0], [1, 0, 0]]) (q23_4) (st := z23_1 w letters) (K := K)) (Eq.trans (s_word_Valid_1_eq C w letters (seqK Try.prog ann C 23 36 0 (q23_4) K)) ?_)
 · exact Eq.trans (by kernel_rfl) (Eq.trans (congrArg (fun HOLE : Bool → Option β => s_word_Valid_1 C w letters HOLE) (funext fun (t160 : Bool) => h23_8_eq C w letters t160 K)) ((by kernel_rfl)))
noncomputable def f_word_Valid (C : CallF) (w : List UInt8) (letters : Int) : Option (V × List V) :=
 s_word_Valid_1 C w letters
  (fun (t_18 : Bool) =>
   bif t_18 then
    some (.bool false, [])
   else
    s_word_Valid_4L C w letters (w.length : Int) 0
     (fun (t_9 : Bool) =>
      some (.bool t_9, []))
     (fun (t_10 : Int) (t_11 : Bool) =>
      some (.bool true, [])))
theorem f_word_Valid_eq (C : CallF) (w : List UInt8) (letters : Int) : bodyK Try.prog ann C 23 [.str w, .int .i64 letters] [] = f_word_Valid C w letters :=
 Eq.trans (bodyK_fin (by kernel_rfl)) (Eq.trans (execK_items (by kernel_rfl)) (Eq.trans (h23_9_eq C w letters (finK Try.prog ann C 23 [])) (by kernel_rfl)))
theorem f_word_Valid_of {w : List UInt8} {letters : Int} {r : V × List V} (h : f_word_Valid CC w letters = some r) : CC F_word_Valid [.str w, .int .i64 letters] [] = some r :=
 Call_of_body ((bodyK_eq ..).trans ((f_word_Valid_eq ..).trans h))
end Go.AM

set_option maxRecDepth 100000
namespace Go.AM
open Go.Proofs
/-! (*semigroup/semigroupmade.Tape).Graph -/
noncomputable def d9_1 (C : CallF) (t_L : List V) (t_At most : Int) {β : Type} (k0 : Int → (List V) → Int → Option β) : Option β :=
 (C F_semigroupmade_Tape_Next [.ptr 0 0 0, .int .i64 most] [.agg [.list T_int t_L, .int .i64 t_At]]).bind fun r2 =>
  k0 (IntKind.wrap .i64 (1 + r2.1.toInt)) (((V.nth r2.2 0).cell 0).toList) (((V.nth r2.2 0).cell 1).toInt)
noncomputable abbrev z9_0 (c0 c1 c2 : Int) (c3 : List V) (c4 c5 c6 : Int) (c7 c8 : List V) : St :=
 mk [(0, .ptr 0 0 0), (1, .int .i64 c0), (6, .ptr 1 0 0), (7, .ptr 2 0 0), (8, .int .i64 c1), (9, .int .i64 c2)] [.var [.list T_int c3, .int .i64 c4], .var [.whole T_api_SfNode 3, .int .i64 c5], .var [.whole T_api_SfNode 4, .int .i64 c6], .arr T_api_SfNode c7 false, .arr T_api_SfNode c8 false]
noncomputable abbrev q9_0 : List Code := codesAt Try.prog 9 [[0], [1, 0], [1, 1, 0], [1, 1, 1, 0, 0]]
noncomputable abbrev z9_1 (c0 c1 : Int) (c2 : List V) (c3 : Int) : St :=
 mk [(0, .ptr 0 0 0), (1, .int .i64 c0), (2, .int .i64 c1)] [.var [.list T_int c2, .int .i64 c3]]
theorem h9_1_eq (C : CallF) (t_L : List V) (t_At letters most : Int) {β : Type} (K : Out → St → Option β) :
 execL Try.prog ann C 9 67 1 (q9_0) (z9_1 letters most t_L t_At) K =
  d9_1 C t_L t_At most
   (fun (n0 : Int) (ts_00 : List V) (ts_10 : Int) => K .norm (z9_0 letters n0 0 ts_00 ts_10 0 0 ([] : List V) ([] : List V))) := by kernel_rfl
noncomputable def d9_2 (C : CallF) (n i : Int) {β : Type} (k0 : Option β) (k1 : Option β) : Option β :=
 bif decide ((i : Int) < n) then
  k0
 else
  k1
noncomputable abbrev z9_2 (c0 c1 c2 : Int) (c3 : Bool) (c4 : List V) (c5 c6 c7 : Int) (c8 c9 : List V) : St :=
 mk [(0, .ptr 0 0 0), (1, .int .i64 c0), (6, .ptr 1 0 0), (7, .ptr 2 0 0), (8, .int .i64 c1), (9, .int .i64 c2), (17, .bool c3)] [.var [.list T_int c4, .int .i64 c5], .var [.whole T_api_SfNode 3, .int .i64 c6], .var [.whole T_api_SfNode 4, .int .i64 c7], .arr T_api_SfNode c8 false, .arr T_api_SfNode c9 false]
noncomputable abbrev q9_1 : List Code := codesAt Try.prog 9 [[1, 1, 1, 0, 1, 0, 0, 0, 0], [1, 1, 1, 0, 1, 0, 0, 0, 1]]
theorem h9_2_eq (C : CallF) (letters n i : Int) (ts_0 : List V) (ts_1 t6s_1 gs_1 : Int) (t6_0s g_0s : List V) {β : Type} (K : Out → St → Option β) :
 execL Try.prog ann C 9 67 1 (q9_1) (z9_0 letters n i ts_0 ts_1 t6s_1 gs_1 t6_0s g_0s) K =
  d9_2 C n i
   (K .norm (z9_0 letters n i ts_0 ts_1 t6s_1 gs_1 t6_0s g_0s))
   (K (.exit 0) (z9_2 letters n i (decide ((i : Int) < n)) ts_0 ts_1 t6s_1 gs_1 t6_0s g_0s)) := by kernel_rfl
noncomputable def s_semigroupmade_Tape_Graph_3 (C : CallF) (i : Int) (ts_0 : List V) (ts_1 : Int) {β : Type} (k0 : (List V) → Int → Int → Option β) : Option β :=
 (C F_semigroupmade_Tape_Next [.ptr 0 0 0, .int .i64 8] [.agg [.list T_int ts_0, .int .i64 ts_1]]).bind fun r41 =>
  bif (i : Int) == 0 then
   (C F_semigroupmade_Mod [.int .i64 (IntKind.wrap .i64 (1 + r41.1.toInt)), .int .i64 4] []).bind fun r42 =>
    k0 (((V.nth r41.2 0).cell 0).toList) (((V.nth r41.2 0).cell 1).toInt) (IntKind.wrap .i64 (1 + r42.1.toInt))
  else
   k0 (((V.nth r41.2 0).cell 0).toList) (((V.nth r41.2 0).cell 1).toInt) (IntKind.wrap .i64 (1 + r41.1.toInt))
noncomputable abbrev z9_3 (c0 c1 c2 : Int) (c3 : List V) (c4 c5 c6 c7 c8 c9 c10 : Int) (c11 c12 : List V) : St :=
 mk [(0, .ptr 0 0 0), (1, .int .i64 c0), (6, .ptr 1 0 0), (7, .ptr 2 0 0), (8, .int .i64 c1), (9, .int .i64 c2), (10, .ptr 3 0 0)] [.var [.list T_int c3, .int .i64 c4], .var [.whole T_api_SfNode 4, .int .i64 c5], .var [.whole T_api_SfNode 5, .int .i64 c6], .var [.int .i64 c7, .int .i64 c8, .int .i64 c9, .int .i64 c10], .arr T_api_SfNode c11 false, .arr T_api_SfNode c12 false]
noncomputable abbrev q9_2 : List Code := codesAt Try.prog 9 [[1, 1, 1, 0, 1, 0, 0, 1, 0, 0, 0], [1, 1, 1, 0, 1, 0, 0, 1, 0, 0, 1, 0, 0], [1, 1, 1, 0, 1, 0, 0, 1, 0, 0, 1, 0, 1]]
theorem s_semigroupmade_Tape_Graph_3_eq (C : CallF) (letters n i : Int) (ts_0 : List V) (ts_1 t6s_1 gs_1 : Int) (t6_0s g_0s : List V) {β : Type} (K : Out → St → Option β) :
 execL Try.prog ann C 9 67 1 (q9_2) (z9_0 letters n i ts_0 ts_1 t6s_1 gs_1 t6_0s g_0s) K =
  s_semigroupmade_Tape_Graph_3 C i ts_0 ts_1
   (fun (ts_00 : List V) (ts_10 : Int) (xs_00 : Int) => K .norm (z9_3 letters n i ts_00 ts_10 t6s_1 gs_1 xs_00 0 0 0 t6_0s g_0s)) := by kernel_rfl
noncomputable def s_semigroupmade_Tape_Graph_4 (C : CallF) (letters : Int) (ts_0 : List V) (ts_1 xs_0 xs_1 : Int) {β : Type} (k0 : (List V) → Int → Int → Option β) : Option β :=
 bif (xs_0 : Int) == 3 then
  (C F_semigroupmade_Tape_Next [.ptr 0 0 0, .int .i64 letters] [.agg [.list T_int ts_0, .int .i64 ts_1]]).bind fun r51 =>
   k0 (((V.nth r51.2 0).cell 0).toList) (((V.nth r51.2 0).cell 1).toInt) r51.1.toInt
 else
  k0 ts_0 ts_1 xs_1
noncomputable abbrev q9_3 : List Code := codesAt Try.prog 9 [[1, 1, 1, 0, 1, 0, 0, 1, 0, 0, 1, 1, 0, 0], [1, 1, 1, 0, 1, 0, 0, 1, 0, 0, 1, 1, 0, 1]]
theorem s_semigroupmade_Tape_Graph_4_eq (C : CallF) (letters n i : Int) (ts_0 : List V) (ts_1 t6s_1 gs_1 xs_0 xs_1 xs_2 xs_3 : Int) (t6_0s g_0s : List V) {β : Type} (K : Out → St → Option β) :
 execL Try.prog ann C 9 67 1 (q9_3) (z9_3 letters n i ts_0 ts_1 t6s_1 gs_1 xs_0 xs_1 xs_2 xs_3 t6_0s g_0s) K =
  s_semigroupmade_Tape_Graph_4 C letters ts_0 ts_1 xs_0 xs_1
   (fun (ts_00 : List V) (ts_10 : Int) (xs_10 : Int) => K .norm (z9_3 letters n i ts_00 ts_10 t6s_1 gs_1 xs_0 xs_10 xs_2 xs_3 t6_0s g_0s)) := by kernel_rfl
noncomputable def s_semigroupmade_Tape_Graph_5 (C : CallF) (i : Int) (ts_0 : List V) (ts_1 xs_0 xs_2 : Int) {β : Type} (k0 : (List V) → Int → Int → Option β) : Option β :=
 bif decide ((xs_0 : Int) ≥ 5) then
  (C F_semigroupmade_Tape_Next [.ptr 0 0 0, .int .i64 i] [.agg [.list T_int ts_0, .int .i64 ts_1]]).bind fun r58 =>
   k0 (((V.nth r58.2 0).cell 0).toList) (((V.nth r58.2 0).cell 1).toInt) r58.1.toInt
 else
  k0 ts_0 ts_1 xs_2
noncomputable abbrev q9_4 : List Code := codesAt Try.prog 9 [[1, 1, 1, 0, 1, 0, 0, 1, 0, 0, 1, 1, 1, 0, 0], [1, 1, 1, 0, 1, 0, 0, 1, 0, 0, 1, 1, 1, 0, 1]]
theorem s_semigroupmade_Tape_Graph_5_eq (C : CallF) (letters n i : Int) (ts_0 : List V) (ts_1 t6s_1 gs_1 xs_0 xs_1 xs_2 xs_3 : Int) (t6_0s g_0s : List V) {β : Type} (K : Out → St → Option β) :
 execL Try.prog ann C 9 67 1 (q9_4) (z9_3 letters n i ts_0 ts_1 t6s_1 gs_1 xs_0 xs_1 xs_2 xs_3 t6_0s g_0s) K =
  s_semigroupmade_Tape_Graph_5 C i ts_0 ts_1 xs_0 xs_2
   (fun (ts_00 : List V) (ts_10 : Int) (xs_20 : Int) => K .norm (z9_3 letters n i ts_00 ts_10 t6s_1 gs_1 xs_0 xs_1 xs_20 xs_3 t6_0s g_0s)) := by kernel_rfl
noncomputable def s_semigroupmade_Tape_Graph_6 (C : CallF) (i : Int) (ts_0 : List V) (ts_1 xs_0 xs_1 xs_2 xs_3 : Int) (g_0s : List V) {β : Type} (k0 : (List V) → Int → (List V) → Option β) : Option β :=
 bif decide ((xs_0 : Int) ≥ 5) then
  bif (xs_0 : Int) != 8 then
   (C F_semigroupmade_Tape_Next [.ptr 0 0 0, .int .i64 i] [.agg [.list T_int ts_0, .int .i64 ts_1]]).bind fun r62 =>
    bif Nat.ble ((g_0s.length + ([.agg [.int .i64 xs_0, .int .i64 xs_1, .int .i64 xs_2, .int .i64 r62.1.toInt]] : List V).length) * 32) maxBytes then
     k0 (((V.nth r62.2 0).cell 0).toList) (((V.nth r62.2 0).cell 1).toInt) (g_0s ++ ([.agg [.int .i64 xs_0, .int .i64 xs_1, .int .i64 xs_2, .int .i64 r62.1.toInt]] : List V))
    else none
  else
   bif Nat.ble ((g_0s.length + ([.agg [.int .i64 xs_0, .int .i64 xs_1, .int .i64 xs_2, .int .i64 xs_3]] : List V).length) * 32) maxBytes then
    k0 ts_0 ts_1 (g_0s ++ ([.agg [.int .i64 xs_0, .int .i64 xs_1, .int .i64 xs_2, .int .i64 xs_3]] : List V))
   else none
 else
  bif Nat.ble ((g_0s.length + ([.agg [.int .i64 xs_0, .int .i64 xs_1, .int .i64 xs_2, .int .i64 xs_3]] : List V).length) * 32) maxBytes then
   k0 ts_0 ts_1 (g_0s ++ ([.agg [.int .i64 xs_0, .int .i64 xs_1, .int .i64 xs_2, .int .i64 xs_3]] : List V))
  else none
noncomputable abbrev q9_5 : List Code := codesAt Try.prog 9 [[1, 1, 1, 0, 1, 0, 0, 1, 0, 0, 1, 1, 1, 1, 0, 0], [1, 1, 1, 0, 1, 0, 0, 1, 0, 0, 1, 1, 1, 1, 0, 1], [1, 1, 1, 0, 1, 0, 0, 1, 0, 0, 1, 1, 1, 1, 1]]
theorem s_semigroupmade_Tape_Graph_6_eq (C : CallF) (letters n i : Int) (ts_0 : List V) (ts_1 t6s_1 gs_1 xs_0 xs_1 xs_2 xs_3 : Int) (t6_0s g_0s : List V) {β : Type} (K : Out → St → Option β) :
 execL Try.prog ann C 9 67 1 (q9_5) (z9_3 letters n i ts_0 ts_1 t6s_1 gs_1 xs_0 xs_1 xs_2 xs_3 t6_0s g_0s) K =
  s_semigroupmade_Tape_Graph_6 C i ts_0 ts_1 xs_0 xs_1 xs_2 xs_3 g_0s
   (fun (ts_00 : List V) (ts_10 : Int) (g_0s0 : List V) => K .norm (z9_0 letters n i ts_00 ts_10 t6s_1 gs_1 t6_0s g_0s0)) := by kernel_rfl
noncomputable def d9_7 (C : CallF) (i : Int) (ts_0 : List V) (ts_1 xs_0 xs_1 xs_2 xs_3 : Int) (g_0s : List V) {β : Type} (k0 : (List V) → Int → (List V) → Option β) : Option β :=
 s_semigroupmade_Tape_Graph_5 C i ts_0 ts_1 xs_0 xs_2
  (fun (ts_63 : List V) (ts_64 : Int) (xs_65 : Int) =>
   s_semigroupmade_Tape_Graph_6 C i ts_63 ts_64 xs_0 xs_1 xs_65 xs_3 g_0s
    (fun (ts_66 : List V) (ts_67 : Int) (g_0s_68 : List V) =>
     k0 ts_66 ts_67 g_0s_68))
noncomputable abbrev q9_6 : List Code := codesAt Try.prog 9 [[1, 1, 1, 0, 1, 0, 0, 1, 0, 0, 1, 1, 1, 0, 0], [1, 1, 1, 0, 1, 0, 0, 1, 0, 0, 1, 1, 1, 0, 1], [1, 1, 1, 0, 1, 0, 0, 1, 0, 0, 1, 1, 1, 1, 0, 0], [1, 1, 1, 0, 1, 0, 0, 1, 0, 0, 1, 1, 1, 1, 0, 1], [1, 1, 1, 0, 1, 0, 0, 1, 0, 0, 1, 1, 1, 1, 1]]
theorem h9_7_eq (C : CallF) (letters n i : Int) (ts_0 : List V) (ts_1 t6s_1 gs_1 xs_0 xs_1 xs_2 xs_3 : Int) (t6_0s g_0s : List V) {β : Type} (K : Out → St → Option β) :
 execL Try.prog ann C 9 67 1 (q9_6) (z9_3 letters n i ts_0 ts_1 t6s_1 gs_1 xs_0 xs_1 xs_2 xs_3 t6_0s g_0s) K =
  d9_7 C i ts_0 ts_1 xs_0 xs_1 xs_2 xs_3 g_0s
   (fun (ts_00 : List V) (ts_10 : Int) (g_0s0 : List V) => K .norm (z9_0 letters n i ts_00 ts_10 t6s_1 gs_1 t6_0s g_0s0)) := by
 refine Eq.trans (execL_app (P := Try.prog) (A := ann) (C := C) (f := 9) (n := 67) (m := 1) (q9_4) (q9_5) (st := z9_3 letters n i ts_0 ts_1 t6s_1 gs_1 xs_0 xs_1 xs_2 xs_3 t6_0s g_0s) (K := K)) (Eq.trans (s_semigroupmade_Tape_Graph_5_eq C letters n i ts_0 ts_1 t6s_1 gs_1 xs_0 xs_1 xs_2 xs_3 t6_0s g_0s (seqK Try.prog ann C 9 67 1 (q9_5) K)) ?_)
 · exact Eq.trans (by kernel_rfl) (Eq.trans (congrArg (fun HOLE : (List V) → Int → Int → Option β => s_semigroupmade_Tape_Graph_5 C i ts_0 ts_1 xs_0 xs_2 HOLE) (funext fun (ts_00 : List V) => funext fun (ts_10 : Int) => funext fun (xs_20 : Int) => s_semigroupmade_Tape_Graph_6_eq C letters n i ts_00 ts_10 t6s_1 gs_1 xs_0 xs_1 xs_20 xs_3 t6_0s g_0s K)) ((by kernel_rfl)))
noncomputable def d9_8 (C : CallF) (letters i : Int) (ts_0 : List V) (ts_1 xs_0 xs_1 xs_2 xs_3 : Int) (g_0s : List V) {β : Type} (k0 : (List V) → Int → (List V) → Option β) : Option β :=
 s_semigroupmade_Tape_Graph_4 C letters ts_0 ts_1 xs_0 xs_1
  (fun (ts_75 : List V) (ts_76 : Int) (xs_77 : Int) =>
   d9_7 C i ts_75 ts_76 xs_0 xs_77 xs_2 xs_3 g_0s
    (fun (ts_78 : List V) (ts_79 : Int) (g_0s_80 : List V) =>
     k0 ts_78 ts_79 g_0s_80))
noncomputable abbrev q9_7 : List Code := codesAt Try.prog 9 [[1, 1, 1, 0, 1, 0, 0, 1, 0, 0, 1, 1, 0, 0], [1, 1, 1, 0, 1, 0, 0, 1, 0, 0, 1, 1, 0, 1], [1, 1, 1, 0, 1, 0, 0, 1, 0, 0, 1, 1, 1, 0, 0], [1, 1, 1, 0, 1, 0, 0, 1, 0, 0, 1, 1, 1, 0, 1], [1, 1, 1, 0, 1, 0, 0, 1, 0, 0, 1, 1, 1, 1, 0, 0], [1, 1, 1, 0, 1, 0, 0, 1, 0, 0, 1, 1, 1, 1, 0, 1], [1, 1, 1, 0, 1, 0, 0, 1, 0, 0, 1, 1, 1, 1, 1]]
theorem h9_8_eq (C : CallF) (letters n i : Int) (ts_0 : List V) (ts_1 t6s_1 gs_1 xs_0 xs_1 xs_2 xs_3 : Int) (t6_0s g_0s : List V) {β : Type} (K : Out → St → Option β) :
 execL Try.prog ann C 9 67 1 (q9_7) (z9_3 letters n i ts_0 ts_1 t6s_1 gs_1 xs_0 xs_1 xs_2 xs_3 t6_0s g_0s) K =
  d9_8 C letters i ts_0 ts_1 xs_0 xs_1 xs_2 xs_3 g_0s
   (fun (ts_00 : List V) (ts_10 : Int) (g_0s0 : List V) => K .norm (z9_0 letters n i ts_00 ts_10 t6s_1 gs_1 t6_0s g_0s0)) := by
 refine Eq.trans (execL_app (P := Try.prog) (A := ann) (C := C) (f := 9) (n := 67) (m := 1) (q9_3) (q9_6) (st := z9_3 letters n i ts_0 ts_1 t6s_1 gs_1 xs_0 xs_1 xs_2 xs_3 t6_0s g_0s) (K := K)) (Eq.trans (s_semigroupmade_Tape_Graph_4_eq C letters n i ts_0 ts_1 t6s_1 gs_1 xs_0 xs_1 xs_2 xs_3 t6_0s g_0s (seqK Try.prog ann C 9 67 1 (q9_6) K)) ?_)
 · exact Eq.trans (by kernel_rfl) (Eq.trans (congrArg (fun HOLE : (List V) → Int → Int → Option β => s_semigroupmade_Tape_Graph_4 C letters ts_0 ts_1 xs_0 xs_1 HOLE) (funext fun (ts_00 : List V) => funext fun (ts_10 : Int) => funext fun (xs_10 : Int) => h9_7_eq C letters n i ts_00 ts_10 t6s_1 gs_1 xs_0 xs_10 xs_2 xs_3 t6_0s g_0s K)) ((by kernel_rfl)))
noncomputable def d9_9 (C : CallF) (letters i : Int) (ts_0 : List V) (ts_1 : Int) (g_0s : List V) {β : Type} (k0 : (List V) → Int → (List V) → Option β) : Option β :=
 s_semigroupmade_Tape_Graph_3 C i ts_0 ts_1
  (fun (ts_84 : List V) (ts_85 : Int) (xs_86 : Int) =>
   d9_8 C letters i ts_84 ts_85 xs_86 0 0 0 g_0s
    (fun (ts_87 : List V) (ts_88 : Int) (g_0s_89 : List V) =>
     k0 ts_87 ts_88 g_0s_89))
noncomputable abbrev q9_8 : List Code := codesAt Try.prog 9 [[1, 1, 1, 0, 1, 0, 0, 1, 0, 0, 0], [1, 1, 1, 0, 1, 0, 0, 1, 0, 0, 1, 0, 0], [1, 1, 1, 0, 1, 0, 0, 1, 0, 0, 1, 0, 1], [1, 1, 1, 0, 1, 0, 0, 1, 0, 0, 1, 1, 0, 0], [1, 1, 1, 0, 1, 0, 0, 1, 0, 0, 1, 1, 0, 1], [1, 1, 1, 0, 1, 0, 0, 1, 0, 0, 1, 1, 1, 0, 0], [1, 1, 1, 0, 1, 0, 0, 1, 0, 0, 1, 1, 1, 0, 1], [1, 1, 1, 0, 1, 0, 0, 1, 0, 0, 1, 1, 1, 1, 0, 0], [1, 1, 1, 0, 1, 0, 0, 1, 0, 0, 1, 1, 1, 1, 0, 1], [1, 1, 1, 0, 1, 0, 0, 1, 0, 0, 1, 1, 1, 1, 1]]
theorem h9_9_eq (C : CallF) (letters n i : Int) (ts_0 : List V) (ts_1 t6s_1 gs_1 : Int) (t6_0s g_0s : List V) {β : Type} (K : Out → St → Option β) :
 execL Try.prog ann C 9 67 1 (q9_8) (z9_0 letters n i ts_0 ts_1 t6s_1 gs_1 t6_0s g_0s) K =
  d9_9 C letters i ts_0 ts_1 g_0s
   (fun (ts_00 : List V) (ts_10 : Int) (g_0s0 : List V) => K .norm (z9_0 letters n i ts_00 ts_10 t6s_1 gs_1 t6_0s g_0s0)) := by
 refine Eq.trans (execL_app (P := Try.prog) (A := ann) (C := C) (f := 9) (n := 67) (m := 1) (q9_2) (q9_7) (st := z9_0 letters n i ts_0 ts_1 t6s_1 gs_1 t6_0s g_0s) (K := K)) (Eq.trans (s_semigroupmade_Tape_Graph_3_eq C letters n i ts_0 ts_1 t6s_1 gs_1 t6_0s g_0s (seqK Try.prog ann C 9 67 1 (q9_7) K)) ?_)
 · exact Eq.trans (by kernel_rfl) (Eq.trans (congrArg (fun HOLE : (List V) → Int → Int → Option β => s_semigroupmade_Tape_Graph_3 C i ts_0 ts_1 HOLE) (funext fun (ts_00 : List V) => funext fun (ts_10 : Int) => funext fun (xs_00 : Int) => h9_8_eq C letters n i ts_00 ts_10 t6s_1 gs_1 xs_00 0 0 0 t6_0s g_0s K)) ((by kernel_rfl)))
noncomputable def d9_10 (C : CallF) (letters i : Int) (ts_0 : List V) (ts_1 : Int) (g_0s : List V) {β : Type} (k0 : (List V) → Int → (List V) → Option β) : Option β :=
 d9_9 C letters i ts_0 ts_1 g_0s
  (fun (ts_93 : List V) (ts_94 : Int) (g_0s_95 : List V) =>
   k0 ts_93 ts_94 g_0s_95)
noncomputable abbrev q9_9 : List Code := codesAt Try.prog 9 [[1, 1, 1, 0, 1, 0, 0, 1, 0]]
theorem h9_10_eq (C : CallF) (letters n i : Int) (ts_0 : List V) (ts_1 t6s_1 gs_1 : Int) (t6_0s g_0s : List V) {β : Type} (K : Out → St → Option β) :
 execL Try.prog ann C 9 67 1 (q9_9) (z9_0 letters n i ts_0 ts_1 t6s_1 gs_1 t6_0s g_0s) K =
  d9_10 C letters i ts_0 ts_1 g_0s
   (fun (ts_00 : List V) (ts_10 : Int) (g_0s0 : List V) => K .norm (z9_0 letters n i ts_00 ts_10 t6s_1 gs_1 t6_0s g_0s0)) := Eq.trans (execL_block (P := Try.prog) (A := ann) (C := C) (f := 9) (n := 67) (m := 1) (id := 1) (c := codeAt [1, 1, 1, 0, 1, 0, 0, 1, 0] (bodyOf Try.prog 9)) (d := codeAt [1, 1, 1, 0, 1, 0, 0, 1, 0, 0] (bodyOf Try.prog 9)) (l := q9_8) (st := z9_0 letters n i ts_0 ts_1 t6s_1 gs_1 t6_0s g_0s) (K := K) (by kernel_rfl) (by kernel_rfl)) (Eq.trans (h9_9_eq C letters n i ts_0 ts_1 t6s_1 gs_1 t6_0s g_0s (blockK ann 9 1 1 K)) (by kernel_rfl))
noncomputable def d9_11 (C : CallF)  {β : Type} (k0 : Option β) : Option β :=
 k0
noncomputable abbrev q9_10 : List Code := codesAt Try.prog 9 [[1, 1, 1, 0, 1, 0, 0, 1, 1]]
theorem h9_11_eq (C : CallF) (letters n i : Int) (ts_0 : List V) (ts_1 t6s_1 gs_1 : Int) (t6_0s g_0s : List V) {β : Type} (K : Out → St → Option β) :
 execL Try.prog ann C 9 67 1 (q9_10) (z9_0 letters n i ts_0 ts_1 t6s_1 gs_1 t6_0s g_0s) K =
  d9_11 C
   (K .norm (z9_0 letters n (IntKind.wrap .i64 (i + 1)) ts_0 ts_1 t6s_1 gs_1 t6_0s g_0s)) := by kernel_rfl
noncomputable def d9_12 (C : CallF) (letters i : Int) (ts_0 : List V) (ts_1 : Int) (g_0s : List V) {β : Type} (k0 : (List V) → Int → (List V) → Option β) : Option β :=
 d9_10 C letters i ts_0 ts_1 g_0s
  (fun (ts_96 : List V) (ts_97 : Int) (g_0s_98 : List V) =>
   d9_11 C
    (
     k0 ts_96 ts_97 g_0s_98))
noncomputable abbrev q9_11 : List Code := codesAt Try.prog 9 [[1, 1, 1, 0, 1, 0, 0, 1, 0], [1, 1, 1, 0, 1, 0, 0, 1, 1]]
theorem h9_12_eq (C : CallF) (letters n i : Int) (ts_0 : List V) (ts_1 t6s_1 gs_1 : Int) (t6_0s g_0s : List V) {β : Type} (K : Out → St → Option β) :
 execL Try.prog ann C 9 67 1 (q9_11) (z9_0 letters n i ts_0 ts_1 t6s_1 gs_1 t6_0s g_0s) K =
  d9_12 C letters i ts_0 ts_1 g_0s
   (fun (ts_00 : List V) (ts_10 : Int) (g_0s0 : List V) => K .norm (z9_0 letters n (IntKind.wrap .i64 (i + 1)) ts_00 ts_10 t6s_1 gs_1 t6_0s g_0s0)) := by
 refine Eq.trans (execL_app (P := Try.prog) (A := ann) (C := C) (f := 9) (n := 67) (m := 1) (q9_9) (q9_10) (st := z9_0 letters n i ts_0 ts_1 t6s_1 gs_1 t6_0s g_0s) (K := K)) (Eq.trans (h9_10_eq C letters n i ts_0 ts_1 t6s_1 gs_1 t6_0s g_0s (seqK Try.prog ann C 9 67 1 (q9_10) K)) ?_)
 · exact Eq.trans (by kernel_rfl) (Eq.trans (congrArg (fun HOLE : (List V) → Int → (List V) → Option β => d9_10 C letters i ts_0 ts_1 g_0s HOLE) (funext fun (ts_00 : List V) => funext fun (ts_10 : Int) => funext fun (g_0s0 : List V) => h9_11_eq C letters n i ts_00 ts_10 t6s_1 gs_1 t6_0s g_0s0 K)) ((by kernel_rfl)))
noncomputable def d9_13 (C : CallF) (letters n i : Int) (ts_0 : List V) (ts_1 : Int) (g_0s : List V) {β : Type} (k0 : (List V) → Int → (List V) → Option β) (k1 : Option β) : Option β :=
 d9_2 C n i
  (
   d9_12 C letters i ts_0 ts_1 g_0s
    (fun (ts_99 : List V) (ts_100 : Int) (g_0s_101 : List V) =>
     k0 ts_99 ts_100 g_0s_101))
  (
   k1)
noncomputable abbrev q9_12 : List Code := codesAt Try.prog 9 [[1, 1, 1, 0, 1, 0, 0, 0, 0], [1, 1, 1, 0, 1, 0, 0, 0, 1], [1, 1, 1, 0, 1, 0, 0, 1, 0], [1, 1, 1, 0, 1, 0, 0, 1, 1]]
theorem h9_13_eq (C : CallF) (letters n i : Int) (ts_0 : List V) (ts_1 t6s_1 gs_1 : Int) (t6_0s g_0s : List V) {β : Type} (K : Out → St → Option β) :
 execL Try.prog ann C 9 67 1 (q9_12) (z9_0 letters n i ts_0 ts_1 t6s_1 gs_1 t6_0s g_0s) K =
  d9_13 C letters n i ts_0 ts_1 g_0s
   (fun (ts_00 : List V) (ts_10 : Int) (g_0s0 : List V) => K .norm (z9_0 letters n (IntKind.wrap .i64 (i + 1)) ts_00 ts_10 t6s_1 gs_1 t6_0s g_0s0))
   (K (.exit 0) (z9_2 letters n i (decide ((i : Int) < n)) ts_0 ts_1 t6s_1 gs_1 t6_0s g_0s)) := by
 refine Eq.trans (execL_app (P := Try.prog) (A := ann) (C := C) (f := 9) (n := 67) (m := 1) (q9_1) (q9_11) (st := z9_0 letters n i ts_0 ts_1 t6s_1 gs_1 t6_0s g_0s) (K := K)) (Eq.trans (h9_2_eq C letters n i ts_0 ts_1 t6s_1 gs_1 t6_0s g_0s (seqK Try.prog ann C 9 67 1 (q9_11) K)) ?_)
 · exact Eq.trans (by kernel_rfl) (Eq.trans (congrArg (fun HOLE : Option β => d9_2 C n i HOLE (K (.exit 0) (z9_2 letters n i (decide ((i : Int) < n)) ts_0 ts_1 t6s_1 gs_1 t6_0s g_0s))) (h9_12_eq C letters n i ts_0 ts_1 t6s_1 gs_1 t6_0s g_0s K)) ((by kernel_rfl)))
noncomputable def s_semigroupmade_Tape_Graph_14L_step (C : CallF) (letters n : Int) : (Int × (List V) × Int × (List V)) → Option ((Int × (List V) × Int × (List V)) ⊕ ((Int × Bool × (List V) × Int × (List V)))) := fun (i, ts_0, ts_1, g_0s) =>
 bif decide ((i : Int) < n) then
  s_semigroupmade_Tape_Graph_3 C i ts_0 ts_1
   (fun (ts_90 : List V) (ts_91 : Int) (xs_92 : Int) =>
    s_semigroupmade_Tape_Graph_4 C letters ts_90 ts_91 xs_92 0
     (fun (ts_81 : List V) (ts_82 : Int) (xs_83 : Int) =>
      s_semigroupmade_Tape_Graph_5 C i ts_81 ts_82 xs_92 0
       (fun (ts_69 : List V) (ts_70 : Int) (xs_71 : Int) =>
        s_semigroupmade_Tape_Graph_6 C i ts_69 ts_70 xs_92 xs_83 xs_71 0 g_0s
         (fun (ts_72 : List V) (ts_73 : Int) (g_0s_74 : List V) =>
          some (.inl (IntKind.wrap .i64 (i + 1), ts_72, ts_73, g_0s_74))))))
 else
  some (.inr (i, decide ((i : Int) < n), ts_0, ts_1, g_0s))
noncomputable def s_semigroupmade_Tape_Graph_14L (C : CallF) (letters n i : Int) (ts_0 : List V) (ts_1 : Int) (g_0s : List V) {β : Type} (k0 : Int → Bool → (List V) → Int → (List V) → Option β) : Option β :=
 (Loop (s_semigroupmade_Tape_Graph_14L_step C letters n) (i, ts_0, ts_1, g_0s)).bind fun (i0, t170, ts_00, ts_10, g_0s0) => k0 i0 t170 ts_00 ts_10 g_0s0
noncomputable def s_semigroupmade_Tape_Graph_14L_dec : Out → St → Option ((Int × (List V) × Int × (List V)) ⊕ ((Int × Bool × (List V) × Int × (List V)))) := fun o st => match o with
 | .norm => some (.inl (V.toInt (st.sl 9), V.toList (V.nth (varOf (st.hp 0)) 0), V.toInt (V.nth (varOf (st.hp 0)) 1), arrOf (st.hp 4)))
 | .exit q => bif Nat.beq q 0 then some (.inr (V.toInt (st.sl 9), V.toBool (st.sl 17), V.toList (V.nth (varOf (st.hp 0)) 0), V.toInt (V.nth (varOf (st.hp 0)) 1), arrOf (st.hp 4))) else none
 | .ret => none
noncomputable def s_semigroupmade_Tape_Graph_14L_hd (letters n t6s_1 gs_1 : Int) (t6_0s : List V) : (Int × (List V) × Int × (List V)) → St := fun (i, ts_0, ts_1, g_0s) => z9_0 letters n i ts_0 ts_1 t6s_1 gs_1 t6_0s g_0s
noncomputable def s_semigroupmade_Tape_Graph_14L_enc (letters n t6s_1 gs_1 : Int) (t6_0s : List V) : ((Int × Bool × (List V) × Int × (List V))) → Out × St := fun (i0, t170, ts_00, ts_10, g_0s0) => (.exit 0, z9_2 letters n i0 t170 ts_00 ts_10 t6s_1 gs_1 t6_0s g_0s0)
theorem s_semigroupmade_Tape_Graph_14L_eq (C : CallF) (letters n i : Int) (ts_0 : List V) (ts_1 t6s_1 gs_1 : Int) (t6_0s g_0s : List V) {β : Type} (K : Out → St → Option β) :
 execL Try.prog ann C 9 67 1 (codesAt Try.prog 9 [[1, 1, 1, 0, 1, 0]]) (z9_0 letters n i ts_0 ts_1 t6s_1 gs_1 t6_0s g_0s) K =
  s_semigroupmade_Tape_Graph_14L C letters n i ts_0 ts_1 g_0s
   (fun (i0 : Int) (t170 : Bool) (ts_00 : List V) (ts_10 : Int) (g_0s0 : List V) => K (.exit 0) (z9_2 letters n i0 t170 ts_00 ts_10 t6s_1 gs_1 t6_0s g_0s0)) := by
 have hitems : flatC (codeAt [1, 1, 1, 0, 1, 0, 0] (bodyOf Try.prog 9)) = q9_12 := by kernel_rfl
 have hloop : [codeAt [1, 1, 1, 0, 1, 0] (bodyOf Try.prog 9)] = [Code.loop (codeAt [1, 1, 1, 0, 1, 0, 0] (bodyOf Try.prog 9))] := by kernel_rfl
 have h := loopK_eq (P := Try.prog) (A := ann) (C := C) (f := 9) (n := 67) (m := 1) (c := codeAt [1, 1, 1, 0, 1, 0, 0] (bodyOf Try.prog 9)) (s_semigroupmade_Tape_Graph_14L_hd letters n t6s_1 gs_1 t6_0s) (s_semigroupmade_Tape_Graph_14L_enc letters n t6s_1 gs_1 t6_0s) s_semigroupmade_Tape_Graph_14L_dec (s_semigroupmade_Tape_Graph_14L_step C letters n)
  (by rintro ⟨i, ts_0, ts_1, g_0s⟩; exact Eq.trans (execK_items hitems) (Eq.trans (h9_13_eq C letters n i ts_0 ts_1 t6s_1 gs_1 t6_0s g_0s s_semigroupmade_Tape_Graph_14L_dec) (by kernel_rfl)))
  (by rintro ⟨i, ts_0, ts_1, g_0s⟩; exact Eq.trans (execK_items hitems) (Eq.trans (h9_13_eq C letters n i ts_0 ts_1 t6s_1 gs_1 t6_0s g_0s (fun o st => some (o, st))) (Eq.trans (by kernel_rfl) (Eq.trans (h9_13_eq C letters n i ts_0 ts_1 t6s_1 gs_1 t6_0s g_0s (fun o st => (s_semigroupmade_Tape_Graph_14L_dec o st).map (outS (s_semigroupmade_Tape_Graph_14L_hd letters n t6s_1 gs_1 t6_0s) (s_semigroupmade_Tape_Graph_14L_enc letters n t6s_1 gs_1 t6_0s)))).symm (execK_items hitems).symm))))
  (by intro r; intro h; cases h) (i, ts_0, ts_1, g_0s) K
 refine Eq.trans (congrArg (fun l => execL Try.prog ann C 9 67 1 l (z9_0 letters n i ts_0 ts_1 t6s_1 gs_1 t6_0s g_0s) K) hloop) (Eq.trans h ?_)
 · refine congrArg _ (funext fun r => ?_)
   rfl
noncomputable def d9_15 (C : CallF) (letters n i : Int) (ts_0 : List V) (ts_1 : Int) (g_0s : List V) {β : Type} (k0 : (List V) → Int → (List V) → Option β) : Option β :=
 s_semigroupmade_Tape_Graph_14L C letters n i ts_0 ts_1 g_0s
  (fun (i_102 : Int) (t_103 : Bool) (ts_104 : List V) (ts_105 : Int) (g_0s_106 : List V) =>
   k0 ts_104 ts_105 g_0s_106)
noncomputable abbrev z9_4 (c0 : Int) (c1 : List V) (c2 c3 c4 : Int) (c5 c6 : List V) : St :=
 mk [(6, .ptr 1 0 0), (7, .ptr 2 0 0), (8, .int .i64 c0)] [.var [.list T_int c1, .int .i64 c2], .var [.whole T_api_SfNode 3, .int .i64 c3], .var [.whole T_api_SfNode 4, .int .i64 c4], .arr T_api_SfNode c5 false, .arr T_api_SfNode c6 false]
theorem h9_15_eq (C : CallF) (letters n i : Int) (ts_0 : List V) (ts_1 t6s_1 gs_1 : Int) (t6_0s g_0s : List V) {β : Type} (K : Out → St → Option β) :
 execL Try.prog ann C 9 67 1 (codesAt Try.prog 9 [[1, 1, 1, 0, 1]]) (z9_0 letters n i ts_0 ts_1 t6s_1 gs_1 t6_0s g_0s) K =
  d9_15 C letters n i ts_0 ts_1 g_0s
   (fun (b0_00 : List V) (b0_10 : Int) (g_0s0 : List V) => K .norm (z9_4 n b0_00 b0_10 t6s_1 gs_1 t6_0s g_0s0)) := Eq.trans (execL_block (P := Try.prog) (A := ann) (C := C) (f := 9) (n := 67) (m := 1) (id := 0) (c := codeAt [1, 1, 1, 0, 1] (bodyOf Try.prog 9)) (d := codeAt [1, 1, 1, 0, 1, 0] (bodyOf Try.prog 9)) (l := codesAt Try.prog 9 [[1, 1, 1, 0, 1, 0]]) (st := z9_0 letters n i ts_0 ts_1 t6s_1 gs_1 t6_0s g_0s) (K := K) (by kernel_rfl) (by kernel_rfl)) (Eq.trans (s_semigroupmade_Tape_Graph_14L_eq C letters n i ts_0 ts_1 t6s_1 gs_1 t6_0s g_0s (blockK ann 9 1 0 K)) (by kernel_rfl))
noncomputable def d9_16 (C : CallF)  {β : Type} (k0 : Option β) : Option β :=
 k0
noncomputable abbrev z9_5 (c0 : List V) (c1 c2 : Int) (c3 : List V) : St :=
 mk [(6, .ptr 1 0 0)] [.var [.list T_int c0, .int .i64 c1], .var [.whole T_api_SfNode 2, .int .i64 c2], .arr T_api_SfNode c3 false]
noncomputable abbrev q9_13 : List Code := codesAt Try.prog 9 [[1, 1, 1, 1, 0], [1, 1, 1, 1, 1, 0], [1, 1, 1, 1, 1, 1]]
theorem h9_16_eq (C : CallF) (n : Int) (b0_0 : List V) (b0_1 t6s_1 gs_1 : Int) (t6_0s g_0s : List V) {β : Type} (K : Out → St → Option β) :
 execL Try.prog ann C 9 67 1 (q9_13) (z9_4 n b0_0 b0_1 t6s_1 gs_1 t6_0s g_0s) K =
  d9_16 C
   (K .ret (z9_5 b0_0 b0_1 (IntKind.wrap .i64 (n - 1)) g_0s)) := by kernel_rfl
noncomputable def d9_17 (C : CallF) (letters n i : Int) (ts_0 : List V) (ts_1 : Int) (g_0s : List V) {β : Type} (k0 : (List V) → Int → (List V) → Option β) : Option β :=
 d9_15 C letters n i ts_0 ts_1 g_0s
  (fun (b_112 : List V) (b_113 : Int) (g_0s_114 : List V) =>
   d9_16 C
    (
     k0 b_112 b_113 g_0s_114))
noncomputable abbrev q9_14 : List Code := codesAt Try.prog 9 [[1, 1, 1, 0, 1], [1, 1, 1, 1, 0], [1, 1, 1, 1, 1, 0], [1, 1, 1, 1, 1, 1]]
theorem h9_17_eq (C : CallF) (letters n i : Int) (ts_0 : List V) (ts_1 t6s_1 gs_1 : Int) (t6_0s g_0s : List V) {β : Type} (K : Out → St → Option β) :
 execL Try.prog ann C 9 67 1 (q9_14) (z9_0 letters n i ts_0 ts_1 t6s_1 gs_1 t6_0s g_0s) K =
  d9_17 C letters n i ts_0 ts_1 g_0s
   (fun (b0_00 : List V) (b0_10 : Int) (t6_0s0 : List V) => K .ret (z9_5 b0_00 b0_10 (IntKind.wrap .i64 (n - 1)) t6_0s0)) := by
 refine Eq.trans (execL_app (P := Try.prog) (A := ann) (C := C) (f := 9) (n := 67) (m := 1) (codesAt Try.prog 9 [[1, 1, 1, 0, 1]]) (q9_13) (st := z9_0 letters n i ts_0 ts_1 t6s_1 gs_1 t6_0s g_0s) (K := K)) (Eq.trans (h9_15_eq C letters n i ts_0 ts_1 t6s_1 gs_1 t6_0s g_0s (seqK Try.prog ann C 9 67 1 (q9_13) K)) ?_)
 · exact Eq.trans (by kernel_rfl) (Eq.trans (congrArg (fun HOLE : (List V) → Int → (List V) → Option β => d9_15 C letters n i ts_0 ts_1 g_0s HOLE) (funext fun (b0_00 : List V) => funext fun (b0_10 : Int) => funext fun (g_0s0 : List V) => h9_16_eq C n b0_00 b0_10 t6s_1 gs_1 t6_0s g_0s0 K)) ((by kernel_rfl)))
noncomputable def d9_18 (C : CallF) (t_L : List V) (t_At letters most : Int) {β : Type} (k0 : (List V) → Int → Int → (List V) → Option β) : Option β :=
 d9_1 C t_L t_At most
  (fun (n_115 : Int) (ts_116 : List V) (ts_117 : Int) =>
   d9_17 C letters n_115 0 ts_116 ts_117 ([] : List V)
    (fun (b_118 : List V) (b_119 : Int) (t6_0s_120 : List V) =>
     k0 b_118 b_119 (IntKind.wrap .i64 (n_115 - 1)) t6_0s_120))
noncomputable abbrev q9_15 : List Code := codesAt Try.prog 9 [[0], [1, 0], [1, 1, 0], [1, 1, 1, 0, 0], [1, 1, 1, 0, 1], [1, 1, 1, 1, 0], [1, 1, 1, 1, 1, 0], [1, 1, 1, 1, 1, 1]]
theorem h9_18_eq (C : CallF) (t_L : List V) (t_At letters most : Int) {β : Type} (K : Out → St → Option β) :
 execL Try.prog ann C 9 67 1 (q9_15) (z9_1 letters most t_L t_At) K =
  d9_18 C t_L t_At letters most
   (fun (b0_00 : List V) (b0_10 : Int) (t6s_10 : Int) (t6_0s0 : List V) => K .ret (z9_5 b0_00 b0_10 t6s_10 t6_0s0)) := by
 refine Eq.trans (execL_app (P := Try.prog) (A := ann) (C := C) (f := 9) (n := 67) (m := 1) (q9_0) (q9_14) (st := z9_1 letters most t_L t_At) (K := K)) (Eq.trans (h9_1_eq C t_L t_At letters most (seqK Try.prog ann C 9 67 1 (q9_14) K)) ?_)
 · exact Eq.trans (by kernel_rfl) (Eq.trans (congrArg (fun HOLE : Int → (List V) → Int → Option β => d9_1 C t_L t_At most HOLE) (funext fun (n0 : Int) => funext fun (ts_00 : List V) => funext fun (ts_10 : Int) => h9_17_eq C letters n0 0 ts_00 ts_10 0 0 ([] : List V) ([] : List V) K)) ((by kernel_rfl)))
noncomputable def f_semigroupmade_Tape_Graph (C : CallF) (t_L : List V) (t_At letters most : Int) : Option (V × List V) :=
 (C F_semigroupmade_Tape_Next [.ptr 0 0 0, .int .i64 most] [.agg [.list T_int t_L, .int .i64 t_At]]).bind fun r2 =>
  s_semigroupmade_Tape_Graph_14L C letters (IntKind.wrap .i64 (1 + r2.1.toInt)) 0 (((V.nth r2.2 0).cell 0).toList) (((V.nth r2.2 0).cell 1).toInt) ([] : List V)
   (fun (i_107 : Int) (t_108 : Bool) (ts_109 : List V) (ts_110 : Int) (g_0s_111 : List V) =>
    some (.agg [.own T_api_SfNode g_0s_111, .int .i64 (IntKind.wrap .i64 ((IntKind.wrap .i64 (1 + r2.1.toInt)) - 1))], [.agg [.list T_int ts_109, .int .i64 ts_110]]))
theorem f_semigroupmade_Tape_Graph_eq (C : CallF) (t_L : List V) (t_At letters most : Int) : bodyK Try.prog ann C 9 [.ptr 0 0 0, .int .i64 letters, .int .i64 most] [.agg [.list T_int t_L, .int .i64 t_At]] = f_semigroupmade_Tape_Graph C t_L t_At letters most :=
 Eq.trans (bodyK_fin (by kernel_rfl)) (Eq.trans (execK_items (by kernel_rfl)) (Eq.trans (h9_18_eq C t_L t_At letters most (finK Try.prog ann C 9 [.agg [.list T_int t_L, .int .i64 t_At]])) (by kernel_rfl)))
theorem f_semigroupmade_Tape_Graph_of {t_L : List V} {t_At : Int} {letters : Int} {most : Int} {r : V × List V} (h : f_semigroupmade_Tape_Graph CC t_L t_At letters most = some r) : CC F_semigroupmade_Tape_Graph [.ptr 0 0 0, .int .i64 letters, .int .i64 most] [.agg [.list T_int t_L, .int .i64 t_At]] = some r :=
 Call_of_body ((bodyK_eq ..).trans ((f_semigroupmade_Tape_Graph_eq ..).trans h))
end Go.AM

/-
 Star-free graphs: what is valid, what a tape makes.
-/
namespace Go.AM
open Go.Proofs
structure Node where
 op : Int
 letter : Int
 a : Int
 b : Int
 deriving DecidableEq
def Node.v (n : Node) : V := .agg [.int .i64 n.op, .int .i64 n.letter, .int .i64 n.a, .int .i64 n.b]
abbrev nodesV (l : List Node) : List V := l.map Node.v
abbrev graphV (l : List Node) (root : Int) : V := .agg [.list T_api_SfNode (nodesV l), .int .i64 root]
def partsN (op : Int) : Int := if op = 5 ∨ op = 6 ∨ op = 7 then 2 else if op = 8 then 1 else 0
theorem parts_spec (op : Int) : CC F_starfree_parts [.int .i64 op] [] = some (.int .i64 (partsN op), []) := by
 refine f_starfree_parts_of ?_
 unfold f_starfree_parts s_starfree_parts_1 partsN
 by_cases h5 : op = 5
 · subst h5; rfl
 by_cases h6 : op = 6
 · subst h6; rfl
 by_cases h7 : op = 7
 · subst h7; rfl
 by_cases h8 : op = 8
 · subst h8; rfl
 simp [h5, h6, h7, h8]
def validPartB (part i : Int) (needed : Bool) : Bool := if needed then decide (0 ≤ part ∧ part < i) else decide (part = 0)
theorem validPart_spec (part i : Int) (needed : Bool) : CC F_starfree_validPart [.int .i64 part, .int .i64 i, .bool needed] [] = some (.bool (validPartB part i needed), []) := by
 refine f_starfree_validPart_of ?_
 unfold f_starfree_validPart s_starfree_validPart_1 validPartB
 cases needed with
 | false =>
  have : (part == 0) = decide (part = 0) := rfl
  simp [this]
 | true =>
  by_cases h : 0 ≤ part
  · simp [h]
  · simp [h]
def validNodeB (n : Node) (i letters : Int) : Bool :=
 decide (1 ≤ n.op ∧ n.op ≤ 8) && ((if n.op = 3 then decide (0 ≤ n.letter ∧ n.letter < letters) else decide (n.letter = 0)) &&
  (validPartB n.a i (decide (1 ≤ partsN n.op)) && validPartB n.b i (decide (partsN n.op = 2))))
theorem validNode_spec (n : Node) (i letters : Int) : CC F_starfree_validNode [n.v, .int .i64 i, .int .i64 letters] [] = some (.bool (validNodeB n i letters), []) := by
 refine f_starfree_validNode_of ?_
 unfold f_starfree_validNode s_starfree_validNode_1 s_starfree_validNode_2 s_starfree_validNode_3 validNodeB
 simp only [bif_decide, parts_spec, validPart_spec, Option.bind_some, V.toInt_int, V.toBool_bool]
 have e2 : (partsN n.op == 2) = decide (partsN n.op = 2) := rfl
 have e3 : (n.op == 3) = decide (n.op = 3) := rfl
 have e4 : (n.letter != 0) = !decide (n.letter = 0) := rfl
 simp only [e2, e3, e4, ge_iff_le, gt_iff_lt]
 by_cases h1 : n.op < 1
 · rw [if_pos h1]
   have : ¬ (1 ≤ n.op ∧ n.op ≤ 8) := by omega
   simp [this]
 rw [if_neg h1]
 by_cases h2 : 8 < n.op
 · have : ¬ (1 ≤ n.op ∧ n.op ≤ 8) := by omega
   simp [this, h2]
 have h3 : 1 ≤ n.op ∧ n.op ≤ 8 := by omega
 simp only [h2, h3, bif_decide, decide_true, Bool.true_and, and_self]
 cases hA : validPartB n.a i (decide (1 ≤ partsN n.op)) <;> by_cases h5 : n.op = 3 <;> simp only [h5, if_true, if_false, cond_true, cond_false, Bool.false_and, Bool.true_and, Bool.and_false]
 · by_cases h6 : n.letter < 0 <;> by_cases h7 : letters ≤ n.letter <;> simp [h6, h7]
 · by_cases h6 : n.letter = 0 <;> simp [h6]
 · by_cases h6 : n.letter < 0
   · have : ¬ (0 ≤ n.letter) := by omega
     simp [h6, this]
   · have h6' : 0 ≤ n.letter := by omega
     by_cases h7 : letters ≤ n.letter
     · have : ¬ (n.letter < letters) := by omega
       simp [h6, h7, this]
     · have : n.letter < letters := by omega
       simp [h6, h7, this, h6']
 · by_cases h6 : n.letter = 0 <;> simp [h6]
/-- The nodes from number i on are valid. -/
def validFrom (letters : Int) : Nat → List Node → Bool
 | _, [] => true
 | i, n :: l => validNodeB n i letters && validFrom letters (i + 1) l
def validateN (l : List Node) (root letters : Int) : Int :=
 if letters < 1 ∨ 6 < letters then 1 else if 20000 < l.length then 3 else
  if validFrom letters 0 l && decide (0 ≤ root ∧ root < l.length) then 0 else 22
theorem validFrom_iff {letters : Int} : ∀ {l : List Node} {i : Nat}, validFrom letters i l = true ↔ ∀ (j : Nat) n, l[j]? = some n → validNodeB n (i + j : Nat) letters = true
 | [], i => by simp [validFrom]
 | n :: l, i => by
  simp only [validFrom, Bool.and_eq_true, validFrom_iff (l := l)]
  constructor
  · rintro ⟨h1, h2⟩ j m hj
    cases j with
    | zero => cases hj; exact h1
    | succ j =>
     have := h2 j m (by simpa using hj)
     rwa [show i + 1 + j = i + (j + 1) by omega] at this
  · intro h
    refine ⟨h 0 n rfl, fun j m hj => ?_⟩
    have := h (j + 1) m (by simpa using hj)
    rwa [show i + (j + 1) = i + 1 + j by omega] at this
theorem validate_spec (l : List Node) (root letters : Int) (hlen : l.length < 9223372036854775807) :
 CC F_starfree_Validate [graphV l root, .int .i64 letters] [] = some (.int .i64 (validateN l root letters), []) := by
 refine f_starfree_Validate_of ?_
 unfold f_starfree_Validate s_starfree_Validate_1 s_starfree_Validate_2 s_starfree_Validate_4L s_starfree_Validate_6 validateN
 simp only [bif_decide, List.length_map]
 by_cases h1 : letters < 1
 · simp [h1]
 by_cases h2 : letters > 6
 · simp [h1, h2]
 rw [if_neg h1, if_neg h2, if_neg (show ¬ (letters < 1 ∨ 6 < letters) by omega)]
 by_cases h3 : (l.length : Int) > 20000
 · rw [if_pos h3, if_pos (show 20000 < l.length by omega)]
 rw [if_neg h3, if_neg (show ¬ 20000 < l.length by omega)]
 -- the loop
 have key : ∀ (k i : Nat), k + i = l.length → Loop (s_starfree_Validate_4L_step CC letters (nodesV l) (l.length : Int)) (i : Int) =
  some (if validFrom letters i (l.drop i) then .inr ((l.length : Int), false) else .inl ()) := by
  intro k
  induction k with
  | zero =>
   intro i hi
   have : i = l.length := by omega
   subst this
   refine Loop_end ?_
   unfold s_starfree_Validate_4L_step
   simp [validFrom]
  | succ k ih =>
   intro i hi
   have hlt : i < l.length := by omega
   rw [List.drop_eq_getElem_cons hlt, validFrom]
   have hs : s_starfree_Validate_4L_step CC letters (nodesV l) (l.length : Int) (i : Int) = if validNodeB l[i] i letters then some (.inl ((i + 1 : Nat) : Int)) else some (.inr (.inl ())) := by
    unfold s_starfree_Validate_4L_step
    have := validNode_spec l[i] i letters
    simp only [bif_decide]
    rw [if_pos (by omega), idx_map (n := i) rfl hlt]
    simp only [Option.bind_some, Node.v, V.cell_agg, V.nth_zero, V.nth_one, V.nth_two, V.nth_three, V.toInt_int]
    rw [Node.v] at this
    rw [this]
    simp (disch := omega) only [wrap64, Option.bind_some, V.toBool_bool]
    cases validNodeB l[i] i letters <;> simp
   cases hv : validNodeB l[i] i letters with
   | false =>
    rw [hv] at hs
    rw [Loop_end hs]
    simp
   | true =>
    rw [hv] at hs
    rw [Loop_norm hs, ih (i + 1) (by omega)]
    simp
 have := key l.length 0 (by omega)
 rw [show ((0 : Nat) : Int) = 0 from rfl, List.drop_zero] at this
 rw [this]
 cases hv : validFrom letters 0 l with
 | false => simp
 | true =>
  simp only [if_true, Option.bind_some, Bool.true_and]
  by_cases h4 : root < 0
  · rw [if_pos h4, if_neg (by simp; omega)]
  · rw [if_neg h4]
    by_cases h5 : root ≥ (l.length : Int)
    · rw [if_pos h5, if_neg (by simp; omega)]
    · rw [if_neg h5, if_pos (by simp; omega)]
/-- A word: letters from 0 to letters - 1. -/
def wordB (letters : Int) (w : List UInt8) : Bool := w.all fun b => decide (97 ≤ b.toNat ∧ (b.toNat : Int) - 97 < letters)
def wordValidB (w : List UInt8) (letters : Int) : Bool := decide (1 ≤ letters ∧ letters ≤ 6 ∧ w.length ≤ 2048) && wordB letters w
theorem wordValid_spec (w : List UInt8) (letters : Int) : CC F_word_Valid [.str w, .int .i64 letters] [] = some (.bool (wordValidB w letters), []) := by
 refine f_word_Valid_of ?_
 unfold f_word_Valid s_word_Valid_1 s_word_Valid_4L wordValidB
 simp only [bif_decide]
 by_cases h1 : letters < 1
 · rw [if_pos h1]
   have : ¬ (1 ≤ letters ∧ letters ≤ 6 ∧ w.length ≤ 2048) := by omega
   simp [this]
 rw [if_neg h1]
 by_cases h2 : letters > 6
 · rw [if_pos h2]
   have : ¬ (1 ≤ letters ∧ letters ≤ 6 ∧ w.length ≤ 2048) := by omega
   simp [this]
 rw [if_neg h2]
 by_cases h3 : (w.length : Int) > 2048
 · rw [if_pos h3]
   have : ¬ (1 ≤ letters ∧ letters ≤ 6 ∧ w.length ≤ 2048) := by omega
   simp [this]
 rw [if_neg h3]
 have h4 : (1 ≤ letters ∧ letters ≤ 6 ∧ w.length ≤ 2048) := by omega
 simp only [h4, and_self, decide_true, Bool.true_and]
 have key : ∀ (k i : Nat), k + i = w.length → Loop (s_word_Valid_4L_step CC w letters (w.length : Int)) (i : Int) =
  some (if wordB letters (w.drop i) then .inr ((w.length : Int), false) else .inl false) := by
  intro k
  induction k with
  | zero =>
   intro i hi
   have : i = w.length := by omega
   subst this
   refine Loop_end ?_
   unfold s_word_Valid_4L_step s_word_Valid_3
   simp [wordB]
  | succ k ih =>
   intro i hi
   have hlt : i < w.length := by omega
   have hb := w[i].toNat_lt
   rw [List.drop_eq_getElem_cons hlt]
   have hs : s_word_Valid_4L_step CC w letters (w.length : Int) (i : Int) = if 97 ≤ w[i].toNat ∧ (w[i].toNat : Int) - 97 < letters then some (.inl ((i + 1 : Nat) : Int)) else some (.inr (.inl false)) := by
    unfold s_word_Valid_4L_step s_word_Valid_3
    simp only [bif_decide]
    rw [if_pos (by omega), if_pos (by omega)]
    simp only [Int.toNat_natCast, List.getElem?_eq_getElem hlt, Option.map_some, Option.bind_some, V.toInt_int]
    by_cases h6 : (w[i].toNat : Int) < 97
    · rw [if_pos h6, if_neg (by omega)]
    · rw [if_neg h6]
      simp (disch := omega) only [wrap8, wrap64]
      by_cases h7 : (w[i].toNat : Int) - 97 ≥ letters
      · rw [if_pos h7, if_neg (by omega)]
      · rw [if_neg h7, if_pos (by omega)]
        rfl
   unfold wordB at ih ⊢
   simp only [List.all_cons]
   by_cases hv : 97 ≤ w[i].toNat ∧ (w[i].toNat : Int) - 97 < letters
   · rw [if_pos hv] at hs
     rw [Loop_norm hs, ih (i + 1) (by omega)]
     simp [hv]
   · rw [if_neg hv] at hs
     rw [Loop_end hs]
     simp only [hv, decide_false, Bool.false_and]
     rfl
 have := key w.length 0 (by omega)
 rw [show ((0 : Nat) : Int) = 0 from rfl, List.drop_zero] at this
 rw [this]
 cases wordB letters w <;> rfl
end Go.AM

set_option maxRecDepth 100000
namespace Go.AM
open Go.Proofs
/-! (semigroup/starfree.cuts).has -/
noncomputable def d25_1 (C : CallF) (c_0 c_1 j : Int) {β : Type} (k0 : Bool → Option β) : Option β :=
 bif (decide (0 ≤ (IntKind.wrap .i64 (Int.tdiv j 64)))) && (decide ((IntKind.wrap .i64 (Int.tdiv j 64)) < 2)) then
  (([.int .u64 c_0, .int .u64 c_1] : List V)[0 + (((IntKind.wrap .i64 (Int.tdiv j 64) : Int).toNat) * 1)]?).bind fun x2 =>
   bif decide (0 ≤ (Int.tmod j 64)) then
    k0 (((IntKind.wrap .u64 ((BitVec.ofInt (IntKind.bits .u64) (Int.fdiv x2.toInt (2 ^ (min (Int.tmod j 64).toNat (IntKind.bits .u64)))) &&& BitVec.ofInt (IntKind.bits .u64) 1).toNat)) : Int) == 1)
   else none
 else none
noncomputable abbrev z25_0 (c0 : Bool) : St :=
 mk [(4, .bool c0)] []
noncomputable abbrev z25_1 (c0 c1 c2 : Int) : St :=
 mk [(0, .agg [.int .u64 c0, .int .u64 c1]), (1, .int .i64 c2)] []
theorem h25_1_eq (C : CallF) (c_0 c_1 j : Int) {β : Type} (K : Out → St → Option β) :
 execL Try.prog ann C 25 14 0 (codesAt Try.prog 25 [[0], [1, 0], [1, 1]]) (z25_1 c_0 c_1 j) K =
  d25_1 C c_0 c_1 j
   (fun (t40 : Bool) => K .ret (z25_0 t40)) := by kernel_rfl
noncomputable def f_starfree_cuts_has (C : CallF) (c_0 c_1 j : Int) : Option (V × List V) :=
 bif (decide (0 ≤ (IntKind.wrap .i64 (Int.tdiv j 64)))) && (decide ((IntKind.wrap .i64 (Int.tdiv j 64)) < 2)) then
  (([.int .u64 c_0, .int .u64 c_1] : List V)[0 + (((IntKind.wrap .i64 (Int.tdiv j 64) : Int).toNat) * 1)]?).bind fun x2 =>
   bif decide (0 ≤ (Int.tmod j 64)) then
    some (.bool (((IntKind.wrap .u64 ((BitVec.ofInt (IntKind.bits .u64) (Int.fdiv x2.toInt (2 ^ (min (Int.tmod j 64).toNat (IntKind.bits .u64)))) &&& BitVec.ofInt (IntKind.bits .u64) 1).toNat)) : Int) == 1), [])
   else none
 else none
theorem f_starfree_cuts_has_eq (C : CallF) (c_0 c_1 j : Int) : bodyK Try.prog ann C 25 [.agg [.int .u64 c_0, .int .u64 c_1], .int .i64 j] [] = f_starfree_cuts_has C c_0 c_1 j :=
 Eq.trans (bodyK_fin (by kernel_rfl)) (Eq.trans (execK_items (by kernel_rfl)) (Eq.trans (h25_1_eq C c_0 c_1 j (finK Try.prog ann C 25 [])) (by kernel_rfl)))
theorem f_starfree_cuts_has_of {c_0 : Int} {c_1 : Int} {j : Int} {r : V × List V} (h : f_starfree_cuts_has CC c_0 c_1 j = some r) : CC F_starfree_cuts_has [.agg [.int .u64 c_0, .int .u64 c_1], .int .i64 j] [] = some r :=
 Call_of_body ((bodyK_eq ..).trans ((f_starfree_cuts_has_eq ..).trans h))
end Go.AM

set_option maxRecDepth 100000
namespace Go.AM
open Go.Proofs
/-! (semigroup/starfree.cuts).with -/
noncomputable def d34_1 (C : CallF) (c_0 c_1 j : Int) {β : Type} (k0 : Int → Int → Option β) : Option β :=
 bif (decide (0 ≤ (IntKind.wrap .i64 (Int.tdiv j 64)))) && (decide ((IntKind.wrap .i64 (Int.tdiv j 64)) < 2)) then
  (([.int .u64 c_0, .int .u64 c_1] : List V)[0 + (((IntKind.wrap .i64 (Int.tdiv j 64) : Int).toNat) * 1)]?).bind fun x3 =>
   bif decide (0 ≤ (Int.tmod j 64)) then
    bif (decide (0 ≤ (IntKind.wrap .i64 (Int.tdiv j 64)))) && (decide ((IntKind.wrap .i64 (Int.tdiv j 64)) < 2)) then
     bif Nat.blt (0 + (((IntKind.wrap .i64 (Int.tdiv j 64) : Int).toNat) * 1)) 2 then
      k0 (bif Nat.beq (0 + (((IntKind.wrap .i64 (Int.tdiv j 64) : Int).toNat) * 1)) 0 then IntKind.wrap .u64 ((BitVec.ofInt (IntKind.bits .u64) x3.toInt ||| BitVec.ofInt (IntKind.bits .u64) (IntKind.wrap .u64 (1 * 2 ^ (min (Int.tmod j 64).toNat (IntKind.bits .u64))))).toNat) else c_0) (bif Nat.beq (0 + (((IntKind.wrap .i64 (Int.tdiv j 64) : Int).toNat) * 1)) 1 then IntKind.wrap .u64 ((BitVec.ofInt (IntKind.bits .u64) x3.toInt ||| BitVec.ofInt (IntKind.bits .u64) (IntKind.wrap .u64 (1 * 2 ^ (min (Int.tmod j 64).toNat (IntKind.bits .u64))))).toNat) else c_1)
     else none
    else none
   else none
 else none
noncomputable abbrev z34_0 (c0 c1 : Int) : St :=
 mk [(4, .ptr 0 0 0)] [.var [.int .u64 c0, .int .u64 c1]]
noncomputable abbrev q34_0 : List Code := codesAt Try.prog 34 [[0], [1, 0], [1, 1, 0], [1, 1, 1]]
noncomputable abbrev z34_1 (c0 c1 c2 : Int) : St :=
 mk [(0, .agg [.int .u64 c0, .int .u64 c1]), (1, .int .i64 c2)] []
theorem h34_1_eq (C : CallF) (c_0 c_1 j : Int) {β : Type} (K : Out → St → Option β) :
 execL Try.prog ann C 34 15 0 (q34_0) (z34_1 c_0 c_1 j) K =
  d34_1 C c_0 c_1 j
   (fun (t4s_00 : Int) (t4s_10 : Int) => K .ret (z34_0 t4s_00 t4s_10)) := by kernel_rfl
noncomputable def f_starfree_cuts_with (C : CallF) (c_0 c_1 j : Int) : Option (V × List V) :=
 bif (decide (0 ≤ (IntKind.wrap .i64 (Int.tdiv j 64)))) && (decide ((IntKind.wrap .i64 (Int.tdiv j 64)) < 2)) then
  (([.int .u64 c_0, .int .u64 c_1] : List V)[0 + (((IntKind.wrap .i64 (Int.tdiv j 64) : Int).toNat) * 1)]?).bind fun x3 =>
   bif decide (0 ≤ (Int.tmod j 64)) then
    bif (decide (0 ≤ (IntKind.wrap .i64 (Int.tdiv j 64)))) && (decide ((IntKind.wrap .i64 (Int.tdiv j 64)) < 2)) then
     bif Nat.blt (0 + (((IntKind.wrap .i64 (Int.tdiv j 64) : Int).toNat) * 1)) 2 then
      some (.agg [.int .u64 (bif Nat.beq (0 + (((IntKind.wrap .i64 (Int.tdiv j 64) : Int).toNat) * 1)) 0 then IntKind.wrap .u64 ((BitVec.ofInt (IntKind.bits .u64) x3.toInt ||| BitVec.ofInt (IntKind.bits .u64) (IntKind.wrap .u64 (1 * 2 ^ (min (Int.tmod j 64).toNat (IntKind.bits .u64))))).toNat) else c_0), .int .u64 (bif Nat.beq (0 + (((IntKind.wrap .i64 (Int.tdiv j 64) : Int).toNat) * 1)) 1 then IntKind.wrap .u64 ((BitVec.ofInt (IntKind.bits .u64) x3.toInt ||| BitVec.ofInt (IntKind.bits .u64) (IntKind.wrap .u64 (1 * 2 ^ (min (Int.tmod j 64).toNat (IntKind.bits .u64))))).toNat) else c_1)], [])
     else none
    else none
   else none
 else none
theorem f_starfree_cuts_with_eq (C : CallF) (c_0 c_1 j : Int) : bodyK Try.prog ann C 34 [.agg [.int .u64 c_0, .int .u64 c_1], .int .i64 j] [] = f_starfree_cuts_with C c_0 c_1 j :=
 Eq.trans (bodyK_fin (by kernel_rfl)) (Eq.trans (execK_items (by kernel_rfl)) (Eq.trans (h34_1_eq C c_0 c_1 j (finK Try.prog ann C 34 [])) (by kernel_rfl)))
theorem f_starfree_cuts_with_of {c_0 : Int} {c_1 : Int} {j : Int} {r : V × List V} (h : f_starfree_cuts_with CC c_0 c_1 j = some r) : CC F_starfree_cuts_with [.agg [.int .u64 c_0, .int .u64 c_1], .int .i64 j] [] = some r :=
 Call_of_body ((bodyK_eq ..).trans ((f_starfree_cuts_with_eq ..).trans h))
end Go.AM

set_option maxRecDepth 100000
namespace Go.AM
open Go.Proofs
/-! (semigroup/starfree.cuts).union -/
noncomputable def d36_1 (C : CallF)  {β : Type} (k0 : Option β) : Option β :=
 k0
noncomputable abbrev z36_0 (c0 c1 : Int) : St :=
 mk [(4, .ptr 0 0 0)] [.var [.int .u64 c0, .int .u64 c1]]
noncomputable abbrev z36_1 (c0 c1 c2 c3 : Int) : St :=
 mk [(0, .agg [.int .u64 c0, .int .u64 c1]), (1, .agg [.int .u64 c2, .int .u64 c3])] []
theorem h36_1_eq (C : CallF) (c_0 c_1 d_0 d_1 : Int) {β : Type} (K : Out → St → Option β) :
 execL Try.prog ann C 36 16 0 (codesAt Try.prog 36 [[0], [1, 0], [1, 1]]) (z36_1 c_0 c_1 d_0 d_1) K =
  d36_1 C
   (K .ret (z36_0 (IntKind.wrap .u64 ((BitVec.ofInt (IntKind.bits .u64) c_0 ||| BitVec.ofInt (IntKind.bits .u64) d_0).toNat)) (IntKind.wrap .u64 ((BitVec.ofInt (IntKind.bits .u64) c_1 ||| BitVec.ofInt (IntKind.bits .u64) d_1).toNat)))) := by kernel_rfl
noncomputable def f_starfree_cuts_union (C : CallF) (c_0 c_1 d_0 d_1 : Int) : Option (V × List V) :=
 some (.agg [.int .u64 (IntKind.wrap .u64 ((BitVec.ofInt (IntKind.bits .u64) c_0 ||| BitVec.ofInt (IntKind.bits .u64) d_0).toNat)), .int .u64 (IntKind.wrap .u64 ((BitVec.ofInt (IntKind.bits .u64) c_1 ||| BitVec.ofInt (IntKind.bits .u64) d_1).toNat))], [])
theorem f_starfree_cuts_union_eq (C : CallF) (c_0 c_1 d_0 d_1 : Int) : bodyK Try.prog ann C 36 [.agg [.int .u64 c_0, .int .u64 c_1], .agg [.int .u64 d_0, .int .u64 d_1]] [] = f_starfree_cuts_union C c_0 c_1 d_0 d_1 :=
 Eq.trans (bodyK_fin (by kernel_rfl)) (Eq.trans (execK_items (by kernel_rfl)) (Eq.trans (h36_1_eq C c_0 c_1 d_0 d_1 (finK Try.prog ann C 36 [])) (by kernel_rfl)))
theorem f_starfree_cuts_union_of {c_0 : Int} {c_1 : Int} {d_0 : Int} {d_1 : Int} {r : V × List V} (h : f_starfree_cuts_union CC c_0 c_1 d_0 d_1 = some r) : CC F_starfree_cuts_union [.agg [.int .u64 c_0, .int .u64 c_1], .agg [.int .u64 d_0, .int .u64 d_1]] [] = some r :=
 Call_of_body ((bodyK_eq ..).trans ((f_starfree_cuts_union_eq ..).trans h))
end Go.AM

set_option maxRecDepth 100000
namespace Go.AM
open Go.Proofs
/-! (semigroup/starfree.cuts).meet -/
noncomputable def d37_1 (C : CallF)  {β : Type} (k0 : Option β) : Option β :=
 k0
noncomputable abbrev z37_0 (c0 c1 : Int) : St :=
 mk [(4, .ptr 0 0 0)] [.var [.int .u64 c0, .int .u64 c1]]
noncomputable abbrev z37_1 (c0 c1 c2 c3 : Int) : St :=
 mk [(0, .agg [.int .u64 c0, .int .u64 c1]), (1, .agg [.int .u64 c2, .int .u64 c3])] []
theorem h37_1_eq (C : CallF) (c_0 c_1 d_0 d_1 : Int) {β : Type} (K : Out → St → Option β) :
 execL Try.prog ann C 37 16 0 (codesAt Try.prog 37 [[0], [1, 0], [1, 1]]) (z37_1 c_0 c_1 d_0 d_1) K =
  d37_1 C
   (K .ret (z37_0 (IntKind.wrap .u64 ((BitVec.ofInt (IntKind.bits .u64) c_0 &&& BitVec.ofInt (IntKind.bits .u64) d_0).toNat)) (IntKind.wrap .u64 ((BitVec.ofInt (IntKind.bits .u64) c_1 &&& BitVec.ofInt (IntKind.bits .u64) d_1).toNat)))) := by kernel_rfl
noncomputable def f_starfree_cuts_meet (C : CallF) (c_0 c_1 d_0 d_1 : Int) : Option (V × List V) :=
 some (.agg [.int .u64 (IntKind.wrap .u64 ((BitVec.ofInt (IntKind.bits .u64) c_0 &&& BitVec.ofInt (IntKind.bits .u64) d_0).toNat)), .int .u64 (IntKind.wrap .u64 ((BitVec.ofInt (IntKind.bits .u64) c_1 &&& BitVec.ofInt (IntKind.bits .u64) d_1).toNat))], [])
theorem f_starfree_cuts_meet_eq (C : CallF) (c_0 c_1 d_0 d_1 : Int) : bodyK Try.prog ann C 37 [.agg [.int .u64 c_0, .int .u64 c_1], .agg [.int .u64 d_0, .int .u64 d_1]] [] = f_starfree_cuts_meet C c_0 c_1 d_0 d_1 :=
 Eq.trans (bodyK_fin (by kernel_rfl)) (Eq.trans (execK_items (by kernel_rfl)) (Eq.trans (h37_1_eq C c_0 c_1 d_0 d_1 (finK Try.prog ann C 37 [])) (by kernel_rfl)))
theorem f_starfree_cuts_meet_of {c_0 : Int} {c_1 : Int} {d_0 : Int} {d_1 : Int} {r : V × List V} (h : f_starfree_cuts_meet CC c_0 c_1 d_0 d_1 = some r) : CC F_starfree_cuts_meet [.agg [.int .u64 c_0, .int .u64 c_1], .agg [.int .u64 d_0, .int .u64 d_1]] [] = some r :=
 Call_of_body ((bodyK_eq ..).trans ((f_starfree_cuts_meet_eq ..).trans h))
end Go.AM

set_option maxRecDepth 100000
namespace Go.AM
open Go.Proofs
/-! (semigroup/starfree.cuts).without -/
noncomputable def d38_1 (C : CallF)  {β : Type} (k0 : Option β) : Option β :=
 k0
noncomputable abbrev z38_0 (c0 c1 : Int) : St :=
 mk [(4, .ptr 0 0 0)] [.var [.int .u64 c0, .int .u64 c1]]
noncomputable abbrev z38_1 (c0 c1 c2 c3 : Int) : St :=
 mk [(0, .agg [.int .u64 c0, .int .u64 c1]), (1, .agg [.int .u64 c2, .int .u64 c3])] []
theorem h38_1_eq (C : CallF) (c_0 c_1 d_0 d_1 : Int) {β : Type} (K : Out → St → Option β) :
 execL Try.prog ann C 38 16 0 (codesAt Try.prog 38 [[0], [1, 0], [1, 1]]) (z38_1 c_0 c_1 d_0 d_1) K =
  d38_1 C
   (K .ret (z38_0 (IntKind.wrap .u64 ((BitVec.ofInt (IntKind.bits .u64) c_0 &&& ~~~ BitVec.ofInt (IntKind.bits .u64) d_0).toNat)) (IntKind.wrap .u64 ((BitVec.ofInt (IntKind.bits .u64) c_1 &&& ~~~ BitVec.ofInt (IntKind.bits .u64) d_1).toNat)))) := by kernel_rfl
noncomputable def f_starfree_cuts_without (C : CallF) (c_0 c_1 d_0 d_1 : Int) : Option (V × List V) :=
 some (.agg [.int .u64 (IntKind.wrap .u64 ((BitVec.ofInt (IntKind.bits .u64) c_0 &&& ~~~ BitVec.ofInt (IntKind.bits .u64) d_0).toNat)), .int .u64 (IntKind.wrap .u64 ((BitVec.ofInt (IntKind.bits .u64) c_1 &&& ~~~ BitVec.ofInt (IntKind.bits .u64) d_1).toNat))], [])
theorem f_starfree_cuts_without_eq (C : CallF) (c_0 c_1 d_0 d_1 : Int) : bodyK Try.prog ann C 38 [.agg [.int .u64 c_0, .int .u64 c_1], .agg [.int .u64 d_0, .int .u64 d_1]] [] = f_starfree_cuts_without C c_0 c_1 d_0 d_1 :=
 Eq.trans (bodyK_fin (by kernel_rfl)) (Eq.trans (execK_items (by kernel_rfl)) (Eq.trans (h38_1_eq C c_0 c_1 d_0 d_1 (finK Try.prog ann C 38 [])) (by kernel_rfl)))
theorem f_starfree_cuts_without_of {c_0 : Int} {c_1 : Int} {d_0 : Int} {d_1 : Int} {r : V × List V} (h : f_starfree_cuts_without CC c_0 c_1 d_0 d_1 = some r) : CC F_starfree_cuts_without [.agg [.int .u64 c_0, .int .u64 c_1], .agg [.int .u64 d_0, .int .u64 d_1]] [] = some r :=
 Call_of_body ((bodyK_eq ..).trans ((f_starfree_cuts_without_eq ..).trans h))
end Go.AM

set_option maxRecDepth 100000
namespace Go.AM
open Go.Proofs
/-! semigroup/starfree.between -/
noncomputable def d35_1 (C : CallF)  {β : Type} (k0 : Option β) : Option β :=
 k0
noncomputable abbrev z35_0 (c0 c1 c2 c3 c4 c5 : Int) : St :=
 mk [(1, .int .i64 c0), (4, .ptr 0 0 0), (5, .ptr 1 0 0), (6, .int .i64 c1)] [.var [.int .u64 c2, .int .u64 c3], .var [.int .u64 c4, .int .u64 c5]]
noncomputable abbrev q35_0 : List Code := codesAt Try.prog 35 [[0], [1, 0], [1, 1, 0, 0]]
noncomputable abbrev z35_1 (c0 c1 : Int) : St :=
 mk [(0, .int .i64 c0), (1, .int .i64 c1)] []
theorem h35_1_eq (C : CallF) (first last : Int) {β : Type} (K : Out → St → Option β) :
 execL Try.prog ann C 35 17 0 (q35_0) (z35_1 first last) K =
  d35_1 C
   (K .norm (z35_0 last first 0 0 0 0)) := by kernel_rfl
noncomputable def d35_2 (C : CallF) (last j cs_0 cs_1 : Int) {β : Type} (k0 : Int → Int → Option β) (k1 : Option β) : Option β :=
 bif decide ((j : Int) ≤ last) then
  (C F_starfree_cuts_with [.agg [.int .u64 cs_0, .int .u64 cs_1], .int .i64 j] []).bind fun r2 =>
   k0 ((r2.1.cell 0).toInt) ((r2.1.cell 1).toInt)
 else
  k1
noncomputable abbrev z35_2 (c0 c1 : Int) (c2 : Bool) (c3 c4 c5 c6 : Int) : St :=
 mk [(1, .int .i64 c0), (4, .ptr 0 0 0), (5, .ptr 1 0 0), (6, .int .i64 c1), (10, .bool c2)] [.var [.int .u64 c3, .int .u64 c4], .var [.int .u64 c5, .int .u64 c6]]
noncomputable abbrev q35_1 : List Code := codesAt Try.prog 35 [[1, 1, 0, 1, 0, 0, 0, 0], [1, 1, 0, 1, 0, 0, 0, 1], [1, 1, 0, 1, 0, 0, 1, 0], [1, 1, 0, 1, 0, 0, 1, 1]]
theorem h35_2_eq (C : CallF) (last j t4s_0 t4s_1 cs_0 cs_1 : Int) {β : Type} (K : Out → St → Option β) :
 execL Try.prog ann C 35 17 0 (q35_1) (z35_0 last j t4s_0 t4s_1 cs_0 cs_1) K =
  d35_2 C last j cs_0 cs_1
   (fun (cs_00 : Int) (cs_10 : Int) => K .norm (z35_0 last (IntKind.wrap .i64 (j + 1)) t4s_0 t4s_1 cs_00 cs_10))
   (K (.exit 0) (z35_2 last j (decide ((j : Int) ≤ last)) t4s_0 t4s_1 cs_0 cs_1)) := by kernel_rfl
noncomputable def s_starfree_between_3L_step (C : CallF) (last : Int) : (Int × Int × Int) → Option ((Int × Int × Int) ⊕ ((Int × Bool × Int × Int))) := fun (j, cs_0, cs_1) =>
 bif decide ((j : Int) ≤ last) then
  (C F_starfree_cuts_with [.agg [.int .u64 cs_0, .int .u64 cs_1], .int .i64 j] []).bind fun r2 =>
   some (.inl (IntKind.wrap .i64 (j + 1), ((r2.1.cell 0).toInt), ((r2.1.cell 1).toInt)))
 else
  some (.inr (j, decide ((j : Int) ≤ last), cs_0, cs_1))
noncomputable def s_starfree_between_3L (C : CallF) (last j cs_0 cs_1 : Int) {β : Type} (k0 : Int → Bool → Int → Int → Option β) : Option β :=
 (Loop (s_starfree_between_3L_step C last) (j, cs_0, cs_1)).bind fun (j0, t100, cs_00, cs_10) => k0 j0 t100 cs_00 cs_10
noncomputable def s_starfree_between_3L_dec : Out → St → Option ((Int × Int × Int) ⊕ ((Int × Bool × Int × Int))) := fun o st => match o with
 | .norm => some (.inl (V.toInt (st.sl 6), V.toInt (V.nth (varOf (st.hp 1)) 0), V.toInt (V.nth (varOf (st.hp 1)) 1)))
 | .exit q => bif Nat.beq q 0 then some (.inr (V.toInt (st.sl 6), V.toBool (st.sl 10), V.toInt (V.nth (varOf (st.hp 1)) 0), V.toInt (V.nth (varOf (st.hp 1)) 1))) else none
 | .ret => none
noncomputable def s_starfree_between_3L_hd (last t4s_0 t4s_1 : Int) : (Int × Int × Int) → St := fun (j, cs_0, cs_1) => z35_0 last j t4s_0 t4s_1 cs_0 cs_1
noncomputable def s_starfree_between_3L_enc (last t4s_0 t4s_1 : Int) : ((Int × Bool × Int × Int)) → Out × St := fun (j0, t100, cs_00, cs_10) => (.exit 0, z35_2 last j0 t100 t4s_0 t4s_1 cs_00 cs_10)
theorem s_starfree_between_3L_eq (C : CallF) (last j t4s_0 t4s_1 cs_0 cs_1 : Int) {β : Type} (K : Out → St → Option β) :
 execL Try.prog ann C 35 17 0 (codesAt Try.prog 35 [[1, 1, 0, 1, 0]]) (z35_0 last j t4s_0 t4s_1 cs_0 cs_1) K =
  s_starfree_between_3L C last j cs_0 cs_1
   (fun (j0 : Int) (t100 : Bool) (cs_00 : Int) (cs_10 : Int) => K (.exit 0) (z35_2 last j0 t100 t4s_0 t4s_1 cs_00 cs_10)) := by
 have hitems : flatC (codeAt [1, 1, 0, 1, 0, 0] (bodyOf Try.prog 35)) = q35_1 := by kernel_rfl
 have hloop : [codeAt [1, 1, 0, 1, 0] (bodyOf Try.prog 35)] = [Code.loop (codeAt [1, 1, 0, 1, 0, 0] (bodyOf Try.prog 35))] := by kernel_rfl
 have h := loopK_eq (P := Try.prog) (A := ann) (C := C) (f := 35) (n := 17) (m := 0) (c := codeAt [1, 1, 0, 1, 0, 0] (bodyOf Try.prog 35)) (s_starfree_between_3L_hd last t4s_0 t4s_1) (s_starfree_between_3L_enc last t4s_0 t4s_1) s_starfree_between_3L_dec (s_starfree_between_3L_step C last)
  (by rintro ⟨j, cs_0, cs_1⟩; exact Eq.trans (execK_items hitems) (Eq.trans (h35_2_eq C last j t4s_0 t4s_1 cs_0 cs_1 s_starfree_between_3L_dec) (by kernel_rfl)))
  (by rintro ⟨j, cs_0, cs_1⟩; exact Eq.trans (execK_items hitems) (Eq.trans (h35_2_eq C last j t4s_0 t4s_1 cs_0 cs_1 (fun o st => some (o, st))) (Eq.trans (by kernel_rfl) (Eq.trans (h35_2_eq C last j t4s_0 t4s_1 cs_0 cs_1 (fun o st => (s_starfree_between_3L_dec o st).map (outS (s_starfree_between_3L_hd last t4s_0 t4s_1) (s_starfree_between_3L_enc last t4s_0 t4s_1)))).symm (execK_items hitems).symm))))
  (by intro r; intro h; cases h) (j, cs_0, cs_1) K
 refine Eq.trans (congrArg (fun l => execL Try.prog ann C 35 17 0 l (z35_0 last j t4s_0 t4s_1 cs_0 cs_1) K) hloop) (Eq.trans h ?_)
 · refine congrArg _ (funext fun r => ?_)
   rfl
noncomputable def d35_4 (C : CallF) (last j cs_0 cs_1 : Int) {β : Type} (k0 : Int → Int → Option β) : Option β :=
 s_starfree_between_3L C last j cs_0 cs_1
  (fun (j_3 : Int) (t_4 : Bool) (cs_5 : Int) (cs_6 : Int) =>
   k0 cs_5 cs_6)
noncomputable abbrev z35_3 (c0 c1 c2 c3 : Int) : St :=
 mk [(4, .ptr 0 0 0), (5, .ptr 1 0 0)] [.var [.int .u64 c0, .int .u64 c1], .var [.int .u64 c2, .int .u64 c3]]
theorem h35_4_eq (C : CallF) (last j t4s_0 t4s_1 cs_0 cs_1 : Int) {β : Type} (K : Out → St → Option β) :
 execL Try.prog ann C 35 17 0 (codesAt Try.prog 35 [[1, 1, 0, 1]]) (z35_0 last j t4s_0 t4s_1 cs_0 cs_1) K =
  d35_4 C last j cs_0 cs_1
   (fun (cs_00 : Int) (cs_10 : Int) => K .norm (z35_3 t4s_0 t4s_1 cs_00 cs_10)) := Eq.trans (execL_block (P := Try.prog) (A := ann) (C := C) (f := 35) (n := 17) (m := 0) (id := 0) (c := codeAt [1, 1, 0, 1] (bodyOf Try.prog 35)) (d := codeAt [1, 1, 0, 1, 0] (bodyOf Try.prog 35)) (l := codesAt Try.prog 35 [[1, 1, 0, 1, 0]]) (st := z35_0 last j t4s_0 t4s_1 cs_0 cs_1) (K := K) (by kernel_rfl) (by kernel_rfl)) (Eq.trans (s_starfree_between_3L_eq C last j t4s_0 t4s_1 cs_0 cs_1 (blockK ann 35 0 0 K)) (by kernel_rfl))
noncomputable def d35_5 (C : CallF)  {β : Type} (k0 : Option β) : Option β :=
 k0
noncomputable abbrev z35_4 (c0 c1 : Int) : St :=
 mk [(4, .ptr 0 0 0)] [.var [.int .u64 c0, .int .u64 c1]]
noncomputable abbrev q35_2 : List Code := codesAt Try.prog 35 [[1, 1, 1, 0], [1, 1, 1, 1]]
theorem h35_5_eq (C : CallF) (t4s_0 t4s_1 cs_0 cs_1 : Int) {β : Type} (K : Out → St → Option β) :
 execL Try.prog ann C 35 17 0 (q35_2) (z35_3 t4s_0 t4s_1 cs_0 cs_1) K =
  d35_5 C
   (K .ret (z35_4 cs_0 cs_1)) := by kernel_rfl
noncomputable def d35_6 (C : CallF) (last j cs_0 cs_1 : Int) {β : Type} (k0 : Int → Int → Option β) : Option β :=
 d35_4 C last j cs_0 cs_1
  (fun (cs_11 : Int) (cs_12 : Int) =>
   d35_5 C
    (
     k0 cs_11 cs_12))
noncomputable abbrev q35_3 : List Code := codesAt Try.prog 35 [[1, 1, 0, 1], [1, 1, 1, 0], [1, 1, 1, 1]]
theorem h35_6_eq (C : CallF) (last j t4s_0 t4s_1 cs_0 cs_1 : Int) {β : Type} (K : Out → St → Option β) :
 execL Try.prog ann C 35 17 0 (q35_3) (z35_0 last j t4s_0 t4s_1 cs_0 cs_1) K =
  d35_6 C last j cs_0 cs_1
   (fun (t4s_00 : Int) (t4s_10 : Int) => K .ret (z35_4 t4s_00 t4s_10)) := by
 refine Eq.trans (execL_app (P := Try.prog) (A := ann) (C := C) (f := 35) (n := 17) (m := 0) (codesAt Try.prog 35 [[1, 1, 0, 1]]) (q35_2) (st := z35_0 last j t4s_0 t4s_1 cs_0 cs_1) (K := K)) (Eq.trans (h35_4_eq C last j t4s_0 t4s_1 cs_0 cs_1 (seqK Try.prog ann C 35 17 0 (q35_2) K)) ?_)
 · exact Eq.trans (by kernel_rfl) (Eq.trans (congrArg (fun HOLE : Int → Int → Option β => d35_4 C last j cs_0 cs_1 HOLE) (funext fun (cs_00 : Int) => funext fun (cs_10 : Int) => h35_5_eq C t4s_0 t4s_1 cs_00 cs_10 K)) ((by kernel_rfl)))
noncomputable def d35_7 (C : CallF) (first last : Int) {β : Type} (k0 : Int → Int → Option β) : Option β :=
 d35_1 C
  (
   d35_6 C last first 0 0
    (fun (t4s_13 : Int) (t4s_14 : Int) =>
     k0 t4s_13 t4s_14))
noncomputable abbrev q35_4 : List Code := codesAt Try.prog 35 [[0], [1, 0], [1, 1, 0, 0], [1, 1, 0, 1], [1, 1, 1, 0], [1, 1, 1, 1]]
theorem h35_7_eq (C : CallF) (first last : Int) {β : Type} (K : Out → St → Option β) :
 execL Try.prog ann C 35 17 0 (q35_4) (z35_1 first last) K =
  d35_7 C first last
   (fun (t4s_00 : Int) (t4s_10 : Int) => K .ret (z35_4 t4s_00 t4s_10)) := by
 refine Eq.trans (execL_app (P := Try.prog) (A := ann) (C := C) (f := 35) (n := 17) (m := 0) (q35_0) (q35_3) (st := z35_1 first last) (K := K)) (Eq.trans (h35_1_eq C first last (seqK Try.prog ann C 35 17 0 (q35_3) K)) ?_)
 · exact Eq.trans (by kernel_rfl) (Eq.trans (congrArg (fun HOLE : Option β => d35_1 C HOLE) (h35_6_eq C last first 0 0 0 0 K)) ((by kernel_rfl)))
noncomputable def f_starfree_between (C : CallF) (first last : Int) : Option (V × List V) :=
 s_starfree_between_3L C last first 0 0
  (fun (j_7 : Int) (t_8 : Bool) (cs_9 : Int) (cs_10 : Int) =>
   some (.agg [.int .u64 cs_9, .int .u64 cs_10], []))
theorem f_starfree_between_eq (C : CallF) (first last : Int) : bodyK Try.prog ann C 35 [.int .i64 first, .int .i64 last] [] = f_starfree_between C first last :=
 Eq.trans (bodyK_fin (by kernel_rfl)) (Eq.trans (execK_items (by kernel_rfl)) (Eq.trans (h35_7_eq C first last (finK Try.prog ann C 35 [])) (by kernel_rfl)))
theorem f_starfree_between_of {first : Int} {last : Int} {r : V × List V} (h : f_starfree_between CC first last = some r) : CC F_starfree_between [.int .i64 first, .int .i64 last] [] = some r :=
 Call_of_body ((bodyK_eq ..).trans ((f_starfree_between_eq ..).trans h))
end Go.AM

/-
 Sets of cuts: two words of 64 bits.
-/
namespace Go.AM
open Go.Proofs
/-- The value is the set of the cuts j with f j. -/
def IsCut (v : V) (f : Nat → Bool) : Prop := ∃ A B : Nat, A < 2 ^ 64 ∧ B < 2 ^ 64 ∧ v = .agg [.int .u64 A, .int .u64 B] ∧ ∀ k, k < 64 → A.testBit k = f k ∧ B.testBit k = f (64 + k)
theorem IsCut.congr {v : V} {f g : Nat → Bool} (h : IsCut v f) (hfg : ∀ k, k < 128 → f k = g k) : IsCut v g := by
 obtain ⟨A, B, a, b, e, hk⟩ := h
 exact ⟨A, B, a, b, e, fun k h => ⟨by rw [(hk k h).1, hfg k (by omega)], by rw [(hk k h).2, hfg (64 + k) (by omega)]⟩⟩
theorem isCut_zero : IsCut (.agg [.int .u64 0, .int .u64 0]) fun _ => false :=
 ⟨0, 0, by omega, by omega, rfl, fun k _ => by simp⟩
theorem div64 {j : Nat} (h : j < 128) : IntKind.wrap .i64 (Int.tdiv (j : Int) 64) = ((j / 64 : Nat) : Int) := by
 have : Int.tdiv (j : Int) 64 = ((j / 64 : Nat) : Int) := by
  rw [Int.tdiv_eq_ediv_of_nonneg (by omega)]; exact (Int.natCast_ediv j 64).symm
 rw [this, wrap64 (by omega) (by omega)]
theorem mod64 (j : Nat) : Int.tmod (j : Int) 64 = ((j % 64 : Nat) : Int) := by
 rw [Int.tmod_eq_emod_of_nonneg (by omega)]; exact (Int.natCast_emod j 64).symm
theorem has_spec {v : V} {f : Nat → Bool} {j : Nat} (h : IsCut v f) (hj : j < 128) : CC F_starfree_cuts_has [v, .int .i64 j] [] = some (.bool (f j), []) := by
 obtain ⟨A, B, hA, hB, rfl, hk⟩ := h
 refine f_starfree_cuts_has_of ?_
 unfold f_starfree_cuts_has
 rw [div64 hj, mod64]
 have hm : j % 64 < 64 := Nat.mod_lt _ (by omega)
 simp only [bif_and, bif_decide]
 rw [if_pos (by omega), if_pos (by omega)]
 by_cases h64 : j < 64
 · have : j / 64 = 0 := by omega
   simp only [this, Int.toNat_natCast]
   simp only [Nat.zero_mul, Nat.add_zero, List.getElem?_cons_zero, Option.bind_some, V.toInt_int]
   rw [if_pos (by omega), u64_has hA hm, Nat.mod_eq_of_lt h64, (hk j h64).1]
 · have : j / 64 = 1 := by omega
   simp only [this, Int.toNat_natCast]
   simp only [Nat.one_mul, Nat.zero_add, List.getElem?_cons_succ, List.getElem?_cons_zero, Option.bind_some, V.toInt_int]
   rw [if_pos (by omega), u64_has hB hm, (hk _ hm).2]
   have : 64 + j % 64 = j := by omega
   rw [this]
theorem with_spec {v : V} {f : Nat → Bool} {j : Nat} (h : IsCut v f) (hj : j < 128) : ∃ v', IsCut v' (fun k => f k || decide (k = j)) ∧ CC F_starfree_cuts_with [v, .int .i64 j] [] = some (v', []) := by
 obtain ⟨A, B, hA, hB, rfl, hk⟩ := h
 have hm : j % 64 < 64 := Nat.mod_lt _ (by omega)
 have hp : 2 ^ (j % 64) < 2 ^ 64 := Nat.pow_lt_pow_right (by omega) hm
 by_cases h64 : j < 64
 · have h0 : j / 64 = 0 := by omega
   refine ⟨.agg [.int .u64 ((A ||| 2 ^ (j % 64) : Nat) : Int), .int .u64 B], ⟨_, B, Nat.or_lt_two_pow hA hp, hB, rfl, fun k hk' => ⟨?_, ?_⟩⟩, f_starfree_cuts_with_of ?_⟩
   · rw [Nat.testBit_or, (hk k hk').1, Nat.testBit_two_pow]
     congr 1
     rw [decide_eq_decide]; omega
   · rw [(hk k hk').2]
     have : ¬ (64 + k = j) := by omega
     simp [this]
   · unfold f_starfree_cuts_with
     rw [div64 hj, mod64]
     simp only [bif_and, bif_decide, h0, Int.toNat_natCast]
     rw [if_pos (by omega), if_pos (by omega)]
     simp only [Nat.zero_mul, Nat.add_zero, List.getElem?_cons_zero, Option.bind_some, V.toInt_int]
     rw [if_pos (by omega), if_pos (by omega), if_pos (by omega), u64_bit hm, u64_or hA hp]
     rfl
 · have h0 : j / 64 = 1 := by omega
   refine ⟨.agg [.int .u64 A, .int .u64 ((B ||| 2 ^ (j % 64) : Nat) : Int)], ⟨A, _, hA, Nat.or_lt_two_pow hB hp, rfl, fun k hk' => ⟨?_, ?_⟩⟩, f_starfree_cuts_with_of ?_⟩
   · rw [(hk k hk').1]
     have : ¬ (k = j) := by omega
     simp [this]
   · rw [Nat.testBit_or, (hk k hk').2, Nat.testBit_two_pow]
     congr 1
     rw [decide_eq_decide]; omega
   · unfold f_starfree_cuts_with
     rw [div64 hj, mod64]
     simp only [bif_and, bif_decide, h0, Int.toNat_natCast]
     rw [if_pos (by omega), if_pos (by omega)]
     simp only [Nat.one_mul, Nat.zero_add, List.getElem?_cons_succ, List.getElem?_cons_zero, Option.bind_some, V.toInt_int]
     rw [if_pos (by omega), if_pos (by omega), if_pos (by omega), u64_bit hm, u64_or hB hp]
     rfl
theorem union_spec {v u : V} {f g : Nat → Bool} (h : IsCut v f) (h' : IsCut u g) : ∃ v', IsCut v' (fun k => f k || g k) ∧ CC F_starfree_cuts_union [v, u] [] = some (v', []) := by
 obtain ⟨A, B, hA, hB, rfl, hk⟩ := h
 obtain ⟨A', B', hA', hB', rfl, hk'⟩ := h'
 refine ⟨.agg [.int .u64 ((A ||| A' : Nat) : Int), .int .u64 ((B ||| B' : Nat) : Int)], ⟨_, _, Nat.or_lt_two_pow hA hA', Nat.or_lt_two_pow hB hB', rfl, fun k h => ⟨?_, ?_⟩⟩, f_starfree_cuts_union_of ?_⟩
 · rw [Nat.testBit_or, (hk k h).1, (hk' k h).1]
 · rw [Nat.testBit_or, (hk k h).2, (hk' k h).2]
 · unfold f_starfree_cuts_union
   rw [u64_or hA hA', u64_or hB hB']
theorem meet_spec {v u : V} {f g : Nat → Bool} (h : IsCut v f) (h' : IsCut u g) : ∃ v', IsCut v' (fun k => f k && g k) ∧ CC F_starfree_cuts_meet [v, u] [] = some (v', []) := by
 obtain ⟨A, B, hA, hB, rfl, hk⟩ := h
 obtain ⟨A', B', hA', hB', rfl, hk'⟩ := h'
 refine ⟨.agg [.int .u64 ((A &&& A' : Nat) : Int), .int .u64 ((B &&& B' : Nat) : Int)], ⟨_, _, Nat.lt_of_le_of_lt Nat.and_le_left hA, Nat.lt_of_le_of_lt Nat.and_le_left hB, rfl, fun k h => ⟨?_, ?_⟩⟩, f_starfree_cuts_meet_of ?_⟩
 · rw [Nat.testBit_and, (hk k h).1, (hk' k h).1]
 · rw [Nat.testBit_and, (hk k h).2, (hk' k h).2]
 · unfold f_starfree_cuts_meet
   rw [u64_and hA hA', u64_and hB hB']
theorem without_spec {v u : V} {f g : Nat → Bool} (h : IsCut v f) (h' : IsCut u g) : ∃ v', IsCut v' (fun k => f k && !(g k)) ∧ CC F_starfree_cuts_without [v, u] [] = some (v', []) := by
 obtain ⟨A, B, hA, hB, rfl, hk⟩ := h
 obtain ⟨A', B', hA', hB', rfl, hk'⟩ := h'
 obtain ⟨D, d1, d2, d3⟩ := u64_andNot A' hA
 obtain ⟨E, e1, e2, e3⟩ := u64_andNot B' hB
 refine ⟨.agg [.int .u64 (D : Int), .int .u64 (E : Int)], ⟨_, _, d1, e1, rfl, fun k h => ⟨?_, ?_⟩⟩, f_starfree_cuts_without_of ?_⟩
 · rw [d2, (hk k h).1, (hk' k h).1]
 · rw [e2, (hk k h).2, (hk' k h).2]
 · unfold f_starfree_cuts_without
   rw [d3, e3]
theorem between_spec {i n : Nat} (hn : n < 128) (hi : i ≤ n + 1) : ∃ v, IsCut v (fun k => decide (i ≤ k ∧ k ≤ n)) ∧ CC F_starfree_between [.int .i64 i, .int .i64 n] [] = some (v, []) := by
 have key := Loop_inv (step := s_starfree_between_3L_step CC (n : Int))
  (fun x => ∃ (j : Nat) (A B : Int), i ≤ j ∧ j ≤ n + 1 ∧ IsCut (.agg [.int .u64 A, .int .u64 B]) (fun k => decide (i ≤ k ∧ k < j)) ∧ x = ((j : Int), A, B))
  (fun x => ((n + 1 : Int) - x.1).toNat)
  (fun r => ∃ (j : Int) (b : Bool) (A B : Int), IsCut (.agg [.int .u64 A, .int .u64 B]) (fun k => decide (i ≤ k ∧ k ≤ n)) ∧ r = (j, b, A, B)) (by
   rintro x ⟨j, A, B, h1, h2, h3, rfl⟩
   unfold s_starfree_between_3L_step
   simp only [bif_decide]
   by_cases h : j ≤ n
   · left
     obtain ⟨v', hv, hc⟩ := with_spec h3 (show j < 128 by omega)
     have hv2 := hv
     obtain ⟨A', B', _, _, rfl, _⟩ := hv2
     refine ⟨((j + 1 : Nat), (A' : Int), (B' : Int)), ?_, ⟨j + 1, _, _, by omega, by omega, ?_, rfl⟩, by simp; omega⟩
     · rw [if_pos (by omega), hc]
       simp (disch := omega) only [wrap64, Option.bind_some, V.cell_agg, V.nth_zero, V.nth_one, V.toInt_int]
       rfl
     · refine hv.congr fun k _ => ?_
       by_cases hkj : k = j
       · subst hkj; simp [h1]
       · by_cases hik : i ≤ k ∧ k < j
         · simp [hik]; omega
         · have : ¬ (i ≤ k ∧ k < j + 1) := by omega
           rw [decide_eq_false hik, decide_eq_false this, decide_eq_false hkj]; rfl
   · right
     rw [if_neg (by omega)]
     refine ⟨_, rfl, _, _, A, B, h3.congr fun k _ => ?_, rfl⟩
     rw [decide_eq_decide]; omega)
 obtain ⟨r, hr, j, b, A, B, hc, rfl⟩ := key ((i : Int), 0, 0) ⟨i, 0, 0, Nat.le_refl _, hi, isCut_zero.congr fun k _ => by
  have : ¬ (i ≤ k ∧ k < i) := by omega
  simp [this], rfl⟩
 refine ⟨_, hc, f_starfree_between_of ?_⟩
 unfold f_starfree_between s_starfree_between_3L
 rw [hr]
 rfl
end Go.AM

set_option maxRecDepth 100000
namespace Go.AM
open Go.Proofs
/-! semigroup/starfree.evaluate -/
noncomputable def d24_1 (C : CallF) (w : List UInt8) {β : Type} (k0 : Option β) : Option β :=
 bif (decide (0 ≤ (IntKind.wrap .i64 ((w.length : Int) + 1)))) && ((decide ((IntKind.wrap .i64 ((w.length : Int) + 1)) ≤ (IntKind.wrap .i64 ((w.length : Int) + 1)))) && (Nat.ble (((IntKind.wrap .i64 ((w.length : Int) + 1) : Int).toNat) * 16) maxBytes)) then
  k0
 else none
noncomputable abbrev z24_0 (c0 : List V) (c1 : List UInt8) (c2 c3 c4 c5 c6 c7 : Int) (c8 : List V) : St :=
 mk [(1, .list T_starfree_table c0), (2, .str c1), (3, .ptr 0 0 0), (7, .whole T_starfree_cuts 1), (15, .int .i64 c2), (16, .int .i64 c3)] [.var [.int .i64 c4, .int .i64 c5, .int .i64 c6, .int .i64 c7], .arr T_starfree_cuts c8 false]
noncomputable abbrev q24_0 : List Code := codesAt Try.prog 24 [[0], [1, 0], [1, 1, 0, 0]]
noncomputable abbrev z24_1 (c0 c1 c2 c3 : Int) (c4 : List V) (c5 : List UInt8) : St :=
 mk [(0, .agg [.int .i64 c0, .int .i64 c1, .int .i64 c2, .int .i64 c3]), (1, .list T_starfree_table c4), (2, .str c5)] []
theorem h24_1_eq (C : CallF) (n_Op n_Letter n_A n_B : Int) (tables : List V) (w : List UInt8) {β : Type} (K : Out → St → Option β) :
 execL Try.prog ann C 24 166 0 (q24_0) (z24_1 n_Op n_Letter n_A n_B tables w) K =
  d24_1 C w
   (K .norm (z24_0 tables w ((List.replicate ((IntKind.wrap .i64 ((w.length : Int) + 1) : Int).toNat) (V.agg [.int .u64 0, .int .u64 0])).length : Int) 0 n_Op n_Letter n_A n_B (List.replicate ((IntKind.wrap .i64 ((w.length : Int) + 1) : Int).toNat) (V.agg [.int .u64 0, .int .u64 0])))) := by kernel_rfl
noncomputable def d24_2 (C : CallF) (t15 t16 : Int) {β : Type} (k0 : Option β) (k1 : Option β) : Option β :=
 bif decide ((t16 : Int) < t15) then
  k0
 else
  k1
noncomputable abbrev z24_2 (c0 : List V) (c1 : List UInt8) (c2 c3 : Int) (c4 : Bool) (c5 c6 c7 c8 : Int) (c9 : List V) : St :=
 mk [(1, .list T_starfree_table c0), (2, .str c1), (3, .ptr 0 0 0), (7, .whole T_starfree_cuts 1), (15, .int .i64 c2), (16, .int .i64 c3), (17, .bool c4)] [.var [.int .i64 c5, .int .i64 c6, .int .i64 c7, .int .i64 c8], .arr T_starfree_cuts c9 false]
noncomputable abbrev q24_1 : List Code := codesAt Try.prog 24 [[1, 1, 0, 1, 0, 0, 0], [1, 1, 0, 1, 0, 0, 1, 0]]
theorem h24_2_eq (C : CallF) (tables : List V) (w : List UInt8) (t15 t16 ns_0 ns_1 ns_2 ns_3 : Int) (ts : List V) {β : Type} (K : Out → St → Option β) :
 execL Try.prog ann C 24 166 0 (q24_1) (z24_0 tables w t15 t16 ns_0 ns_1 ns_2 ns_3 ts) K =
  d24_2 C t15 t16
   (K .norm (z24_0 tables w t15 t16 ns_0 ns_1 ns_2 ns_3 ts))
   (K (.exit 0) (z24_2 tables w t15 t16 (decide ((t16 : Int) < t15)) ns_0 ns_1 ns_2 ns_3 ts)) := by kernel_rfl
noncomputable def d24_3 (C : CallF)  {β : Type} (k0 : Option β) : Option β :=
 k0
noncomputable abbrev z24_3 (c0 : List V) (c1 : List UInt8) (c2 c3 c4 c5 c6 c7 c8 c9 : Int) (c10 : List V) : St :=
 mk [(1, .list T_starfree_table c0), (2, .str c1), (3, .ptr 0 0 0), (7, .whole T_starfree_cuts 1), (8, .int .i64 c2), (15, .int .i64 c3), (16, .int .i64 c4), (20, .int .i64 c5)] [.var [.int .i64 c6, .int .i64 c7, .int .i64 c8, .int .i64 c9], .arr T_starfree_cuts c10 false]
noncomputable abbrev q24_2 : List Code := codesAt Try.prog 24 [[1, 1, 0, 1, 0, 0, 1, 1, 0, 0, 0], [1, 1, 0, 1, 0, 0, 1, 1, 0, 0, 1, 0]]
theorem h24_3_eq (C : CallF) (tables : List V) (w : List UInt8) (t15 t16 ns_0 ns_1 ns_2 ns_3 : Int) (ts : List V) {β : Type} (K : Out → St → Option β) :
 execL Try.prog ann C 24 166 0 (q24_2) (z24_0 tables w t15 t16 ns_0 ns_1 ns_2 ns_3 ts) K =
  d24_3 C
   (K .norm (z24_3 tables w t16 t15 t16 ns_0 ns_0 ns_1 ns_2 ns_3 ts)) := by kernel_rfl
noncomputable def d24_4 (C : CallF)  {β : Type} (k0 : Option β) : Option β :=
 k0
noncomputable abbrev z24_4 (c0 : List V) (c1 : List UInt8) (c2 c3 c4 c5 : Int) (c6 : Bool) (c7 c8 c9 c10 : Int) (c11 : List V) : St :=
 mk [(1, .list T_starfree_table c0), (2, .str c1), (3, .ptr 0 0 0), (7, .whole T_starfree_cuts 1), (8, .int .i64 c2), (15, .int .i64 c3), (16, .int .i64 c4), (20, .int .i64 c5), (21, .bool c6)] [.var [.int .i64 c7, .int .i64 c8, .int .i64 c9, .int .i64 c10], .arr T_starfree_cuts c11 false]
noncomputable abbrev q24_3 : List Code := codesAt Try.prog 24 [[1, 1, 0, 1, 0, 0, 1, 1, 0, 0, 1, 1, 0, 0]]
theorem h24_4_eq (C : CallF) (tables : List V) (w : List UInt8) (i t15 t16 t20 ns_0 ns_1 ns_2 ns_3 : Int) (ts : List V) {β : Type} (K : Out → St → Option β) :
 execL Try.prog ann C 24 166 0 (q24_3) (z24_3 tables w i t15 t16 t20 ns_0 ns_1 ns_2 ns_3 ts) K =
  d24_4 C
   (K .norm (z24_4 tables w i t15 t16 t20 ((t20 : Int) == 2) ns_0 ns_1 ns_2 ns_3 ts)) := by kernel_rfl
noncomputable def d24_5 (C : CallF) (i : Int) (ts : List V) {β : Type} (k0 : (List V) → Option β) : Option β :=
 bif (decide (0 ≤ i)) && (decide (i < (ts.length : Int))) then
  (ts[(i : Int).toNat]?).bind fun x1 =>
   (C F_starfree_cuts_with [.agg [.int .u64 ((x1.cell 0).toInt), .int .u64 ((x1.cell 1).toInt)], .int .i64 i] []).bind fun r2 =>
    bif (decide (0 ≤ i)) && (decide (i < (ts.length : Int))) then
     (ts[(i : Int).toNat]?).bind fun x3 =>
      k0 (ts.set ((i : Int).toNat) (.agg [.int .u64 ((r2.1.cell 0).toInt), .int .u64 ((r2.1.cell 1).toInt)]))
    else none
 else none
noncomputable abbrev q24_4 : List Code := codesAt Try.prog 24 [[1, 1, 0, 1, 0, 0, 1, 1, 0, 0, 1, 1, 0, 1, 0]]
theorem h24_5_eq (C : CallF) (tables : List V) (w : List UInt8) (i t15 t16 t20 : Int) (t21 : Bool) (ns_0 ns_1 ns_2 ns_3 : Int) (ts : List V) {β : Type} (K : Out → St → Option β) :
 execL Try.prog ann C 24 166 0 (q24_4) (z24_4 tables w i t15 t16 t20 t21 ns_0 ns_1 ns_2 ns_3 ts) K =
  d24_5 C i ts
   (fun (ts0 : List V) => K .norm (z24_0 tables w t15 t16 ns_0 ns_1 ns_2 ns_3 ts0)) := by kernel_rfl
noncomputable def d24_6 (C : CallF)  {β : Type} (k0 : Option β) : Option β :=
 k0
noncomputable abbrev z24_5 (c0 : List V) (c1 : List UInt8) (c2 c3 c4 c5 : Int) (c6 : Bool) (c7 c8 c9 c10 : Int) (c11 : List V) : St :=
 mk [(1, .list T_starfree_table c0), (2, .str c1), (3, .ptr 0 0 0), (7, .whole T_starfree_cuts 1), (8, .int .i64 c2), (15, .int .i64 c3), (16, .int .i64 c4), (20, .int .i64 c5), (32, .bool c6)] [.var [.int .i64 c7, .int .i64 c8, .int .i64 c9, .int .i64 c10], .arr T_starfree_cuts c11 false]
noncomputable abbrev q24_5 : List Code := codesAt Try.prog 24 [[1, 1, 0, 1, 0, 0, 1, 1, 0, 0, 1, 1, 0, 1, 1, 0]]
theorem h24_6_eq (C : CallF) (tables : List V) (w : List UInt8) (i t15 t16 t20 : Int) (t21 : Bool) (ns_0 ns_1 ns_2 ns_3 : Int) (ts : List V) {β : Type} (K : Out → St → Option β) :
 execL Try.prog ann C 24 166 0 (q24_5) (z24_4 tables w i t15 t16 t20 t21 ns_0 ns_1 ns_2 ns_3 ts) K =
  d24_6 C
   (K .norm (z24_5 tables w i t15 t16 t20 ((t20 : Int) == 3) ns_0 ns_1 ns_2 ns_3 ts)) := by kernel_rfl
noncomputable def s_starfree_evaluate_7 (C : CallF) (w : List UInt8) (i ns_1 : Int) (ts : List V) {β : Type} (k0 : (List V) → Option β) : Option β :=
 bif decide ((i : Int) < (w.length : Int)) then
  (bif decide (0 ≤ i) then (w[(i : Int).toNat]?).map fun b => V.int .u8 b.toNat else none).bind fun x5 =>
   bif ((IntKind.wrap .i64 (IntKind.wrap .u8 (x5.toInt - 97))) : Int) == ns_1 then
    bif (decide (0 ≤ i)) && (decide (i < (ts.length : Int))) then
     (ts[(i : Int).toNat]?).bind fun x6 =>
      (C F_starfree_cuts_with [.agg [.int .u64 ((x6.cell 0).toInt), .int .u64 ((x6.cell 1).toInt)], .int .i64 (IntKind.wrap .i64 (i + 1))] []).bind fun r7 =>
       bif (decide (0 ≤ i)) && (decide (i < (ts.length : Int))) then
        (ts[(i : Int).toNat]?).bind fun x8 =>
         k0 (ts.set ((i : Int).toNat) (.agg [.int .u64 ((r7.1.cell 0).toInt), .int .u64 ((r7.1.cell 1).toInt)]))
       else none
    else none
   else
    k0 ts
 else
  k0 ts
noncomputable abbrev q24_6 : List Code := codesAt Try.prog 24 [[1, 1, 0, 1, 0, 0, 1, 1, 0, 0, 1, 1, 0, 1, 1, 1, 0, 0], [1, 1, 0, 1, 0, 0, 1, 1, 0, 0, 1, 1, 0, 1, 1, 1, 0, 1]]
theorem s_starfree_evaluate_7_eq (C : CallF) (tables : List V) (w : List UInt8) (i t15 t16 t20 : Int) (t32 : Bool) (ns_0 ns_1 ns_2 ns_3 : Int) (ts : List V) {β : Type} (K : Out → St → Option β) :
 execL Try.prog ann C 24 166 0 (q24_6) (z24_5 tables w i t15 t16 t20 t32 ns_0 ns_1 ns_2 ns_3 ts) K =
  s_starfree_evaluate_7 C w i ns_1 ts
   (fun (ts0 : List V) => K .norm (z24_0 tables w t15 t16 ns_0 ns_1 ns_2 ns_3 ts0)) := by kernel_rfl
noncomputable def d24_8 (C : CallF)  {β : Type} (k0 : Option β) : Option β :=
 k0
noncomputable abbrev z24_6 (c0 : List V) (c1 : List UInt8) (c2 c3 c4 c5 : Int) (c6 : Bool) (c7 c8 c9 c10 : Int) (c11 : List V) : St :=
 mk [(1, .list T_starfree_table c0), (2, .str c1), (3, .ptr 0 0 0), (7, .whole T_starfree_cuts 1), (8, .int .i64 c2), (15, .int .i64 c3), (16, .int .i64 c4), (20, .int .i64 c5), (58, .bool c6)] [.var [.int .i64 c7, .int .i64 c8, .int .i64 c9, .int .i64 c10], .arr T_starfree_cuts c11 false]
noncomputable abbrev q24_7 : List Code := codesAt Try.prog 24 [[1, 1, 0, 1, 0, 0, 1, 1, 0, 0, 1, 1, 0, 1, 1, 1, 1, 0]]
theorem h24_8_eq (C : CallF) (tables : List V) (w : List UInt8) (i t15 t16 t20 : Int) (t32 : Bool) (ns_0 ns_1 ns_2 ns_3 : Int) (ts : List V) {β : Type} (K : Out → St → Option β) :
 execL Try.prog ann C 24 166 0 (q24_7) (z24_5 tables w i t15 t16 t20 t32 ns_0 ns_1 ns_2 ns_3 ts) K =
  d24_8 C
   (K .norm (z24_6 tables w i t15 t16 t20 ((t20 : Int) == 4) ns_0 ns_1 ns_2 ns_3 ts)) := by kernel_rfl
noncomputable def d24_9 (C : CallF) (w : List UInt8) (i : Int) (ts : List V) {β : Type} (k0 : (List V) → Option β) : Option β :=
 (C F_starfree_between [.int .i64 i, .int .i64 (w.length : Int)] []).bind fun r9 =>
  bif (decide (0 ≤ i)) && (decide (i < (ts.length : Int))) then
   (ts[(i : Int).toNat]?).bind fun x10 =>
    k0 (ts.set ((i : Int).toNat) (.agg [.int .u64 ((r9.1.cell 0).toInt), .int .u64 ((r9.1.cell 1).toInt)]))
  else none
noncomputable abbrev q24_8 : List Code := codesAt Try.prog 24 [[1, 1, 0, 1, 0, 0, 1, 1, 0, 0, 1, 1, 0, 1, 1, 1, 1, 1, 0]]
theorem h24_9_eq (C : CallF) (tables : List V) (w : List UInt8) (i t15 t16 t20 : Int) (t58 : Bool) (ns_0 ns_1 ns_2 ns_3 : Int) (ts : List V) {β : Type} (K : Out → St → Option β) :
 execL Try.prog ann C 24 166 0 (q24_8) (z24_6 tables w i t15 t16 t20 t58 ns_0 ns_1 ns_2 ns_3 ts) K =
  d24_9 C w i ts
   (fun (ts0 : List V) => K .norm (z24_0 tables w t15 t16 ns_0 ns_1 ns_2 ns_3 ts0)) := by kernel_rfl
noncomputable def d24_10 (C : CallF)  {β : Type} (k0 : Option β) : Option β :=
 k0
noncomputable abbrev z24_7 (c0 : List V) (c1 : List UInt8) (c2 c3 c4 c5 : Int) (c6 : Bool) (c7 c8 c9 c10 : Int) (c11 : List V) : St :=
 mk [(1, .list T_starfree_table c0), (2, .str c1), (3, .ptr 0 0 0), (7, .whole T_starfree_cuts 1), (8, .int .i64 c2), (15, .int .i64 c3), (16, .int .i64 c4), (20, .int .i64 c5), (67, .bool c6)] [.var [.int .i64 c7, .int .i64 c8, .int .i64 c9, .int .i64 c10], .arr T_starfree_cuts c11 false]
noncomputable abbrev q24_9 : List Code := codesAt Try.prog 24 [[1, 1, 0, 1, 0, 0, 1, 1, 0, 0, 1, 1, 0, 1, 1, 1, 1, 1, 1, 0]]
theorem h24_10_eq (C : CallF) (tables : List V) (w : List UInt8) (i t15 t16 t20 : Int) (t58 : Bool) (ns_0 ns_1 ns_2 ns_3 : Int) (ts : List V) {β : Type} (K : Out → St → Option β) :
 execL Try.prog ann C 24 166 0 (q24_9) (z24_6 tables w i t15 t16 t20 t58 ns_0 ns_1 ns_2 ns_3 ts) K =
  d24_10 C
   (K .norm (z24_7 tables w i t15 t16 t20 ((t20 : Int) == 5) ns_0 ns_1 ns_2 ns_3 ts)) := by kernel_rfl
noncomputable def d24_11 (C : CallF) (tables : List V) (i ns_2 ns_3 : Int) (ts : List V) {β : Type} (k0 : (List V) → Option β) : Option β :=
 (idx tables ns_2).bind fun x11 =>
  (idx x11.toList i).bind fun x12 =>
   (idx tables ns_3).bind fun x13 =>
    (idx x13.toList i).bind fun x14 =>
     (C F_starfree_cuts_union [.agg [.int .u64 ((x12.cell 0).toInt), .int .u64 ((x12.cell 1).toInt)], .agg [.int .u64 ((x14.cell 0).toInt), .int .u64 ((x14.cell 1).toInt)]] []).bind fun r15 =>
      bif (decide (0 ≤ i)) && (decide (i < (ts.length : Int))) then
       (ts[(i : Int).toNat]?).bind fun x16 =>
        k0 (ts.set ((i : Int).toNat) (.agg [.int .u64 ((r15.1.cell 0).toInt), .int .u64 ((r15.1.cell 1).toInt)]))
      else none
noncomputable abbrev q24_10 : List Code := codesAt Try.prog 24 [[1, 1, 0, 1, 0, 0, 1, 1, 0, 0, 1, 1, 0, 1, 1, 1, 1, 1, 1, 1, 0]]
theorem h24_11_eq (C : CallF) (tables : List V) (w : List UInt8) (i t15 t16 t20 : Int) (t67 : Bool) (ns_0 ns_1 ns_2 ns_3 : Int) (ts : List V) {β : Type} (K : Out → St → Option β) :
 execL Try.prog ann C 24 166 0 (q24_10) (z24_7 tables w i t15 t16 t20 t67 ns_0 ns_1 ns_2 ns_3 ts) K =
  d24_11 C tables i ns_2 ns_3 ts
   (fun (ts0 : List V) => K .norm (z24_0 tables w t15 t16 ns_0 ns_1 ns_2 ns_3 ts0)) := by kernel_rfl
noncomputable def d24_12 (C : CallF)  {β : Type} (k0 : Option β) : Option β :=
 k0
noncomputable abbrev z24_8 (c0 : List V) (c1 : List UInt8) (c2 c3 c4 c5 : Int) (c6 : Bool) (c7 c8 c9 c10 : Int) (c11 : List V) : St :=
 mk [(1, .list T_starfree_table c0), (2, .str c1), (3, .ptr 0 0 0), (7, .whole T_starfree_cuts 1), (8, .int .i64 c2), (15, .int .i64 c3), (16, .int .i64 c4), (20, .int .i64 c5), (89, .bool c6)] [.var [.int .i64 c7, .int .i64 c8, .int .i64 c9, .int .i64 c10], .arr T_starfree_cuts c11 false]
noncomputable abbrev q24_11 : List Code := codesAt Try.prog 24 [[1, 1, 0, 1, 0, 0, 1, 1, 0, 0, 1, 1, 0, 1, 1, 1, 1, 1, 1, 1, 1, 0]]
theorem h24_12_eq (C : CallF) (tables : List V) (w : List UInt8) (i t15 t16 t20 : Int) (t67 : Bool) (ns_0 ns_1 ns_2 ns_3 : Int) (ts : List V) {β : Type} (K : Out → St → Option β) :
 execL Try.prog ann C 24 166 0 (q24_11) (z24_7 tables w i t15 t16 t20 t67 ns_0 ns_1 ns_2 ns_3 ts) K =
  d24_12 C
   (K .norm (z24_8 tables w i t15 t16 t20 ((t20 : Int) == 6) ns_0 ns_1 ns_2 ns_3 ts)) := by kernel_rfl
noncomputable def d24_13 (C : CallF) (tables : List V) (i ns_2 ns_3 : Int) (ts : List V) {β : Type} (k0 : (List V) → Option β) : Option β :=
 (idx tables ns_2).bind fun x17 =>
  (idx x17.toList i).bind fun x18 =>
   (idx tables ns_3).bind fun x19 =>
    (idx x19.toList i).bind fun x20 =>
     (C F_starfree_cuts_meet [.agg [.int .u64 ((x18.cell 0).toInt), .int .u64 ((x18.cell 1).toInt)], .agg [.int .u64 ((x20.cell 0).toInt), .int .u64 ((x20.cell 1).toInt)]] []).bind fun r21 =>
      bif (decide (0 ≤ i)) && (decide (i < (ts.length : Int))) then
       (ts[(i : Int).toNat]?).bind fun x22 =>
        k0 (ts.set ((i : Int).toNat) (.agg [.int .u64 ((r21.1.cell 0).toInt), .int .u64 ((r21.1.cell 1).toInt)]))
      else none
noncomputable abbrev q24_12 : List Code := codesAt Try.prog 24 [[1, 1, 0, 1, 0, 0, 1, 1, 0, 0, 1, 1, 0, 1, 1, 1, 1, 1, 1, 1, 1, 1, 0]]
theorem h24_13_eq (C : CallF) (tables : List V) (w : List UInt8) (i t15 t16 t20 : Int) (t89 : Bool) (ns_0 ns_1 ns_2 ns_3 : Int) (ts : List V) {β : Type} (K : Out → St → Option β) :
 execL Try.prog ann C 24 166 0 (q24_12) (z24_8 tables w i t15 t16 t20 t89 ns_0 ns_1 ns_2 ns_3 ts) K =
  d24_13 C tables i ns_2 ns_3 ts
   (fun (ts0 : List V) => K .norm (z24_0 tables w t15 t16 ns_0 ns_1 ns_2 ns_3 ts0)) := by kernel_rfl
noncomputable def d24_14 (C : CallF)  {β : Type} (k0 : Option β) : Option β :=
 k0
noncomputable abbrev z24_9 (c0 : List V) (c1 : List UInt8) (c2 c3 c4 c5 : Int) (c6 : Bool) (c7 c8 c9 c10 : Int) (c11 : List V) : St :=
 mk [(1, .list T_starfree_table c0), (2, .str c1), (3, .ptr 0 0 0), (7, .whole T_starfree_cuts 1), (8, .int .i64 c2), (15, .int .i64 c3), (16, .int .i64 c4), (20, .int .i64 c5), (111, .bool c6)] [.var [.int .i64 c7, .int .i64 c8, .int .i64 c9, .int .i64 c10], .arr T_starfree_cuts c11 false]
noncomputable abbrev q24_13 : List Code := codesAt Try.prog 24 [[1, 1, 0, 1, 0, 0, 1, 1, 0, 0, 1, 1, 0, 1, 1, 1, 1, 1, 1, 1, 1, 1, 1, 0]]
theorem h24_14_eq (C : CallF) (tables : List V) (w : List UInt8) (i t15 t16 t20 : Int) (t89 : Bool) (ns_0 ns_1 ns_2 ns_3 : Int) (ts : List V) {β : Type} (K : Out → St → Option β) :
 execL Try.prog ann C 24 166 0 (q24_13) (z24_8 tables w i t15 t16 t20 t89 ns_0 ns_1 ns_2 ns_3 ts) K =
  d24_14 C
   (K .norm (z24_9 tables w i t15 t16 t20 ((t20 : Int) == 7) ns_0 ns_1 ns_2 ns_3 ts)) := by kernel_rfl
noncomputable def d24_15 (C : CallF)  {β : Type} (k0 : Option β) : Option β :=
 k0
noncomputable abbrev z24_10 (c0 : List V) (c1 : List UInt8) (c2 c3 c4 c5 c6 c7 c8 c9 : Int) (c10 : List V) : St :=
 mk [(1, .list T_starfree_table c0), (2, .str c1), (3, .ptr 0 0 0), (7, .whole T_starfree_cuts 1), (8, .int .i64 c2), (9, .int .i64 c3), (15, .int .i64 c4), (16, .int .i64 c5)] [.var [.int .i64 c6, .int .i64 c7, .int .i64 c8, .int .i64 c9], .arr T_starfree_cuts c10 false]
noncomputable abbrev q24_14 : List Code := codesAt Try.prog 24 [[1, 1, 0, 1, 0, 0, 1, 1, 0, 0, 1, 1, 0, 1, 1, 1, 1, 1, 1, 1, 1, 1, 1, 1, 0, 0]]
theorem h24_15_eq (C : CallF) (tables : List V) (w : List UInt8) (i t15 t16 t20 : Int) (t111 : Bool) (ns_0 ns_1 ns_2 ns_3 : Int) (ts : List V) {β : Type} (K : Out → St → Option β) :
 execL Try.prog ann C 24 166 0 (q24_14) (z24_9 tables w i t15 t16 t20 t111 ns_0 ns_1 ns_2 ns_3 ts) K =
  d24_15 C
   (K .norm (z24_10 tables w i i t15 t16 ns_0 ns_1 ns_2 ns_3 ts)) := by kernel_rfl
noncomputable def s_starfree_evaluate_16 (C : CallF) (tables : List V) (w : List UInt8) (i j ns_2 ns_3 : Int) (ts : List V) {β : Type} (k0 : (List V) → Option β) (k1 : Option β) : Option β :=
 bif decide ((j : Int) ≤ (w.length : Int)) then
  (idx tables ns_2).bind fun x31 =>
   (idx x31.toList i).bind fun x32 =>
    (C F_starfree_cuts_has [.agg [.int .u64 ((x32.cell 0).toInt), .int .u64 ((x32.cell 1).toInt)], .int .i64 j] []).bind fun r33 =>
     bif r33.1.toBool then
      bif (decide (0 ≤ i)) && (decide (i < (ts.length : Int))) then
       (ts[(i : Int).toNat]?).bind fun x34 =>
        (idx tables ns_3).bind fun x35 =>
         (idx x35.toList j).bind fun x36 =>
          (C F_starfree_cuts_union [.agg [.int .u64 ((x34.cell 0).toInt), .int .u64 ((x34.cell 1).toInt)], .agg [.int .u64 ((x36.cell 0).toInt), .int .u64 ((x36.cell 1).toInt)]] []).bind fun r37 =>
           bif (decide (0 ≤ i)) && (decide (i < (ts.length : Int))) then
            (ts[(i : Int).toNat]?).bind fun x38 =>
             k0 (ts.set ((i : Int).toNat) (.agg [.int .u64 ((r37.1.cell 0).toInt), .int .u64 ((r37.1.cell 1).toInt)]))
           else none
      else none
     else
      k0 ts
 else
  k1
noncomputable abbrev z24_11 (c0 : List V) (c1 : List UInt8) (c2 c3 c4 c5 : Int) (c6 : Bool) (c7 c8 c9 c10 : Int) (c11 : List V) : St :=
 mk [(1, .list T_starfree_table c0), (2, .str c1), (3, .ptr 0 0 0), (7, .whole T_starfree_cuts 1), (8, .int .i64 c2), (9, .int .i64 c3), (15, .int .i64 c4), (16, .int .i64 c5), (117, .bool c6)] [.var [.int .i64 c7, .int .i64 c8, .int .i64 c9, .int .i64 c10], .arr T_starfree_cuts c11 false]
noncomputable abbrev q24_15 : List Code := codesAt Try.prog 24 [[1, 1, 0, 1, 0, 0, 1, 1, 0, 0, 1, 1, 0, 1, 1, 1, 1, 1, 1, 1, 1, 1, 1, 1, 0, 1, 0, 0, 0, 0], [1, 1, 0, 1, 0, 0, 1, 1, 0, 0, 1, 1, 0, 1, 1, 1, 1, 1, 1, 1, 1, 1, 1, 1, 0, 1, 0, 0, 0, 1], [1, 1, 0, 1, 0, 0, 1, 1, 0, 0, 1, 1, 0, 1, 1, 1, 1, 1, 1, 1, 1, 1, 1, 1, 0, 1, 0, 0, 1, 0], [1, 1, 0, 1, 0, 0, 1, 1, 0, 0, 1, 1, 0, 1, 1, 1, 1, 1, 1, 1, 1, 1, 1, 1, 0, 1, 0, 0, 1, 1]]
theorem s_starfree_evaluate_16_eq (C : CallF) (tables : List V) (w : List UInt8) (i j t15 t16 ns_0 ns_1 ns_2 ns_3 : Int) (ts : List V) {β : Type} (K : Out → St → Option β) :
 execL Try.prog ann C 24 166 0 (q24_15) (z24_10 tables w i j t15 t16 ns_0 ns_1 ns_2 ns_3 ts) K =
  s_starfree_evaluate_16 C tables w i j ns_2 ns_3 ts
   (fun (ts0 : List V) => K .norm (z24_10 tables w i (IntKind.wrap .i64 (j + 1)) t15 t16 ns_0 ns_1 ns_2 ns_3 ts0))
   (K (.exit 3) (z24_11 tables w i j t15 t16 (decide ((j : Int) ≤ (w.length : Int))) ns_0 ns_1 ns_2 ns_3 ts)) := by kernel_rfl
noncomputable def s_starfree_evaluate_17L_step (C : CallF) (tables : List V) (w : List UInt8) (i ns_2 ns_3 : Int) : (Int × (List V)) → Option ((Int × (List V)) ⊕ ((Int × Bool × (List V)))) := fun (j, ts) =>
 s_starfree_evaluate_16 C tables w i j ns_2 ns_3 ts
  (fun (ts_39 : List V) =>
   some (.inl (IntKind.wrap .i64 (j + 1), ts_39)))
  (
   some (.inr (j, decide ((j : Int) ≤ (w.length : Int)), ts)))
noncomputable def s_starfree_evaluate_17L (C : CallF) (tables : List V) (w : List UInt8) (i j ns_2 ns_3 : Int) (ts : List V) {β : Type} (k0 : Int → Bool → (List V) → Option β) : Option β :=
 (Loop (s_starfree_evaluate_17L_step C tables w i ns_2 ns_3) (j, ts)).bind fun (j0, t1170, ts0) => k0 j0 t1170 ts0
noncomputable def s_starfree_evaluate_17L_dec : Out → St → Option ((Int × (List V)) ⊕ ((Int × Bool × (List V)))) := fun o st => match o with
 | .norm => some (.inl (V.toInt (st.sl 9), arrOf (st.hp 1)))
 | .exit q => bif Nat.beq q 3 then some (.inr (V.toInt (st.sl 9), V.toBool (st.sl 117), arrOf (st.hp 1))) else none
 | .ret => none
noncomputable def s_starfree_evaluate_17L_hd (tables : List V) (w : List UInt8) (i t15 t16 ns_0 ns_1 ns_2 ns_3 : Int) : (Int × (List V)) → St := fun (j, ts) => z24_10 tables w i j t15 t16 ns_0 ns_1 ns_2 ns_3 ts
noncomputable def s_starfree_evaluate_17L_enc (tables : List V) (w : List UInt8) (i t15 t16 ns_0 ns_1 ns_2 ns_3 : Int) : ((Int × Bool × (List V))) → Out × St := fun (j0, t1170, ts0) => (.exit 3, z24_11 tables w i j0 t15 t16 t1170 ns_0 ns_1 ns_2 ns_3 ts0)
noncomputable abbrev q24_16 : List Code := codesAt Try.prog 24 [[1, 1, 0, 1, 0, 0, 1, 1, 0, 0, 1, 1, 0, 1, 1, 1, 1, 1, 1, 1, 1, 1, 1, 1, 0, 1, 0, 0]]
noncomputable abbrev q24_17 : List Code := codesAt Try.prog 24 [[1, 1, 0, 1, 0, 0, 1, 1, 0, 0, 1, 1, 0, 1, 1, 1, 1, 1, 1, 1, 1, 1, 1, 1, 0, 1, 0]]
theorem s_starfree_evaluate_17L_eq (C : CallF) (tables : List V) (w : List UInt8) (i j t15 t16 ns_0 ns_1 ns_2 ns_3 : Int) (ts : List V) {β : Type} (K : Out → St → Option β) :
 execL Try.prog ann C 24 166 0 (q24_17) (z24_10 tables w i j t15 t16 ns_0 ns_1 ns_2 ns_3 ts) K =
  s_starfree_evaluate_17L C tables w i j ns_2 ns_3 ts
   (fun (j0 : Int) (t1170 : Bool) (ts0 : List V) => K (.exit 3) (z24_11 tables w i j0 t15 t16 t1170 ns_0 ns_1 ns_2 ns_3 ts0)) := by
 have hitems : flatC (codeAt [1, 1, 0, 1, 0, 0, 1, 1, 0, 0, 1, 1, 0, 1, 1, 1, 1, 1, 1, 1, 1, 1, 1, 1, 0, 1, 0, 0] (bodyOf Try.prog 24)) = q24_15 := by kernel_rfl
 have hloop : [codeAt [1, 1, 0, 1, 0, 0, 1, 1, 0, 0, 1, 1, 0, 1, 1, 1, 1, 1, 1, 1, 1, 1, 1, 1, 0, 1, 0] (bodyOf Try.prog 24)] = [Code.loop (codeAt [1, 1, 0, 1, 0, 0, 1, 1, 0, 0, 1, 1, 0, 1, 1, 1, 1, 1, 1, 1, 1, 1, 1, 1, 0, 1, 0, 0] (bodyOf Try.prog 24))] := by kernel_rfl
 have h := loopK_eq (P := Try.prog) (A := ann) (C := C) (f := 24) (n := 166) (m := 0) (c := codeAt [1, 1, 0, 1, 0, 0, 1, 1, 0, 0, 1, 1, 0, 1, 1, 1, 1, 1, 1, 1, 1, 1, 1, 1, 0, 1, 0, 0] (bodyOf Try.prog 24)) (s_starfree_evaluate_17L_hd tables w i t15 t16 ns_0 ns_1 ns_2 ns_3) (s_starfree_evaluate_17L_enc tables w i t15 t16 ns_0 ns_1 ns_2 ns_3) s_starfree_evaluate_17L_dec (s_starfree_evaluate_17L_step C tables w i ns_2 ns_3)
  (by rintro ⟨j, ts⟩; exact Eq.trans (execK_items hitems) (Eq.trans (s_starfree_evaluate_16_eq C tables w i j t15 t16 ns_0 ns_1 ns_2 ns_3 ts s_starfree_evaluate_17L_dec) (by kernel_rfl)))
  (by rintro ⟨j, ts⟩; exact Eq.trans (execK_items hitems) (Eq.trans (s_starfree_evaluate_16_eq C tables w i j t15 t16 ns_0 ns_1 ns_2 ns_3 ts (fun o st => some (o, st))) (Eq.trans (by kernel_rfl) (Eq.trans (s_starfree_evaluate_16_eq C tables w i j t15 t16 ns_0 ns_1 ns_2 ns_3 ts (fun o st => (s_starfree_evaluate_17L_dec o st).map (outS (s_starfree_evaluate_17L_hd tables w i t15 t16 ns_0 ns_1 ns_2 ns_3) (s_starfree_evaluate_17L_enc tables w i t15 t16 ns_0 ns_1 ns_2 ns_3)))).symm (execK_items hitems).symm))))
  (by intro r; intro h; cases h) (j, ts) K
 refine Eq.trans (congrArg (fun l => execL Try.prog ann C 24 166 0 l (z24_10 tables w i j t15 t16 ns_0 ns_1 ns_2 ns_3 ts) K) hloop) (Eq.trans h ?_)
 · refine congrArg _ (funext fun r => ?_)
   rfl
noncomputable def d24_18 (C : CallF) (tables : List V) (w : List UInt8) (i j ns_2 ns_3 : Int) (ts : List V) {β : Type} (k0 : (List V) → Option β) : Option β :=
 s_starfree_evaluate_17L C tables w i j ns_2 ns_3 ts
  (fun (j_40 : Int) (t_41 : Bool) (ts_42 : List V) =>
   k0 ts_42)
noncomputable abbrev q24_18 : List Code := codesAt Try.prog 24 [[1, 1, 0, 1, 0, 0, 1, 1, 0, 0, 1, 1, 0, 1, 1, 1, 1, 1, 1, 1, 1, 1, 1, 1, 0, 1]]
theorem h24_18_eq (C : CallF) (tables : List V) (w : List UInt8) (i j t15 t16 ns_0 ns_1 ns_2 ns_3 : Int) (ts : List V) {β : Type} (K : Out → St → Option β) :
 execL Try.prog ann C 24 166 0 (q24_18) (z24_10 tables w i j t15 t16 ns_0 ns_1 ns_2 ns_3 ts) K =
  d24_18 C tables w i j ns_2 ns_3 ts
   (fun (ts0 : List V) => K .norm (z24_0 tables w t15 t16 ns_0 ns_1 ns_2 ns_3 ts0)) := Eq.trans (execL_block (P := Try.prog) (A := ann) (C := C) (f := 24) (n := 166) (m := 0) (id := 3) (c := codeAt [1, 1, 0, 1, 0, 0, 1, 1, 0, 0, 1, 1, 0, 1, 1, 1, 1, 1, 1, 1, 1, 1, 1, 1, 0, 1] (bodyOf Try.prog 24)) (d := codeAt [1, 1, 0, 1, 0, 0, 1, 1, 0, 0, 1, 1, 0, 1, 1, 1, 1, 1, 1, 1, 1, 1, 1, 1, 0, 1, 0] (bodyOf Try.prog 24)) (l := q24_17) (st := z24_10 tables w i j t15 t16 ns_0 ns_1 ns_2 ns_3 ts) (K := K) (by kernel_rfl) (by kernel_rfl)) (Eq.trans (s_starfree_evaluate_17L_eq C tables w i j t15 t16 ns_0 ns_1 ns_2 ns_3 ts (blockK ann 24 0 3 K)) (by kernel_rfl))
noncomputable def d24_19 (C : CallF) (tables : List V) (w : List UInt8) (i ns_2 ns_3 : Int) (ts : List V) {β : Type} (k0 : (List V) → Option β) : Option β :=
 d24_15 C
  (
   d24_18 C tables w i i ns_2 ns_3 ts
    (fun (ts_46 : List V) =>
     k0 ts_46))
noncomputable abbrev q24_19 : List Code := codesAt Try.prog 24 [[1, 1, 0, 1, 0, 0, 1, 1, 0, 0, 1, 1, 0, 1, 1, 1, 1, 1, 1, 1, 1, 1, 1, 1, 0, 0], [1, 1, 0, 1, 0, 0, 1, 1, 0, 0, 1, 1, 0, 1, 1, 1, 1, 1, 1, 1, 1, 1, 1, 1, 0, 1]]
theorem h24_19_eq (C : CallF) (tables : List V) (w : List UInt8) (i t15 t16 t20 : Int) (t111 : Bool) (ns_0 ns_1 ns_2 ns_3 : Int) (ts : List V) {β : Type} (K : Out → St → Option β) :
 execL Try.prog ann C 24 166 0 (q24_19) (z24_9 tables w i t15 t16 t20 t111 ns_0 ns_1 ns_2 ns_3 ts) K =
  d24_19 C tables w i ns_2 ns_3 ts
   (fun (ts0 : List V) => K .norm (z24_0 tables w t15 t16 ns_0 ns_1 ns_2 ns_3 ts0)) := by
 refine Eq.trans (execL_app (P := Try.prog) (A := ann) (C := C) (f := 24) (n := 166) (m := 0) (q24_14) (q24_18) (st := z24_9 tables w i t15 t16 t20 t111 ns_0 ns_1 ns_2 ns_3 ts) (K := K)) (Eq.trans (h24_15_eq C tables w i t15 t16 t20 t111 ns_0 ns_1 ns_2 ns_3 ts (seqK Try.prog ann C 24 166 0 (q24_18) K)) ?_)
 · exact Eq.trans (by kernel_rfl) (Eq.trans (congrArg (fun HOLE : Option β => d24_15 C HOLE) (h24_18_eq C tables w i i t15 t16 ns_0 ns_1 ns_2 ns_3 ts K)) ((by kernel_rfl)))
noncomputable def s_starfree_evaluate_20 (C : CallF) (tables : List V) (w : List UInt8) (i t20 ns_2 : Int) (ts : List V) {β : Type} (k0 : (List V) → Option β) : Option β :=
 bif (t20 : Int) == 8 then
  (C F_starfree_between [.int .i64 i, .int .i64 (w.length : Int)] []).bind fun r47 =>
   (idx tables ns_2).bind fun x48 =>
    (idx x48.toList i).bind fun x49 =>
     (C F_starfree_cuts_without [.agg [.int .u64 ((r47.1.cell 0).toInt), .int .u64 ((r47.1.cell 1).toInt)], .agg [.int .u64 ((x49.cell 0).toInt), .int .u64 ((x49.cell 1).toInt)]] []).bind fun r50 =>
      bif (decide (0 ≤ i)) && (decide (i < (ts.length : Int))) then
       (ts[(i : Int).toNat]?).bind fun x51 =>
        k0 (ts.set ((i : Int).toNat) (.agg [.int .u64 ((r50.1.cell 0).toInt), .int .u64 ((r50.1.cell 1).toInt)]))
      else none
 else
  k0 ts
noncomputable abbrev q24_20 : List Code := codesAt Try.prog 24 [[1, 1, 0, 1, 0, 0, 1, 1, 0, 0, 1, 1, 0, 1, 1, 1, 1, 1, 1, 1, 1, 1, 1, 1, 1, 0], [1, 1, 0, 1, 0, 0, 1, 1, 0, 0, 1, 1, 0, 1, 1, 1, 1, 1, 1, 1, 1, 1, 1, 1, 1, 1]]
theorem s_starfree_evaluate_20_eq (C : CallF) (tables : List V) (w : List UInt8) (i t15 t16 t20 : Int) (t111 : Bool) (ns_0 ns_1 ns_2 ns_3 : Int) (ts : List V) {β : Type} (K : Out → St → Option β) :
 execL Try.prog ann C 24 166 0 (q24_20) (z24_9 tables w i t15 t16 t20 t111 ns_0 ns_1 ns_2 ns_3 ts) K =
  s_starfree_evaluate_20 C tables w i t20 ns_2 ts
   (fun (ts0 : List V) => K .norm (z24_0 tables w t15 t16 ns_0 ns_1 ns_2 ns_3 ts0)) := by kernel_rfl
noncomputable def d24_21 (C : CallF) (tables : List V) (w : List UInt8) (i t20 : Int) (t111 : Bool) (ns_2 ns_3 : Int) (ts : List V) {β : Type} (k0 : (List V) → Option β) : Option β :=
 bif t111 then
  d24_19 C tables w i ns_2 ns_3 ts
   (fun (ts_52 : List V) =>
    k0 ts_52)
 else
  s_starfree_evaluate_20 C tables w i t20 ns_2 ts
   (fun (ts_53 : List V) =>
    k0 ts_53)
noncomputable abbrev q24_21 : List Code := codesAt Try.prog 24 [[1, 1, 0, 1, 0, 0, 1, 1, 0, 0, 1, 1, 0, 1, 1, 1, 1, 1, 1, 1, 1, 1, 1, 1]]
theorem h24_21_eq (C : CallF) (tables : List V) (w : List UInt8) (i t15 t16 t20 : Int) (t111 : Bool) (ns_0 ns_1 ns_2 ns_3 : Int) (ts : List V) {β : Type} (K : Out → St → Option β) :
 execL Try.prog ann C 24 166 0 (q24_21) (z24_9 tables w i t15 t16 t20 t111 ns_0 ns_1 ns_2 ns_3 ts) K =
  d24_21 C tables w i t20 t111 ns_2 ns_3 ts
   (fun (ts0 : List V) => K .norm (z24_0 tables w t15 t16 ns_0 ns_1 ns_2 ns_3 ts0)) := by
 cases t111 with
 | true => exact Eq.trans (execL_true (P := Try.prog) (A := ann) (C := C) (f := 24) (n := 166) (m := 0) (t := 111) (c := codeAt [1, 1, 0, 1, 0, 0, 1, 1, 0, 0, 1, 1, 0, 1, 1, 1, 1, 1, 1, 1, 1, 1, 1, 1] (bodyOf Try.prog 24)) (x := codeAt [1, 1, 0, 1, 0, 0, 1, 1, 0, 0, 1, 1, 0, 1, 1, 1, 1, 1, 1, 1, 1, 1, 1, 1, 0] (bodyOf Try.prog 24)) (y := codeAt [1, 1, 0, 1, 0, 0, 1, 1, 0, 0, 1, 1, 0, 1, 1, 1, 1, 1, 1, 1, 1, 1, 1, 1, 1] (bodyOf Try.prog 24)) (l := q24_19) (st := z24_9 tables w i t15 t16 t20 true ns_0 ns_1 ns_2 ns_3 ts) (K := K) (by kernel_rfl) (by kernel_rfl) (by kernel_rfl)) (Eq.trans (h24_19_eq C tables w i t15 t16 t20 true ns_0 ns_1 ns_2 ns_3 ts (joinK ann 24 0 111 K)) (by kernel_rfl))
 | false => exact Eq.trans (execL_false (P := Try.prog) (A := ann) (C := C) (f := 24) (n := 166) (m := 0) (t := 111) (c := codeAt [1, 1, 0, 1, 0, 0, 1, 1, 0, 0, 1, 1, 0, 1, 1, 1, 1, 1, 1, 1, 1, 1, 1, 1] (bodyOf Try.prog 24)) (x := codeAt [1, 1, 0, 1, 0, 0, 1, 1, 0, 0, 1, 1, 0, 1, 1, 1, 1, 1, 1, 1, 1, 1, 1, 1, 0] (bodyOf Try.prog 24)) (y := codeAt [1, 1, 0, 1, 0, 0, 1, 1, 0, 0, 1, 1, 0, 1, 1, 1, 1, 1, 1, 1, 1, 1, 1, 1, 1] (bodyOf Try.prog 24)) (l := q24_20) (st := z24_9 tables w i t15 t16 t20 false ns_0 ns_1 ns_2 ns_3 ts) (K := K) (by kernel_rfl) (by kernel_rfl) (by kernel_rfl)) (Eq.trans (s_starfree_evaluate_20_eq C tables w i t15 t16 t20 false ns_0 ns_1 ns_2 ns_3 ts (joinK ann 24 0 111 K)) (by kernel_rfl))
noncomputable def d24_22 (C : CallF) (tables : List V) (w : List UInt8) (i t20 ns_2 ns_3 : Int) (ts : List V) {β : Type} (k0 : (List V) → Option β) : Option β :=
 d24_14 C
  (
   d24_21 C tables w i t20 ((t20 : Int) == 7) ns_2 ns_3 ts
    (fun (ts_55 : List V) =>
     k0 ts_55))
noncomputable abbrev q24_22 : List Code := codesAt Try.prog 24 [[1, 1, 0, 1, 0, 0, 1, 1, 0, 0, 1, 1, 0, 1, 1, 1, 1, 1, 1, 1, 1, 1, 1, 0], [1, 1, 0, 1, 0, 0, 1, 1, 0, 0, 1, 1, 0, 1, 1, 1, 1, 1, 1, 1, 1, 1, 1, 1]]
theorem h24_22_eq (C : CallF) (tables : List V) (w : List UInt8) (i t15 t16 t20 : Int) (t89 : Bool) (ns_0 ns_1 ns_2 ns_3 : Int) (ts : List V) {β : Type} (K : Out → St → Option β) :
 execL Try.prog ann C 24 166 0 (q24_22) (z24_8 tables w i t15 t16 t20 t89 ns_0 ns_1 ns_2 ns_3 ts) K =
  d24_22 C tables w i t20 ns_2 ns_3 ts
   (fun (ts0 : List V) => K .norm (z24_0 tables w t15 t16 ns_0 ns_1 ns_2 ns_3 ts0)) := by
 refine Eq.trans (execL_app (P := Try.prog) (A := ann) (C := C) (f := 24) (n := 166) (m := 0) (q24_13) (q24_21) (st := z24_8 tables w i t15 t16 t20 t89 ns_0 ns_1 ns_2 ns_3 ts) (K := K)) (Eq.trans (h24_14_eq C tables w i t15 t16 t20 t89 ns_0 ns_1 ns_2 ns_3 ts (seqK Try.prog ann C 24 166 0 (q24_21) K)) ?_)
 · exact Eq.trans (by kernel_rfl) (Eq.trans (congrArg (fun HOLE : Option β => d24_14 C HOLE) (h24_21_eq C tables w i t15 t16 t20 ((t20 : Int) == 7) ns_0 ns_1 ns_2 ns_3 ts K)) ((by kernel_rfl)))
noncomputable def d24_23 (C : CallF) (tables : List V) (w : List UInt8) (i t20 : Int) (t89 : Bool) (ns_2 ns_3 : Int) (ts : List V) {β : Type} (k0 : (List V) → Option β) : Option β :=
 bif t89 then
  d24_13 C tables i ns_2 ns_3 ts
   (fun (ts_56 : List V) =>
    k0 ts_56)
 else
  d24_22 C tables w i t20 ns_2 ns_3 ts
   (fun (ts_57 : List V) =>
    k0 ts_57)
noncomputable abbrev q24_23 : List Code := codesAt Try.prog 24 [[1, 1, 0, 1, 0, 0, 1, 1, 0, 0, 1, 1, 0, 1, 1, 1, 1, 1, 1, 1, 1, 1]]
theorem h24_23_eq (C : CallF) (tables : List V) (w : List UInt8) (i t15 t16 t20 : Int) (t89 : Bool) (ns_0 ns_1 ns_2 ns_3 : Int) (ts : List V) {β : Type} (K : Out → St → Option β) :
 execL Try.prog ann C 24 166 0 (q24_23) (z24_8 tables w i t15 t16 t20 t89 ns_0 ns_1 ns_2 ns_3 ts) K =
  d24_23 C tables w i t20 t89 ns_2 ns_3 ts
   (fun (ts0 : List V) => K .norm (z24_0 tables w t15 t16 ns_0 ns_1 ns_2 ns_3 ts0)) := by
 cases t89 with
 | true => exact Eq.trans (execL_true (P := Try.prog) (A := ann) (C := C) (f := 24) (n := 166) (m := 0) (t := 89) (c := codeAt [1, 1, 0, 1, 0, 0, 1, 1, 0, 0, 1, 1, 0, 1, 1, 1, 1, 1, 1, 1, 1, 1] (bodyOf Try.prog 24)) (x := codeAt [1, 1, 0, 1, 0, 0, 1, 1, 0, 0, 1, 1, 0, 1, 1, 1, 1, 1, 1, 1, 1, 1, 0] (bodyOf Try.prog 24)) (y := codeAt [1, 1, 0, 1, 0, 0, 1, 1, 0, 0, 1, 1, 0, 1, 1, 1, 1, 1, 1, 1, 1, 1, 1] (bodyOf Try.prog 24)) (l := q24_12) (st := z24_8 tables w i t15 t16 t20 true ns_0 ns_1 ns_2 ns_3 ts) (K := K) (by kernel_rfl) (by kernel_rfl) (by kernel_rfl)) (Eq.trans (h24_13_eq C tables w i t15 t16 t20 true ns_0 ns_1 ns_2 ns_3 ts (joinK ann 24 0 89 K)) (by kernel_rfl))
 | false => exact Eq.trans (execL_false (P := Try.prog) (A := ann) (C := C) (f := 24) (n := 166) (m := 0) (t := 89) (c := codeAt [1, 1, 0, 1, 0, 0, 1, 1, 0, 0, 1, 1, 0, 1, 1, 1, 1, 1, 1, 1, 1, 1] (bodyOf Try.prog 24)) (x := codeAt [1, 1, 0, 1, 0, 0, 1, 1, 0, 0, 1, 1, 0, 1, 1, 1, 1, 1, 1, 1, 1, 1, 0] (bodyOf Try.prog 24)) (y := codeAt [1, 1, 0, 1, 0, 0, 1, 1, 0, 0, 1, 1, 0, 1, 1, 1, 1, 1, 1, 1, 1, 1, 1] (bodyOf Try.prog 24)) (l := q24_22) (st := z24_8 tables w i t15 t16 t20 false ns_0 ns_1 ns_2 ns_3 ts) (K := K) (by kernel_rfl) (by kernel_rfl) (by kernel_rfl)) (Eq.trans (h24_22_eq C tables w i t15 t16 t20 false ns_0 ns_1 ns_2 ns_3 ts (joinK ann 24 0 89 K)) (by kernel_rfl))
noncomputable def d24_24 (C : CallF) (tables : List V) (w : List UInt8) (i t20 ns_2 ns_3 : Int) (ts : List V) {β : Type} (k0 : (List V) → Option β) : Option β :=
 d24_12 C
  (
   d24_23 C tables w i t20 ((t20 : Int) == 6) ns_2 ns_3 ts
    (fun (ts_58 : List V) =>
     k0 ts_58))
noncomputable abbrev q24_24 : List Code := codesAt Try.prog 24 [[1, 1, 0, 1, 0, 0, 1, 1, 0, 0, 1, 1, 0, 1, 1, 1, 1, 1, 1, 1, 1, 0], [1, 1, 0, 1, 0, 0, 1, 1, 0, 0, 1, 1, 0, 1, 1, 1, 1, 1, 1, 1, 1, 1]]
theorem h24_24_eq (C : CallF) (tables : List V) (w : List UInt8) (i t15 t16 t20 : Int) (t67 : Bool) (ns_0 ns_1 ns_2 ns_3 : Int) (ts : List V) {β : Type} (K : Out → St → Option β) :
 execL Try.prog ann C 24 166 0 (q24_24) (z24_7 tables w i t15 t16 t20 t67 ns_0 ns_1 ns_2 ns_3 ts) K =
  d24_24 C tables w i t20 ns_2 ns_3 ts
   (fun (ts0 : List V) => K .norm (z24_0 tables w t15 t16 ns_0 ns_1 ns_2 ns_3 ts0)) := by
 refine Eq.trans (execL_app (P := Try.prog) (A := ann) (C := C) (f := 24) (n := 166) (m := 0) (q24_11) (q24_23) (st := z24_7 tables w i t15 t16 t20 t67 ns_0 ns_1 ns_2 ns_3 ts) (K := K)) (Eq.trans (h24_12_eq C tables w i t15 t16 t20 t67 ns_0 ns_1 ns_2 ns_3 ts (seqK Try.prog ann C 24 166 0 (q24_23) K)) ?_)
 · exact Eq.trans (by kernel_rfl) (Eq.trans (congrArg (fun HOLE : Option β => d24_12 C HOLE) (h24_23_eq C tables w i t15 t16 t20 ((t20 : Int) == 6) ns_0 ns_1 ns_2 ns_3 ts K)) ((by kernel_rfl)))
noncomputable def d24_25 (C : CallF) (tables : List V) (w : List UInt8) (i t20 : Int) (t67 : Bool) (ns_2 ns_3 : Int) (ts : List V) {β : Type} (k0 : (List V) → Option β) : Option β :=
 bif t67 then
  d24_11 C tables i ns_2 ns_3 ts
   (fun (ts_59 : List V) =>
    k0 ts_59)
 else
  d24_24 C tables w i t20 ns_2 ns_3 ts
   (fun (ts_60 : List V) =>
    k0 ts_60)
noncomputable abbrev q24_25 : List Code := codesAt Try.prog 24 [[1, 1, 0, 1, 0, 0, 1, 1, 0, 0, 1, 1, 0, 1, 1, 1, 1, 1, 1, 1]]
theorem h24_25_eq (C : CallF) (tables : List V) (w : List UInt8) (i t15 t16 t20 : Int) (t67 : Bool) (ns_0 ns_1 ns_2 ns_3 : Int) (ts : List V) {β : Type} (K : Out → St → Option β) :
 execL Try.prog ann C 24 166 0 (q24_25) (z24_7 tables w i t15 t16 t20 t67 ns_0 ns_1 ns_2 ns_3 ts) K =
  d24_25 C tables w i t20 t67 ns_2 ns_3 ts
   (fun (ts0 : List V) => K .norm (z24_0 tables w t15 t16 ns_0 ns_1 ns_2 ns_3 ts0)) := by
 cases t67 with
 | true => exact Eq.trans (execL_true (P := Try.prog) (A := ann) (C := C) (f := 24) (n := 166) (m := 0) (t := 67) (c := codeAt [1, 1, 0, 1, 0, 0, 1, 1, 0, 0, 1, 1, 0, 1, 1, 1, 1, 1, 1, 1] (bodyOf Try.prog 24)) (x := codeAt [1, 1, 0, 1, 0, 0, 1, 1, 0, 0, 1, 1, 0, 1, 1, 1, 1, 1, 1, 1, 0] (bodyOf Try.prog 24)) (y := codeAt [1, 1, 0, 1, 0, 0, 1, 1, 0, 0, 1, 1, 0, 1, 1, 1, 1, 1, 1, 1, 1] (bodyOf Try.prog 24)) (l := q24_10) (st := z24_7 tables w i t15 t16 t20 true ns_0 ns_1 ns_2 ns_3 ts) (K := K) (by kernel_rfl) (by kernel_rfl) (by kernel_rfl)) (Eq.trans (h24_11_eq C tables w i t15 t16 t20 true ns_0 ns_1 ns_2 ns_3 ts (joinK ann 24 0 67 K)) (by kernel_rfl))
 | false => exact Eq.trans (execL_false (P := Try.prog) (A := ann) (C := C) (f := 24) (n := 166) (m := 0) (t := 67) (c := codeAt [1, 1, 0, 1, 0, 0, 1, 1, 0, 0, 1, 1, 0, 1, 1, 1, 1, 1, 1, 1] (bodyOf Try.prog 24)) (x := codeAt [1, 1, 0, 1, 0, 0, 1, 1, 0, 0, 1, 1, 0, 1, 1, 1, 1, 1, 1, 1, 0] (bodyOf Try.prog 24)) (y := codeAt [1, 1, 0, 1, 0, 0, 1, 1, 0, 0, 1, 1, 0, 1, 1, 1, 1, 1, 1, 1, 1] (bodyOf Try.prog 24)) (l := q24_24) (st := z24_7 tables w i t15 t16 t20 false ns_0 ns_1 ns_2 ns_3 ts) (K := K) (by kernel_rfl) (by kernel_rfl) (by kernel_rfl)) (Eq.trans (h24_24_eq C tables w i t15 t16 t20 false ns_0 ns_1 ns_2 ns_3 ts (joinK ann 24 0 67 K)) (by kernel_rfl))
noncomputable def d24_26 (C : CallF) (tables : List V) (w : List UInt8) (i t20 ns_2 ns_3 : Int) (ts : List V) {β : Type} (k0 : (List V) → Option β) : Option β :=
 d24_10 C
  (
   d24_25 C tables w i t20 ((t20 : Int) == 5) ns_2 ns_3 ts
    (fun (ts_61 : List V) =>
     k0 ts_61))
noncomputable abbrev q24_26 : List Code := codesAt Try.prog 24 [[1, 1, 0, 1, 0, 0, 1, 1, 0, 0, 1, 1, 0, 1, 1, 1, 1, 1, 1, 0], [1, 1, 0, 1, 0, 0, 1, 1, 0, 0, 1, 1, 0, 1, 1, 1, 1, 1, 1, 1]]
theorem h24_26_eq (C : CallF) (tables : List V) (w : List UInt8) (i t15 t16 t20 : Int) (t58 : Bool) (ns_0 ns_1 ns_2 ns_3 : Int) (ts : List V) {β : Type} (K : Out → St → Option β) :
 execL Try.prog ann C 24 166 0 (q24_26) (z24_6 tables w i t15 t16 t20 t58 ns_0 ns_1 ns_2 ns_3 ts) K =
  d24_26 C tables w i t20 ns_2 ns_3 ts
   (fun (ts0 : List V) => K .norm (z24_0 tables w t15 t16 ns_0 ns_1 ns_2 ns_3 ts0)) := by
 refine Eq.trans (execL_app (P := Try.prog) (A := ann) (C := C) (f := 24) (n := 166) (m := 0) (q24_9) (q24_25) (st := z24_6 tables w i t15 t16 t20 t58 ns_0 ns_1 ns_2 ns_3 ts) (K := K)) (Eq.trans (h24_10_eq C tables w i t15 t16 t20 t58 ns_0 ns_1 ns_2 ns_3 ts (seqK Try.prog ann C 24 166 0 (q24_25) K)) ?_)
 · exact Eq.trans (by kernel_rfl) (Eq.trans (congrArg (fun HOLE : Option β => d24_10 C HOLE) (h24_25_eq C tables w i t15 t16 t20 ((t20 : Int) == 5) ns_0 ns_1 ns_2 ns_3 ts K)) ((by kernel_rfl)))
noncomputable def d24_27 (C : CallF) (tables : List V) (w : List UInt8) (i t20 : Int) (t58 : Bool) (ns_2 ns_3 : Int) (ts : List V) {β : Type} (k0 : (List V) → Option β) : Option β :=
 bif t58 then
  d24_9 C w i ts
   (fun (ts_62 : List V) =>
    k0 ts_62)
 else
  d24_26 C tables w i t20 ns_2 ns_3 ts
   (fun (ts_63 : List V) =>
    k0 ts_63)
noncomputable abbrev q24_27 : List Code := codesAt Try.prog 24 [[1, 1, 0, 1, 0, 0, 1, 1, 0, 0, 1, 1, 0, 1, 1, 1, 1, 1]]
theorem h24_27_eq (C : CallF) (tables : List V) (w : List UInt8) (i t15 t16 t20 : Int) (t58 : Bool) (ns_0 ns_1 ns_2 ns_3 : Int) (ts : List V) {β : Type} (K : Out → St → Option β) :
 execL Try.prog ann C 24 166 0 (q24_27) (z24_6 tables w i t15 t16 t20 t58 ns_0 ns_1 ns_2 ns_3 ts) K =
  d24_27 C tables w i t20 t58 ns_2 ns_3 ts
   (fun (ts0 : List V) => K .norm (z24_0 tables w t15 t16 ns_0 ns_1 ns_2 ns_3 ts0)) := by
 cases t58 with
 | true => exact Eq.trans (execL_true (P := Try.prog) (A := ann) (C := C) (f := 24) (n := 166) (m := 0) (t := 58) (c := codeAt [1, 1, 0, 1, 0, 0, 1, 1, 0, 0, 1, 1, 0, 1, 1, 1, 1, 1] (bodyOf Try.prog 24)) (x := codeAt [1, 1, 0, 1, 0, 0, 1, 1, 0, 0, 1, 1, 0, 1, 1, 1, 1, 1, 0] (bodyOf Try.prog 24)) (y := codeAt [1, 1, 0, 1, 0, 0, 1, 1, 0, 0, 1, 1, 0, 1, 1, 1, 1, 1, 1] (bodyOf Try.prog 24)) (l := q24_8) (st := z24_6 tables w i t15 t16 t20 true ns_0 ns_1 ns_2 ns_3 ts) (K := K) (by kernel_rfl) (by kernel_rfl) (by kernel_rfl)) (Eq.trans (h24_9_eq C tables w i t15 t16 t20 true ns_0 ns_1 ns_2 ns_3 ts (joinK ann 24 0 58 K)) (by kernel_rfl))
 | false => exact Eq.trans (execL_false (P := Try.prog) (A := ann) (C := C) (f := 24) (n := 166) (m := 0) (t := 58) (c := codeAt [1, 1, 0, 1, 0, 0, 1, 1, 0, 0, 1, 1, 0, 1, 1, 1, 1, 1] (bodyOf Try.prog 24)) (x := codeAt [1, 1, 0, 1, 0, 0, 1, 1, 0, 0, 1, 1, 0, 1, 1, 1, 1, 1, 0] (bodyOf Try.prog 24)) (y := codeAt [1, 1, 0, 1, 0, 0, 1, 1, 0, 0, 1, 1, 0, 1, 1, 1, 1, 1, 1] (bodyOf Try.prog 24)) (l := q24_26) (st := z24_6 tables w i t15 t16 t20 false ns_0 ns_1 ns_2 ns_3 ts) (K := K) (by kernel_rfl) (by kernel_rfl) (by kernel_rfl)) (Eq.trans (h24_26_eq C tables w i t15 t16 t20 false ns_0 ns_1 ns_2 ns_3 ts (joinK ann 24 0 58 K)) (by kernel_rfl))
noncomputable def d24_28 (C : CallF) (tables : List V) (w : List UInt8) (i t20 ns_2 ns_3 : Int) (ts : List V) {β : Type} (k0 : (List V) → Option β) : Option β :=
 d24_8 C
  (
   d24_27 C tables w i t20 ((t20 : Int) == 4) ns_2 ns_3 ts
    (fun (ts_64 : List V) =>
     k0 ts_64))
noncomputable abbrev q24_28 : List Code := codesAt Try.prog 24 [[1, 1, 0, 1, 0, 0, 1, 1, 0, 0, 1, 1, 0, 1, 1, 1, 1, 0], [1, 1, 0, 1, 0, 0, 1, 1, 0, 0, 1, 1, 0, 1, 1, 1, 1, 1]]
theorem h24_28_eq (C : CallF) (tables : List V) (w : List UInt8) (i t15 t16 t20 : Int) (t32 : Bool) (ns_0 ns_1 ns_2 ns_3 : Int) (ts : List V) {β : Type} (K : Out → St → Option β) :
 execL Try.prog ann C 24 166 0 (q24_28) (z24_5 tables w i t15 t16 t20 t32 ns_0 ns_1 ns_2 ns_3 ts) K =
  d24_28 C tables w i t20 ns_2 ns_3 ts
   (fun (ts0 : List V) => K .norm (z24_0 tables w t15 t16 ns_0 ns_1 ns_2 ns_3 ts0)) := by
 refine Eq.trans (execL_app (P := Try.prog) (A := ann) (C := C) (f := 24) (n := 166) (m := 0) (q24_7) (q24_27) (st := z24_5 tables w i t15 t16 t20 t32 ns_0 ns_1 ns_2 ns_3 ts) (K := K)) (Eq.trans (h24_8_eq C tables w i t15 t16 t20 t32 ns_0 ns_1 ns_2 ns_3 ts (seqK Try.prog ann C 24 166 0 (q24_27) K)) ?_)
 · exact Eq.trans (by kernel_rfl) (Eq.trans (congrArg (fun HOLE : Option β => d24_8 C HOLE) (h24_27_eq C tables w i t15 t16 t20 ((t20 : Int) == 4) ns_0 ns_1 ns_2 ns_3 ts K)) ((by kernel_rfl)))
noncomputable def d24_29 (C : CallF) (tables : List V) (w : List UInt8) (i t20 : Int) (t32 : Bool) (ns_1 ns_2 ns_3 : Int) (ts : List V) {β : Type} (k0 : (List V) → Option β) : Option β :=
 bif t32 then
  s_starfree_evaluate_7 C w i ns_1 ts
   (fun (ts_65 : List V) =>
    k0 ts_65)
 else
  d24_28 C tables w i t20 ns_2 ns_3 ts
   (fun (ts_66 : List V) =>
    k0 ts_66)
noncomputable abbrev q24_29 : List Code := codesAt Try.prog 24 [[1, 1, 0, 1, 0, 0, 1, 1, 0, 0, 1, 1, 0, 1, 1, 1]]
theorem h24_29_eq (C : CallF) (tables : List V) (w : List UInt8) (i t15 t16 t20 : Int) (t32 : Bool) (ns_0 ns_1 ns_2 ns_3 : Int) (ts : List V) {β : Type} (K : Out → St → Option β) :
 execL Try.prog ann C 24 166 0 (q24_29) (z24_5 tables w i t15 t16 t20 t32 ns_0 ns_1 ns_2 ns_3 ts) K =
  d24_29 C tables w i t20 t32 ns_1 ns_2 ns_3 ts
   (fun (ts0 : List V) => K .norm (z24_0 tables w t15 t16 ns_0 ns_1 ns_2 ns_3 ts0)) := by
 cases t32 with
 | true => exact Eq.trans (execL_true (P := Try.prog) (A := ann) (C := C) (f := 24) (n := 166) (m := 0) (t := 32) (c := codeAt [1, 1, 0, 1, 0, 0, 1, 1, 0, 0, 1, 1, 0, 1, 1, 1] (bodyOf Try.prog 24)) (x := codeAt [1, 1, 0, 1, 0, 0, 1, 1, 0, 0, 1, 1, 0, 1, 1, 1, 0] (bodyOf Try.prog 24)) (y := codeAt [1, 1, 0, 1, 0, 0, 1, 1, 0, 0, 1, 1, 0, 1, 1, 1, 1] (bodyOf Try.prog 24)) (l := q24_6) (st := z24_5 tables w i t15 t16 t20 true ns_0 ns_1 ns_2 ns_3 ts) (K := K) (by kernel_rfl) (by kernel_rfl) (by kernel_rfl)) (Eq.trans (s_starfree_evaluate_7_eq C tables w i t15 t16 t20 true ns_0 ns_1 ns_2 ns_3 ts (joinK ann 24 0 32 K)) (by kernel_rfl))
 | false => exact Eq.trans (execL_false (P := Try.prog) (A := ann) (C := C) (f := 24) (n := 166) (m := 0) (t := 32) (c := codeAt [1, 1, 0, 1, 0, 0, 1, 1, 0, 0, 1, 1, 0, 1, 1, 1] (bodyOf Try.prog 24)) (x := codeAt [1, 1, 0, 1, 0, 0, 1, 1, 0, 0, 1, 1, 0, 1, 1, 1, 0] (bodyOf Try.prog 24)) (y := codeAt [1, 1, 0, 1, 0, 0, 1, 1, 0, 0, 1, 1, 0, 1, 1, 1, 1] (bodyOf Try.prog 24)) (l := q24_28) (st := z24_5 tables w i t15 t16 t20 false ns_0 ns_1 ns_2 ns_3 ts) (K := K) (by kernel_rfl) (by kernel_rfl) (by kernel_rfl)) (Eq.trans (h24_28_eq C tables w i t15 t16 t20 false ns_0 ns_1 ns_2 ns_3 ts (joinK ann 24 0 32 K)) (by kernel_rfl))
noncomputable def d24_30 (C : CallF) (tables : List V) (w : List UInt8) (i t20 ns_1 ns_2 ns_3 : Int) (ts : List V) {β : Type} (k0 : (List V) → Option β) : Option β :=
 d24_6 C
  (
   d24_29 C tables w i t20 ((t20 : Int) == 3) ns_1 ns_2 ns_3 ts
    (fun (ts_68 : List V) =>
     k0 ts_68))
noncomputable abbrev q24_30 : List Code := codesAt Try.prog 24 [[1, 1, 0, 1, 0, 0, 1, 1, 0, 0, 1, 1, 0, 1, 1, 0], [1, 1, 0, 1, 0, 0, 1, 1, 0, 0, 1, 1, 0, 1, 1, 1]]
theorem h24_30_eq (C : CallF) (tables : List V) (w : List UInt8) (i t15 t16 t20 : Int) (t21 : Bool) (ns_0 ns_1 ns_2 ns_3 : Int) (ts : List V) {β : Type} (K : Out → St → Option β) :
 execL Try.prog ann C 24 166 0 (q24_30) (z24_4 tables w i t15 t16 t20 t21 ns_0 ns_1 ns_2 ns_3 ts) K =
  d24_30 C tables w i t20 ns_1 ns_2 ns_3 ts
   (fun (ts0 : List V) => K .norm (z24_0 tables w t15 t16 ns_0 ns_1 ns_2 ns_3 ts0)) := by
 refine Eq.trans (execL_app (P := Try.prog) (A := ann) (C := C) (f := 24) (n := 166) (m := 0) (q24_5) (q24_29) (st := z24_4 tables w i t15 t16 t20 t21 ns_0 ns_1 ns_2 ns_3 ts) (K := K)) (Eq.trans (h24_6_eq C tables w i t15 t16 t20 t21 ns_0 ns_1 ns_2 ns_3 ts (seqK Try.prog ann C 24 166 0 (q24_29) K)) ?_)
 · exact Eq.trans (by kernel_rfl) (Eq.trans (congrArg (fun HOLE : Option β => d24_6 C HOLE) (h24_29_eq C tables w i t15 t16 t20 ((t20 : Int) == 3) ns_0 ns_1 ns_2 ns_3 ts K)) ((by kernel_rfl)))
noncomputable def d24_31 (C : CallF) (tables : List V) (w : List UInt8) (i t20 : Int) (t21 : Bool) (ns_1 ns_2 ns_3 : Int) (ts : List V) {β : Type} (k0 : (List V) → Option β) : Option β :=
 bif t21 then
  d24_5 C i ts
   (fun (ts_69 : List V) =>
    k0 ts_69)
 else
  d24_30 C tables w i t20 ns_1 ns_2 ns_3 ts
   (fun (ts_70 : List V) =>
    k0 ts_70)
noncomputable abbrev q24_31 : List Code := codesAt Try.prog 24 [[1, 1, 0, 1, 0, 0, 1, 1, 0, 0, 1, 1, 0, 1]]
theorem h24_31_eq (C : CallF) (tables : List V) (w : List UInt8) (i t15 t16 t20 : Int) (t21 : Bool) (ns_0 ns_1 ns_2 ns_3 : Int) (ts : List V) {β : Type} (K : Out → St → Option β) :
 execL Try.prog ann C 24 166 0 (q24_31) (z24_4 tables w i t15 t16 t20 t21 ns_0 ns_1 ns_2 ns_3 ts) K =
  d24_31 C tables w i t20 t21 ns_1 ns_2 ns_3 ts
   (fun (ts0 : List V) => K .norm (z24_0 tables w t15 t16 ns_0 ns_1 ns_2 ns_3 ts0)) := by
 cases t21 with
 | true => exact Eq.trans (execL_true (P := Try.prog) (A := ann) (C := C) (f := 24) (n := 166) (m := 0) (t := 21) (c := codeAt [1, 1, 0, 1, 0, 0, 1, 1, 0, 0, 1, 1, 0, 1] (bodyOf Try.prog 24)) (x := codeAt [1, 1, 0, 1, 0, 0, 1, 1, 0, 0, 1, 1, 0, 1, 0] (bodyOf Try.prog 24)) (y := codeAt [1, 1, 0, 1, 0, 0, 1, 1, 0, 0, 1, 1, 0, 1, 1] (bodyOf Try.prog 24)) (l := q24_4) (st := z24_4 tables w i t15 t16 t20 true ns_0 ns_1 ns_2 ns_3 ts) (K := K) (by kernel_rfl) (by kernel_rfl) (by kernel_rfl)) (Eq.trans (h24_5_eq C tables w i t15 t16 t20 true ns_0 ns_1 ns_2 ns_3 ts (joinK ann 24 0 21 K)) (by kernel_rfl))
 | false => exact Eq.trans (execL_false (P := Try.prog) (A := ann) (C := C) (f := 24) (n := 166) (m := 0) (t := 21) (c := codeAt [1, 1, 0, 1, 0, 0, 1, 1, 0, 0, 1, 1, 0, 1] (bodyOf Try.prog 24)) (x := codeAt [1, 1, 0, 1, 0, 0, 1, 1, 0, 0, 1, 1, 0, 1, 0] (bodyOf Try.prog 24)) (y := codeAt [1, 1, 0, 1, 0, 0, 1, 1, 0, 0, 1, 1, 0, 1, 1] (bodyOf Try.prog 24)) (l := q24_30) (st := z24_4 tables w i t15 t16 t20 false ns_0 ns_1 ns_2 ns_3 ts) (K := K) (by kernel_rfl) (by kernel_rfl) (by kernel_rfl)) (Eq.trans (h24_30_eq C tables w i t15 t16 t20 false ns_0 ns_1 ns_2 ns_3 ts (joinK ann 24 0 21 K)) (by kernel_rfl))
noncomputable def d24_32 (C : CallF) (tables : List V) (w : List UInt8) (i t20 ns_1 ns_2 ns_3 : Int) (ts : List V) {β : Type} (k0 : (List V) → Option β) : Option β :=
 d24_4 C
  (
   d24_31 C tables w i t20 ((t20 : Int) == 2) ns_1 ns_2 ns_3 ts
    (fun (ts_71 : List V) =>
     k0 ts_71))
noncomputable abbrev q24_32 : List Code := codesAt Try.prog 24 [[1, 1, 0, 1, 0, 0, 1, 1, 0, 0, 1, 1, 0, 0], [1, 1, 0, 1, 0, 0, 1, 1, 0, 0, 1, 1, 0, 1]]
theorem h24_32_eq (C : CallF) (tables : List V) (w : List UInt8) (i t15 t16 t20 ns_0 ns_1 ns_2 ns_3 : Int) (ts : List V) {β : Type} (K : Out → St → Option β) :
 execL Try.prog ann C 24 166 0 (q24_32) (z24_3 tables w i t15 t16 t20 ns_0 ns_1 ns_2 ns_3 ts) K =
  d24_32 C tables w i t20 ns_1 ns_2 ns_3 ts
   (fun (ts0 : List V) => K .norm (z24_0 tables w t15 t16 ns_0 ns_1 ns_2 ns_3 ts0)) := by
 refine Eq.trans (execL_app (P := Try.prog) (A := ann) (C := C) (f := 24) (n := 166) (m := 0) (q24_3) (q24_31) (st := z24_3 tables w i t15 t16 t20 ns_0 ns_1 ns_2 ns_3 ts) (K := K)) (Eq.trans (h24_4_eq C tables w i t15 t16 t20 ns_0 ns_1 ns_2 ns_3 ts (seqK Try.prog ann C 24 166 0 (q24_31) K)) ?_)
 · exact Eq.trans (by kernel_rfl) (Eq.trans (congrArg (fun HOLE : Option β => d24_4 C HOLE) (h24_31_eq C tables w i t15 t16 t20 ((t20 : Int) == 2) ns_0 ns_1 ns_2 ns_3 ts K)) ((by kernel_rfl)))
noncomputable def d24_33 (C : CallF) (tables : List V) (w : List UInt8) (i t20 ns_1 ns_2 ns_3 : Int) (ts : List V) {β : Type} (k0 : (List V) → Option β) : Option β :=
 d24_32 C tables w i t20 ns_1 ns_2 ns_3 ts
  (fun (ts_72 : List V) =>
   k0 ts_72)
noncomputable abbrev q24_33 : List Code := codesAt Try.prog 24 [[1, 1, 0, 1, 0, 0, 1, 1, 0, 0, 1, 1]]
theorem h24_33_eq (C : CallF) (tables : List V) (w : List UInt8) (i t15 t16 t20 ns_0 ns_1 ns_2 ns_3 : Int) (ts : List V) {β : Type} (K : Out → St → Option β) :
 execL Try.prog ann C 24 166 0 (q24_33) (z24_3 tables w i t15 t16 t20 ns_0 ns_1 ns_2 ns_3 ts) K =
  d24_33 C tables w i t20 ns_1 ns_2 ns_3 ts
   (fun (ts0 : List V) => K .norm (z24_0 tables w t15 t16 ns_0 ns_1 ns_2 ns_3 ts0)) := Eq.trans (execL_block (P := Try.prog) (A := ann) (C := C) (f := 24) (n := 166) (m := 0) (id := 2) (c := codeAt [1, 1, 0, 1, 0, 0, 1, 1, 0, 0, 1, 1] (bodyOf Try.prog 24)) (d := codeAt [1, 1, 0, 1, 0, 0, 1, 1, 0, 0, 1, 1, 0] (bodyOf Try.prog 24)) (l := q24_32) (st := z24_3 tables w i t15 t16 t20 ns_0 ns_1 ns_2 ns_3 ts) (K := K) (by kernel_rfl) (by kernel_rfl)) (Eq.trans (h24_32_eq C tables w i t15 t16 t20 ns_0 ns_1 ns_2 ns_3 ts (blockK ann 24 0 2 K)) (by kernel_rfl))
noncomputable def d24_34 (C : CallF) (tables : List V) (w : List UInt8) (t16 ns_0 ns_1 ns_2 ns_3 : Int) (ts : List V) {β : Type} (k0 : (List V) → Option β) : Option β :=
 d24_3 C
  (
   d24_33 C tables w t16 ns_0 ns_1 ns_2 ns_3 ts
    (fun (ts_73 : List V) =>
     k0 ts_73))
noncomputable abbrev q24_34 : List Code := codesAt Try.prog 24 [[1, 1, 0, 1, 0, 0, 1, 1, 0, 0, 0], [1, 1, 0, 1, 0, 0, 1, 1, 0, 0, 1, 0], [1, 1, 0, 1, 0, 0, 1, 1, 0, 0, 1, 1]]
theorem h24_34_eq (C : CallF) (tables : List V) (w : List UInt8) (t15 t16 ns_0 ns_1 ns_2 ns_3 : Int) (ts : List V) {β : Type} (K : Out → St → Option β) :
 execL Try.prog ann C 24 166 0 (q24_34) (z24_0 tables w t15 t16 ns_0 ns_1 ns_2 ns_3 ts) K =
  d24_34 C tables w t16 ns_0 ns_1 ns_2 ns_3 ts
   (fun (ts0 : List V) => K .norm (z24_0 tables w t15 t16 ns_0 ns_1 ns_2 ns_3 ts0)) := by
 refine Eq.trans (execL_app (P := Try.prog) (A := ann) (C := C) (f := 24) (n := 166) (m := 0) (q24_2) (q24_33) (st := z24_0 tables w t15 t16 ns_0 ns_1 ns_2 ns_3 ts) (K := K)) (Eq.trans (h24_3_eq C tables w t15 t16 ns_0 ns_1 ns_2 ns_3 ts (seqK Try.prog ann C 24 166 0 (q24_33) K)) ?_)
 · exact Eq.trans (by kernel_rfl) (Eq.trans (congrArg (fun HOLE : Option β => d24_3 C HOLE) (h24_33_eq C tables w t16 t15 t16 ns_0 ns_0 ns_1 ns_2 ns_3 ts K)) ((by kernel_rfl)))
noncomputable def d24_35 (C : CallF) (tables : List V) (w : List UInt8) (t16 ns_0 ns_1 ns_2 ns_3 : Int) (ts : List V) {β : Type} (k0 : (List V) → Option β) : Option β :=
 d24_34 C tables w t16 ns_0 ns_1 ns_2 ns_3 ts
  (fun (ts_74 : List V) =>
   k0 ts_74)
noncomputable abbrev q24_35 : List Code := codesAt Try.prog 24 [[1, 1, 0, 1, 0, 0, 1, 1, 0]]
theorem h24_35_eq (C : CallF) (tables : List V) (w : List UInt8) (t15 t16 ns_0 ns_1 ns_2 ns_3 : Int) (ts : List V) {β : Type} (K : Out → St → Option β) :
 execL Try.prog ann C 24 166 0 (q24_35) (z24_0 tables w t15 t16 ns_0 ns_1 ns_2 ns_3 ts) K =
  d24_35 C tables w t16 ns_0 ns_1 ns_2 ns_3 ts
   (fun (ts0 : List V) => K .norm (z24_0 tables w t15 t16 ns_0 ns_1 ns_2 ns_3 ts0)) := Eq.trans (execL_block (P := Try.prog) (A := ann) (C := C) (f := 24) (n := 166) (m := 0) (id := 1) (c := codeAt [1, 1, 0, 1, 0, 0, 1, 1, 0] (bodyOf Try.prog 24)) (d := codeAt [1, 1, 0, 1, 0, 0, 1, 1, 0, 0] (bodyOf Try.prog 24)) (l := q24_34) (st := z24_0 tables w t15 t16 ns_0 ns_1 ns_2 ns_3 ts) (K := K) (by kernel_rfl) (by kernel_rfl)) (Eq.trans (h24_34_eq C tables w t15 t16 ns_0 ns_1 ns_2 ns_3 ts (blockK ann 24 0 1 K)) (by kernel_rfl))
noncomputable def d24_36 (C : CallF)  {β : Type} (k0 : Option β) : Option β :=
 k0
noncomputable abbrev q24_36 : List Code := codesAt Try.prog 24 [[1, 1, 0, 1, 0, 0, 1, 1, 1]]
theorem h24_36_eq (C : CallF) (tables : List V) (w : List UInt8) (t15 t16 ns_0 ns_1 ns_2 ns_3 : Int) (ts : List V) {β : Type} (K : Out → St → Option β) :
 execL Try.prog ann C 24 166 0 (q24_36) (z24_0 tables w t15 t16 ns_0 ns_1 ns_2 ns_3 ts) K =
  d24_36 C
   (K .norm (z24_0 tables w t15 (IntKind.wrap .i64 (t16 + 1)) ns_0 ns_1 ns_2 ns_3 ts)) := by kernel_rfl
noncomputable def d24_37 (C : CallF) (tables : List V) (w : List UInt8) (t16 ns_0 ns_1 ns_2 ns_3 : Int) (ts : List V) {β : Type} (k0 : (List V) → Option β) : Option β :=
 d24_35 C tables w t16 ns_0 ns_1 ns_2 ns_3 ts
  (fun (ts_75 : List V) =>
   d24_36 C
    (
     k0 ts_75))
noncomputable abbrev q24_37 : List Code := codesAt Try.prog 24 [[1, 1, 0, 1, 0, 0, 1, 1, 0], [1, 1, 0, 1, 0, 0, 1, 1, 1]]
theorem h24_37_eq (C : CallF) (tables : List V) (w : List UInt8) (t15 t16 ns_0 ns_1 ns_2 ns_3 : Int) (ts : List V) {β : Type} (K : Out → St → Option β) :
 execL Try.prog ann C 24 166 0 (q24_37) (z24_0 tables w t15 t16 ns_0 ns_1 ns_2 ns_3 ts) K =
  d24_37 C tables w t16 ns_0 ns_1 ns_2 ns_3 ts
   (fun (ts0 : List V) => K .norm (z24_0 tables w t15 (IntKind.wrap .i64 (t16 + 1)) ns_0 ns_1 ns_2 ns_3 ts0)) := by
 refine Eq.trans (execL_app (P := Try.prog) (A := ann) (C := C) (f := 24) (n := 166) (m := 0) (q24_35) (q24_36) (st := z24_0 tables w t15 t16 ns_0 ns_1 ns_2 ns_3 ts) (K := K)) (Eq.trans (h24_35_eq C tables w t15 t16 ns_0 ns_1 ns_2 ns_3 ts (seqK Try.prog ann C 24 166 0 (q24_36) K)) ?_)
 · exact Eq.trans (by kernel_rfl) (Eq.trans (congrArg (fun HOLE : (List V) → Option β => d24_35 C tables w t16 ns_0 ns_1 ns_2 ns_3 ts HOLE) (funext fun (ts0 : List V) => h24_36_eq C tables w t15 t16 ns_0 ns_1 ns_2 ns_3 ts0 K)) ((by kernel_rfl)))
noncomputable def d24_38 (C : CallF) (tables : List V) (w : List UInt8) (t15 t16 ns_0 ns_1 ns_2 ns_3 : Int) (ts : List V) {β : Type} (k0 : (List V) → Option β) (k1 : Option β) : Option β :=
 d24_2 C t15 t16
  (
   d24_37 C tables w t16 ns_0 ns_1 ns_2 ns_3 ts
    (fun (ts_76 : List V) =>
     k0 ts_76))
  (
   k1)
noncomputable abbrev q24_38 : List Code := codesAt Try.prog 24 [[1, 1, 0, 1, 0, 0, 0], [1, 1, 0, 1, 0, 0, 1, 0], [1, 1, 0, 1, 0, 0, 1, 1, 0], [1, 1, 0, 1, 0, 0, 1, 1, 1]]
theorem h24_38_eq (C : CallF) (tables : List V) (w : List UInt8) (t15 t16 ns_0 ns_1 ns_2 ns_3 : Int) (ts : List V) {β : Type} (K : Out → St → Option β) :
 execL Try.prog ann C 24 166 0 (q24_38) (z24_0 tables w t15 t16 ns_0 ns_1 ns_2 ns_3 ts) K =
  d24_38 C tables w t15 t16 ns_0 ns_1 ns_2 ns_3 ts
   (fun (ts0 : List V) => K .norm (z24_0 tables w t15 (IntKind.wrap .i64 (t16 + 1)) ns_0 ns_1 ns_2 ns_3 ts0))
   (K (.exit 0) (z24_2 tables w t15 t16 (decide ((t16 : Int) < t15)) ns_0 ns_1 ns_2 ns_3 ts)) := by
 refine Eq.trans (execL_app (P := Try.prog) (A := ann) (C := C) (f := 24) (n := 166) (m := 0) (q24_1) (q24_37) (st := z24_0 tables w t15 t16 ns_0 ns_1 ns_2 ns_3 ts) (K := K)) (Eq.trans (h24_2_eq C tables w t15 t16 ns_0 ns_1 ns_2 ns_3 ts (seqK Try.prog ann C 24 166 0 (q24_37) K)) ?_)
 · exact Eq.trans (by kernel_rfl) (Eq.trans (congrArg (fun HOLE : Option β => d24_2 C t15 t16 HOLE (K (.exit 0) (z24_2 tables w t15 t16 (decide ((t16 : Int) < t15)) ns_0 ns_1 ns_2 ns_3 ts))) (h24_37_eq C tables w t15 t16 ns_0 ns_1 ns_2 ns_3 ts K)) ((by kernel_rfl)))
noncomputable def s_starfree_evaluate_39L_step (C : CallF) (tables : List V) (w : List UInt8) (t15 ns_0 ns_1 ns_2 ns_3 : Int) : (Int × (List V)) → Option ((Int × (List V)) ⊕ ((Int × Bool × (List V)))) := fun (t16, ts) =>
 bif decide ((t16 : Int) < t15) then
  bif ((ns_0 : Int) == 2) then
   bif (decide (0 ≤ t16)) && (decide (t16 < (ts.length : Int))) then
    (ts[(t16 : Int).toNat]?).bind fun x1 =>
     (C F_starfree_cuts_with [.agg [.int .u64 ((x1.cell 0).toInt), .int .u64 ((x1.cell 1).toInt)], .int .i64 t16] []).bind fun r2 =>
      bif (decide (0 ≤ t16)) && (decide (t16 < (ts.length : Int))) then
       (ts[(t16 : Int).toNat]?).bind fun x3 =>
        some (.inl (IntKind.wrap .i64 (t16 + 1), (ts.set ((t16 : Int).toNat) (.agg [.int .u64 ((r2.1.cell 0).toInt), .int .u64 ((r2.1.cell 1).toInt)]))))
      else none
   else none
  else
   bif ((ns_0 : Int) == 3) then
    s_starfree_evaluate_7 C w t16 ns_1 ts
     (fun (ts_67 : List V) =>
      some (.inl (IntKind.wrap .i64 (t16 + 1), ts_67)))
   else
    bif ((ns_0 : Int) == 4) then
     (C F_starfree_between [.int .i64 t16, .int .i64 (w.length : Int)] []).bind fun r9 =>
      bif (decide (0 ≤ t16)) && (decide (t16 < (ts.length : Int))) then
       (ts[(t16 : Int).toNat]?).bind fun x10 =>
        some (.inl (IntKind.wrap .i64 (t16 + 1), (ts.set ((t16 : Int).toNat) (.agg [.int .u64 ((r9.1.cell 0).toInt), .int .u64 ((r9.1.cell 1).toInt)]))))
      else none
    else
     bif ((ns_0 : Int) == 5) then
      (idx tables ns_2).bind fun x11 =>
       (idx x11.toList t16).bind fun x12 =>
        (idx tables ns_3).bind fun x13 =>
         (idx x13.toList t16).bind fun x14 =>
          (C F_starfree_cuts_union [.agg [.int .u64 ((x12.cell 0).toInt), .int .u64 ((x12.cell 1).toInt)], .agg [.int .u64 ((x14.cell 0).toInt), .int .u64 ((x14.cell 1).toInt)]] []).bind fun r15 =>
           bif (decide (0 ≤ t16)) && (decide (t16 < (ts.length : Int))) then
            (ts[(t16 : Int).toNat]?).bind fun x16 =>
             some (.inl (IntKind.wrap .i64 (t16 + 1), (ts.set ((t16 : Int).toNat) (.agg [.int .u64 ((r15.1.cell 0).toInt), .int .u64 ((r15.1.cell 1).toInt)]))))
           else none
     else
      bif ((ns_0 : Int) == 6) then
       (idx tables ns_2).bind fun x17 =>
        (idx x17.toList t16).bind fun x18 =>
         (idx tables ns_3).bind fun x19 =>
          (idx x19.toList t16).bind fun x20 =>
           (C F_starfree_cuts_meet [.agg [.int .u64 ((x18.cell 0).toInt), .int .u64 ((x18.cell 1).toInt)], .agg [.int .u64 ((x20.cell 0).toInt), .int .u64 ((x20.cell 1).toInt)]] []).bind fun r21 =>
            bif (decide (0 ≤ t16)) && (decide (t16 < (ts.length : Int))) then
             (ts[(t16 : Int).toNat]?).bind fun x22 =>
              some (.inl (IntKind.wrap .i64 (t16 + 1), (ts.set ((t16 : Int).toNat) (.agg [.int .u64 ((r21.1.cell 0).toInt), .int .u64 ((r21.1.cell 1).toInt)]))))
            else none
      else
       bif ((ns_0 : Int) == 7) then
        s_starfree_evaluate_17L C tables w t16 t16 ns_2 ns_3 ts
         (fun (j_43 : Int) (t_44 : Bool) (ts_45 : List V) =>
          some (.inl (IntKind.wrap .i64 (t16 + 1), ts_45)))
       else
        s_starfree_evaluate_20 C tables w t16 ns_0 ns_2 ts
         (fun (ts_54 : List V) =>
          some (.inl (IntKind.wrap .i64 (t16 + 1), ts_54)))
 else
  some (.inr (t16, decide ((t16 : Int) < t15), ts))
noncomputable def s_starfree_evaluate_39L (C : CallF) (tables : List V) (w : List UInt8) (t15 t16 ns_0 ns_1 ns_2 ns_3 : Int) (ts : List V) {β : Type} (k0 : Int → Bool → (List V) → Option β) : Option β :=
 (Loop (s_starfree_evaluate_39L_step C tables w t15 ns_0 ns_1 ns_2 ns_3) (t16, ts)).bind fun (t160, t170, ts0) => k0 t160 t170 ts0
noncomputable def s_starfree_evaluate_39L_dec : Out → St → Option ((Int × (List V)) ⊕ ((Int × Bool × (List V)))) := fun o st => match o with
 | .norm => some (.inl (V.toInt (st.sl 16), arrOf (st.hp 1)))
 | .exit q => bif Nat.beq q 0 then some (.inr (V.toInt (st.sl 16), V.toBool (st.sl 17), arrOf (st.hp 1))) else none
 | .ret => none
noncomputable def s_starfree_evaluate_39L_hd (tables : List V) (w : List UInt8) (t15 ns_0 ns_1 ns_2 ns_3 : Int) : (Int × (List V)) → St := fun (t16, ts) => z24_0 tables w t15 t16 ns_0 ns_1 ns_2 ns_3 ts
noncomputable def s_starfree_evaluate_39L_enc (tables : List V) (w : List UInt8) (t15 ns_0 ns_1 ns_2 ns_3 : Int) : ((Int × Bool × (List V))) → Out × St := fun (t160, t170, ts0) => (.exit 0, z24_2 tables w t15 t160 t170 ns_0 ns_1 ns_2 ns_3 ts0)
theorem s_starfree_evaluate_39L_eq (C : CallF) (tables : List V) (w : List UInt8) (t15 t16 ns_0 ns_1 ns_2 ns_3 : Int) (ts : List V) {β : Type} (K : Out → St → Option β) :
 execL Try.prog ann C 24 166 0 (codesAt Try.prog 24 [[1, 1, 0, 1, 0]]) (z24_0 tables w t15 t16 ns_0 ns_1 ns_2 ns_3 ts) K =
  s_starfree_evaluate_39L C tables w t15 t16 ns_0 ns_1 ns_2 ns_3 ts
   (fun (t160 : Int) (t170 : Bool) (ts0 : List V) => K (.exit 0) (z24_2 tables w t15 t160 t170 ns_0 ns_1 ns_2 ns_3 ts0)) := by
 have hitems : flatC (codeAt [1, 1, 0, 1, 0, 0] (bodyOf Try.prog 24)) = q24_38 := by kernel_rfl
 have hloop : [codeAt [1, 1, 0, 1, 0] (bodyOf Try.prog 24)] = [Code.loop (codeAt [1, 1, 0, 1, 0, 0] (bodyOf Try.prog 24))] := by kernel_rfl
 have h := loopK_eq (P := Try.prog) (A := ann) (C := C) (f := 24) (n := 166) (m := 0) (c := codeAt [1, 1, 0, 1, 0, 0] (bodyOf Try.prog 24)) (s_starfree_evaluate_39L_hd tables w t15 ns_0 ns_1 ns_2 ns_3) (s_starfree_evaluate_39L_enc tables w t15 ns_0 ns_1 ns_2 ns_3) s_starfree_evaluate_39L_dec (s_starfree_evaluate_39L_step C tables w t15 ns_0 ns_1 ns_2 ns_3)
  (by rintro ⟨t16, ts⟩; exact Eq.trans (execK_items hitems) (Eq.trans (h24_38_eq C tables w t15 t16 ns_0 ns_1 ns_2 ns_3 ts s_starfree_evaluate_39L_dec) (by kernel_rfl)))
  (by rintro ⟨t16, ts⟩; exact Eq.trans (execK_items hitems) (Eq.trans (h24_38_eq C tables w t15 t16 ns_0 ns_1 ns_2 ns_3 ts (fun o st => some (o, st))) (Eq.trans (by kernel_rfl) (Eq.trans (h24_38_eq C tables w t15 t16 ns_0 ns_1 ns_2 ns_3 ts (fun o st => (s_starfree_evaluate_39L_dec o st).map (outS (s_starfree_evaluate_39L_hd tables w t15 ns_0 ns_1 ns_2 ns_3) (s_starfree_evaluate_39L_enc tables w t15 ns_0 ns_1 ns_2 ns_3)))).symm (execK_items hitems).symm))))
  (by intro r; intro h; cases h) (t16, ts) K
 refine Eq.trans (congrArg (fun l => execL Try.prog ann C 24 166 0 l (z24_0 tables w t15 t16 ns_0 ns_1 ns_2 ns_3 ts) K) hloop) (Eq.trans h ?_)
 · refine congrArg _ (funext fun r => ?_)
   rfl
noncomputable def d24_40 (C : CallF) (tables : List V) (w : List UInt8) (t15 t16 ns_0 ns_1 ns_2 ns_3 : Int) (ts : List V) {β : Type} (k0 : (List V) → Option β) : Option β :=
 s_starfree_evaluate_39L C tables w t15 t16 ns_0 ns_1 ns_2 ns_3 ts
  (fun (t_77 : Int) (t_78 : Bool) (ts_79 : List V) =>
   k0 ts_79)
noncomputable abbrev z24_12 (c0 : List V) : St :=
 mk [(7, .whole T_starfree_cuts 0)] [.arr T_starfree_cuts c0 false]
theorem h24_40_eq (C : CallF) (tables : List V) (w : List UInt8) (t15 t16 ns_0 ns_1 ns_2 ns_3 : Int) (ts : List V) {β : Type} (K : Out → St → Option β) :
 execL Try.prog ann C 24 166 0 (codesAt Try.prog 24 [[1, 1, 0, 1]]) (z24_0 tables w t15 t16 ns_0 ns_1 ns_2 ns_3 ts) K =
  d24_40 C tables w t15 t16 ns_0 ns_1 ns_2 ns_3 ts
   (fun (ts0 : List V) => K .norm (z24_12 ts0)) := Eq.trans (execL_block (P := Try.prog) (A := ann) (C := C) (f := 24) (n := 166) (m := 0) (id := 0) (c := codeAt [1, 1, 0, 1] (bodyOf Try.prog 24)) (d := codeAt [1, 1, 0, 1, 0] (bodyOf Try.prog 24)) (l := codesAt Try.prog 24 [[1, 1, 0, 1, 0]]) (st := z24_0 tables w t15 t16 ns_0 ns_1 ns_2 ns_3 ts) (K := K) (by kernel_rfl) (by kernel_rfl)) (Eq.trans (s_starfree_evaluate_39L_eq C tables w t15 t16 ns_0 ns_1 ns_2 ns_3 ts (blockK ann 24 0 0 K)) (by kernel_rfl))
noncomputable def d24_41 (C : CallF)  {β : Type} (k0 : Option β) : Option β :=
 k0
noncomputable abbrev z24_13 (c0 : List V) : St :=
 mk [(6, .whole T_starfree_cuts 0)] [.arr T_starfree_cuts c0 false]
noncomputable abbrev q24_39 : List Code := codesAt Try.prog 24 [[1, 1, 1, 0], [1, 1, 1, 1]]
theorem h24_41_eq (C : CallF) (ts : List V) {β : Type} (K : Out → St → Option β) :
 execL Try.prog ann C 24 166 0 (q24_39) (z24_12 ts) K =
  d24_41 C
   (K .ret (z24_13 ts)) := by kernel_rfl
noncomputable def d24_42 (C : CallF) (tables : List V) (w : List UInt8) (t15 t16 ns_0 ns_1 ns_2 ns_3 : Int) (ts : List V) {β : Type} (k0 : (List V) → Option β) : Option β :=
 d24_40 C tables w t15 t16 ns_0 ns_1 ns_2 ns_3 ts
  (fun (ts_83 : List V) =>
   d24_41 C
    (
     k0 ts_83))
noncomputable abbrev q24_40 : List Code := codesAt Try.prog 24 [[1, 1, 0, 1], [1, 1, 1, 0], [1, 1, 1, 1]]
theorem h24_42_eq (C : CallF) (tables : List V) (w : List UInt8) (t15 t16 ns_0 ns_1 ns_2 ns_3 : Int) (ts : List V) {β : Type} (K : Out → St → Option β) :
 execL Try.prog ann C 24 166 0 (q24_40) (z24_0 tables w t15 t16 ns_0 ns_1 ns_2 ns_3 ts) K =
  d24_42 C tables w t15 t16 ns_0 ns_1 ns_2 ns_3 ts
   (fun (t6s0 : List V) => K .ret (z24_13 t6s0)) := by
 refine Eq.trans (execL_app (P := Try.prog) (A := ann) (C := C) (f := 24) (n := 166) (m := 0) (codesAt Try.prog 24 [[1, 1, 0, 1]]) (q24_39) (st := z24_0 tables w t15 t16 ns_0 ns_1 ns_2 ns_3 ts) (K := K)) (Eq.trans (h24_40_eq C tables w t15 t16 ns_0 ns_1 ns_2 ns_3 ts (seqK Try.prog ann C 24 166 0 (q24_39) K)) ?_)
 · exact Eq.trans (by kernel_rfl) (Eq.trans (congrArg (fun HOLE : (List V) → Option β => d24_40 C tables w t15 t16 ns_0 ns_1 ns_2 ns_3 ts HOLE) (funext fun (ts0 : List V) => h24_41_eq C ts0 K)) ((by kernel_rfl)))
noncomputable def d24_43 (C : CallF) (n_Op n_Letter n_A n_B : Int) (tables : List V) (w : List UInt8) {β : Type} (k0 : (List V) → Option β) : Option β :=
 d24_1 C w
  (
   d24_42 C tables w ((List.replicate ((IntKind.wrap .i64 ((w.length : Int) + 1) : Int).toNat) (V.agg [.int .u64 0, .int .u64 0])).length : Int) 0 n_Op n_Letter n_A n_B (List.replicate ((IntKind.wrap .i64 ((w.length : Int) + 1) : Int).toNat) (V.agg [.int .u64 0, .int .u64 0]))
    (fun (t6s_84 : List V) =>
     k0 t6s_84))
noncomputable abbrev q24_41 : List Code := codesAt Try.prog 24 [[0], [1, 0], [1, 1, 0, 0], [1, 1, 0, 1], [1, 1, 1, 0], [1, 1, 1, 1]]
theorem h24_43_eq (C : CallF) (n_Op n_Letter n_A n_B : Int) (tables : List V) (w : List UInt8) {β : Type} (K : Out → St → Option β) :
 execL Try.prog ann C 24 166 0 (q24_41) (z24_1 n_Op n_Letter n_A n_B tables w) K =
  d24_43 C n_Op n_Letter n_A n_B tables w
   (fun (t6s0 : List V) => K .ret (z24_13 t6s0)) := by
 refine Eq.trans (execL_app (P := Try.prog) (A := ann) (C := C) (f := 24) (n := 166) (m := 0) (q24_0) (q24_40) (st := z24_1 n_Op n_Letter n_A n_B tables w) (K := K)) (Eq.trans (h24_1_eq C n_Op n_Letter n_A n_B tables w (seqK Try.prog ann C 24 166 0 (q24_40) K)) ?_)
 · exact Eq.trans (by kernel_rfl) (Eq.trans (congrArg (fun HOLE : Option β => d24_1 C w HOLE) (h24_42_eq C tables w ((List.replicate ((IntKind.wrap .i64 ((w.length : Int) + 1) : Int).toNat) (V.agg [.int .u64 0, .int .u64 0])).length : Int) 0 n_Op n_Letter n_A n_B (List.replicate ((IntKind.wrap .i64 ((w.length : Int) + 1) : Int).toNat) (V.agg [.int .u64 0, .int .u64 0])) K)) ((by kernel_rfl)))
noncomputable def f_starfree_evaluate (C : CallF) (n_Op n_Letter n_A n_B : Int) (tables : List V) (w : List UInt8) : Option (V × List V) :=
 bif (decide (0 ≤ (IntKind.wrap .i64 ((w.length : Int) + 1)))) && ((decide ((IntKind.wrap .i64 ((w.length : Int) + 1)) ≤ (IntKind.wrap .i64 ((w.length : Int) + 1)))) && (Nat.ble (((IntKind.wrap .i64 ((w.length : Int) + 1) : Int).toNat) * 16) maxBytes)) then
  s_starfree_evaluate_39L C tables w ((List.replicate ((IntKind.wrap .i64 ((w.length : Int) + 1) : Int).toNat) (V.agg [.int .u64 0, .int .u64 0])).length : Int) 0 n_Op n_Letter n_A n_B (List.replicate ((IntKind.wrap .i64 ((w.length : Int) + 1) : Int).toNat) (V.agg [.int .u64 0, .int .u64 0]))
   (fun (t_80 : Int) (t_81 : Bool) (ts_82 : List V) =>
    some (.own T_starfree_cuts ts_82, []))
 else none
theorem f_starfree_evaluate_eq (C : CallF) (n_Op n_Letter n_A n_B : Int) (tables : List V) (w : List UInt8) : bodyK Try.prog ann C 24 [.agg [.int .i64 n_Op, .int .i64 n_Letter, .int .i64 n_A, .int .i64 n_B], .list T_starfree_table tables, .str w] [] = f_starfree_evaluate C n_Op n_Letter n_A n_B tables w :=
 Eq.trans (bodyK_fin (by kernel_rfl)) (Eq.trans (execK_items (by kernel_rfl)) (Eq.trans (h24_43_eq C n_Op n_Letter n_A n_B tables w (finK Try.prog ann C 24 [])) (by kernel_rfl)))
theorem f_starfree_evaluate_of {n_Op : Int} {n_Letter : Int} {n_A : Int} {n_B : Int} {tables : List V} {w : List UInt8} {r : V × List V} (h : f_starfree_evaluate CC n_Op n_Letter n_A n_B tables w = some r) : CC F_starfree_evaluate [.agg [.int .i64 n_Op, .int .i64 n_Letter, .int .i64 n_A, .int .i64 n_B], .list T_starfree_table tables, .str w] [] = some r :=
 Call_of_body ((bodyK_eq ..).trans ((f_starfree_evaluate_eq ..).trans h))
end Go.AM

/-
 The languages of a star-free graph's nodes, and the tables that evaluate makes.
-/
namespace Go.AM
open Go.Proofs
/-- The letter that a byte is. -/
def isLetter (n : Node) (u : List UInt8) : Bool := match u with
 | [c] => decide ((c.toNat : Int) - 97 = n.letter)
 | _ => false
def langF (l : List Node) : Nat → Nat → List UInt8 → Bool
 | 0, _, _ => false
 | n + 1, i, u =>
  match l[i]? with
  | none => false
  | some x =>
   if x.op = 2 then u.isEmpty else if x.op = 3 then isLetter x u else if x.op = 4 then true
   else if x.op = 5 then langF l n x.a.toNat u || langF l n x.b.toNat u
   else if x.op = 6 then langF l n x.a.toNat u && langF l n x.b.toNat u
   else if x.op = 7 then (List.range (u.length + 1)).any fun k => langF l n x.a.toNat (u.take k) && langF l n x.b.toNat (u.drop k)
   else if x.op = 8 then !(langF l n x.a.toNat u) else false
def lang (l : List Node) (i : Nat) (u : List UInt8) : Bool := langF l (i + 1) i u
/-- The nodes refer to nodes before them. -/
def Valid (letters : Int) (l : List Node) : Prop := validFrom letters 0 l = true
theorem Valid.node {letters : Int} {l : List Node} (h : Valid letters l) {i : Nat} {x : Node} (hx : l[i]? = some x) : validNodeB x i letters = true := by
 have := validFrom_iff.1 h i x hx
 simpa using this
theorem partsN_one {op : Int} (h : 1 ≤ op ∧ op ≤ 8) : (1 ≤ partsN op ↔ 5 ≤ op) := by unfold partsN; split <;> (try split) <;> omega
theorem partsN_two {op : Int} (h : 1 ≤ op ∧ op ≤ 8) : (partsN op = 2 ↔ 5 ≤ op ∧ op ≠ 8) := by unfold partsN; split <;> (try split) <;> omega
structure NodeOk (x : Node) (i : Nat) (letters : Int) : Prop where
 op : 1 ≤ x.op ∧ x.op ≤ 8
 letter : x.op = 3 → 0 ≤ x.letter ∧ x.letter < letters
 noLetter : x.op ≠ 3 → x.letter = 0
 a : 5 ≤ x.op → 0 ≤ x.a ∧ x.a < i
 b : 5 ≤ x.op → x.op ≠ 8 → 0 ≤ x.b ∧ x.b < i
 noA : x.op < 5 → x.a = 0
 noB : (x.op < 5 ∨ x.op = 8) → x.b = 0
theorem nodeOk_iff {x : Node} {i : Nat} {letters : Int} : validNodeB x i letters = true ↔ NodeOk x i letters := by
 unfold validNodeB validPartB
 simp only [Bool.and_eq_true, decide_eq_true_eq]
 constructor
 · rintro ⟨h1, h2, h3, h4⟩
   simp only [partsN_one h1] at h3
   simp only [partsN_two h1] at h4
   refine ⟨h1, fun h => ?_, fun h => ?_, fun h => ?_, fun h h' => ?_, fun h => ?_, fun h => ?_⟩
   · rw [if_pos h] at h2; simpa using h2
   · rw [if_neg h] at h2; simpa using h2
   · rw [if_pos h] at h3; simpa using h3
   · rw [if_pos ⟨h, h'⟩] at h4; simpa using h4
   · rw [if_neg (by omega)] at h3; simpa using h3
   · rw [if_neg (by omega)] at h4; simpa using h4
 · rintro ⟨h1, h2, h3, h4, h5, h6, h7⟩
   simp only [partsN_one h1, partsN_two h1]
   refine ⟨h1, ?_, ?_, ?_⟩
   · split
     · rename_i h; simpa using h2 h
     · rename_i h; simpa using h3 h
   · split
     · rename_i h; simpa using h4 h
     · rename_i h; simpa using h6 (by omega)
   · split
     · rename_i h; simpa using h5 h.1 h.2
     · rename_i h; simpa using h7 (by omega)
theorem langF_stable {letters : Int} {l : List Node} (hl : Valid letters l) : ∀ (n m i : Nat) (u : List UInt8), i < n → i < m → langF l n i u = langF l m i u := by
 intro n
 induction n with
 | zero => intro m i u h; omega
 | succ n ih =>
  intro m i u h1 h2
  obtain ⟨m, rfl⟩ : ∃ k, m = k + 1 := ⟨m - 1, by omega⟩
  unfold langF
  cases hx : l[i]? with
  | none => rfl
  | some x =>
   have ok := nodeOk_iff.1 (hl.node hx)
   have ha : 5 ≤ x.op → ∀ u, langF l n x.a.toNat u = langF l m x.a.toNat u := fun h u => by
    have := ok.a h
    exact ih m _ u (by omega) (by omega)
   have hb : 5 ≤ x.op → x.op ≠ 8 → ∀ u, langF l n x.b.toNat u = langF l m x.b.toNat u := fun h h' u => by
    have := ok.b h h'
    exact ih m _ u (by omega) (by omega)
   simp only
   by_cases h5 : x.op = 5
   · simp [h5, ha (by omega), hb (by omega) (by omega)]
   by_cases h6 : x.op = 6
   · simp [h6, ha (by omega), hb (by omega) (by omega)]
   by_cases h7 : x.op = 7
   · simp [h7, ha (by omega), hb (by omega) (by omega)]
   by_cases h8 : x.op = 8
   · simp [h8, ha (by omega)]
   simp [h5, h6, h7, h8]
/-- The language of a node by those of its parts. -/
theorem lang_eq {letters : Int} {l : List Node} (hl : Valid letters l) {i : Nat} {x : Node} (hx : l[i]? = some x) (u : List UInt8) :
 lang l i u = if x.op = 2 then u.isEmpty else if x.op = 3 then isLetter x u else if x.op = 4 then true
  else if x.op = 5 then lang l x.a.toNat u || lang l x.b.toNat u
  else if x.op = 6 then lang l x.a.toNat u && lang l x.b.toNat u
  else if x.op = 7 then (List.range (u.length + 1)).any fun k => lang l x.a.toNat (u.take k) && lang l x.b.toNat (u.drop k)
  else if x.op = 8 then !(lang l x.a.toNat u) else false := by
 have ok := nodeOk_iff.1 (hl.node hx)
 have ha : 5 ≤ x.op → ∀ u, langF l i x.a.toNat u = lang l x.a.toNat u := fun h u => by
  have := ok.a h
  exact langF_stable hl _ _ _ u (by omega) (by omega)
 have hb : 5 ≤ x.op → x.op ≠ 8 → ∀ u, langF l i x.b.toNat u = lang l x.b.toNat u := fun h h' u => by
  have := ok.b h h'
  exact langF_stable hl _ _ _ u (by omega) (by omega)
 conv => lhs; unfold lang langF
 rw [hx]
 simp only
 by_cases h5 : x.op = 5
 · simp [h5, ha (by omega), hb (by omega) (by omega)]
 by_cases h6 : x.op = 6
 · simp [h6, ha (by omega), hb (by omega) (by omega)]
 by_cases h7 : x.op = 7
 · simp [h7, ha (by omega), hb (by omega) (by omega)]
 by_cases h8 : x.op = 8
 · simp [h8, ha (by omega)]
 simp [h5, h6, h7, h8]
/-- What is appended behind does not matter. -/
theorem langF_append (l m : List Node) : ∀ (n i : Nat) (u : List UInt8), (∀ (j : Nat) (x : Node), l[j]? = some x → 5 ≤ x.op → 0 ≤ x.a ∧ x.a < j) → (∀ (j : Nat) (x : Node), l[j]? = some x → 5 ≤ x.op → x.op ≠ 8 → 0 ≤ x.b ∧ x.b < j) → i < l.length → langF (l ++ m) n i u = langF l n i u := by
 intro n
 induction n with
 | zero => intros; rfl
 | succ n ih =>
  intro i u h1 h2 hi
  unfold langF
  rw [List.getElem?_append_left hi]
  cases hx : l[i]? with
  | none => rfl
  | some x =>
   have ha : 5 ≤ x.op → ∀ u, langF (l ++ m) n x.a.toNat u = langF l n x.a.toNat u := fun h u => by
    have := h1 i x hx h
    exact ih _ u h1 h2 (by omega)
   have hb : 5 ≤ x.op → x.op ≠ 8 → ∀ u, langF (l ++ m) n x.b.toNat u = langF l n x.b.toNat u := fun h h' u => by
    have := h2 i x hx h h'
    exact ih _ u h1 h2 (by omega)
   simp only
   by_cases h5 : x.op = 5
   · simp [h5, ha (by omega), hb (by omega) (by omega)]
   by_cases h6 : x.op = 6
   · simp [h6, ha (by omega), hb (by omega) (by omega)]
   by_cases h7 : x.op = 7
   · simp [h7, ha (by omega), hb (by omega) (by omega)]
   by_cases h8 : x.op = 8
   · simp [h8, ha (by omega)]
   simp [h5, h6, h7, h8]
/-! Tables. -/
def sub (w : List UInt8) (p q : Nat) : List UInt8 := (w.drop p).take (q - p)
theorem sub_length {w : List UInt8} {p q : Nat} (h : p ≤ q) (hq : q ≤ w.length) : (sub w p q).length = q - p := by simp [sub]; omega
theorem sub_take {w : List UInt8} {p q k : Nat} (hk : k ≤ q - p) : (sub w p q).take k = sub w p (p + k) := by
 unfold sub; rw [List.take_take]; congr 1; omega
theorem sub_drop {w : List UInt8} {p q k : Nat} (hk : k ≤ q - p) : (sub w p q).drop k = sub w (p + k) q := by
 unfold sub; rw [List.drop_take, List.drop_drop]; congr 1; omega
/-- What the table of a node says at p. -/
def cell (l : List Node) (i : Nat) (w : List UInt8) (p q : Nat) : Bool := decide (p ≤ q ∧ q ≤ w.length) && lang l i (sub w p q)
def IsTable (l : List Node) (i : Nat) (w : List UInt8) (t : List V) : Prop :=
 t.length = w.length + 1 ∧ ∀ p v, t[p]? = some v → IsCut v (cell l i w p)
theorem IsCut.norm {v : V} {f : Nat → Bool} (h : IsCut v f) : V.agg [.int .u64 ((v.cell 0).toInt), .int .u64 ((v.cell 1).toInt)] = v := by
 obtain ⟨A, B, _, _, rfl, _⟩ := h
 simp
/-- The inner loop of a concatenation. -/
theorem cat_loop {l : List Node} {i ia ib : Nat} {w : List UInt8} {x : Node} {T ta tb ts : List V} {p : Nat} (hn : w.length ≤ 64) (hp : p ≤ w.length)
 (hA : idx T x.a = some (.list T_starfree_cuts ta)) (hB : idx T x.b = some (.list T_starfree_cuts tb)) (hta : IsTable l ia w ta) (htb : IsTable l ib w tb)
 (hc : ∀ q, p ≤ q → q ≤ w.length → lang l i (sub w p q) = (List.range (q - p + 1)).any fun k => lang l ia (sub w p (p + k)) && lang l ib (sub w (p + k) q))
 (hts : ts.length = w.length + 1) (h0 : ∀ v, ts[p]? = some v → IsCut v fun _ => false) :
 ∃ (j : Int) (b : Bool) (v : V), IsCut v (cell l i w p) ∧ Loop (s_starfree_evaluate_17L_step CC T w p x.a x.b) ((p : Int), ts) = some (j, b, ts.set p v) := by
 have hp0 : p < ts.length := by omega
 have key := Loop_inv (step := s_starfree_evaluate_17L_step CC T w p x.a x.b)
  (fun s => ∃ (j : Nat) (v : V), p ≤ j ∧ j ≤ w.length + 1 ∧ IsCut v (fun q => decide (p ≤ q ∧ q ≤ w.length) && (List.range (j - p)).any fun k => decide (p + k ≤ q) && (lang l ia (sub w p (p + k)) && lang l ib (sub w (p + k) q))) ∧ s = ((j : Int), ts.set p v))
  (fun s => ((w.length + 1 : Int) - s.1).toNat)
  (fun r => ∃ (j : Int) (b : Bool) (v : V), IsCut v (cell l i w p) ∧ r = (j, b, ts.set p v)) (by
   rintro s ⟨j, v, h1, h2, h3, rfl⟩
   unfold s_starfree_evaluate_17L_step s_starfree_evaluate_16
   simp only [bif_and, bif_decide, List.length_set]
   by_cases hj : j ≤ w.length
   · left
     rw [if_pos (by omega), hA, hB]
     have hga : ta[p]? = some (ta[p]'(by rw [hta.1]; omega)) := List.getElem?_eq_getElem _
     have hgb : tb[j]? = some (tb[j]'(by rw [htb.1]; omega)) := List.getElem?_eq_getElem _
     have ca := hta.2 p _ hga
     have cb := htb.2 j _ hgb
     have hset : (ts.set p v)[p]? = some v := by simp [hp0]
     simp only [Option.bind_some, V.toList_list, idx_nat, hga, hgb, ca.norm, has_spec ca (show j < 128 by omega), V.toBool_bool, Int.toNat_natCast, hset]
     -- the new value's set
     have grow : ∀ q, q < 128 → (decide (p ≤ q ∧ q ≤ w.length) && (List.range (j + 1 - p)).any fun k => decide (p + k ≤ q) && (lang l ia (sub w p (p + k)) && lang l ib (sub w (p + k) q))) =
      ((decide (p ≤ q ∧ q ≤ w.length) && (List.range (j - p)).any fun k => decide (p + k ≤ q) && (lang l ia (sub w p (p + k)) && lang l ib (sub w (p + k) q))) ||
       (cell l ia w p j && cell l ib w j q)) := by
      intro q _
      rw [show j + 1 - p = (j - p) + 1 by omega, List.range_succ, List.any_append]
      have e : p + (j - p) = j := by omega
      simp only [List.any_cons, List.any_nil, Bool.or_false, e, cell]
      have e1 : decide (p ≤ j ∧ j ≤ w.length) = true := by simp; omega
      rw [e1, Bool.true_and]
      by_cases hq : p ≤ q ∧ q ≤ w.length
      · by_cases hjq : j ≤ q
        · simp [hq, hjq]
        · simp [hq, hjq]
      · have : ¬ (j ≤ q ∧ q ≤ w.length) := by omega
        rw [decide_eq_false hq, decide_eq_false this]; simp
     cases hcell : cell l ia w p j with
     | true =>
      obtain ⟨v', hv', hu⟩ := union_spec h3 cb
      refine ⟨((j + 1 : Nat), ts.set p v'), ?_, ⟨j + 1, v', by omega, by omega, hv'.congr fun q hq => ?_, rfl⟩, by simp; omega⟩
      · rw [if_pos (by omega), if_pos (by omega)]
        simp (disch := omega) only [cond_true, h3.norm, cb.norm, hu, Option.bind_some, hv'.norm, wrap64, List.set_set]
        rw [if_pos (by omega), if_pos (by omega)]
        rfl
      · have := grow q hq
        rw [hcell, Bool.true_and] at this
        exact this.symm
     | false =>
      refine ⟨((j + 1 : Nat), ts.set p v), ?_, ⟨j + 1, v, by omega, by omega, h3.congr fun q hq => ?_, rfl⟩, by simp; omega⟩
      · simp (disch := omega) only [cond_false, wrap64]
        rfl
      · have := grow q hq
        rw [hcell, Bool.false_and, Bool.or_false] at this
        exact this.symm
   · right
     rw [if_neg (by omega)]
     refine ⟨_, rfl, _, _, v, h3.congr fun q _ => ?_, rfl⟩
     unfold cell
     by_cases hq : p ≤ q ∧ q ≤ w.length
     · rw [decide_eq_true hq, Bool.true_and, Bool.true_and, hc q hq.1 hq.2]
       have hjw : j = w.length + 1 := by omega
       rw [Bool.eq_iff_iff, List.any_eq_true, List.any_eq_true]
       constructor
       · rintro ⟨k, hk, h⟩
         simp only [Bool.and_eq_true, decide_eq_true_eq] at h
         exact ⟨k, by simp; omega, by simp [h.2]⟩
       · rintro ⟨k, hk, h⟩
         simp only [List.mem_range] at hk
         simp only [Bool.and_eq_true] at h
         exact ⟨k, by simp; omega, by simp [h]; omega⟩
     · rw [decide_eq_false hq]; rfl)
 have hv0 : ts[p]? = some ts[p] := List.getElem?_eq_getElem hp0
 obtain ⟨r, hr, j, b, v, hv, rfl⟩ := key ((p : Int), ts) ⟨p, ts[p], Nat.le_refl _, by omega, (h0 _ hv0).congr fun q _ => by simp, by simp⟩
 exact ⟨j, b, v, hv, hr⟩
end Go.AM

/-
 evaluate: the table of a node.
-/
namespace Go.AM
open Go.Proofs
theorem isLetter_iff {x : Node} {u : List UInt8} : isLetter x u = true ↔ ∃ c, u = [c] ∧ (c.toNat : Int) - 97 = x.letter := by
 unfold isLetter
 split
 · simp
 · rename_i h
   constructor
   · intro h; cases h
   · rintro ⟨c, rfl, _⟩; exact absurd rfl (h c)
theorem sub_one {w : List UInt8} {p : Nat} (h : p < w.length) : sub w p (p + 1) = [w[p]] := by
 unfold sub
 rw [List.drop_eq_getElem_cons h, show p + 1 - p = 1 by omega]
 rfl
/-- One round of evaluate. -/
def RoundOk (C : CallF) (T ts : List V) (w : List UInt8) (x : Node) (p : Nat) (g : Nat → Bool) : Prop :=
 ∃ v', IsCut v' g ∧ s_starfree_evaluate_39L_step C T w (ts.length : Int) x.op x.letter x.a x.b ((p : Int), ts) = some (.inl (((p + 1 : Nat) : Int), ts.set p v'))
/-- The tables at hand: those of the nodes that node x refers to. -/
def HasTables (l : List Node) (T : List V) (w : List UInt8) (x : Node) : Prop :=
 (5 ≤ x.op → ∃ t, idx T x.a = some (.list T_starfree_cuts t) ∧ IsTable l x.a.toNat w t) ∧
 (5 ≤ x.op → x.op ≠ 8 → ∃ t, idx T x.b = some (.list T_starfree_cuts t) ∧ IsTable l x.b.toNat w t)
theorem round_ok {letters : Int} {l : List Node} (hl : Valid letters l) {i : Nat} {x : Node} (hx : l[i]? = some x) {T ts : List V} {w : List UInt8} (hT : HasTables l T w x) (hw : wordB 6 w = true)
 (hn : w.length ≤ 64) {p : Nat} (hp : p ≤ w.length) (hts : ts.length = w.length + 1) (h0 : ∀ v, ts[p]? = some v → IsCut v fun _ => false) : RoundOk CC T ts w x p (cell l i w p) := by
 have ok := nodeOk_iff.1 (hl.node hx)
 have hlt : p < ts.length := by omega
 have hv0 : ts[p]? = some ts[p] := List.getElem?_eq_getElem hlt
 have c0 := h0 _ hv0
 have hle := lang_eq hl hx
 unfold RoundOk s_starfree_evaluate_39L_step
 simp only [bif_and, bif_decide, bif_beq]
 by_cases h1 : x.op = 1
 · refine ⟨ts[p], c0.congr fun q _ => ?_, ?_⟩
   · unfold cell; rw [hle]; simp [h1]
   · unfold s_starfree_evaluate_20
     simp only [bif_beq]
     rw [if_pos (by omega), if_neg (by omega), if_neg (by omega), if_neg (by omega), if_neg (by omega), if_neg (by omega), if_neg (by omega), if_neg (by omega)]
     simp (disch := omega) only [wrap64]
     simp
 by_cases h2 : x.op = 2
 · obtain ⟨v', hv', hc⟩ := with_spec c0 (show p < 128 by omega)
   refine ⟨v', hv'.congr fun q _ => ?_, ?_⟩
   · unfold cell; rw [hle, if_pos h2, Bool.false_or]
     by_cases hq : p ≤ q ∧ q ≤ w.length
     · rw [decide_eq_true hq, Bool.true_and, Bool.eq_iff_iff]
       have := sub_length hq.1 hq.2
       constructor
       · intro h
         simp only [decide_eq_true_eq] at h
         subst h
         simp [sub]
       · intro h
         rw [List.isEmpty_iff] at h
         rw [h] at this
         simp only [List.length_nil] at this
         simp; omega
     · rw [decide_eq_false hq, Bool.false_and, decide_eq_false (by omega)]
   · rw [if_pos (by omega), if_pos h2, if_pos (by omega), if_pos (by omega), Int.toNat_natCast, hv0]
     simp (disch := omega) only [Option.bind_some, c0.norm, hc, hv'.norm, wrap64]
     rw [if_pos (by omega), if_pos (by omega)]
     rfl
 by_cases h3 : x.op = 3
 · rw [if_pos (by omega), if_neg h2, if_pos h3]
   unfold s_starfree_evaluate_7
   simp only [bif_and, bif_decide, bif_beq]
   by_cases hpw : p < w.length
   · have hb : 97 ≤ w[p].toNat := by
      have := List.all_eq_true.1 hw w[p] (List.getElem_mem hpw)
      simp only [decide_eq_true_eq] at this
      exact this.1
     have hb2 := w[p].toNat_lt
     rw [if_pos (by omega), if_pos (by omega), Int.toNat_natCast, List.getElem?_eq_getElem hpw]
     simp (disch := omega) only [Option.map_some, Option.bind_some, V.toInt_int, wrap8, wrap64, hv0]
     have hsub : ∀ q, p ≤ q → q ≤ w.length → (isLetter x (sub w p q) = true ↔ q = p + 1 ∧ (w[p].toNat : Int) - 97 = x.letter) := by
      intro q hq1 hq2
      rw [isLetter_iff]
      constructor
      · rintro ⟨c, hc1, hc2⟩
        have := sub_length hq1 hq2
        rw [hc1] at this
        simp only [List.length_singleton] at this
        have hq : q = p + 1 := by omega
        subst hq
        rw [sub_one hpw] at hc1
        cases hc1
        exact ⟨rfl, hc2⟩
      · rintro ⟨rfl, h⟩
        exact ⟨_, sub_one hpw, h⟩
     by_cases he : (w[p].toNat : Int) - 97 = x.letter
     · obtain ⟨v', hv', hc⟩ := with_spec c0 (show p + 1 < 128 by omega)
       refine ⟨v', hv'.congr fun q _ => ?_, ?_⟩
       · unfold cell; rw [hle, if_neg h2, if_pos h3, Bool.false_or]
         by_cases hq : p ≤ q ∧ q ≤ w.length
         · rw [decide_eq_true hq, Bool.true_and, Bool.eq_iff_iff, hsub q hq.1 hq.2]
           simp [he]
         · rw [decide_eq_false hq, Bool.false_and, decide_eq_false (by omega)]
       · rw [if_pos he, if_pos (by omega), if_pos (by omega)]
         rw [show (p : Int) + 1 = ((p + 1 : Nat) : Int) by omega]
         simp only [c0.norm, hc, Option.bind_some, hv'.norm]
         rw [if_pos (by omega), if_pos (by omega)]
     · refine ⟨ts[p], c0.congr fun q _ => ?_, ?_⟩
       · unfold cell; rw [hle, if_neg h2, if_pos h3]
         by_cases hq : p ≤ q ∧ q ≤ w.length
         · rw [decide_eq_true hq, Bool.true_and]
           cases hs : isLetter x (sub w p q) with
           | false => rfl
           | true => exact absurd ((hsub q hq.1 hq.2).1 hs).2 he
         · rw [decide_eq_false hq, Bool.false_and]
       · rw [if_neg he]; simp
   · refine ⟨ts[p], c0.congr fun q _ => ?_, ?_⟩
     · unfold cell; rw [hle, if_neg h2, if_pos h3]
       by_cases hq : p ≤ q ∧ q ≤ w.length
       · rw [decide_eq_true hq, Bool.true_and]
         have : sub w p q = [] := List.eq_nil_of_length_eq_zero (by rw [sub_length hq.1 hq.2]; omega)
         rw [this]; rfl
       · rw [decide_eq_false hq, Bool.false_and]
     · rw [if_neg (by omega)]
       simp (disch := omega) only [wrap64]
       simp
 by_cases h4 : x.op = 4
 · obtain ⟨v', hv', hc⟩ := between_spec (i := p) (n := w.length) (by omega) (by omega)
   refine ⟨v', hv'.congr fun q _ => ?_, ?_⟩
   · unfold cell; rw [hle, if_neg h2, if_neg h3, if_pos h4, Bool.and_true]
   · rw [if_pos (by omega), if_neg h2, if_neg h3, if_pos h4, hc]
     simp (disch := omega) only [Option.bind_some, Int.toNat_natCast, hv0, hv'.norm, wrap64]
     rw [if_pos (by omega), if_pos (by omega)]
     rfl
 have h5' : 5 ≤ x.op := by have := ok.op; omega
 obtain ⟨ta, hA, hta⟩ := hT.1 h5'
 have hga : ta[p]? = some (ta[p]'(by rw [hta.1]; omega)) := List.getElem?_eq_getElem _
 have ca := hta.2 p _ hga
 by_cases h8 : x.op = 8
 · obtain ⟨vb, hvb, hcb⟩ := between_spec (i := p) (n := w.length) (by omega) (by omega)
   obtain ⟨v', hv', hc⟩ := without_spec hvb ca
   refine ⟨v', hv'.congr fun q _ => ?_, ?_⟩
   · unfold cell; rw [hle, if_neg h2, if_neg h3, if_neg h4, if_neg (by omega), if_neg (by omega), if_neg (by omega), if_pos h8]
     cases decide (p ≤ q ∧ q ≤ w.length) <;> simp
   · rw [if_pos (by omega), if_neg h2, if_neg h3, if_neg h4, if_neg (by omega), if_neg (by omega), if_neg (by omega)]
     unfold s_starfree_evaluate_20
     simp only [bif_and, bif_decide, bif_beq]
     rw [if_pos h8, hcb, hA]
     simp (disch := omega) only [Option.bind_some, Int.toNat_natCast, hv0, hvb.norm, V.toList_list, idx_nat, hga, ca.norm, hc, hv'.norm, wrap64]
     rw [if_pos (by omega), if_pos (by omega)]
     rfl
 obtain ⟨tb, hB, htb⟩ := hT.2 h5' h8
 have hgb : tb[p]? = some (tb[p]'(by rw [htb.1]; omega)) := List.getElem?_eq_getElem _
 have cb := htb.2 p _ hgb
 by_cases h5 : x.op = 5
 · obtain ⟨v', hv', hc⟩ := union_spec ca cb
   refine ⟨v', hv'.congr fun q _ => ?_, ?_⟩
   · unfold cell; rw [hle, if_neg h2, if_neg h3, if_neg h4, if_pos h5]
     cases decide (p ≤ q ∧ q ≤ w.length) <;> simp
   · rw [if_pos (by omega), if_neg h2, if_neg h3, if_neg h4, if_pos h5, hA, hB]
     simp (disch := omega) only [Option.bind_some, Int.toNat_natCast, hv0, V.toList_list, idx_nat, hga, hgb, ca.norm, cb.norm, hc, hv'.norm, wrap64]
     rw [if_pos (by omega), if_pos (by omega)]
     rfl
 by_cases h6 : x.op = 6
 · obtain ⟨v', hv', hc⟩ := meet_spec ca cb
   refine ⟨v', hv'.congr fun q _ => ?_, ?_⟩
   · unfold cell; rw [hle, if_neg h2, if_neg h3, if_neg h4, if_neg h5, if_pos h6]
     cases decide (p ≤ q ∧ q ≤ w.length) <;> simp
   · rw [if_pos (by omega), if_neg h2, if_neg h3, if_neg h4, if_neg h5, if_pos h6, hA, hB]
     simp (disch := omega) only [Option.bind_some, Int.toNat_natCast, hv0, V.toList_list, idx_nat, hga, hgb, ca.norm, cb.norm, hc, hv'.norm, wrap64]
     rw [if_pos (by omega), if_pos (by omega)]
     rfl
 have h7 : x.op = 7 := by have := ok.op; omega
 obtain ⟨j, b, v', hv', hlp⟩ := cat_loop (l := l) (i := i) (ts := ts) hn hp hA hB hta htb (fun q hq1 hq2 => by
  rw [hle, if_neg h2, if_neg h3, if_neg h4, if_neg h5, if_neg h6, if_pos h7, sub_length hq1 hq2]
  rw [Bool.eq_iff_iff, List.any_eq_true, List.any_eq_true]
  have : ∀ k, k ∈ List.range (q - p + 1) → ((lang l x.a.toNat ((sub w p q).take k) && lang l x.b.toNat ((sub w p q).drop k)) = (lang l x.a.toNat (sub w p (p + k)) && lang l x.b.toNat (sub w (p + k) q))) := by
   intro k hk
   simp only [List.mem_range] at hk
   rw [sub_take (by omega), sub_drop (by omega)]
  constructor
  · rintro ⟨k, hk, h⟩; exact ⟨k, hk, by rw [← this k hk]; exact h⟩
  · rintro ⟨k, hk, h⟩; exact ⟨k, hk, by rw [this k hk]; exact h⟩) hts h0
 refine ⟨v', hv', ?_⟩
 rw [if_pos (by omega), if_neg h2, if_neg h3, if_neg h4, if_neg h5, if_neg h6, if_pos h7]
 unfold s_starfree_evaluate_17L
 rw [hlp]
 simp (disch := omega) only [Option.bind_some, wrap64]
 rfl
theorem evaluate_spec {letters : Int} {l : List Node} (hl : Valid letters l) {i : Nat} {x : Node} (hx : l[i]? = some x) {T : List V} {w : List UInt8} (hT : HasTables l T w x) (hw : wordB 6 w = true)
 (hn : w.length ≤ 64) : ∃ t, IsTable l i w t ∧ CC F_starfree_evaluate [x.v, .list T_starfree_table T, .str w] [] = some (.own T_starfree_cuts t, []) := by
 have key := Loop_inv (step := s_starfree_evaluate_39L_step CC T w ((w.length + 1 : Nat) : Int) x.op x.letter x.a x.b)
  (fun s => ∃ (p : Nat) (ts : List V), p ≤ w.length + 1 ∧ ts.length = w.length + 1 ∧ (∀ q v, q < p → ts[q]? = some v → IsCut v (cell l i w q)) ∧ (∀ q v, p ≤ q → ts[q]? = some v → IsCut v fun _ => false) ∧ s = ((p : Int), ts))
  (fun s => ((w.length + 1 : Int) - s.1).toNat)
  (fun r => ∃ (j : Int) (b : Bool) (t : List V), IsTable l i w t ∧ r = (j, b, t)) (by
   rintro s ⟨p, ts, h1, h2, h3, h4, rfl⟩
   by_cases hp : p ≤ w.length
   · left
     obtain ⟨v', hv', hs⟩ := round_ok hl hx hT hw hn hp h2 (fun v hv => h4 p v (Nat.le_refl _) hv)
     rw [h2] at hs
     refine ⟨_, hs, ⟨p + 1, ts.set p v', by omega, by simp [h2], fun q v hq hv => ?_, fun q v hq hv => ?_, rfl⟩, by simp; omega⟩
     · by_cases hqp : q = p
       · subst hqp
         rw [List.getElem?_set_self (by omega)] at hv
         cases hv
         exact hv'
       · rw [List.getElem?_set_ne (by omega)] at hv
         exact h3 q v (by omega) hv
     · rw [List.getElem?_set_ne (by omega)] at hv
       exact h4 q v (by omega) hv
   · right
     unfold s_starfree_evaluate_39L_step
     simp only [bif_decide]
     rw [if_neg (by omega)]
     exact ⟨_, rfl, _, _, ts, ⟨h2, fun q v hv => h3 q v (by have := (List.getElem?_eq_some_iff.1 hv).1; omega) hv⟩, rfl⟩)
 have hz : ∀ (q : Nat) (v : V), (List.replicate (w.length + 1) (V.agg [.int .u64 0, .int .u64 0]))[q]? = some v → IsCut v fun _ => false := by
  intro q v hv
  rw [List.getElem?_replicate] at hv
  split at hv
  · cases hv; exact isCut_zero
  · cases hv
 obtain ⟨r, hr, j, b, t, ht, rfl⟩ := key ((0 : Int), List.replicate (w.length + 1) (.agg [.int .u64 0, .int .u64 0])) ⟨0, _, by omega, by simp, fun q v hq => by omega, fun q v _ hv => hz q v hv, rfl⟩
 refine ⟨t, ht, f_starfree_evaluate_of ?_⟩
 unfold f_starfree_evaluate s_starfree_evaluate_39L
 have e : IntKind.wrap .i64 ((w.length : Int) + 1) = ((w.length + 1 : Nat) : Int) := by rw [wrap64 (by omega) (by omega)]; rfl
 simp only [e, bif_and, bif_decide, bif_ble, Int.toNat_natCast, List.length_replicate, hr]
 rw [if_pos (by omega), if_pos (by omega), if_pos (by unfold maxBytes; omega)]
 rfl
end Go.AM

set_option maxRecDepth 100000
namespace Go.AM
open Go.Proofs
/-! semigroup/starfree.reached -/
noncomputable def d21_1 (C : CallF) (g_Nodes : List V) (g_Root : Int) {β : Type} (k0 : Option β) : Option β :=
 bif (decide (0 ≤ (g_Nodes.length : Int))) && ((decide ((g_Nodes.length : Int) ≤ (g_Nodes.length : Int))) && (Nat.ble ((((g_Nodes.length : Int) : Int).toNat) * 1) maxBytes)) then
  bif (decide (0 ≤ g_Root)) && (decide (g_Root < ((List.replicate (((g_Nodes.length : Int) : Int).toNat) (V.bool false)).length : Int))) then
   ((List.replicate (((g_Nodes.length : Int) : Int).toNat) (V.bool false))[(g_Root : Int).toNat]?).bind fun x2 =>
    k0
  else none
 else none
noncomputable abbrev z21_0 (c0 : Int) (c1 : List V) (c2 : Int) (c3 : List V) : St :=
 mk [(1, .ptr 0 0 0), (3, .whole T_bool 1), (4, .int .i64 c0)] [.var [.list T_api_SfNode c1, .int .i64 c2], .arr T_bool c3 false]
noncomputable abbrev q21_0 : List Code := codesAt Try.prog 21 [[0], [1, 0], [1, 1, 0], [1, 1, 1, 0, 0]]
noncomputable abbrev z21_1 (c0 : List V) (c1 : Int) : St :=
 mk [(0, .agg [.list T_api_SfNode c0, .int .i64 c1])] []
theorem h21_1_eq (C : CallF) (g_Nodes : List V) (g_Root : Int) {β : Type} (K : Out → St → Option β) :
 execL Try.prog ann C 21 47 0 (q21_0) (z21_1 g_Nodes g_Root) K =
  d21_1 C g_Nodes g_Root
   (K .norm (z21_0 g_Root g_Nodes g_Root ((List.replicate (((g_Nodes.length : Int) : Int).toNat) (V.bool false)).set ((g_Root : Int).toNat) (.bool true)))) := by kernel_rfl
noncomputable def s_starfree_reached_2 (C : CallF) (i : Int) (gs_0 markss : List V) {β : Type} (k0 : (List V) → Option β) (k1 : Option β) : Option β :=
 bif decide ((i : Int) ≥ 0) then
  bif (decide (0 ≤ i)) && (decide (i < (markss.length : Int))) then
   (markss[(i : Int).toNat]?).bind fun x3 =>
    bif !x3.toBool then
     k0 markss
    else
     (idx gs_0 i).bind fun x4 =>
      (C F_starfree_parts [.int .i64 ((x4.cell 0).toInt)] []).bind fun r5 =>
       bif decide ((r5.1.toInt : Int) ≥ 1) then
        bif (decide (0 ≤ ((x4.cell 2).toInt))) && (decide (((x4.cell 2).toInt) < (markss.length : Int))) then
         (markss[((x4.cell 2).toInt : Int).toNat]?).bind fun x6 =>
          (C F_starfree_parts [.int .i64 ((x4.cell 0).toInt)] []).bind fun r7 =>
           bif (r7.1.toInt : Int) == 2 then
            bif (decide (0 ≤ ((x4.cell 3).toInt))) && (decide (((x4.cell 3).toInt) < ((markss.set (((x4.cell 2).toInt : Int).toNat) (.bool true)).length : Int))) then
             ((markss.set (((x4.cell 2).toInt : Int).toNat) (.bool true))[((x4.cell 3).toInt : Int).toNat]?).bind fun x8 =>
              k0 ((markss.set (((x4.cell 2).toInt : Int).toNat) (.bool true)).set (((x4.cell 3).toInt : Int).toNat) (.bool true))
            else none
           else
            k0 (markss.set (((x4.cell 2).toInt : Int).toNat) (.bool true))
        else none
       else
        (C F_starfree_parts [.int .i64 ((x4.cell 0).toInt)] []).bind fun r9 =>
         bif (r9.1.toInt : Int) == 2 then
          bif (decide (0 ≤ ((x4.cell 3).toInt))) && (decide (((x4.cell 3).toInt) < (markss.length : Int))) then
           (markss[((x4.cell 3).toInt : Int).toNat]?).bind fun x10 =>
            k0 (markss.set (((x4.cell 3).toInt : Int).toNat) (.bool true))
          else none
         else
          k0 markss
  else none
 else
  k1
noncomputable abbrev z21_2 (c0 : Int) (c1 : Bool) (c2 : List V) (c3 : Int) (c4 : List V) : St :=
 mk [(1, .ptr 0 0 0), (3, .whole T_bool 1), (4, .int .i64 c0), (17, .bool c1)] [.var [.list T_api_SfNode c2, .int .i64 c3], .arr T_bool c4 false]
noncomputable abbrev q21_1 : List Code := codesAt Try.prog 21 [[1, 1, 1, 0, 1, 0, 0, 0, 0], [1, 1, 1, 0, 1, 0, 0, 0, 1], [1, 1, 1, 0, 1, 0, 0, 1, 0]]
theorem s_starfree_reached_2_eq (C : CallF) (i : Int) (gs_0 : List V) (gs_1 : Int) (markss : List V) {β : Type} (K : Out → St → Option β) :
 execL Try.prog ann C 21 47 0 (q21_1) (z21_0 i gs_0 gs_1 markss) K =
  s_starfree_reached_2 C i gs_0 markss
   (fun (markss0 : List V) => K .norm (z21_0 i gs_0 gs_1 markss0))
   (K (.exit 0) (z21_2 i (decide ((i : Int) ≥ 0)) gs_0 gs_1 markss)) := by kernel_rfl
noncomputable def d21_3 (C : CallF)  {β : Type} (k0 : Option β) : Option β :=
 k0
noncomputable abbrev q21_2 : List Code := codesAt Try.prog 21 [[1, 1, 1, 0, 1, 0, 0, 1, 1]]
theorem h21_3_eq (C : CallF) (i : Int) (gs_0 : List V) (gs_1 : Int) (markss : List V) {β : Type} (K : Out → St → Option β) :
 execL Try.prog ann C 21 47 0 (q21_2) (z21_0 i gs_0 gs_1 markss) K =
  d21_3 C
   (K .norm (z21_0 (IntKind.wrap .i64 (i - 1)) gs_0 gs_1 markss)) := by kernel_rfl
noncomputable def d21_4 (C : CallF) (i : Int) (gs_0 markss : List V) {β : Type} (k0 : (List V) → Option β) (k1 : Option β) : Option β :=
 s_starfree_reached_2 C i gs_0 markss
  (fun (markss_19 : List V) =>
   d21_3 C
    (
     k0 markss_19))
  (
   k1)
noncomputable abbrev q21_3 : List Code := codesAt Try.prog 21 [[1, 1, 1, 0, 1, 0, 0, 0, 0], [1, 1, 1, 0, 1, 0, 0, 0, 1], [1, 1, 1, 0, 1, 0, 0, 1, 0], [1, 1, 1, 0, 1, 0, 0, 1, 1]]
theorem h21_4_eq (C : CallF) (i : Int) (gs_0 : List V) (gs_1 : Int) (markss : List V) {β : Type} (K : Out → St → Option β) :
 execL Try.prog ann C 21 47 0 (q21_3) (z21_0 i gs_0 gs_1 markss) K =
  d21_4 C i gs_0 markss
   (fun (markss0 : List V) => K .norm (z21_0 (IntKind.wrap .i64 (i - 1)) gs_0 gs_1 markss0))
   (K (.exit 0) (z21_2 i (decide ((i : Int) ≥ 0)) gs_0 gs_1 markss)) := by
 refine Eq.trans (execL_app (P := Try.prog) (A := ann) (C := C) (f := 21) (n := 47) (m := 0) (q21_1) (q21_2) (st := z21_0 i gs_0 gs_1 markss) (K := K)) (Eq.trans (s_starfree_reached_2_eq C i gs_0 gs_1 markss (seqK Try.prog ann C 21 47 0 (q21_2) K)) ?_)
 · exact Eq.trans (by kernel_rfl) (Eq.trans (congrArg (fun HOLE : (List V) → Option β => s_starfree_reached_2 C i gs_0 markss HOLE (K (.exit 0) (z21_2 i (decide ((i : Int) ≥ 0)) gs_0 gs_1 markss))) (funext fun (markss0 : List V) => h21_3_eq C i gs_0 gs_1 markss0 K)) ((by kernel_rfl)))
noncomputable def s_starfree_reached_5L_step (C : CallF) (gs_0 : List V) : (Int × (List V)) → Option ((Int × (List V)) ⊕ ((Int × Bool × (List V)))) := fun (i, markss) =>
 s_starfree_reached_2 C i gs_0 markss
  (fun (markss_20 : List V) =>
   some (.inl (IntKind.wrap .i64 (i - 1), markss_20)))
  (
   some (.inr (i, decide ((i : Int) ≥ 0), markss)))
noncomputable def s_starfree_reached_5L (C : CallF) (i : Int) (gs_0 markss : List V) {β : Type} (k0 : Int → Bool → (List V) → Option β) : Option β :=
 (Loop (s_starfree_reached_5L_step C gs_0) (i, markss)).bind fun (i0, t170, markss0) => k0 i0 t170 markss0
noncomputable def s_starfree_reached_5L_dec : Out → St → Option ((Int × (List V)) ⊕ ((Int × Bool × (List V)))) := fun o st => match o with
 | .norm => some (.inl (V.toInt (st.sl 4), arrOf (st.hp 1)))
 | .exit q => bif Nat.beq q 0 then some (.inr (V.toInt (st.sl 4), V.toBool (st.sl 17), arrOf (st.hp 1))) else none
 | .ret => none
noncomputable def s_starfree_reached_5L_hd (gs_0 : List V) (gs_1 : Int) : (Int × (List V)) → St := fun (i, markss) => z21_0 i gs_0 gs_1 markss
noncomputable def s_starfree_reached_5L_enc (gs_0 : List V) (gs_1 : Int) : ((Int × Bool × (List V))) → Out × St := fun (i0, t170, markss0) => (.exit 0, z21_2 i0 t170 gs_0 gs_1 markss0)
theorem s_starfree_reached_5L_eq (C : CallF) (i : Int) (gs_0 : List V) (gs_1 : Int) (markss : List V) {β : Type} (K : Out → St → Option β) :
 execL Try.prog ann C 21 47 0 (codesAt Try.prog 21 [[1, 1, 1, 0, 1, 0]]) (z21_0 i gs_0 gs_1 markss) K =
  s_starfree_reached_5L C i gs_0 markss
   (fun (i0 : Int) (t170 : Bool) (markss0 : List V) => K (.exit 0) (z21_2 i0 t170 gs_0 gs_1 markss0)) := by
 have hitems : flatC (codeAt [1, 1, 1, 0, 1, 0, 0] (bodyOf Try.prog 21)) = q21_3 := by kernel_rfl
 have hloop : [codeAt [1, 1, 1, 0, 1, 0] (bodyOf Try.prog 21)] = [Code.loop (codeAt [1, 1, 1, 0, 1, 0, 0] (bodyOf Try.prog 21))] := by kernel_rfl
 have h := loopK_eq (P := Try.prog) (A := ann) (C := C) (f := 21) (n := 47) (m := 0) (c := codeAt [1, 1, 1, 0, 1, 0, 0] (bodyOf Try.prog 21)) (s_starfree_reached_5L_hd gs_0 gs_1) (s_starfree_reached_5L_enc gs_0 gs_1) s_starfree_reached_5L_dec (s_starfree_reached_5L_step C gs_0)
  (by rintro ⟨i, markss⟩; exact Eq.trans (execK_items hitems) (Eq.trans (h21_4_eq C i gs_0 gs_1 markss s_starfree_reached_5L_dec) (by kernel_rfl)))
  (by rintro ⟨i, markss⟩; exact Eq.trans (execK_items hitems) (Eq.trans (h21_4_eq C i gs_0 gs_1 markss (fun o st => some (o, st))) (Eq.trans (by kernel_rfl) (Eq.trans (h21_4_eq C i gs_0 gs_1 markss (fun o st => (s_starfree_reached_5L_dec o st).map (outS (s_starfree_reached_5L_hd gs_0 gs_1) (s_starfree_reached_5L_enc gs_0 gs_1)))).symm (execK_items hitems).symm))))
  (by intro r; intro h; cases h) (i, markss) K
 refine Eq.trans (congrArg (fun l => execL Try.prog ann C 21 47 0 l (z21_0 i gs_0 gs_1 markss) K) hloop) (Eq.trans h ?_)
 · refine congrArg _ (funext fun r => ?_)
   rfl
noncomputable def d21_6 (C : CallF) (i : Int) (gs_0 markss : List V) {β : Type} (k0 : (List V) → Option β) : Option β :=
 s_starfree_reached_5L C i gs_0 markss
  (fun (i_21 : Int) (t_22 : Bool) (markss_23 : List V) =>
   k0 markss_23)
noncomputable abbrev z21_3 (c0 : List V) : St :=
 mk [(3, .whole T_bool 0)] [.arr T_bool c0 false]
theorem h21_6_eq (C : CallF) (i : Int) (gs_0 : List V) (gs_1 : Int) (markss : List V) {β : Type} (K : Out → St → Option β) :
 execL Try.prog ann C 21 47 0 (codesAt Try.prog 21 [[1, 1, 1, 0, 1]]) (z21_0 i gs_0 gs_1 markss) K =
  d21_6 C i gs_0 markss
   (fun (markss0 : List V) => K .norm (z21_3 markss0)) := Eq.trans (execL_block (P := Try.prog) (A := ann) (C := C) (f := 21) (n := 47) (m := 0) (id := 0) (c := codeAt [1, 1, 1, 0, 1] (bodyOf Try.prog 21)) (d := codeAt [1, 1, 1, 0, 1, 0] (bodyOf Try.prog 21)) (l := codesAt Try.prog 21 [[1, 1, 1, 0, 1, 0]]) (st := z21_0 i gs_0 gs_1 markss) (K := K) (by kernel_rfl) (by kernel_rfl)) (Eq.trans (s_starfree_reached_5L_eq C i gs_0 gs_1 markss (blockK ann 21 0 0 K)) (by kernel_rfl))
noncomputable def d21_7 (C : CallF)  {β : Type} (k0 : Option β) : Option β :=
 k0
noncomputable abbrev z21_4 (c0 : List V) : St :=
 mk [(2, .whole T_bool 0)] [.arr T_bool c0 false]
noncomputable abbrev q21_4 : List Code := codesAt Try.prog 21 [[1, 1, 1, 1, 0], [1, 1, 1, 1, 1]]
theorem h21_7_eq (C : CallF) (markss : List V) {β : Type} (K : Out → St → Option β) :
 execL Try.prog ann C 21 47 0 (q21_4) (z21_3 markss) K =
  d21_7 C
   (K .ret (z21_4 markss)) := by kernel_rfl
noncomputable def d21_8 (C : CallF) (i : Int) (gs_0 markss : List V) {β : Type} (k0 : (List V) → Option β) : Option β :=
 d21_6 C i gs_0 markss
  (fun (markss_27 : List V) =>
   d21_7 C
    (
     k0 markss_27))
noncomputable abbrev q21_5 : List Code := codesAt Try.prog 21 [[1, 1, 1, 0, 1], [1, 1, 1, 1, 0], [1, 1, 1, 1, 1]]
theorem h21_8_eq (C : CallF) (i : Int) (gs_0 : List V) (gs_1 : Int) (markss : List V) {β : Type} (K : Out → St → Option β) :
 execL Try.prog ann C 21 47 0 (q21_5) (z21_0 i gs_0 gs_1 markss) K =
  d21_8 C i gs_0 markss
   (fun (t2s0 : List V) => K .ret (z21_4 t2s0)) := by
 refine Eq.trans (execL_app (P := Try.prog) (A := ann) (C := C) (f := 21) (n := 47) (m := 0) (codesAt Try.prog 21 [[1, 1, 1, 0, 1]]) (q21_4) (st := z21_0 i gs_0 gs_1 markss) (K := K)) (Eq.trans (h21_6_eq C i gs_0 gs_1 markss (seqK Try.prog ann C 21 47 0 (q21_4) K)) ?_)
 · exact Eq.trans (by kernel_rfl) (Eq.trans (congrArg (fun HOLE : (List V) → Option β => d21_6 C i gs_0 markss HOLE) (funext fun (markss0 : List V) => h21_7_eq C markss0 K)) ((by kernel_rfl)))
noncomputable def d21_9 (C : CallF) (g_Nodes : List V) (g_Root : Int) {β : Type} (k0 : (List V) → Option β) : Option β :=
 d21_1 C g_Nodes g_Root
  (
   d21_8 C g_Root g_Nodes ((List.replicate (((g_Nodes.length : Int) : Int).toNat) (V.bool false)).set ((g_Root : Int).toNat) (.bool true))
    (fun (t2s_28 : List V) =>
     k0 t2s_28))
noncomputable abbrev q21_6 : List Code := codesAt Try.prog 21 [[0], [1, 0], [1, 1, 0], [1, 1, 1, 0, 0], [1, 1, 1, 0, 1], [1, 1, 1, 1, 0], [1, 1, 1, 1, 1]]
theorem h21_9_eq (C : CallF) (g_Nodes : List V) (g_Root : Int) {β : Type} (K : Out → St → Option β) :
 execL Try.prog ann C 21 47 0 (q21_6) (z21_1 g_Nodes g_Root) K =
  d21_9 C g_Nodes g_Root
   (fun (t2s0 : List V) => K .ret (z21_4 t2s0)) := by
 refine Eq.trans (execL_app (P := Try.prog) (A := ann) (C := C) (f := 21) (n := 47) (m := 0) (q21_0) (q21_5) (st := z21_1 g_Nodes g_Root) (K := K)) (Eq.trans (h21_1_eq C g_Nodes g_Root (seqK Try.prog ann C 21 47 0 (q21_5) K)) ?_)
 · exact Eq.trans (by kernel_rfl) (Eq.trans (congrArg (fun HOLE : Option β => d21_1 C g_Nodes g_Root HOLE) (h21_8_eq C g_Root g_Nodes g_Root ((List.replicate (((g_Nodes.length : Int) : Int).toNat) (V.bool false)).set ((g_Root : Int).toNat) (.bool true)) K)) ((by kernel_rfl)))
noncomputable def f_starfree_reached (C : CallF) (g_Nodes : List V) (g_Root : Int) : Option (V × List V) :=
 bif (decide (0 ≤ (g_Nodes.length : Int))) && ((decide ((g_Nodes.length : Int) ≤ (g_Nodes.length : Int))) && (Nat.ble ((((g_Nodes.length : Int) : Int).toNat) * 1) maxBytes)) then
  bif (decide (0 ≤ g_Root)) && (decide (g_Root < ((List.replicate (((g_Nodes.length : Int) : Int).toNat) (V.bool false)).length : Int))) then
   ((List.replicate (((g_Nodes.length : Int) : Int).toNat) (V.bool false))[(g_Root : Int).toNat]?).bind fun x2 =>
    s_starfree_reached_5L C g_Root g_Nodes ((List.replicate (((g_Nodes.length : Int) : Int).toNat) (V.bool false)).set ((g_Root : Int).toNat) (.bool true))
     (fun (i_24 : Int) (t_25 : Bool) (markss_26 : List V) =>
      some (.own T_bool markss_26, []))
  else none
 else none
theorem f_starfree_reached_eq (C : CallF) (g_Nodes : List V) (g_Root : Int) : bodyK Try.prog ann C 21 [.agg [.list T_api_SfNode g_Nodes, .int .i64 g_Root]] [] = f_starfree_reached C g_Nodes g_Root :=
 Eq.trans (bodyK_fin (by kernel_rfl)) (Eq.trans (execK_items (by kernel_rfl)) (Eq.trans (h21_9_eq C g_Nodes g_Root (finK Try.prog ann C 21 [])) (by kernel_rfl)))
theorem f_starfree_reached_of {g_Nodes : List V} {g_Root : Int} {r : V × List V} (h : f_starfree_reached CC g_Nodes g_Root = some r) : CC F_starfree_reached [.agg [.list T_api_SfNode g_Nodes, .int .i64 g_Root]] [] = some r :=
 Call_of_body ((bodyK_eq ..).trans ((f_starfree_reached_eq ..).trans h))
end Go.AM
