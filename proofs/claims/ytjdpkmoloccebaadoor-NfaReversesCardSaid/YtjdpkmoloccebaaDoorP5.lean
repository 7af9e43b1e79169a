/-
  Functions of the program, lifted to plain data.
-/
import Derived.Test.YtjdpkmoloccebaaDoorP4
set_option linter.unusedVariables false
set_option linter.unusedSimpArgs false
set_option maxRecDepth 100000
namespace Go.AM
open Go.Proofs
noncomputable abbrev B_slices_choosePivotCmpFunc_api_Edge_ : Code := bodyOf Tryd.prog (ann.fid 77)
noncomputable def s_slices_choosePivotCmpFunc_api_Edge__1 (C : CallF) (data : List V) (i j k' : Int) (t36 : Bool) (swapss : Int) {β : Type} (kr : (Int × Int × Int × Int) → Option β) : Option β :=
  bif t36 then
   (C F_slices_medianAdjacentCmpFunc_api_Edge_ [.list T_api_Edge data, .int .i64 i, .int .i64 swapss]).bind fun r1 =>
   (C F_slices_medianAdjacentCmpFunc_api_Edge_ [.list T_api_Edge data, .int .i64 j, .int .i64 ((V.nth (r1.drop 1) 0).toInt)]).bind fun r2 =>
   (C F_slices_medianAdjacentCmpFunc_api_Edge_ [.list T_api_Edge data, .int .i64 k', .int .i64 ((V.nth (r2.drop 1) 0).toInt)]).bind fun r3 =>
   kr ((V.nth r1 0).toInt, (V.nth r2 0).toInt, (V.nth r3 0).toInt, (V.nth (r3.drop 1) 0).toInt)
  else
   kr (i, j, k', swapss)
noncomputable def s_slices_choosePivotCmpFunc_api_Edge__2 (C : CallF) (data : List V) (l i j k' : Int) (t34 : Bool) (swapss : Int) {β : Type} (kr : (Int × Int) → Option β) : Option β :=
  bif t34 then
   s_slices_choosePivotCmpFunc_api_Edge__1 C data i j k' (decide ((l : Int) ≥ 50)) swapss (un fun (i_4 : Int) => un fun (j_5 : Int) => un fun (k_6 : Int) (swapss_7 : Int) =>
     (C F_slices_medianCmpFunc_api_Edge_ [.list T_api_Edge data, .int .i64 i_4, .int .i64 j_5, .int .i64 k_6, .int .i64 swapss_7]).bind fun r8 =>
     kr ((V.nth r8 0).toInt, (V.nth (r8.drop 1) 0).toInt))
  else
   kr (j, swapss)
noncomputable def LT_slices_choosePivotCmpFunc_api_Edge_ (C : CallF) : LTab := fun β n ds k =>
  bif Nat.beq n 591 then condS S77_591 [[1, 0, 0, 0, 0]] (@s_slices_choosePivotCmpFunc_api_Edge__1 C) ds k else
  bif Nat.beq n 559 then condS S77_559 [[0, 0]] (@s_slices_choosePivotCmpFunc_api_Edge__2 C) ds k else
  none
abbrev TS_slices_choosePivotCmpFunc_api_Edge_ (C : CallF) (b : Bar) : Prop := Tells Tryd.prog ann C (LT_slices_choosePivotCmpFunc_api_Edge_ C) 77 (ntmpsOf Tryd.prog (ann.fid 77)) (ann.sin 77).blks.length b
theorem t_slices_choosePivotCmpFunc_api_Edge__1 (C : CallF) : TS_slices_choosePivotCmpFunc_api_Edge_ C (.cond 36 (codeAt [1, 1, 1, 1, 1, 1, 0, 1, 0, 0, 1, 0] B_slices_choosePivotCmpFunc_api_Edge_) (codeAt [1, 1, 1, 1, 1, 1, 0, 1, 0, 0, 1, 1] B_slices_choosePivotCmpFunc_api_Edge_)) :=
  tc3 S77_591 [[1, 0, 0, 0, 0]] (@s_slices_choosePivotCmpFunc_api_Edge__1 C) (by kernel_rfl) (ltok_of (bs := []) (by kernel_rfl) tells_nil) (ltok_of (bs := []) (by kernel_rfl) tells_nil) (fun ds => by kernel_rfl) (fun i β k => by kernel_rfl) (fun β ds k => by kernel_rfl)
theorem t_slices_choosePivotCmpFunc_api_Edge__2 (C : CallF) : TS_slices_choosePivotCmpFunc_api_Edge_ C (.cond 34 (codeAt [1, 1, 1, 1, 1, 1, 0, 1, 0] B_slices_choosePivotCmpFunc_api_Edge_) (codeAt [1, 1, 1, 1, 1, 1, 0, 1, 1] B_slices_choosePivotCmpFunc_api_Edge_)) :=
  tc3 S77_559 [[0, 0]] (@s_slices_choosePivotCmpFunc_api_Edge__2 C) (by kernel_rfl) (ltok_of (bs := [.cond 36 (codeAt [1, 1, 1, 1, 1, 1, 0, 1, 0, 0, 1, 0] B_slices_choosePivotCmpFunc_api_Edge_) (codeAt [1, 1, 1, 1, 1, 1, 0, 1, 0, 0, 1, 1] B_slices_choosePivotCmpFunc_api_Edge_)]) (by kernel_rfl) (tells_cons (t_slices_choosePivotCmpFunc_api_Edge__1 C) tells_nil)) (ltok_of (bs := []) (by kernel_rfl) tells_nil) (fun ds => by kernel_rfl) (fun i β k => by kernel_rfl) (fun β ds k => by kernel_rfl)
noncomputable def f_slices_choosePivotCmpFunc_api_Edge_ (C : CallF) (data : List V) (a b' : Int) : Option (List V) :=
  s_slices_choosePivotCmpFunc_api_Edge__2 C data (IntKind.wrap .i64 (b' - a)) (IntKind.wrap .i64 (a + (IntKind.wrap .i64 (1 * (IntKind.wrap .i64 (Int.tdiv (IntKind.wrap .i64 (b' - a)) 4)))))) (IntKind.wrap .i64 (a + (IntKind.wrap .i64 (2 * (IntKind.wrap .i64 (Int.tdiv (IntKind.wrap .i64 (b' - a)) 4)))))) (IntKind.wrap .i64 (a + (IntKind.wrap .i64 (3 * (IntKind.wrap .i64 (Int.tdiv (IntKind.wrap .i64 (b' - a)) 4)))))) (decide (((IntKind.wrap .i64 (b' - a)) : Int) ≥ 8)) 0 (un fun (j_9 : Int) (swapss_10 : Int) =>
    bif (swapss_10 : Int) == 0 then
     some [.int .i64 j_9, .int .i64 1]
    else
     bif (swapss_10 : Int) == 12 then
      some [.int .i64 j_9, .int .i64 2]
     else
      some [.int .i64 j_9, .int .i64 0])
theorem f_slices_choosePivotCmpFunc_api_Edge__of {data : List V} {a b' : Int} {r : Option (List V)} (h : f_slices_choosePivotCmpFunc_api_Edge_ CC data a b' = r) : CC F_slices_choosePivotCmpFunc_api_Edge_ [.list T_api_Edge data, .int .i64 a, .int .i64 b'] = r :=
  func_of (key := 77) (L := LT_slices_choosePivotCmpFunc_api_Edge_ CC) (bs := [.cond 34 (codeAt [1, 1, 1, 1, 1, 1, 0, 1, 0] B_slices_choosePivotCmpFunc_api_Edge_) (codeAt [1, 1, 1, 1, 1, 1, 0, 1, 1] B_slices_choosePivotCmpFunc_api_Edge_)]) (by kernel_rfl) (tells_cons (t_slices_choosePivotCmpFunc_api_Edge__2 CC) tells_nil) (Eq.trans (by kernel_rfl) h)
end Go.AM
set_option maxRecDepth 100000
namespace Go.AM
open Go.Proofs
noncomputable def f_slices_medianCmpFunc_api_Edge_ (C : CallF) (data : List V) (a b' c swapss : Int) : Option (List V) :=
  (C F_slices_order2CmpFunc_api_Edge_ [.list T_api_Edge data, .int .i64 a, .int .i64 b', .int .i64 swapss]).bind fun r1 =>
  (C F_slices_order2CmpFunc_api_Edge_ [.list T_api_Edge data, .int .i64 ((V.nth (r1.drop 1) 0).toInt), .int .i64 c, .int .i64 ((V.nth (r1.drop 2) 0).toInt)]).bind fun r2 =>
  (C F_slices_order2CmpFunc_api_Edge_ [.list T_api_Edge data, .int .i64 ((V.nth r1 0).toInt), .int .i64 ((V.nth r2 0).toInt), .int .i64 ((V.nth (r2.drop 2) 0).toInt)]).bind fun r3 =>
  some [.int .i64 ((V.nth (r3.drop 1) 0).toInt), .int .i64 ((V.nth (r3.drop 2) 0).toInt)]
theorem f_slices_medianCmpFunc_api_Edge__of {data : List V} {a b' c swapss : Int} {r : Option (List V)} (h : f_slices_medianCmpFunc_api_Edge_ CC data a b' c swapss = r) : CC F_slices_medianCmpFunc_api_Edge_ [.list T_api_Edge data, .int .i64 a, .int .i64 b', .int .i64 c, .int .i64 swapss] = r :=
  func_of (key := 92) (L := LT0) (bs := []) (by kernel_rfl) tells_nil (Eq.trans (by kernel_rfl) h)
end Go.AM
set_option maxRecDepth 100000
namespace Go.AM
open Go.Proofs
noncomputable def f_slices_order2CmpFunc_api_Edge_ (C : CallF) (data : List V) (a b' swapss : Int) : Option (List V) :=
  (idx data b').bind fun x1 =>
  (idx data a).bind fun x2 =>
  (C F_nfa_compareEdges [.int .i64 ((x1.cell 0).toInt), .int .i64 ((x1.cell 1).toInt), .int .i64 ((x1.cell 2).toInt), .int .i64 ((x2.cell 0).toInt), .int .i64 ((x2.cell 1).toInt), .int .i64 ((x2.cell 2).toInt)]).bind fun r3 =>
  bif decide ((((V.nth r3 0).toInt) : Int) < 0) then
   some [.int .i64 b', .int .i64 a, .int .i64 (IntKind.wrap .i64 (swapss + 1))]
  else
   some [.int .i64 a, .int .i64 b', .int .i64 swapss]
theorem f_slices_order2CmpFunc_api_Edge__of {data : List V} {a b' swapss : Int} {r : Option (List V)} (h : f_slices_order2CmpFunc_api_Edge_ CC data a b' swapss = r) : CC F_slices_order2CmpFunc_api_Edge_ [.list T_api_Edge data, .int .i64 a, .int .i64 b', .int .i64 swapss] = r :=
  func_of (key := 94) (L := LT0) (bs := []) (by kernel_rfl) tells_nil (Eq.trans (by kernel_rfl) h)
end Go.AM
set_option maxRecDepth 100000
namespace Go.AM
open Go.Proofs
noncomputable def f_slices_medianAdjacentCmpFunc_api_Edge_ (C : CallF) (data : List V) (a swapss : Int) : Option (List V) :=
  (C F_slices_medianCmpFunc_api_Edge_ [.list T_api_Edge data, .int .i64 (IntKind.wrap .i64 (a - 1)), .int .i64 a, .int .i64 (IntKind.wrap .i64 (a + 1)), .int .i64 swapss]).bind fun r1 =>
  some [.int .i64 ((V.nth r1 0).toInt), .int .i64 ((V.nth (r1.drop 1) 0).toInt)]
theorem f_slices_medianAdjacentCmpFunc_api_Edge__of {data : List V} {a swapss : Int} {r : Option (List V)} (h : f_slices_medianAdjacentCmpFunc_api_Edge_ CC data a swapss = r) : CC F_slices_medianAdjacentCmpFunc_api_Edge_ [.list T_api_Edge data, .int .i64 a, .int .i64 swapss] = r :=
  func_of (key := 91) (L := LT0) (bs := []) (by kernel_rfl) tells_nil (Eq.trans (by kernel_rfl) h)
end Go.AM
set_option maxRecDepth 100000
namespace Go.AM
open Go.Proofs
noncomputable abbrev B_slices_breakPatternsCmpFunc_api_Edge_ : Code := bodyOf Tryd.prog (ann.fid 76)
noncomputable def s_slices_breakPatternsCmpFunc_api_Edge__1 (C : CallF) (a length modulus idx' other : Int) (t45 : Bool) (datas : List V) (randoms : Int) {β : Type} (kr : (Int) → Option β) : Option β :=
  bif t45 then
   kr (IntKind.wrap .i64 (other - length))
  else
   kr other
noncomputable def s_slices_breakPatternsCmpFunc_api_Edge__2 (C : CallF) (a length modulus idx' : Int) (datas : List V) (randoms : Int) {β : Type} (kn : (Int × (List V) × Int) → Option β) (kr : (Int × Bool × (List V) × Int) → Option β) : Option β :=
  bif decide ((idx' : Int) ≤ (IntKind.wrap .i64 ((IntKind.wrap .i64 (a + (IntKind.wrap .i64 (2 * (IntKind.wrap .i64 (Int.tdiv length 4)))))) + 1))) then
   (C F_slices_xorshift_Next [.int .u64 randoms]).bind fun r2 =>
   s_slices_breakPatternsCmpFunc_api_Edge__1 C a length modulus idx' (IntKind.wrap .i64 (IntKind.wrap .u64 ((BitVec.ofInt (IntKind.bits .u64) ((V.nth r2 0).toInt) &&& BitVec.ofInt (IntKind.bits .u64) (IntKind.wrap .u64 (modulus - 1))).toNat))) (decide (((IntKind.wrap .i64 (IntKind.wrap .u64 ((BitVec.ofInt (IntKind.bits .u64) ((V.nth r2 0).toInt) &&& BitVec.ofInt (IntKind.bits .u64) (IntKind.wrap .u64 (modulus - 1))).toNat))) : Int) ≥ length)) datas ((V.nth (r2.drop 1) 0).toInt) (fun (other_3 : Int) =>
     bif (decide (0 ≤ (IntKind.wrap .i64 (a + other_3)))) && (decide ((IntKind.wrap .i64 (a + other_3)) < (datas.length : Int))) then
      (datas[(IntKind.wrap .i64 (a + other_3) : Int).toNat]?).bind fun x4 =>
      bif (decide (0 ≤ idx')) && (decide (idx' < (datas.length : Int))) then
       (datas[(idx' : Int).toNat]?).bind fun x5 =>
       bif (decide (0 ≤ idx')) && (decide (idx' < (datas.length : Int))) then
        (datas[(idx' : Int).toNat]?).bind fun x6 =>
        bif (decide (0 ≤ (IntKind.wrap .i64 (a + other_3)))) && (decide ((IntKind.wrap .i64 (a + other_3)) < ((datas.set ((idx' : Int).toNat) (.agg [.int .i64 ((x4.cell 0).toInt), .int .i64 ((x4.cell 1).toInt), .int .i64 ((x4.cell 2).toInt)])).length : Int))) then
         ((datas.set ((idx' : Int).toNat) (.agg [.int .i64 ((x4.cell 0).toInt), .int .i64 ((x4.cell 1).toInt), .int .i64 ((x4.cell 2).toInt)]))[(IntKind.wrap .i64 (a + other_3) : Int).toNat]?).bind fun x7 =>
         kn (IntKind.wrap .i64 (idx' + 1), (datas.set ((idx' : Int).toNat) (.agg [.int .i64 ((x4.cell 0).toInt), .int .i64 ((x4.cell 1).toInt), .int .i64 ((x4.cell 2).toInt)])).set ((IntKind.wrap .i64 (a + other_3) : Int).toNat) (.agg [.int .i64 ((x5.cell 0).toInt), .int .i64 ((x5.cell 1).toInt), .int .i64 ((x5.cell 2).toInt)]), (V.nth (r2.drop 1) 0).toInt)
        else none
       else none
      else none
     else none)
  else
   kr (idx', decide ((idx' : Int) ≤ (IntKind.wrap .i64 ((IntKind.wrap .i64 (a + (IntKind.wrap .i64 (2 * (IntKind.wrap .i64 (Int.tdiv length 4)))))) + 1))), datas, randoms)
noncomputable def s_slices_breakPatternsCmpFunc_api_Edge__2L (C : CallF) (a length modulus : Int) : (Int × (List V) × Int) → Option ((Int × (List V) × Int) ⊕ (Int × Bool × (List V) × Int)) := un fun idx' => un fun datas randoms => s_slices_breakPatternsCmpFunc_api_Edge__2 C a length modulus idx' datas randoms (fun y => some (.inl y)) (fun r => some (.inr r))
noncomputable def LT_slices_breakPatternsCmpFunc_api_Edge_ (C : CallF) : LTab := fun β n ds k =>
  bif Nat.beq n 735 then condS S76_735 [[1, 2, 3, 4, 0, 7, 8]] (@s_slices_breakPatternsCmpFunc_api_Edge__1 C) ds k else
  bif Nat.beq n 81 then loopS S76_81 [false, false, false, true, true, true] [[1, 2, 3, 0, 0, 0, 0]] (@s_slices_breakPatternsCmpFunc_api_Edge__2 C) ds k else
  none
abbrev TS_slices_breakPatternsCmpFunc_api_Edge_ (C : CallF) (b : Bar) : Prop := Tells Tryd.prog ann C (LT_slices_breakPatternsCmpFunc_api_Edge_ C) 76 (ntmpsOf Tryd.prog (ann.fid 76)) (ann.sin 76).blks.length b
theorem t_slices_breakPatternsCmpFunc_api_Edge__1 (C : CallF) : TS_slices_breakPatternsCmpFunc_api_Edge_ C (.cond 45 (codeAt [1, 1, 0, 1, 1, 1, 0, 0, 1, 0, 0, 1, 0, 1, 0] B_slices_breakPatternsCmpFunc_api_Edge_) (codeAt [1, 1, 0, 1, 1, 1, 0, 0, 1, 0, 0, 1, 0, 1, 1] B_slices_breakPatternsCmpFunc_api_Edge_)) :=
  tc3 S76_735 [[1, 2, 3, 4, 0, 7, 8]] (@s_slices_breakPatternsCmpFunc_api_Edge__1 C) (by kernel_rfl) (ltok_of (bs := []) (by kernel_rfl) tells_nil) (ltok_of (bs := []) (by kernel_rfl) tells_nil) (fun ds => by kernel_rfl) (fun i β k => by kernel_rfl) (fun β ds k => by kernel_rfl)
theorem t_slices_breakPatternsCmpFunc_api_Edge__2 (C : CallF) : TS_slices_breakPatternsCmpFunc_api_Edge_ C (.loop (codeAt [1, 1, 0, 1, 1, 1, 0, 0] B_slices_breakPatternsCmpFunc_api_Edge_)) :=
  tl3 S76_81 [false, false, false, true, true, true] [[1, 2, 3, 0, 0, 0, 0]] (@s_slices_breakPatternsCmpFunc_api_Edge__2 C) (by kernel_rfl) (ltok_of (bs := [.cond 45 (codeAt [1, 1, 0, 1, 1, 1, 0, 0, 1, 0, 0, 1, 0, 1, 0] B_slices_breakPatternsCmpFunc_api_Edge_) (codeAt [1, 1, 0, 1, 1, 1, 0, 0, 1, 0, 0, 1, 0, 1, 1] B_slices_breakPatternsCmpFunc_api_Edge_)]) (by kernel_rfl) (tells_cons (t_slices_breakPatternsCmpFunc_api_Edge__1 C) tells_nil)) (fun ds => by kernel_rfl) (fun i x => by kernel_rfl) (fun i x β k => by kernel_rfl) (fun β ds k => by kernel_rfl)
noncomputable def f_slices_breakPatternsCmpFunc_api_Edge_ (C : CallF) (a b' : Int) (datas : List V) : Option (List V) :=
  bif decide (((IntKind.wrap .i64 (b' - a)) : Int) ≥ 8) then
   (C F_slices_nextPowerOfTwo [.int .i64 (IntKind.wrap .i64 (b' - a))]).bind fun r1 =>
   (Loop (s_slices_breakPatternsCmpFunc_api_Edge__2L C a (IntKind.wrap .i64 (b' - a)) ((V.nth r1 0).toInt)) (IntKind.wrap .i64 ((IntKind.wrap .i64 (a + (IntKind.wrap .i64 (2 * (IntKind.wrap .i64 (Int.tdiv (IntKind.wrap .i64 (b' - a)) 4)))))) - 1), datas, IntKind.wrap .u64 (IntKind.wrap .i64 (b' - a)))).bind (un fun (idx_8 : Int) => un fun (t_9 : Bool) => un fun (datas_10 : List V) (randoms_11 : Int) =>
     some [.list T_api_Edge datas_10])
  else
   some [.list T_api_Edge datas]
theorem f_slices_breakPatternsCmpFunc_api_Edge__of {a b' : Int} {datas : List V} {r : Option (List V)} (h : f_slices_breakPatternsCmpFunc_api_Edge_ CC a b' datas = r) : CC F_slices_breakPatternsCmpFunc_api_Edge_ [.int .i64 a, .int .i64 b', .list T_api_Edge datas] = r :=
  func_of (key := 76) (L := LT_slices_breakPatternsCmpFunc_api_Edge_ CC) (bs := [.loop (codeAt [1, 1, 0, 1, 1, 1, 0, 0] B_slices_breakPatternsCmpFunc_api_Edge_)]) (by kernel_rfl) (tells_cons (t_slices_breakPatternsCmpFunc_api_Edge__2 CC) tells_nil) (Eq.trans (by kernel_rfl) h)
end Go.AM
set_option maxRecDepth 100000
namespace Go.AM
open Go.Proofs
noncomputable def f_slices_xorshift_Next (C : CallF) (r's : Int) : Option (List V) :=
  some [.int .u64 (IntKind.wrap .u64 ((BitVec.ofInt (IntKind.bits .u64) (IntKind.wrap .u64 ((BitVec.ofInt (IntKind.bits .u64) (IntKind.wrap .u64 ((BitVec.ofInt (IntKind.bits .u64) r's ^^^ BitVec.ofInt (IntKind.bits .u64) (IntKind.wrap .u64 (r's * 2 ^ (min (13 : Int).toNat (IntKind.bits .u64))))).toNat)) ^^^ BitVec.ofInt (IntKind.bits .u64) (Int.fdiv (IntKind.wrap .u64 ((BitVec.ofInt (IntKind.bits .u64) r's ^^^ BitVec.ofInt (IntKind.bits .u64) (IntKind.wrap .u64 (r's * 2 ^ (min (13 : Int).toNat (IntKind.bits .u64))))).toNat)) (2 ^ (min (7 : Int).toNat (IntKind.bits .u64))))).toNat)) ^^^ BitVec.ofInt (IntKind.bits .u64) (IntKind.wrap .u64 ((IntKind.wrap .u64 ((BitVec.ofInt (IntKind.bits .u64) (IntKind.wrap .u64 ((BitVec.ofInt (IntKind.bits .u64) r's ^^^ BitVec.ofInt (IntKind.bits .u64) (IntKind.wrap .u64 (r's * 2 ^ (min (13 : Int).toNat (IntKind.bits .u64))))).toNat)) ^^^ BitVec.ofInt (IntKind.bits .u64) (Int.fdiv (IntKind.wrap .u64 ((BitVec.ofInt (IntKind.bits .u64) r's ^^^ BitVec.ofInt (IntKind.bits .u64) (IntKind.wrap .u64 (r's * 2 ^ (min (13 : Int).toNat (IntKind.bits .u64))))).toNat)) (2 ^ (min (7 : Int).toNat (IntKind.bits .u64))))).toNat)) * 2 ^ (min (17 : Int).toNat (IntKind.bits .u64))))).toNat)), .int .u64 (IntKind.wrap .u64 ((BitVec.ofInt (IntKind.bits .u64) (IntKind.wrap .u64 ((BitVec.ofInt (IntKind.bits .u64) (IntKind.wrap .u64 ((BitVec.ofInt (IntKind.bits .u64) r's ^^^ BitVec.ofInt (IntKind.bits .u64) (IntKind.wrap .u64 (r's * 2 ^ (min (13 : Int).toNat (IntKind.bits .u64))))).toNat)) ^^^ BitVec.ofInt (IntKind.bits .u64) (Int.fdiv (IntKind.wrap .u64 ((BitVec.ofInt (IntKind.bits .u64) r's ^^^ BitVec.ofInt (IntKind.bits .u64) (IntKind.wrap .u64 (r's * 2 ^ (min (13 : Int).toNat (IntKind.bits .u64))))).toNat)) (2 ^ (min (7 : Int).toNat (IntKind.bits .u64))))).toNat)) ^^^ BitVec.ofInt (IntKind.bits .u64) (IntKind.wrap .u64 ((IntKind.wrap .u64 ((BitVec.ofInt (IntKind.bits .u64) (IntKind.wrap .u64 ((BitVec.ofInt (IntKind.bits .u64) r's ^^^ BitVec.ofInt (IntKind.bits .u64) (IntKind.wrap .u64 (r's * 2 ^ (min (13 : Int).toNat (IntKind.bits .u64))))).toNat)) ^^^ BitVec.ofInt (IntKind.bits .u64) (Int.fdiv (IntKind.wrap .u64 ((BitVec.ofInt (IntKind.bits .u64) r's ^^^ BitVec.ofInt (IntKind.bits .u64) (IntKind.wrap .u64 (r's * 2 ^ (min (13 : Int).toNat (IntKind.bits .u64))))).toNat)) (2 ^ (min (7 : Int).toNat (IntKind.bits .u64))))).toNat)) * 2 ^ (min (17 : Int).toNat (IntKind.bits .u64))))).toNat))]
theorem f_slices_xorshift_Next_of {r's : Int} {r : Option (List V)} (h : f_slices_xorshift_Next CC r's = r) : CC F_slices_xorshift_Next [.int .u64 r's] = r :=
  func_of (key := 90) (L := LT0) (bs := []) (by kernel_rfl) tells_nil (Eq.trans (by kernel_rfl) h)
end Go.AM
set_option maxRecDepth 100000
namespace Go.AM
open Go.Proofs
noncomputable def f_slices_nextPowerOfTwo (C : CallF) (length : Int) : Option (List V) :=
  (C F_bits_Len [.int .u64 (IntKind.wrap .u64 length)]).bind fun r1 =>
  bif decide (0 ≤ ((V.nth r1 0).toInt)) then
   some [.int .u64 (IntKind.wrap .u64 (1 * 2 ^ (min ((V.nth r1 0).toInt).toNat (IntKind.bits .u64))))]
  else none
theorem f_slices_nextPowerOfTwo_of {length : Int} {r : Option (List V)} (h : f_slices_nextPowerOfTwo CC length = r) : CC F_slices_nextPowerOfTwo [.int .i64 length] = r :=
  func_of (key := 89) (L := LT0) (bs := []) (by kernel_rfl) tells_nil (Eq.trans (by kernel_rfl) h)
end Go.AM
set_option maxRecDepth 100000
namespace Go.AM
open Go.Proofs
noncomputable def f_bits_Len (C : CallF) (x : Int) : Option (List V) :=
  (C F_bits_Len64 [.int .u64 x]).bind fun r1 =>
  some [.int .i64 ((V.nth r1 0).toInt)]
theorem f_bits_Len_of {x : Int} {r : Option (List V)} (h : f_bits_Len CC x = r) : CC F_bits_Len [.int .u64 x] = r :=
  func_of (key := 64) (L := LT0) (bs := []) (by kernel_rfl) tells_nil (Eq.trans (by kernel_rfl) h)
end Go.AM
set_option maxRecDepth 100000
namespace Go.AM
open Go.Proofs
noncomputable abbrev B_bits_Len64 : Code := bodyOf Tryd.prog (ann.fid 83)
noncomputable def s_bits_Len64_1 (C : CallF) (x n : Int) (t4 : Bool) {β : Type} (kr : (Int × Int) → Option β) : Option β :=
  bif t4 then
   kr (Int.fdiv x (2 ^ (min (32 : Int).toNat (IntKind.bits .u64))), 32)
  else
   kr (x, n)
noncomputable def s_bits_Len64_2 (C : CallF) (x n : Int) (t8 : Bool) {β : Type} (kr : (Int × Int) → Option β) : Option β :=
  bif t8 then
   kr (Int.fdiv x (2 ^ (min (16 : Int).toNat (IntKind.bits .u64))), IntKind.wrap .i64 (n + 16))
  else
   kr (x, n)
noncomputable def LT_bits_Len64 (C : CallF) : LTab := fun β n ds k =>
  bif Nat.beq n 79 then condS S83_79 [[0, 0]] (@s_bits_Len64_1 C) ds k else
  bif Nat.beq n 143 then condS S83_143 [[0, 0]] (@s_bits_Len64_2 C) ds k else
  none
abbrev TS_bits_Len64 (C : CallF) (b : Bar) : Prop := Tells Tryd.prog ann C (LT_bits_Len64 C) 83 (ntmpsOf Tryd.prog (ann.fid 83)) (ann.sin 83).blks.length b
theorem t_bits_Len64_1 (C : CallF) : TS_bits_Len64 C (.cond 4 (codeAt [1, 0, 1, 0] B_bits_Len64) (codeAt [1, 0, 1, 1] B_bits_Len64)) :=
  tc3 S83_79 [[0, 0]] (@s_bits_Len64_1 C) (by kernel_rfl) (ltok_of (bs := []) (by kernel_rfl) tells_nil) (ltok_of (bs := []) (by kernel_rfl) tells_nil) (fun ds => by kernel_rfl) (fun i β k => by kernel_rfl) (fun β ds k => by kernel_rfl)
theorem t_bits_Len64_2 (C : CallF) : TS_bits_Len64 C (.cond 8 (codeAt [1, 1, 0, 1, 0] B_bits_Len64) (codeAt [1, 1, 0, 1, 1] B_bits_Len64)) :=
  tc3 S83_143 [[0, 0]] (@s_bits_Len64_2 C) (by kernel_rfl) (ltok_of (bs := []) (by kernel_rfl) tells_nil) (ltok_of (bs := []) (by kernel_rfl) tells_nil) (fun ds => by kernel_rfl) (fun i β k => by kernel_rfl) (fun β ds k => by kernel_rfl)
noncomputable def f_bits_Len64 (C : CallF) (x : Int) : Option (List V) :=
  s_bits_Len64_1 C x 0 (decide ((x : Int) ≥ 4294967296)) (un fun (x_1 : Int) (n_2 : Int) =>
    s_bits_Len64_2 C x_1 n_2 (decide ((x_1 : Int) ≥ 65536)) (un fun (x_3 : Int) (n_4 : Int) =>
      bif decide ((x_3 : Int) ≥ 256) then
       (bif decide (0 ≤ (IntKind.wrap .u8 (Int.fdiv x_3 (2 ^ (min (8 : Int).toNat (IntKind.bits .u64)))))) then (([0, 1, 2, 2, 3, 3, 3, 3, 4, 4, 4, 4, 4, 4, 4, 4, 5, 5, 5, 5, 5, 5, 5, 5, 5, 5, 5, 5, 5, 5, 5, 5, 6, 6, 6, 6, 6, 6, 6, 6, 6, 6, 6, 6, 6, 6, 6, 6, 6, 6, 6, 6, 6, 6, 6, 6, 6, 6, 6, 6, 6, 6, 6, 6, 7, 7, 7, 7, 7, 7, 7, 7, 7, 7, 7, 7, 7, 7, 7, 7, 7, 7, 7, 7, 7, 7, 7, 7, 7, 7, 7, 7, 7, 7, 7, 7, 7, 7, 7, 7, 7, 7, 7, 7, 7, 7, 7, 7, 7, 7, 7, 7, 7, 7, 7, 7, 7, 7, 7, 7, 7, 7, 7, 7, 7, 7, 7, 7, 8, 8, 8, 8, 8, 8, 8, 8, 8, 8, 8, 8, 8, 8, 8, 8, 8, 8, 8, 8, 8, 8, 8, 8, 8, 8, 8, 8, 8, 8, 8, 8, 8, 8, 8, 8, 8, 8, 8, 8, 8, 8, 8, 8, 8, 8, 8, 8, 8, 8, 8, 8, 8, 8, 8, 8, 8, 8, 8, 8, 8, 8, 8, 8, 8, 8, 8, 8, 8, 8, 8, 8, 8, 8, 8, 8, 8, 8, 8, 8, 8, 8, 8, 8, 8, 8, 8, 8, 8, 8, 8, 8, 8, 8, 8, 8, 8, 8, 8, 8, 8, 8, 8, 8, 8, 8, 8, 8, 8, 8, 8, 8, 8, 8, 8, 8, 8, 8, 8, 8, 8, 8, 8, 8, 8, 8, 8, 8] : List UInt8)[(IntKind.wrap .u8 (Int.fdiv x_3 (2 ^ (min (8 : Int).toNat (IntKind.bits .u64)))) : Int).toNat]?).map fun b => V.int .u8 b.toNat else none).bind fun x5 =>
       some [.int .i64 (IntKind.wrap .i64 ((IntKind.wrap .i64 (n_4 + 8)) + (IntKind.wrap .i64 x5.toInt)))]
      else
       (bif decide (0 ≤ (IntKind.wrap .u8 x_3)) then (([0, 1, 2, 2, 3, 3, 3, 3, 4, 4, 4, 4, 4, 4, 4, 4, 5, 5, 5, 5, 5, 5, 5, 5, 5, 5, 5, 5, 5, 5, 5, 5, 6, 6, 6, 6, 6, 6, 6, 6, 6, 6, 6, 6, 6, 6, 6, 6, 6, 6, 6, 6, 6, 6, 6, 6, 6, 6, 6, 6, 6, 6, 6, 6, 7, 7, 7, 7, 7, 7, 7, 7, 7, 7, 7, 7, 7, 7, 7, 7, 7, 7, 7, 7, 7, 7, 7, 7, 7, 7, 7, 7, 7, 7, 7, 7, 7, 7, 7, 7, 7, 7, 7, 7, 7, 7, 7, 7, 7, 7, 7, 7, 7, 7, 7, 7, 7, 7, 7, 7, 7, 7, 7, 7, 7, 7, 7, 7, 8, 8, 8, 8, 8, 8, 8, 8, 8, 8, 8, 8, 8, 8, 8, 8, 8, 8, 8, 8, 8, 8, 8, 8, 8, 8, 8, 8, 8, 8, 8, 8, 8, 8, 8, 8, 8, 8, 8, 8, 8, 8, 8, 8, 8, 8, 8, 8, 8, 8, 8, 8, 8, 8, 8, 8, 8, 8, 8, 8, 8, 8, 8, 8, 8, 8, 8, 8, 8, 8, 8, 8, 8, 8, 8, 8, 8, 8, 8, 8, 8, 8, 8, 8, 8, 8, 8, 8, 8, 8, 8, 8, 8, 8, 8, 8, 8, 8, 8, 8, 8, 8, 8, 8, 8, 8, 8, 8, 8, 8, 8, 8, 8, 8, 8, 8, 8, 8, 8, 8, 8, 8, 8, 8, 8, 8, 8, 8] : List UInt8)[(IntKind.wrap .u8 x_3 : Int).toNat]?).map fun b => V.int .u8 b.toNat else none).bind fun x6 =>
       some [.int .i64 (IntKind.wrap .i64 (n_4 + (IntKind.wrap .i64 x6.toInt)))]))
theorem f_bits_Len64_of {x : Int} {r : Option (List V)} (h : f_bits_Len64 CC x = r) : CC F_bits_Len64 [.int .u64 x] = r :=
  func_of (key := 83) (L := LT_bits_Len64 CC) (bs := [.cond 4 (codeAt [1, 0, 1, 0] B_bits_Len64) (codeAt [1, 0, 1, 1] B_bits_Len64), .cond 8 (codeAt [1, 1, 0, 1, 0] B_bits_Len64) (codeAt [1, 1, 0, 1, 1] B_bits_Len64)]) (by kernel_rfl) (tells_cons (t_bits_Len64_1 CC) (tells_cons (t_bits_Len64_2 CC) tells_nil)) (Eq.trans (by kernel_rfl) h)
end Go.AM
set_option maxRecDepth 100000
namespace Go.AM
open Go.Proofs
noncomputable abbrev B_slices_pdqsortCmpFunc_api_Edge_ : Code := bodyOf Tryd.prog (ann.fid 63)
noncomputable def s_slices_pdqsortCmpFunc_api_Edge__1 (C : CallF) (a b' limit : Int) (wasBalanced wasPartitioned : Bool) (length : Int) (t39 : Bool) (datas : List V) {β : Type} (kr : (Int × (List V)) → Option β) : Option β :=
  bif t39 then
   (C F_slices_breakPatternsCmpFunc_api_Edge_ [.int .i64 a, .int .i64 b', .list T_api_Edge datas]).bind fun r3 =>
   kr (IntKind.wrap .i64 (limit - 1), (V.nth r3 0).toList)
  else
   kr (limit, datas)
noncomputable def s_slices_pdqsortCmpFunc_api_Edge__2 (C : CallF) (a b' limit : Int) (wasBalanced wasPartitioned : Bool) (length pivot hint : Int) (t56 : Bool) (datas : List V) {β : Type} (kr : (Int × Int × (List V)) → Option β) : Option β :=
  bif t56 then
   (C F_slices_reverseRangeCmpFunc_api_Edge_ [.int .i64 a, .int .i64 b', .list T_api_Edge datas]).bind fun r7 =>
   kr (IntKind.wrap .i64 ((IntKind.wrap .i64 (b' - 1)) - (IntKind.wrap .i64 (pivot - a))), 1, (V.nth r7 0).toList)
  else
   kr (pivot, hint, datas)
noncomputable def s_slices_pdqsortCmpFunc_api_Edge__3 (C : CallF) (a b' limit : Int) (wasBalanced wasPartitioned : Bool) (length pivot : Int) (t75 : Bool) (datas : List V) {β : Type} (kr : ((List V) ⊕ (Bool × (List V))) → Option β) : Option β :=
  bif t75 then
   (C F_slices_partialInsertionSortCmpFunc_api_Edge_ [.int .i64 a, .int .i64 b', .list T_api_Edge datas]).bind fun r11 =>
   bif (V.nth r11 0).toBool then
    kr (.inr ((V.nth r11 0).toBool, (V.nth (r11.drop 1) 0).toList))
   else
    kr (.inl ((V.nth (r11.drop 1) 0).toList))
  else
   kr (.inl datas)
noncomputable def s_slices_pdqsortCmpFunc_api_Edge__4 (C : CallF) (a b' limit : Int) (wasBalanced wasPartitioned : Bool) (datas : List V) {β : Type} (kn : (Int × Int × Int × Bool × Bool × (List V)) → Option β) (kr : (List V) → Option β) : Option β :=
  bif decide (((IntKind.wrap .i64 (b' - a)) : Int) ≤ 12) then
   (C F_slices_insertionSortCmpFunc_api_Edge_ [.int .i64 a, .int .i64 b', .list T_api_Edge datas]).bind fun r1 =>
   kr ((V.nth r1 0).toList)
  else
   bif (limit : Int) == 0 then
    (C F_slices_heapSortCmpFunc_api_Edge_ [.int .i64 a, .int .i64 b', .list T_api_Edge datas]).bind fun r2 =>
    kr ((V.nth r2 0).toList)
   else
    s_slices_pdqsortCmpFunc_api_Edge__1 C a b' limit wasBalanced wasPartitioned (IntKind.wrap .i64 (b' - a)) (!wasBalanced) datas (un fun (limit_4 : Int) (datas_5 : List V) =>
      (C F_slices_choosePivotCmpFunc_api_Edge_ [.list T_api_Edge datas_5, .int .i64 a, .int .i64 b']).bind fun r6 =>
      s_slices_pdqsortCmpFunc_api_Edge__2 C a b' limit_4 wasBalanced wasPartitioned (IntKind.wrap .i64 (b' - a)) ((V.nth r6 0).toInt) ((V.nth (r6.drop 1) 0).toInt) ((((V.nth (r6.drop 1) 0).toInt) : Int) == 2) datas_5 (un fun (pivot_8 : Int) => un fun (hint_9 : Int) (datas_10 : List V) =>
        bif wasBalanced then
         bif wasPartitioned then
          s_slices_pdqsortCmpFunc_api_Edge__3 C a b' limit_4 wasBalanced wasPartitioned (IntKind.wrap .i64 (b' - a)) pivot_8 ((hint_9 : Int) == 1) datas_10 (way2 (fun (datas_12 : List V) =>
            bif decide ((a : Int) > 0) then
             bif (decide (0 ≤ (IntKind.wrap .i64 (a - 1)))) && (decide ((IntKind.wrap .i64 (a - 1)) < (datas_12.length : Int))) then
              (datas_12[(IntKind.wrap .i64 (a - 1) : Int).toNat]?).bind fun x13 =>
              bif (decide (0 ≤ pivot_8)) && (decide (pivot_8 < (datas_12.length : Int))) then
               (datas_12[(pivot_8 : Int).toNat]?).bind fun x14 =>
               (C F_nfa_compareEdges [.int .i64 ((x13.cell 0).toInt), .int .i64 ((x13.cell 1).toInt), .int .i64 ((x13.cell 2).toInt), .int .i64 ((x14.cell 0).toInt), .int .i64 ((x14.cell 1).toInt), .int .i64 ((x14.cell 2).toInt)]).bind fun r15 =>
               bif !(decide ((((V.nth r15 0).toInt) : Int) < 0)) then
                (C F_slices_partitionEqualCmpFunc_api_Edge_ [.int .i64 a, .int .i64 b', .int .i64 pivot_8, .list T_api_Edge datas_12]).bind fun r16 =>
                kn ((V.nth r16 0).toInt, b', limit_4, wasBalanced, wasPartitioned, (V.nth (r16.drop 1) 0).toList)
               else
                (C F_slices_partitionCmpFunc_api_Edge_ [.int .i64 a, .int .i64 b', .int .i64 pivot_8, .list T_api_Edge datas_12]).bind fun r17 =>
                bif decide (((IntKind.wrap .i64 (((V.nth r17 0).toInt) - a)) : Int) < (IntKind.wrap .i64 (b' - ((V.nth r17 0).toInt)))) then
                 (C F_slices_pdqsortCmpFunc_api_Edge_ [.int .i64 a, .int .i64 ((V.nth r17 0).toInt), .int .i64 limit_4, .list T_api_Edge ((V.nth (r17.drop 2) 0).toList)]).bind fun r18 =>
                 kn (IntKind.wrap .i64 (((V.nth r17 0).toInt) + 1), b', limit_4, decide (((IntKind.wrap .i64 (((V.nth r17 0).toInt) - a)) : Int) ≥ (IntKind.wrap .i64 (Int.tdiv (IntKind.wrap .i64 (b' - a)) 8))), (V.nth (r17.drop 1) 0).toBool, (V.nth r18 0).toList)
                else
                 (C F_slices_pdqsortCmpFunc_api_Edge_ [.int .i64 (IntKind.wrap .i64 (((V.nth r17 0).toInt) + 1)), .int .i64 b', .int .i64 limit_4, .list T_api_Edge ((V.nth (r17.drop 2) 0).toList)]).bind fun r19 =>
                 kn (a, (V.nth r17 0).toInt, limit_4, decide (((IntKind.wrap .i64 (b' - ((V.nth r17 0).toInt))) : Int) ≥ (IntKind.wrap .i64 (Int.tdiv (IntKind.wrap .i64 (b' - a)) 8))), (V.nth (r17.drop 1) 0).toBool, (V.nth r19 0).toList)
              else none
             else none
            else
             (C F_slices_partitionCmpFunc_api_Edge_ [.int .i64 a, .int .i64 b', .int .i64 pivot_8, .list T_api_Edge datas_12]).bind fun r20 =>
             bif decide (((IntKind.wrap .i64 (((V.nth r20 0).toInt) - a)) : Int) < (IntKind.wrap .i64 (b' - ((V.nth r20 0).toInt)))) then
              (C F_slices_pdqsortCmpFunc_api_Edge_ [.int .i64 a, .int .i64 ((V.nth r20 0).toInt), .int .i64 limit_4, .list T_api_Edge ((V.nth (r20.drop 2) 0).toList)]).bind fun r21 =>
              kn (IntKind.wrap .i64 (((V.nth r20 0).toInt) + 1), b', limit_4, decide (((IntKind.wrap .i64 (((V.nth r20 0).toInt) - a)) : Int) ≥ (IntKind.wrap .i64 (Int.tdiv (IntKind.wrap .i64 (b' - a)) 8))), (V.nth (r20.drop 1) 0).toBool, (V.nth r21 0).toList)
             else
              (C F_slices_pdqsortCmpFunc_api_Edge_ [.int .i64 (IntKind.wrap .i64 (((V.nth r20 0).toInt) + 1)), .int .i64 b', .int .i64 limit_4, .list T_api_Edge ((V.nth (r20.drop 2) 0).toList)]).bind fun r22 =>
              kn (a, (V.nth r20 0).toInt, limit_4, decide (((IntKind.wrap .i64 (b' - ((V.nth r20 0).toInt))) : Int) ≥ (IntKind.wrap .i64 (Int.tdiv (IntKind.wrap .i64 (b' - a)) 8))), (V.nth (r20.drop 1) 0).toBool, (V.nth r22 0).toList)) (un fun (t_23 : Bool) (datas_24 : List V) =>
            kr datas_24))
         else
          s_slices_pdqsortCmpFunc_api_Edge__3 C a b' limit_4 wasBalanced wasPartitioned (IntKind.wrap .i64 (b' - a)) pivot_8 false datas_10 (way2 (fun (datas_25 : List V) =>
            bif decide ((a : Int) > 0) then
             bif (decide (0 ≤ (IntKind.wrap .i64 (a - 1)))) && (decide ((IntKind.wrap .i64 (a - 1)) < (datas_25.length : Int))) then
              (datas_25[(IntKind.wrap .i64 (a - 1) : Int).toNat]?).bind fun x26 =>
              bif (decide (0 ≤ pivot_8)) && (decide (pivot_8 < (datas_25.length : Int))) then
               (datas_25[(pivot_8 : Int).toNat]?).bind fun x27 =>
               (C F_nfa_compareEdges [.int .i64 ((x26.cell 0).toInt), .int .i64 ((x26.cell 1).toInt), .int .i64 ((x26.cell 2).toInt), .int .i64 ((x27.cell 0).toInt), .int .i64 ((x27.cell 1).toInt), .int .i64 ((x27.cell 2).toInt)]).bind fun r28 =>
               bif !(decide ((((V.nth r28 0).toInt) : Int) < 0)) then
                (C F_slices_partitionEqualCmpFunc_api_Edge_ [.int .i64 a, .int .i64 b', .int .i64 pivot_8, .list T_api_Edge datas_25]).bind fun r29 =>
                kn ((V.nth r29 0).toInt, b', limit_4, wasBalanced, wasPartitioned, (V.nth (r29.drop 1) 0).toList)
               else
                (C F_slices_partitionCmpFunc_api_Edge_ [.int .i64 a, .int .i64 b', .int .i64 pivot_8, .list T_api_Edge datas_25]).bind fun r30 =>
                bif decide (((IntKind.wrap .i64 (((V.nth r30 0).toInt) - a)) : Int) < (IntKind.wrap .i64 (b' - ((V.nth r30 0).toInt)))) then
                 (C F_slices_pdqsortCmpFunc_api_Edge_ [.int .i64 a, .int .i64 ((V.nth r30 0).toInt), .int .i64 limit_4, .list T_api_Edge ((V.nth (r30.drop 2) 0).toList)]).bind fun r31 =>
                 kn (IntKind.wrap .i64 (((V.nth r30 0).toInt) + 1), b', limit_4, decide (((IntKind.wrap .i64 (((V.nth r30 0).toInt) - a)) : Int) ≥ (IntKind.wrap .i64 (Int.tdiv (IntKind.wrap .i64 (b' - a)) 8))), (V.nth (r30.drop 1) 0).toBool, (V.nth r31 0).toList)
                else
                 (C F_slices_pdqsortCmpFunc_api_Edge_ [.int .i64 (IntKind.wrap .i64 (((V.nth r30 0).toInt) + 1)), .int .i64 b', .int .i64 limit_4, .list T_api_Edge ((V.nth (r30.drop 2) 0).toList)]).bind fun r32 =>
                 kn (a, (V.nth r30 0).toInt, limit_4, decide (((IntKind.wrap .i64 (b' - ((V.nth r30 0).toInt))) : Int) ≥ (IntKind.wrap .i64 (Int.tdiv (IntKind.wrap .i64 (b' - a)) 8))), (V.nth (r30.drop 1) 0).toBool, (V.nth r32 0).toList)
              else none
             else none
            else
             (C F_slices_partitionCmpFunc_api_Edge_ [.int .i64 a, .int .i64 b', .int .i64 pivot_8, .list T_api_Edge datas_25]).bind fun r33 =>
             bif decide (((IntKind.wrap .i64 (((V.nth r33 0).toInt) - a)) : Int) < (IntKind.wrap .i64 (b' - ((V.nth r33 0).toInt)))) then
              (C F_slices_pdqsortCmpFunc_api_Edge_ [.int .i64 a, .int .i64 ((V.nth r33 0).toInt), .int .i64 limit_4, .list T_api_Edge ((V.nth (r33.drop 2) 0).toList)]).bind fun r34 =>
              kn (IntKind.wrap .i64 (((V.nth r33 0).toInt) + 1), b', limit_4, decide (((IntKind.wrap .i64 (((V.nth r33 0).toInt) - a)) : Int) ≥ (IntKind.wrap .i64 (Int.tdiv (IntKind.wrap .i64 (b' - a)) 8))), (V.nth (r33.drop 1) 0).toBool, (V.nth r34 0).toList)
             else
              (C F_slices_pdqsortCmpFunc_api_Edge_ [.int .i64 (IntKind.wrap .i64 (((V.nth r33 0).toInt) + 1)), .int .i64 b', .int .i64 limit_4, .list T_api_Edge ((V.nth (r33.drop 2) 0).toList)]).bind fun r35 =>
              kn (a, (V.nth r33 0).toInt, limit_4, decide (((IntKind.wrap .i64 (b' - ((V.nth r33 0).toInt))) : Int) ≥ (IntKind.wrap .i64 (Int.tdiv (IntKind.wrap .i64 (b' - a)) 8))), (V.nth (r33.drop 1) 0).toBool, (V.nth r35 0).toList)) (un fun (t_36 : Bool) (datas_37 : List V) =>
            kr datas_37))
        else
         s_slices_pdqsortCmpFunc_api_Edge__3 C a b' limit_4 wasBalanced wasPartitioned (IntKind.wrap .i64 (b' - a)) pivot_8 false datas_10 (way2 (fun (datas_38 : List V) =>
           bif decide ((a : Int) > 0) then
            bif (decide (0 ≤ (IntKind.wrap .i64 (a - 1)))) && (decide ((IntKind.wrap .i64 (a - 1)) < (datas_38.length : Int))) then
             (datas_38[(IntKind.wrap .i64 (a - 1) : Int).toNat]?).bind fun x39 =>
             bif (decide (0 ≤ pivot_8)) && (decide (pivot_8 < (datas_38.length : Int))) then
              (datas_38[(pivot_8 : Int).toNat]?).bind fun x40 =>
              (C F_nfa_compareEdges [.int .i64 ((x39.cell 0).toInt), .int .i64 ((x39.cell 1).toInt), .int .i64 ((x39.cell 2).toInt), .int .i64 ((x40.cell 0).toInt), .int .i64 ((x40.cell 1).toInt), .int .i64 ((x40.cell 2).toInt)]).bind fun r41 =>
              bif !(decide ((((V.nth r41 0).toInt) : Int) < 0)) then
               (C F_slices_partitionEqualCmpFunc_api_Edge_ [.int .i64 a, .int .i64 b', .int .i64 pivot_8, .list T_api_Edge datas_38]).bind fun r42 =>
               kn ((V.nth r42 0).toInt, b', limit_4, wasBalanced, wasPartitioned, (V.nth (r42.drop 1) 0).toList)
              else
               (C F_slices_partitionCmpFunc_api_Edge_ [.int .i64 a, .int .i64 b', .int .i64 pivot_8, .list T_api_Edge datas_38]).bind fun r43 =>
               bif decide (((IntKind.wrap .i64 (((V.nth r43 0).toInt) - a)) : Int) < (IntKind.wrap .i64 (b' - ((V.nth r43 0).toInt)))) then
                (C F_slices_pdqsortCmpFunc_api_Edge_ [.int .i64 a, .int .i64 ((V.nth r43 0).toInt), .int .i64 limit_4, .list T_api_Edge ((V.nth (r43.drop 2) 0).toList)]).bind fun r44 =>
                kn (IntKind.wrap .i64 (((V.nth r43 0).toInt) + 1), b', limit_4, decide (((IntKind.wrap .i64 (((V.nth r43 0).toInt) - a)) : Int) ≥ (IntKind.wrap .i64 (Int.tdiv (IntKind.wrap .i64 (b' - a)) 8))), (V.nth (r43.drop 1) 0).toBool, (V.nth r44 0).toList)
               else
                (C F_slices_pdqsortCmpFunc_api_Edge_ [.int .i64 (IntKind.wrap .i64 (((V.nth r43 0).toInt) + 1)), .int .i64 b', .int .i64 limit_4, .list T_api_Edge ((V.nth (r43.drop 2) 0).toList)]).bind fun r45 =>
                kn (a, (V.nth r43 0).toInt, limit_4, decide (((IntKind.wrap .i64 (b' - ((V.nth r43 0).toInt))) : Int) ≥ (IntKind.wrap .i64 (Int.tdiv (IntKind.wrap .i64 (b' - a)) 8))), (V.nth (r43.drop 1) 0).toBool, (V.nth r45 0).toList)
             else none
            else none
           else
            (C F_slices_partitionCmpFunc_api_Edge_ [.int .i64 a, .int .i64 b', .int .i64 pivot_8, .list T_api_Edge datas_38]).bind fun r46 =>
            bif decide (((IntKind.wrap .i64 (((V.nth r46 0).toInt) - a)) : Int) < (IntKind.wrap .i64 (b' - ((V.nth r46 0).toInt)))) then
             (C F_slices_pdqsortCmpFunc_api_Edge_ [.int .i64 a, .int .i64 ((V.nth r46 0).toInt), .int .i64 limit_4, .list T_api_Edge ((V.nth (r46.drop 2) 0).toList)]).bind fun r47 =>
             kn (IntKind.wrap .i64 (((V.nth r46 0).toInt) + 1), b', limit_4, decide (((IntKind.wrap .i64 (((V.nth r46 0).toInt) - a)) : Int) ≥ (IntKind.wrap .i64 (Int.tdiv (IntKind.wrap .i64 (b' - a)) 8))), (V.nth (r46.drop 1) 0).toBool, (V.nth r47 0).toList)
            else
             (C F_slices_pdqsortCmpFunc_api_Edge_ [.int .i64 (IntKind.wrap .i64 (((V.nth r46 0).toInt) + 1)), .int .i64 b', .int .i64 limit_4, .list T_api_Edge ((V.nth (r46.drop 2) 0).toList)]).bind fun r48 =>
             kn (a, (V.nth r46 0).toInt, limit_4, decide (((IntKind.wrap .i64 (b' - ((V.nth r46 0).toInt))) : Int) ≥ (IntKind.wrap .i64 (Int.tdiv (IntKind.wrap .i64 (b' - a)) 8))), (V.nth (r46.drop 1) 0).toBool, (V.nth r48 0).toList)) (un fun (t_49 : Bool) (datas_50 : List V) =>
           kr datas_50))))
noncomputable def s_slices_pdqsortCmpFunc_api_Edge__4L (C : CallF) : (Int × Int × Int × Bool × Bool × (List V)) → Option ((Int × Int × Int × Bool × Bool × (List V)) ⊕ (List V)) := un fun a => un fun b' => un fun limit => un fun wasBalanced => un fun wasPartitioned datas => s_slices_pdqsortCmpFunc_api_Edge__4 C a b' limit wasBalanced wasPartitioned datas (fun y => some (.inl y)) (fun r => some (.inr r))
noncomputable def LT_slices_pdqsortCmpFunc_api_Edge_ (C : CallF) : LTab := fun β n ds k =>
  bif Nat.beq n 639 then condS S63_639 [[1, 2, 0, 4, 5, 6, 0]] (@s_slices_pdqsortCmpFunc_api_Edge__1 C) ds k else
  bif Nat.beq n 911 then condS S63_911 [[1, 2, 3, 4, 5, 6, 0, 0, 0]] (@s_slices_pdqsortCmpFunc_api_Edge__2 C) ds k else
  bif Nat.beq n 1215 then condS S63_1215 [[1, 2, 3, 4, 5, 6, 7, 0], [1, 2, 3, 4, 5, 6, 7, 0, 0]] (@s_slices_pdqsortCmpFunc_api_Edge__3 C) ds k else
  bif Nat.beq n 33 then loopS S63_33 [true, true, true, true, true, true] [[0]] (@s_slices_pdqsortCmpFunc_api_Edge__4 C) ds k else
  none
abbrev TS_slices_pdqsortCmpFunc_api_Edge_ (C : CallF) (b : Bar) : Prop := Tells Tryd.prog ann C (LT_slices_pdqsortCmpFunc_api_Edge_ C) 63 (ntmpsOf Tryd.prog (ann.fid 63)) (ann.sin 63).blks.length b
theorem t_slices_pdqsortCmpFunc_api_Edge__1 (C : CallF) : TS_slices_pdqsortCmpFunc_api_Edge_ C (.cond 39 (codeAt [1, 1, 0, 0, 0, 1, 1, 1, 0, 1, 0] B_slices_pdqsortCmpFunc_api_Edge_) (codeAt [1, 1, 0, 0, 0, 1, 1, 1, 0, 1, 1] B_slices_pdqsortCmpFunc_api_Edge_)) :=
  tc3 S63_639 [[1, 2, 0, 4, 5, 6, 0]] (@s_slices_pdqsortCmpFunc_api_Edge__1 C) (by kernel_rfl) (ltok_of (bs := []) (by kernel_rfl) tells_nil) (ltok_of (bs := []) (by kernel_rfl) tells_nil) (fun ds => by kernel_rfl) (fun i β k => by kernel_rfl) (fun β ds k => by kernel_rfl)
theorem t_slices_pdqsortCmpFunc_api_Edge__2 (C : CallF) : TS_slices_pdqsortCmpFunc_api_Edge_ C (.cond 56 (codeAt [1, 1, 0, 0, 0, 1, 1, 1, 1, 1, 0, 1, 0] B_slices_pdqsortCmpFunc_api_Edge_) (codeAt [1, 1, 0, 0, 0, 1, 1, 1, 1, 1, 0, 1, 1] B_slices_pdqsortCmpFunc_api_Edge_)) :=
  tc3 S63_911 [[1, 2, 3, 4, 5, 6, 0, 0, 0]] (@s_slices_pdqsortCmpFunc_api_Edge__2 C) (by kernel_rfl) (ltok_of (bs := []) (by kernel_rfl) tells_nil) (ltok_of (bs := []) (by kernel_rfl) tells_nil) (fun ds => by kernel_rfl) (fun i β k => by kernel_rfl) (fun β ds k => by kernel_rfl)
theorem t_slices_pdqsortCmpFunc_api_Edge__3 (C : CallF) : TS_slices_pdqsortCmpFunc_api_Edge_ C (.cond 75 (codeAt [1, 1, 0, 0, 0, 1, 1, 1, 1, 1, 1, 0, 1, 0] B_slices_pdqsortCmpFunc_api_Edge_) (codeAt [1, 1, 0, 0, 0, 1, 1, 1, 1, 1, 1, 0, 1, 1] B_slices_pdqsortCmpFunc_api_Edge_)) :=
  tc3 S63_1215 [[1, 2, 3, 4, 5, 6, 7, 0], [1, 2, 3, 4, 5, 6, 7, 0, 0]] (@s_slices_pdqsortCmpFunc_api_Edge__3 C) (by kernel_rfl) (ltok_of (bs := []) (by kernel_rfl) tells_nil) (ltok_of (bs := []) (by kernel_rfl) tells_nil) (fun ds => by kernel_rfl) (fun i β k => by kernel_rfl) (fun β ds k => by kernel_rfl)
theorem t_slices_pdqsortCmpFunc_api_Edge__4 (C : CallF) : TS_slices_pdqsortCmpFunc_api_Edge_ C (.loop (codeAt [1, 1, 0, 0] B_slices_pdqsortCmpFunc_api_Edge_)) :=
  tl3 S63_33 [true, true, true, true, true, true] [[0]] (@s_slices_pdqsortCmpFunc_api_Edge__4 C) (by kernel_rfl) (ltok_of (bs := [.cond 39 (codeAt [1, 1, 0, 0, 0, 1, 1, 1, 0, 1, 0] B_slices_pdqsortCmpFunc_api_Edge_) (codeAt [1, 1, 0, 0, 0, 1, 1, 1, 0, 1, 1] B_slices_pdqsortCmpFunc_api_Edge_), .cond 56 (codeAt [1, 1, 0, 0, 0, 1, 1, 1, 1, 1, 0, 1, 0] B_slices_pdqsortCmpFunc_api_Edge_) (codeAt [1, 1, 0, 0, 0, 1, 1, 1, 1, 1, 0, 1, 1] B_slices_pdqsortCmpFunc_api_Edge_), .cond 75 (codeAt [1, 1, 0, 0, 0, 1, 1, 1, 1, 1, 1, 0, 1, 0] B_slices_pdqsortCmpFunc_api_Edge_) (codeAt [1, 1, 0, 0, 0, 1, 1, 1, 1, 1, 1, 0, 1, 1] B_slices_pdqsortCmpFunc_api_Edge_)]) (by kernel_rfl) (tells_cons (t_slices_pdqsortCmpFunc_api_Edge__1 C) (tells_cons (t_slices_pdqsortCmpFunc_api_Edge__2 C) (tells_cons (t_slices_pdqsortCmpFunc_api_Edge__3 C) tells_nil)))) (fun ds => by kernel_rfl) (fun i x => by kernel_rfl) (fun i x β k => by kernel_rfl) (fun β ds k => by kernel_rfl)
noncomputable def f_slices_pdqsortCmpFunc_api_Edge_ (C : CallF) (a b' limit : Int) (datas : List V) : Option (List V) :=
  (Loop (s_slices_pdqsortCmpFunc_api_Edge__4L C) (a, b', limit, true, true, datas)).bind (fun (b_51 : List V) =>
    some [.list T_api_Edge b_51])
theorem f_slices_pdqsortCmpFunc_api_Edge__of {a b' limit : Int} {datas : List V} {r : Option (List V)} (h : f_slices_pdqsortCmpFunc_api_Edge_ CC a b' limit datas = r) : CC F_slices_pdqsortCmpFunc_api_Edge_ [.int .i64 a, .int .i64 b', .int .i64 limit, .list T_api_Edge datas] = r :=
  func_of (key := 63) (L := LT_slices_pdqsortCmpFunc_api_Edge_ CC) (bs := [.loop (codeAt [1, 1, 0, 0] B_slices_pdqsortCmpFunc_api_Edge_)]) (by kernel_rfl) (tells_cons (t_slices_pdqsortCmpFunc_api_Edge__4 CC) tells_nil) (Eq.trans (by kernel_rfl) h)
end Go.AM
set_option maxRecDepth 100000
namespace Go.AM
open Go.Proofs
noncomputable def f_slices_SortFunc___api_Edge_api_Edge_ (C : CallF) (xs : List V) : Option (List V) :=
  (C F_bits_Len [.int .u64 (IntKind.wrap .u64 (xs.length : Int))]).bind fun r1 =>
  (C F_slices_pdqsortCmpFunc_api_Edge_ [.int .i64 0, .int .i64 (xs.length : Int), .int .i64 ((V.nth r1 0).toInt), .list T_api_Edge xs]).bind fun r2 =>
  some [.list T_api_Edge ((V.nth r2 0).toList)]
theorem f_slices_SortFunc___api_Edge_api_Edge__of {xs : List V} {r : Option (List V)} (h : f_slices_SortFunc___api_Edge_api_Edge_ CC xs = r) : CC F_slices_SortFunc___api_Edge_api_Edge_ [.list T_api_Edge xs] = r :=
  func_of (key := 44) (L := LT0) (bs := []) (by kernel_rfl) tells_nil (Eq.trans (by kernel_rfl) h)
end Go.AM
set_option maxRecDepth 100000
set_option linter.unusedSimpArgs false
set_option maxHeartbeats 4000000
namespace Go.AM
open Go.Proofs Go.Sort
theorem ltE_eq (a b : Ed) : (ltE a b = true) = (a.lt b) := by rw [ltE_i, propext (cmpE_neg a b)]
theorem ltE_eqf (a b : Ed) : (ltE a b = false) = ¬ (a.lt b) := by rw [← ltE_eq]; simp
theorem swo_E : SWO ltE where
  irrefl x := by rw [ltE_eqf]; unfold Ed.lt; omega
  trans x y z := by simp only [ltE_eq]; unfold Ed.lt; omega
  ntrans x y z := by simp only [ltE_eqf]; unfold Ed.lt; omega
def lenTab : List UInt8 := ([0, 1, 2, 2, 3, 3, 3, 3, 4, 4, 4, 4, 4, 4, 4, 4, 5, 5, 5, 5, 5, 5, 5, 5, 5, 5, 5, 5, 5, 5, 5, 5, 6, 6, 6, 6, 6, 6, 6, 6, 6, 6, 6, 6, 6, 6, 6, 6, 6, 6, 6, 6, 6, 6, 6, 6, 6, 6, 6, 6, 6, 6, 6, 6, 7, 7, 7, 7, 7, 7, 7, 7, 7, 7, 7, 7, 7, 7, 7, 7, 7, 7, 7, 7, 7, 7, 7, 7, 7, 7, 7, 7, 7, 7, 7, 7, 7, 7, 7, 7, 7, 7, 7, 7, 7, 7, 7, 7, 7, 7, 7, 7, 7, 7, 7, 7, 7, 7, 7, 7, 7, 7, 7, 7, 7, 7, 7, 7, 8, 8, 8, 8, 8, 8, 8, 8, 8, 8, 8, 8, 8, 8, 8, 8, 8, 8, 8, 8, 8, 8, 8, 8, 8, 8, 8, 8, 8, 8, 8, 8, 8, 8, 8, 8, 8, 8, 8, 8, 8, 8, 8, 8, 8, 8, 8, 8, 8, 8, 8, 8, 8, 8, 8, 8, 8, 8, 8, 8, 8, 8, 8, 8, 8, 8, 8, 8, 8, 8, 8, 8, 8, 8, 8, 8, 8, 8, 8, 8, 8, 8, 8, 8, 8, 8, 8, 8, 8, 8, 8, 8, 8, 8, 8, 8, 8, 8, 8, 8, 8, 8, 8, 8, 8, 8, 8, 8, 8, 8, 8, 8, 8, 8, 8, 8, 8, 8, 8, 8, 8, 8, 8, 8, 8, 8, 8, 8] : List UInt8)
theorem lenTab_ok : (List.range 256).all (fun y => match lenTab[y]? with | some b => decide (b.toNat ≤ 8) && (Nat.beq y 0 || (decide (1 ≤ b.toNat) && decide (2 ^ (b.toNat - 1) ≤ y))) | none => false) = true := by decide +kernel
theorem lenTab_get {y : Nat} (h : y < 256) : ∃ b, lenTab[y]? = some b ∧ b.toNat ≤ 8 ∧ (0 < y → 1 ≤ b.toNat ∧ 2 ^ (b.toNat - 1) ≤ y) := by
  have := List.all_eq_true.1 lenTab_ok y (List.mem_range.2 h)
  cases hb : lenTab[y]? with
  | none => rw [hb] at this; cases this
  | some b =>
    rw [hb] at this
    simp only [Bool.and_eq_true, Bool.or_eq_true, decide_eq_true_eq] at this
    refine ⟨b, rfl, this.1, fun hy => ?_⟩
    rcases this.2 with h2 | h2
    · have := Nat.eq_of_beq_eq_true h2; omega
    · exact h2
theorem pow_shift {y t k : Nat} (h : 2 ^ (t - 1) ≤ y / 2 ^ k) (ht : 1 ≤ t) : 2 ^ (t + k - 1) ≤ y := by
  have e : t + k - 1 = (t - 1) + k := by omega
  rw [e, Nat.pow_add]
  exact Nat.le_trans (Nat.mul_le_mul_right _ h) (Nat.div_mul_le_self _ _)
noncomputable def lenLast (y n : Int) : Option (List V) :=
(bif decide ((y : Int) ≥ 256) then
       (bif decide (0 ≤ (IntKind.wrap .u8 (Int.fdiv y (2 ^ (min (8 : Int).toNat (IntKind.bits .u64)))))) then (([0, 1, 2, 2, 3, 3, 3, 3, 4, 4, 4, 4, 4, 4, 4, 4, 5, 5, 5, 5, 5, 5, 5, 5, 5, 5, 5, 5, 5, 5, 5, 5, 6, 6, 6, 6, 6, 6, 6, 6, 6, 6, 6, 6, 6, 6, 6, 6, 6, 6, 6, 6, 6, 6, 6, 6, 6, 6, 6, 6, 6, 6, 6, 6, 7, 7, 7, 7, 7, 7, 7, 7, 7, 7, 7, 7, 7, 7, 7, 7, 7, 7, 7, 7, 7, 7, 7, 7, 7, 7, 7, 7, 7, 7, 7, 7, 7, 7, 7, 7, 7, 7, 7, 7, 7, 7, 7, 7, 7, 7, 7, 7, 7, 7, 7, 7, 7, 7, 7, 7, 7, 7, 7, 7, 7, 7, 7, 7, 8, 8, 8, 8, 8, 8, 8, 8, 8, 8, 8, 8, 8, 8, 8, 8, 8, 8, 8, 8, 8, 8, 8, 8, 8, 8, 8, 8, 8, 8, 8, 8, 8, 8, 8, 8, 8, 8, 8, 8, 8, 8, 8, 8, 8, 8, 8, 8, 8, 8, 8, 8, 8, 8, 8, 8, 8, 8, 8, 8, 8, 8, 8, 8, 8, 8, 8, 8, 8, 8, 8, 8, 8, 8, 8, 8, 8, 8, 8, 8, 8, 8, 8, 8, 8, 8, 8, 8, 8, 8, 8, 8, 8, 8, 8, 8, 8, 8, 8, 8, 8, 8, 8, 8, 8, 8, 8, 8, 8, 8, 8, 8, 8, 8, 8, 8, 8, 8, 8, 8, 8, 8, 8, 8, 8, 8, 8, 8] : List UInt8)[(IntKind.wrap .u8 (Int.fdiv y (2 ^ (min (8 : Int).toNat (IntKind.bits .u64)))) : Int).toNat]?).map fun b => V.int .u8 b.toNat else none).bind fun x5 =>
       some [V.int .i64 (IntKind.wrap .i64 ((IntKind.wrap .i64 (n + 8)) + (IntKind.wrap .i64 x5.toInt)))]
      else
       (bif decide (0 ≤ (IntKind.wrap .u8 y)) then (([0, 1, 2, 2, 3, 3, 3, 3, 4, 4, 4, 4, 4, 4, 4, 4, 5, 5, 5, 5, 5, 5, 5, 5, 5, 5, 5, 5, 5, 5, 5, 5, 6, 6, 6, 6, 6, 6, 6, 6, 6, 6, 6, 6, 6, 6, 6, 6, 6, 6, 6, 6, 6, 6, 6, 6, 6, 6, 6, 6, 6, 6, 6, 6, 7, 7, 7, 7, 7, 7, 7, 7, 7, 7, 7, 7, 7, 7, 7, 7, 7, 7, 7, 7, 7, 7, 7, 7, 7, 7, 7, 7, 7, 7, 7, 7, 7, 7, 7, 7, 7, 7, 7, 7, 7, 7, 7, 7, 7, 7, 7, 7, 7, 7, 7, 7, 7, 7, 7, 7, 7, 7, 7, 7, 7, 7, 7, 7, 8, 8, 8, 8, 8, 8, 8, 8, 8, 8, 8, 8, 8, 8, 8, 8, 8, 8, 8, 8, 8, 8, 8, 8, 8, 8, 8, 8, 8, 8, 8, 8, 8, 8, 8, 8, 8, 8, 8, 8, 8, 8, 8, 8, 8, 8, 8, 8, 8, 8, 8, 8, 8, 8, 8, 8, 8, 8, 8, 8, 8, 8, 8, 8, 8, 8, 8, 8, 8, 8, 8, 8, 8, 8, 8, 8, 8, 8, 8, 8, 8, 8, 8, 8, 8, 8, 8, 8, 8, 8, 8, 8, 8, 8, 8, 8, 8, 8, 8, 8, 8, 8, 8, 8, 8, 8, 8, 8, 8, 8, 8, 8, 8, 8, 8, 8, 8, 8, 8, 8, 8, 8, 8, 8, 8, 8, 8, 8] : List UInt8)[(IntKind.wrap .u8 y : Int).toNat]?).map fun b => V.int .u8 b.toNat else none).bind fun x6 =>
       some [V.int .i64 (IntKind.wrap .i64 (n + (IntKind.wrap .i64 x6.toInt)))])
theorem Len64_spec {x : Nat} (h : x < 2 ^ 64) : ∃ L : Nat, CC F_bits_Len64 [.int .u64 (x : Int)] = some [.int .i64 (L : Int)] ∧ L ≤ 64 ∧ (0 < x → 1 ≤ L ∧ 2 ^ (L - 1) ≤ x) := by
  have last : ∀ y n : Nat, y < 65536 → n ≤ 48 → ∃ t : Nat,
      lenLast (y : Int) (n : Int) = some [V.int .i64 ((n + t : Nat) : Int)] ∧ t ≤ 16 ∧ (0 < y → 1 ≤ t ∧ 2 ^ (t - 1) ≤ y) := by
    intro y n hy hn
    unfold lenLast
    rw [show ([0, 1, 2, 2, 3, 3, 3, 3, 4, 4, 4, 4, 4, 4, 4, 4, 5, 5, 5, 5, 5, 5, 5, 5, 5, 5, 5, 5, 5, 5, 5, 5, 6, 6, 6, 6, 6, 6, 6, 6, 6, 6, 6, 6, 6, 6, 6, 6, 6, 6, 6, 6, 6, 6, 6, 6, 6, 6, 6, 6, 6, 6, 6, 6, 7, 7, 7, 7, 7, 7, 7, 7, 7, 7, 7, 7, 7, 7, 7, 7, 7, 7, 7, 7, 7, 7, 7, 7, 7, 7, 7, 7, 7, 7, 7, 7, 7, 7, 7, 7, 7, 7, 7, 7, 7, 7, 7, 7, 7, 7, 7, 7, 7, 7, 7, 7, 7, 7, 7, 7, 7, 7, 7, 7, 7, 7, 7, 7, 8, 8, 8, 8, 8, 8, 8, 8, 8, 8, 8, 8, 8, 8, 8, 8, 8, 8, 8, 8, 8, 8, 8, 8, 8, 8, 8, 8, 8, 8, 8, 8, 8, 8, 8, 8, 8, 8, 8, 8, 8, 8, 8, 8, 8, 8, 8, 8, 8, 8, 8, 8, 8, 8, 8, 8, 8, 8, 8, 8, 8, 8, 8, 8, 8, 8, 8, 8, 8, 8, 8, 8, 8, 8, 8, 8, 8, 8, 8, 8, 8, 8, 8, 8, 8, 8, 8, 8, 8, 8, 8, 8, 8, 8, 8, 8, 8, 8, 8, 8, 8, 8, 8, 8, 8, 8, 8, 8, 8, 8, 8, 8, 8, 8, 8, 8, 8, 8, 8, 8, 8, 8, 8, 8, 8, 8, 8, 8] : List UInt8) = lenTab from rfl]
    by_cases h1 : y ≥ 256
    · have e : Int.fdiv (y : Int) (2 ^ (min (8 : Int).toNat (IntKind.bits .u64))) = ((y / 2 ^ 8 : Nat) : Int) := u64_shr (m := 8) (by omega)
      obtain ⟨b, hb, b1, b2⟩ := lenTab_get (y := y / 2 ^ 8) (by omega)
      refine ⟨b.toNat + 8, ?_, by omega, fun _ => ?_⟩
      · rw [e, bif_decide, if_pos (by omega), wrap8 (by omega) (by omega), bif_decide, if_pos (by omega), Int.toNat_natCast, hb]
        simp only [Option.map_some, Option.bind_some, V.toInt_int]
        simp (disch := omega) only [wrap64]
        congr 3
        omega
      · obtain ⟨b3, b4⟩ := b2 (by omega)
        exact ⟨by omega, pow_shift b4 b3⟩
    · obtain ⟨b, hb, b1, b2⟩ := lenTab_get (y := y) (by omega)
      refine ⟨b.toNat, ?_, by omega, b2⟩
      rw [bif_decide, if_neg (by omega), wrap8 (by omega) (by omega), bif_decide, if_pos (by omega), Int.toNat_natCast, hb]
      simp (disch := omega) only [Option.map_some, Option.bind_some, V.toInt_int, wrap64]
      congr 3
  have mid : ∀ y n : Nat, y < 4294967296 → n ≤ 32 → ∃ t : Nat, ∀ F : Int → Int → Option (List V),
      (∀ y n : Nat, y < 65536 → n ≤ 48 → ∃ t : Nat, F (y : Int) (n : Int) = some [V.int .i64 ((n + t : Nat) : Int)] ∧ t ≤ 16 ∧ (0 < y → 1 ≤ t ∧ 2 ^ (t - 1) ≤ y)) →
      ∃ t : Nat, s_bits_Len64_2 CC (y : Int) (n : Int) (decide (((y : Int) : Int) ≥ 65536)) (un F) = some [V.int .i64 ((n + t : Nat) : Int)] ∧ t ≤ 32 ∧ (0 < y → 1 ≤ t ∧ 2 ^ (t - 1) ≤ y) := by
    intro y n hy hn
    refine ⟨0, fun F hF => ?_⟩
    unfold s_bits_Len64_2
    by_cases h1 : y ≥ 65536
    · have e : Int.fdiv (y : Int) (2 ^ (min (16 : Int).toNat (IntKind.bits .u64))) = ((y / 2 ^ 16 : Nat) : Int) := u64_shr (m := 16) (by omega)
      rw [bif_decide, if_pos (by omega), e, wrap64 (by omega) (by omega)]
      obtain ⟨t, h2, h3, h4⟩ := hF (y / 2 ^ 16) (n + 16) (by omega) (by omega)
      refine ⟨t + 16, ?_, by omega, fun _ => ?_⟩
      · rw [show ((n : Int) + 16) = ((n + 16 : Nat) : Int) by omega]
        simp only [un]
        rw [h2]
        congr 3
        omega
      · obtain ⟨b3, b4⟩ := h4 (by omega)
        exact ⟨by omega, pow_shift b4 b3⟩
    · rw [bif_decide, if_neg (by omega)]
      obtain ⟨t, h2, h3, h4⟩ := hF y n (by omega) (by omega)
      exact ⟨t, h2, by omega, h4⟩
  by_cases h1 : x ≥ 4294967296
  · have e : Int.fdiv (x : Int) (2 ^ (min (32 : Int).toNat (IntKind.bits .u64))) = ((x / 2 ^ 32 : Nat) : Int) := u64_shr (m := 32) (by omega)
    obtain ⟨_, hm⟩ := mid (x / 2 ^ 32) 32 (by omega) (by omega)
    obtain ⟨t, h2, h3, h4⟩ := hm lenLast last
    refine ⟨32 + t, f_bits_Len64_of ?_, by omega, fun _ => ?_⟩
    · show s_bits_Len64_1 CC (x : Int) 0 (decide (((x : Int) : Int) ≥ 4294967296)) (un fun (x_1 : Int) (n_2 : Int) => s_bits_Len64_2 CC x_1 n_2 (decide ((x_1 : Int) ≥ 65536)) (un lenLast)) = _
      unfold s_bits_Len64_1
      rw [bif_decide, if_pos (by omega), e]
      exact h2
    · obtain ⟨b3, b4⟩ := h4 (by omega)
      rw [Nat.add_comm 32 t]
      exact ⟨by omega, pow_shift b4 b3⟩
  · obtain ⟨_, hm⟩ := mid x 0 (by omega) (by omega)
    obtain ⟨t, h2, h3, h4⟩ := hm lenLast last
    refine ⟨t, f_bits_Len64_of ?_, by omega, h4⟩
    show s_bits_Len64_1 CC (x : Int) 0 (decide (((x : Int) : Int) ≥ 4294967296)) (un fun (x_1 : Int) (n_2 : Int) => s_bits_Len64_2 CC x_1 n_2 (decide ((x_1 : Int) ≥ 65536)) (un lenLast)) = _
    unfold s_bits_Len64_1
    rw [bif_decide, if_neg (by omega)]
    rw [Nat.zero_add] at h2
    exact h2
theorem Len_spec {x : Nat} (h : x < 2 ^ 64) : ∃ L : Nat, CC F_bits_Len [.int .u64 (x : Int)] = some [.int .i64 (L : Int)] ∧ L ≤ 64 ∧ (0 < x → 1 ≤ L ∧ 2 ^ (L - 1) ≤ x) := by
  obtain ⟨L, h1, h2⟩ := Len64_spec h
  refine ⟨L, f_bits_Len_of ?_, h2⟩
  unfold f_bits_Len
  rw [h1]
  rfl
theorem nextPow_spec {x : Nat} (h0 : 0 < x) (h : x < 1152921504606846976) : ∃ M : Nat, CC F_slices_nextPowerOfTwo [.int .i64 (x : Int)] = some [.int .u64 (M : Int)] ∧ 1 ≤ M ∧ M ≤ 2 * x := by
  obtain ⟨L, h1, h2, h3⟩ := Len_spec (x := x) (by omega)
  obtain ⟨h4, h5⟩ := h3 h0
  have e : 2 ^ L = 2 * 2 ^ (L - 1) := by
    obtain ⟨k, rfl⟩ : ∃ k, L = k + 1 := ⟨L - 1, by omega⟩
    rw [Nat.pow_succ]; simp only [Nat.add_sub_cancel]; omega
  have hL : L < 64 := by
    by_cases hx : L < 64
    · exact hx
    · have : 2 ^ 63 ≤ 2 ^ (L - 1) := Nat.pow_le_pow_right (by omega) (by omega)
      omega
  refine ⟨2 ^ L, f_slices_nextPowerOfTwo_of ?_, Nat.pos_of_ne_zero (by simp), by omega⟩
  unfold f_slices_nextPowerOfTwo
  rw [wrapu64 (A := x) (by omega), h1]
  simp only [Option.bind_some, V.nth_zero, V.toInt_int]
  rw [bif_decide, if_pos (by omega), Int.toNat_natCast, u64_bit hL]
theorem Next_spec (r : Int) : ∃ R : Nat, CC F_slices_xorshift_Next [.int .u64 r] = some [.int .u64 (R : Int), .int .u64 (R : Int)] ∧ R < 2 ^ 64 := by
  have h : ∀ n : Int, ∃ R : Nat, IntKind.wrap .u64 n = (R : Int) ∧ R < 2 ^ 64 := fun n => ⟨(IntKind.wrap .u64 n).toNat, by rw [wrap_u64]; omega, by rw [wrap_u64]; omega⟩
  obtain ⟨R, h1, h2⟩ := h _
  exact ⟨R, f_slices_xorshift_Next_of (by unfold f_slices_xorshift_Next; rw [h1]), h2⟩
theorem idx_eA {d : Array Ed} {i : Nat} (h : i < d.size) : idx (eA d) (i : Int) = some (d[i]!).enc := by rw [idx_nat, encA_get h]
theorem order2_spec {d : Array Ed} {a b : Nat} {s : Int} (ha : a < d.size) (hb : b < d.size) : ∃ (x y : Nat) (s' : Int), CC F_slices_order2CmpFunc_api_Edge_ [.list T_api_Edge (eA d), .int .i64 (a : Int), .int .i64 (b : Int), .int .i64 s] = some [.int .i64 (x : Int), .int .i64 (y : Int), .int .i64 s'] ∧ (x = a ∧ y = b ∨ x = b ∧ y = a) := by
  by_cases h : cmpE d[b]! d[a]! < 0
  · refine ⟨b, a, _, f_slices_order2CmpFunc_api_Edge__of (by unfold f_slices_order2CmpFunc_api_Edge_; rw [idx_eA hb, idx_eA ha]; simp only [Option.bind_some, Ed.enc_0, Ed.enc_1, Ed.enc_2, compareEdges_spec, V.nth_zero, V.toInt_int]; rw [bif_decide, if_pos h]), .inr ⟨rfl, rfl⟩⟩
  · refine ⟨a, b, _, f_slices_order2CmpFunc_api_Edge__of (by unfold f_slices_order2CmpFunc_api_Edge_; rw [idx_eA hb, idx_eA ha]; simp only [Option.bind_some, Ed.enc_0, Ed.enc_1, Ed.enc_2, compareEdges_spec, V.nth_zero, V.toInt_int]; rw [bif_decide, if_neg h]), .inl ⟨rfl, rfl⟩⟩
theorem median_spec {d : Array Ed} {a b c : Nat} {s : Int} (ha : a < d.size) (hb : b < d.size) (hc : c < d.size) : ∃ (m : Nat) (s' : Int), CC F_slices_medianCmpFunc_api_Edge_ [.list T_api_Edge (eA d), .int .i64 (a : Int), .int .i64 (b : Int), .int .i64 (c : Int), .int .i64 s] = some [.int .i64 (m : Int), .int .i64 s'] ∧ (m = a ∨ m = b ∨ m = c) := by
  obtain ⟨x1, y1, s1, e1, o1⟩ := order2_spec (s := s) ha hb
  obtain ⟨x2, y2, s2, e2, o2⟩ := order2_spec (d := d) (a := y1) (b := c) (s := s1) (by omega) hc
  obtain ⟨x3, y3, s3, e3, o3⟩ := order2_spec (d := d) (a := x1) (b := x2) (s := s2) (by omega) (by omega)
  refine ⟨y3, s3, f_slices_medianCmpFunc_api_Edge__of ?_, by omega⟩
  unfold f_slices_medianCmpFunc_api_Edge_
  rw [e1]
  simp only [Option.bind_some, V.nth_zero, V.nth_succ, V.toInt_int, List.drop_succ_cons, List.drop_zero]
  rw [e2]
  simp only [Option.bind_some, V.nth_zero, V.nth_succ, V.toInt_int, List.drop_succ_cons, List.drop_zero]
  rw [e3]
  rfl
theorem medAdj_spec {d : Array Ed} {a : Nat} {s : Int} (h1 : 1 ≤ a) (ha : a + 1 < d.size) (hs : d.size < 1152921504606846976) : ∃ (m : Nat) (s' : Int), CC F_slices_medianAdjacentCmpFunc_api_Edge_ [.list T_api_Edge (eA d), .int .i64 (a : Int), .int .i64 s] = some [.int .i64 (m : Int), .int .i64 s'] ∧ a ≤ m + 1 ∧ m ≤ a + 1 := by
  obtain ⟨m, s', e, o⟩ := median_spec (d := d) (a := a - 1) (b := a) (c := a + 1) (s := s) (by omega) (by omega) (by omega)
  refine ⟨m, s', f_slices_medianAdjacentCmpFunc_api_Edge__of ?_, by omega, by omega⟩
  unfold f_slices_medianAdjacentCmpFunc_api_Edge_
  simp (disch := omega) only [sub1C, succC, wrap64]
  rw [e]
  rfl
theorem div4C (n : Nat) : Int.tdiv (n : Int) 4 = ((n / 4 : Nat) : Int) := by
  have := divC n 4
  exact this
theorem mulC (k n : Nat) : ((k : Nat) : Int) * (n : Int) = ((k * n : Nat) : Int) := (Int.natCast_mul k n).symm
theorem choose_spec' {d : Array Ed} {a b : Nat} (hab : a + 12 < b) (hb : b ≤ d.size) (hs : d.size < 1152921504606846976) : ∃ (p : Nat) (h : Int), CC F_slices_choosePivotCmpFunc_api_Edge_ [.list T_api_Edge (eA d), .int .i64 (a : Int), .int .i64 (b : Int)] = some [.int .i64 (p : Int), .int .i64 h] ∧ a ≤ p ∧ p < b := by
  have fin : ∀ (p : Nat) (s : Int), ∃ h : Int, (bif (s : Int) == 0 then some [V.int .i64 (p : Int), V.int .i64 1] else bif (s : Int) == 12 then some [V.int .i64 (p : Int), V.int .i64 2] else some [V.int .i64 (p : Int), V.int .i64 0]) = some [V.int .i64 (p : Int), V.int .i64 h] := by
    intro p s
    rw [bif_beq]
    split
    · exact ⟨1, rfl⟩
    · rw [bif_beq]
      split
      · exact ⟨2, rfl⟩
      · exact ⟨0, rfl⟩
  have e1 : IntKind.wrap .i64 ((b : Int) - (a : Int)) = ((b - a : Nat) : Int) := by rw [subC (by omega), wrap64 (by omega) (by omega)]
  have e2 : IntKind.wrap .i64 (Int.tdiv ((b - a : Nat) : Int) 4) = (((b - a) / 4 : Nat) : Int) := by rw [div4C, wrap64 (by omega) (by omega)]
  have e3 : ∀ k : Nat, k ≤ 3 → IntKind.wrap .i64 ((a : Int) + IntKind.wrap .i64 ((k : Int) * (((b - a) / 4 : Nat) : Int))) = ((a + k * ((b - a) / 4) : Nat) : Int) := by
    intro k hk
    have hk2 : k * ((b - a) / 4) ≤ 3 * ((b - a) / 4) := Nat.mul_le_mul_right _ hk
    simp (disch := omega) only [mulC, wrap64, addC]
  have e31 := e3 1 (by omega)
  have e32 := e3 2 (by omega)
  have e33 := e3 3 (by omega)
  rw [show ((1 : Nat) : Int) = 1 from rfl] at e31
  rw [show ((2 : Nat) : Int) = 2 from rfl] at e32
  rw [show ((3 : Nat) : Int) = 3 from rfl] at e33
  by_cases h50 : b - a ≥ 50
  · obtain ⟨m1, s1, q1, r1⟩ := medAdj_spec (d := d) (a := a + 1 * ((b - a) / 4)) (s := 0) (by omega) (by omega) hs
    obtain ⟨m2, s2, q2, r2⟩ := medAdj_spec (d := d) (a := a + 2 * ((b - a) / 4)) (s := s1) (by omega) (by omega) hs
    obtain ⟨m3, s3, q3, r3⟩ := medAdj_spec (d := d) (a := a + 3 * ((b - a) / 4)) (s := s2) (by omega) (by omega) hs
    obtain ⟨m, s, q, r⟩ := median_spec (d := d) (a := m1) (b := m2) (c := m3) (s := s3) (by omega) (by omega) (by omega)
    obtain ⟨h, hf⟩ := fin m s
    refine ⟨m, h, f_slices_choosePivotCmpFunc_api_Edge__of ?_, by omega, by omega⟩
    unfold f_slices_choosePivotCmpFunc_api_Edge_ s_slices_choosePivotCmpFunc_api_Edge__2 s_slices_choosePivotCmpFunc_api_Edge__1
    rw [e1, e2, e31, e32, e33, dec_true (by omega), cond_true, dec_true (by omega), cond_true, q1]
    simp only [Option.bind_some, V.nth_zero, V.nth_succ, V.toInt_int, List.drop_succ_cons, List.drop_zero]
    rw [q2]
    simp only [Option.bind_some, V.nth_zero, V.nth_succ, V.toInt_int, List.drop_succ_cons, List.drop_zero]
    rw [q3]
    simp only [Option.bind_some, V.nth_zero, V.nth_succ, V.toInt_int, List.drop_succ_cons, List.drop_zero, un]
    rw [q]
    exact hf
  · obtain ⟨m, s, q, r⟩ := median_spec (d := d) (a := a + 1 * ((b - a) / 4)) (b := a + 2 * ((b - a) / 4)) (c := a + 3 * ((b - a) / 4)) (s := 0) (by omega) (by omega) (by omega)
    obtain ⟨h, hf⟩ := fin m s
    refine ⟨m, h, f_slices_choosePivotCmpFunc_api_Edge__of ?_, by omega, by omega⟩
    unfold f_slices_choosePivotCmpFunc_api_Edge_ s_slices_choosePivotCmpFunc_api_Edge__2 s_slices_choosePivotCmpFunc_api_Edge__1
    rw [e1, e2, e31, e32, e33, dec_true (by omega), cond_true, dec_false (by omega), cond_false]
    simp only [un]
    rw [q]
    exact hf
theorem break_loop {a b M : Nat} (hM1 : 1 ≤ M) (hM : M ≤ 2 * (b - a)) (h8 : 8 ≤ b - a) (hB : b < 1152921504606846976) : ∀ (n i : Nat) (d : Array Ed) (r : Int), a + 2 * ((b - a) / 4) + 2 - i = n → a ≤ i → b ≤ d.size → d.size < 1152921504606846976 →
    ∃ x y z R, Loop (s_slices_breakPatternsCmpFunc_api_Edge__2L CC a (b - a : Nat) M) ((i : Int), eA d, r) = some (x, y, eA R, z) ∧ PermIn a b d R := by
  have e2 : IntKind.wrap .i64 (Int.tdiv ((b - a : Nat) : Int) 4) = (((b - a) / 4 : Nat) : Int) := by rw [div4C, wrap64 (by omega) (by omega)]
  have e32 : IntKind.wrap .i64 ((a : Int) + IntKind.wrap .i64 (2 * (((b - a) / 4 : Nat) : Int))) = ((a + 2 * ((b - a) / 4) : Nat) : Int) := by
    have := mulC 2 ((b - a) / 4)
    rw [show ((2 : Nat) : Int) = 2 from rfl] at this
    rw [this]
    simp (disch := omega) only [wrap64, addC]
  intro n
  induction n with
  | zero =>
    intro i d r hn hi hb hs
    refine ⟨(i : Int), false, r, d, Loop_end ?_, permIn_refl _ _ _⟩
    simp only [s_slices_breakPatternsCmpFunc_api_Edge__2L, s_slices_breakPatternsCmpFunc_api_Edge__2, un]
    rw [e2, e32, succC, wrap64 (by omega) (by omega), dec_false (by omega), cond_false]
  | succ n ih =>
    intro i d r hn hi hb hs
    obtain ⟨R1, q1, q2⟩ := Next_spec r
    obtain ⟨o, ho, ho2⟩ : ∃ o : Nat, (o = if R1 &&& (M - 1) ≥ b - a then (R1 &&& (M - 1)) - (b - a) else R1 &&& (M - 1)) ∧ o < b - a := by
      refine ⟨_, rfl, ?_⟩
      have : R1 &&& (M - 1) ≤ M - 1 := Nat.and_le_right
      split <;> omega
    have hand : R1 &&& (M - 1) ≤ M - 1 := Nat.and_le_right
    have hP := swp_permIn (α := Ed) d a b i (a + o) hi (by omega) (by omega) (by omega) hb
    obtain ⟨x, y, z, R, e, hR⟩ := ih (i + 1) (swp d i (a + o)) (R1 : Int) (by omega) (by omega) (by rw [size_swp]; exact hb) (by rw [size_swp]; exact hs)
    refine ⟨x, y, z, R, (Loop_norm ?_).trans e, permIn_trans _ _ _ a b hP hR⟩
    simp only [s_slices_breakPatternsCmpFunc_api_Edge__2L, s_slices_breakPatternsCmpFunc_api_Edge__2, un]
    rw [e2, e32, succC, wrap64 (x := ((a + 2 * ((b - a) / 4) + 1 : Nat) : Int)) (by omega) (by omega), dec_true (by omega), cond_true, q1]
    simp only [Option.bind_some, V.nth_zero, V.nth_succ, V.toInt_int, List.drop_succ_cons, List.drop_zero]
    have e5 : IntKind.wrap .u64 ((M : Int) - 1) = ((M - 1 : Nat) : Int) := by rw [sub1C hM1, wrapu64 (by omega)]
    rw [e5, u64_and q2 (by omega), wrap64 (x := ((R1 &&& (M - 1) : Nat) : Int)) (by omega) (by omega)]
    have fin : ∀ k : Int, k = (o : Int) → (bif (decide (0 ≤ (IntKind.wrap .i64 ((a : Int) + k)))) && (decide ((IntKind.wrap .i64 ((a : Int) + k)) < ((eA d).length : Int))) then
      ((eA d)[(IntKind.wrap .i64 ((a : Int) + k) : Int).toNat]?).bind fun x4 =>
      bif (decide (0 ≤ (i : Int))) && (decide ((i : Int) < ((eA d).length : Int))) then
       ((eA d)[((i : Int) : Int).toNat]?).bind fun x5 =>
       bif (decide (0 ≤ (i : Int))) && (decide ((i : Int) < ((eA d).length : Int))) then
        ((eA d)[((i : Int) : Int).toNat]?).bind fun x6 =>
        bif (decide (0 ≤ (IntKind.wrap .i64 ((a : Int) + k)))) && (decide ((IntKind.wrap .i64 ((a : Int) + k)) < (((eA d).set (((i : Int) : Int).toNat) (.agg [.int .i64 ((x4.cell 0).toInt), .int .i64 ((x4.cell 1).toInt), .int .i64 ((x4.cell 2).toInt)])).length : Int))) then
         (((eA d).set (((i : Int) : Int).toNat) (.agg [.int .i64 ((x4.cell 0).toInt), .int .i64 ((x4.cell 1).toInt), .int .i64 ((x4.cell 2).toInt)]))[(IntKind.wrap .i64 ((a : Int) + k) : Int).toNat]?).bind fun x7 =>
         some (.inl (IntKind.wrap .i64 ((i : Int) + 1), ((eA d).set (((i : Int) : Int).toNat) (.agg [.int .i64 ((x4.cell 0).toInt), .int .i64 ((x4.cell 1).toInt), .int .i64 ((x4.cell 2).toInt)])).set ((IntKind.wrap .i64 ((a : Int) + k) : Int).toNat) (.agg [.int .i64 ((x5.cell 0).toInt), .int .i64 ((x5.cell 1).toInt), .int .i64 ((x5.cell 2).toInt)]), (R1 : Int)))
        else none
       else none
      else none
     else none : Option ((Int × List V × Int) ⊕ (Int × Bool × List V × Int))) = some (.inl (((i + 1 : Nat) : Int), eA (swp d i (a + o)), (R1 : Int))) := by
      intro k hk
      subst hk
      simp (disch := omega) only [bif_decide, bif_and, bif_not, if_pos, if_neg, wrap64, succC, addC, Int.toNat_natCast, Option.bind_some, encA_length, encA_get, Ed.enc_0, Ed.enc_1, Ed.enc_2, Ed.re, encA_set, encA_get2, Array.size_setIfInBounds, compareEdges_spec, V.nth_zero, V.toInt_int, cond_true, cond_false]
      rfl
    unfold s_slices_breakPatternsCmpFunc_api_Edge__1
    by_cases h : R1 &&& (M - 1) ≥ b - a
    · rw [if_pos h] at ho
      rw [dec_true (by omega), cond_true]
      exact fin _ (by rw [subC (by omega), wrap64 (by omega) (by omega)]; omega)
    · rw [if_neg h] at ho
      rw [dec_false (by omega), cond_false]
      exact fin _ (by omega)
theorem break_spec {a b : Nat} {d : Array Ed} (hab : a + 12 < b) (hb : b ≤ d.size) (hs : d.size < 1152921504606846976) : ∃ R, CC F_slices_breakPatternsCmpFunc_api_Edge_ [.int .i64 (a : Int), .int .i64 (b : Int), .list T_api_Edge (eA d)] = some [.list T_api_Edge (eA R)] ∧ PermIn a b d R := by
  obtain ⟨M, q1, q2, q3⟩ := nextPow_spec (x := b - a) (by omega) (by omega)
  have e1 : IntKind.wrap .i64 ((b : Int) - (a : Int)) = ((b - a : Nat) : Int) := by rw [subC (by omega), wrap64 (by omega) (by omega)]
  have e2 : IntKind.wrap .i64 (Int.tdiv ((b - a : Nat) : Int) 4) = (((b - a) / 4 : Nat) : Int) := by rw [div4C, wrap64 (by omega) (by omega)]
  have e32 : IntKind.wrap .i64 ((a : Int) + IntKind.wrap .i64 (2 * (((b - a) / 4 : Nat) : Int))) = ((a + 2 * ((b - a) / 4) : Nat) : Int) := by
    have := mulC 2 ((b - a) / 4)
    rw [show ((2 : Nat) : Int) = 2 from rfl] at this
    rw [this]
    simp (disch := omega) only [wrap64, addC]
  obtain ⟨x, y, z, R, e, hR⟩ := break_loop (a := a) (b := b) (M := M) q2 q3 (by omega) (by omega) _ (a + 2 * ((b - a) / 4) - 1) d (IntKind.wrap .u64 ((b - a : Nat) : Int)) rfl (by omega) hb hs
  refine ⟨R, f_slices_breakPatternsCmpFunc_api_Edge__of ?_, hR⟩
  unfold f_slices_breakPatternsCmpFunc_api_Edge_
  rw [e1, bif_decide, if_pos (by omega), q1]
  simp only [Option.bind_some, V.nth_zero, V.toInt_int]
  rw [e2, e32, sub1C (by omega), wrap64 (x := ((a + 2 * ((b - a) / 4) - 1 : Nat) : Int)) (by omega) (by omega), e]
  rfl
noncomputable def pdqRest (C : CallF) (a b' : Int) (wasBalanced wasPartitioned : Bool) (limit_4 pivot_8 : Int) (datas_12 : List V) {β : Type} (kn : (Int × Int × Int × Bool × Bool × (List V)) → Option β) : Option β :=
            bif decide ((a : Int) > 0) then
             bif (decide (0 ≤ (IntKind.wrap .i64 (a - 1)))) && (decide ((IntKind.wrap .i64 (a - 1)) < (datas_12.length : Int))) then
              (datas_12[(IntKind.wrap .i64 (a - 1) : Int).toNat]?).bind fun x13 =>
              bif (decide (0 ≤ pivot_8)) && (decide (pivot_8 < (datas_12.length : Int))) then
               (datas_12[(pivot_8 : Int).toNat]?).bind fun x14 =>
               (C F_nfa_compareEdges [.int .i64 ((x13.cell 0).toInt), .int .i64 ((x13.cell 1).toInt), .int .i64 ((x13.cell 2).toInt), .int .i64 ((x14.cell 0).toInt), .int .i64 ((x14.cell 1).toInt), .int .i64 ((x14.cell 2).toInt)]).bind fun r15 =>
               bif !(decide ((((V.nth r15 0).toInt) : Int) < 0)) then
                (C F_slices_partitionEqualCmpFunc_api_Edge_ [.int .i64 a, .int .i64 b', .int .i64 pivot_8, .list T_api_Edge datas_12]).bind fun r16 =>
                kn ((V.nth r16 0).toInt, b', limit_4, wasBalanced, wasPartitioned, (V.nth (r16.drop 1) 0).toList)
               else
                (C F_slices_partitionCmpFunc_api_Edge_ [.int .i64 a, .int .i64 b', .int .i64 pivot_8, .list T_api_Edge datas_12]).bind fun r17 =>
                bif decide (((IntKind.wrap .i64 (((V.nth r17 0).toInt) - a)) : Int) < (IntKind.wrap .i64 (b' - ((V.nth r17 0).toInt)))) then
                 (C F_slices_pdqsortCmpFunc_api_Edge_ [.int .i64 a, .int .i64 ((V.nth r17 0).toInt), .int .i64 limit_4, .list T_api_Edge ((V.nth (r17.drop 2) 0).toList)]).bind fun r18 =>
                 kn (IntKind.wrap .i64 (((V.nth r17 0).toInt) + 1), b', limit_4, decide (((IntKind.wrap .i64 (((V.nth r17 0).toInt) - a)) : Int) ≥ (IntKind.wrap .i64 (Int.tdiv (IntKind.wrap .i64 (b' - a)) 8))), (V.nth (r17.drop 1) 0).toBool, (V.nth r18 0).toList)
                else
                 (C F_slices_pdqsortCmpFunc_api_Edge_ [.int .i64 (IntKind.wrap .i64 (((V.nth r17 0).toInt) + 1)), .int .i64 b', .int .i64 limit_4, .list T_api_Edge ((V.nth (r17.drop 2) 0).toList)]).bind fun r19 =>
                 kn (a, (V.nth r17 0).toInt, limit_4, decide (((IntKind.wrap .i64 (b' - ((V.nth r17 0).toInt))) : Int) ≥ (IntKind.wrap .i64 (Int.tdiv (IntKind.wrap .i64 (b' - a)) 8))), (V.nth (r17.drop 1) 0).toBool, (V.nth r19 0).toList)
              else none
             else none
            else
             (C F_slices_partitionCmpFunc_api_Edge_ [.int .i64 a, .int .i64 b', .int .i64 pivot_8, .list T_api_Edge datas_12]).bind fun r20 =>
             bif decide (((IntKind.wrap .i64 (((V.nth r20 0).toInt) - a)) : Int) < (IntKind.wrap .i64 (b' - ((V.nth r20 0).toInt)))) then
              (C F_slices_pdqsortCmpFunc_api_Edge_ [.int .i64 a, .int .i64 ((V.nth r20 0).toInt), .int .i64 limit_4, .list T_api_Edge ((V.nth (r20.drop 2) 0).toList)]).bind fun r21 =>
              kn (IntKind.wrap .i64 (((V.nth r20 0).toInt) + 1), b', limit_4, decide (((IntKind.wrap .i64 (((V.nth r20 0).toInt) - a)) : Int) ≥ (IntKind.wrap .i64 (Int.tdiv (IntKind.wrap .i64 (b' - a)) 8))), (V.nth (r20.drop 1) 0).toBool, (V.nth r21 0).toList)
             else
              (C F_slices_pdqsortCmpFunc_api_Edge_ [.int .i64 (IntKind.wrap .i64 (((V.nth r20 0).toInt) + 1)), .int .i64 b', .int .i64 limit_4, .list T_api_Edge ((V.nth (r20.drop 2) 0).toList)]).bind fun r22 =>
              kn (a, (V.nth r20 0).toInt, limit_4, decide (((IntKind.wrap .i64 (b' - ((V.nth r20 0).toInt))) : Int) ≥ (IntKind.wrap .i64 (Int.tdiv (IntKind.wrap .i64 (b' - a)) 8))), (V.nth (r20.drop 1) 0).toBool, (V.nth r22 0).toList)
theorem pdq4_eq (C : CallF) (a b' limit : Int) (wasBalanced wasPartitioned : Bool) (datas : List V) {β : Type} (kn : (Int × Int × Int × Bool × Bool × (List V)) → Option β) (kr : (List V) → Option β) :
   s_slices_pdqsortCmpFunc_api_Edge__4 C a b' limit wasBalanced wasPartitioned datas kn kr =
  bif decide (((IntKind.wrap .i64 (b' - a)) : Int) ≤ 12) then
   (C F_slices_insertionSortCmpFunc_api_Edge_ [.int .i64 a, .int .i64 b', .list T_api_Edge datas]).bind fun r1 =>
   kr ((V.nth r1 0).toList)
  else
   bif (limit : Int) == 0 then
    (C F_slices_heapSortCmpFunc_api_Edge_ [.int .i64 a, .int .i64 b', .list T_api_Edge datas]).bind fun r2 =>
    kr ((V.nth r2 0).toList)
   else
    s_slices_pdqsortCmpFunc_api_Edge__1 C a b' limit wasBalanced wasPartitioned (IntKind.wrap .i64 (b' - a)) (!wasBalanced) datas (un fun (limit_4 : Int) (datas_5 : List V) =>
      (C F_slices_choosePivotCmpFunc_api_Edge_ [.list T_api_Edge datas_5, .int .i64 a, .int .i64 b']).bind fun r6 =>
      s_slices_pdqsortCmpFunc_api_Edge__2 C a b' limit_4 wasBalanced wasPartitioned (IntKind.wrap .i64 (b' - a)) ((V.nth r6 0).toInt) ((V.nth (r6.drop 1) 0).toInt) ((((V.nth (r6.drop 1) 0).toInt) : Int) == 2) datas_5 (un fun (pivot_8 : Int) => un fun (hint_9 : Int) (datas_10 : List V) =>
        bif wasBalanced then
         bif wasPartitioned then
          s_slices_pdqsortCmpFunc_api_Edge__3 C a b' limit_4 wasBalanced wasPartitioned (IntKind.wrap .i64 (b' - a)) pivot_8 ((hint_9 : Int) == 1) datas_10 (way2 (fun (datas_12 : List V) => pdqRest C a b' wasBalanced wasPartitioned limit_4 pivot_8 datas_12 kn) (un fun (t_23 : Bool) (datas_24 : List V) =>
            kr datas_24))
         else
          s_slices_pdqsortCmpFunc_api_Edge__3 C a b' limit_4 wasBalanced wasPartitioned (IntKind.wrap .i64 (b' - a)) pivot_8 false datas_10 (way2 (fun (datas_25 : List V) => pdqRest C a b' wasBalanced wasPartitioned limit_4 pivot_8 datas_25 kn) (un fun (t_36 : Bool) (datas_37 : List V) =>
            kr datas_37))
        else
         s_slices_pdqsortCmpFunc_api_Edge__3 C a b' limit_4 wasBalanced wasPartitioned (IntKind.wrap .i64 (b' - a)) pivot_8 false datas_10 (way2 (fun (datas_38 : List V) => pdqRest C a b' wasBalanced wasPartitioned limit_4 pivot_8 datas_38 kn) (un fun (t_49 : Bool) (datas_50 : List V) =>
           kr datas_50)))) := rfl
section
variable {a b : Nat} {lim : Int} {wb wp : Bool}
theorem pd_1 {d : Array Ed} (hab : a + 12 < b) (hb : b ≤ d.size) (hs : d.size < 1152921504606846976) (len : Int) (t : Bool) : ∃ (l1 : Int) (d1 : Array Ed), PermIn a b d d1 ∧ ∀ (β : Type) (kr : (Int × List V) → Option β), s_slices_pdqsortCmpFunc_api_Edge__1 CC a b lim wb wp len t (eA d) kr = kr (l1, eA d1) := by
  cases t with
  | true =>
    obtain ⟨R, e, hR⟩ := break_spec hab hb hs
    refine ⟨IntKind.wrap .i64 (lim - 1), R, hR, fun β kr => ?_⟩
    unfold s_slices_pdqsortCmpFunc_api_Edge__1
    rw [cond_true, e]
    rfl
  | false => exact ⟨lim, d, permIn_refl _ _ _, fun β kr => rfl⟩
theorem pd_2 {d : Array Ed} (hab : a + 12 < b) (hb : b ≤ d.size) (hs : d.size < 1152921504606846976) (len h : Int) (t : Bool) {p : Nat} (h1 : a ≤ p) (h2 : p < b) : ∃ (p2 : Nat) (h2 : Int) (d1 : Array Ed), a ≤ p2 ∧ p2 < b ∧ PermIn a b d d1 ∧ ∀ (β : Type) (kr : (Int × Int × List V) → Option β), s_slices_pdqsortCmpFunc_api_Edge__2 CC a b lim wb wp len p h t (eA d) kr = kr ((p2 : Int), h2, eA d1) := by
  cases t with
  | true =>
    refine ⟨b - 1 - (p - a), 1, reverseRange d a b, by omega, by omega, reverseRange_holds d a b (by omega) hb, fun β kr => ?_⟩
    unfold s_slices_pdqsortCmpFunc_api_Edge__2
    rw [cond_true, rev_spec (by omega) hb hs]
    simp (disch := omega) only [Option.bind_some, V.nth_zero, V.toList_list, sub1C, subC, wrap64]
  | false => exact ⟨p, h, d, h1, h2, permIn_refl _ _ _, fun β kr => rfl⟩
theorem pd_3 {d : Array Ed} (hab : a + 12 < b) (hb : b ≤ d.size) (hs : d.size < 1152921504606846976) (hB : Below ltE a b d) (len p : Int) (t : Bool) : ∃ d1 : Array Ed, PermIn a b d d1 ∧
    ((∀ (β : Type) (kr : (List V ⊕ (Bool × List V)) → Option β), s_slices_pdqsortCmpFunc_api_Edge__3 CC a b lim wb wp len p t (eA d) kr = kr (.inl (eA d1))) ∨
    (SortedIn ltE a b d1 ∧ ∀ (β : Type) (kr : (List V ⊕ (Bool × List V)) → Option β), s_slices_pdqsortCmpFunc_api_Edge__3 CC a b lim wb wp len p t (eA d) kr = kr (.inr (true, eA d1)))) := by
  cases t with
  | true =>
    have hp := partialInsertionSort_holds (lt := ltE) swo_E d a b (by omega) hb hB
    refine ⟨_, hp.1, ?_⟩
    cases h : (partialInsertionSort ltE d a b).2 with
    | true =>
      refine .inr ⟨hp.2 h, fun β kr => ?_⟩
      unfold s_slices_pdqsortCmpFunc_api_Edge__3
      rw [cond_true, pins_spec (by omega) hb hs, h]
      rfl
    | false =>
      refine .inl fun β kr => ?_
      unfold s_slices_pdqsortCmpFunc_api_Edge__3
      rw [cond_true, pins_spec (by omega) hb hs, h]
      rfl
  | false => exact ⟨d, permIn_refl _ _ _, .inl fun β kr => rfl⟩
end
def Sorts (a b : Nat) (d : Array Ed) : Prop := ∀ (lim : Int) (wb wp : Bool), ∃ R, Loop (s_slices_pdqsortCmpFunc_api_Edge__4L CC) ((a : Int), (b : Int), lim, wb, wp, eA d) = some (eA R) ∧ PermIn a b d R ∧ SortedIn ltE a b R
theorem Sorts.call {a b : Nat} {d : Array Ed} (h : Sorts a b d) (lim : Int) : ∃ R, CC F_slices_pdqsortCmpFunc_api_Edge_ [.int .i64 (a : Int), .int .i64 (b : Int), .int .i64 lim, .list T_api_Edge (eA d)] = some [.list T_api_Edge (eA R)] ∧ PermIn a b d R ∧ SortedIn ltE a b R := by
  obtain ⟨R, e, h1, h2⟩ := h lim true true
  refine ⟨R, f_slices_pdqsortCmpFunc_api_Edge__of ?_, h1, h2⟩
  unfold f_slices_pdqsortCmpFunc_api_Edge_
  rw [e]
  rfl
theorem rest_spec {a b p : Nat} {d : Array Ed} (hab : a + 12 < b) (hb : b ≤ d.size) (hs : d.size < 1152921504606846976) (hB : Below ltE a b d) (h1 : a ≤ p) (h2 : p < b)
    (ih : ∀ (a2 b2 : Nat) (d2 : Array Ed), b2 - a2 < b - a → a2 ≤ b2 → b2 ≤ d2.size → d2.size < 1152921504606846976 → Below ltE a2 b2 d2 → Sorts a2 b2 d2) (wb wp : Bool) (lim : Int) :
    ∃ (a2 b2 : Nat) (wb2 wp2 : Bool) (d2 : Array Ed), b2 - a2 < b - a ∧ a2 ≤ b2 ∧ b2 ≤ d2.size ∧ d2.size < 1152921504606846976 ∧ Below ltE a2 b2 d2 ∧
      (∀ R, PermIn a2 b2 d2 R → SortedIn ltE a2 b2 R → PermIn a b d R ∧ SortedIn ltE a b R) ∧
      ∀ (β : Type) (kn : (Int × Int × Int × Bool × Bool × (List V)) → Option β), pdqRest CC a b wb wp lim p (eA d) kn = kn ((a2 : Int), (b2 : Int), lim, wb2, wp2, eA d2) := by
  have part : ∃ (a2 b2 : Nat) (wb2 wp2 : Bool) (d2 : Array Ed), b2 - a2 < b - a ∧ a2 ≤ b2 ∧ b2 ≤ d2.size ∧ d2.size < 1152921504606846976 ∧ Below ltE a2 b2 d2 ∧
      (∀ R, PermIn a2 b2 d2 R → SortedIn ltE a2 b2 R → PermIn a b d R ∧ SortedIn ltE a b R) ∧
      ∀ (β : Type) (kn : (Int × Int × Int × Bool × Bool × (List V)) → Option β),
        ((CC F_slices_partitionCmpFunc_api_Edge_ [.int .i64 (a : Int), .int .i64 (b : Int), .int .i64 (p : Int), .list T_api_Edge (eA d)]).bind fun r17 =>
                bif decide (((IntKind.wrap .i64 (((V.nth r17 0).toInt) - (a : Int))) : Int) < (IntKind.wrap .i64 ((b : Int) - ((V.nth r17 0).toInt)))) then
                 (CC F_slices_pdqsortCmpFunc_api_Edge_ [.int .i64 (a : Int), .int .i64 ((V.nth r17 0).toInt), .int .i64 lim, .list T_api_Edge ((V.nth (r17.drop 2) 0).toList)]).bind fun r18 =>
                 kn (IntKind.wrap .i64 (((V.nth r17 0).toInt) + 1), (b : Int), lim, decide (((IntKind.wrap .i64 (((V.nth r17 0).toInt) - (a : Int))) : Int) ≥ (IntKind.wrap .i64 (Int.tdiv (IntKind.wrap .i64 ((b : Int) - (a : Int))) 8))), (V.nth (r17.drop 1) 0).toBool, (V.nth r18 0).toList)
                else
                 (CC F_slices_pdqsortCmpFunc_api_Edge_ [.int .i64 (IntKind.wrap .i64 (((V.nth r17 0).toInt) + 1)), .int .i64 (b : Int), .int .i64 lim, .list T_api_Edge ((V.nth (r17.drop 2) 0).toList)]).bind fun r19 =>
                 kn ((a : Int), (V.nth r17 0).toInt, lim, decide (((IntKind.wrap .i64 ((b : Int) - ((V.nth r17 0).toInt))) : Int) ≥ (IntKind.wrap .i64 (Int.tdiv (IntKind.wrap .i64 ((b : Int) - (a : Int))) 8))), (V.nth (r17.drop 1) 0).toBool, (V.nth r19 0).toList)) = kn ((a2 : Int), (b2 : Int), lim, wb2, wp2, eA d2) := by
    obtain ⟨mid, ap, d4, hx⟩ : ∃ mid ap d4, partition ltE d a b p = (mid, ap, d4) := ⟨_, _, _, rfl⟩
    obtain ⟨g1, g2, hs4, hBa, hBr, hleft, hright⟩ := round_part swo_E (partition_holds ltE) h1 h2 hb hB hx
    have hc := part_spec (a := a) (b := b) (pivot := p) (d := d) h2 (by omega) hb hs
    rw [hx] at hc
    by_cases hl : mid - a < b - mid
    · obtain ⟨L, e, l1, l2⟩ := (ih a mid d4 (by omega) g1 (by rw [hs4]; omega) (by rw [hs4]; exact hs) hBa).call lim
      obtain ⟨hBL, hfin⟩ := hleft _ l1 l2
      refine ⟨mid + 1, b, decide (((IntKind.wrap .i64 ((mid : Int) - (a : Int))) : Int) ≥ (IntKind.wrap .i64 (Int.tdiv (IntKind.wrap .i64 ((b : Int) - (a : Int))) 8))), ap, L, by omega, by omega, by rw [l1.1, hs4]; exact hb, by rw [l1.1, hs4]; exact hs, hBL, hfin, fun β kn => ?_⟩
      · rw [hc]
        simp only [Option.bind_some, V.nth_zero, V.nth_succ, V.toInt_int, V.toBool_bool, V.toList_list, List.drop_succ_cons, List.drop_zero]
        rw [bif_decide, if_pos (by rw [subC g1, subC (by omega), wrap64 (by omega) (by omega), wrap64 (by omega) (by omega)]; omega), e]
        simp only [Option.bind_some, V.nth_zero, V.toList_list]
        rw [succC, wrap64 (x := ((mid + 1 : Nat) : Int)) (by omega) (by omega)]
    · obtain ⟨L, e, l1, l2⟩ := (ih (mid + 1) b d4 (by omega) (by omega) (by rw [hs4]; exact hb) (by rw [hs4]; exact hs) hBr).call lim
      obtain ⟨hBL, hfin⟩ := hright _ l1 l2
      refine ⟨a, mid, decide (((IntKind.wrap .i64 ((b : Int) - (mid : Int))) : Int) ≥ (IntKind.wrap .i64 (Int.tdiv (IntKind.wrap .i64 ((b : Int) - (a : Int))) 8))), ap, L, by omega, by omega, by rw [l1.1, hs4]; omega, by rw [l1.1, hs4]; exact hs, hBL, hfin, fun β kn => ?_⟩
      · rw [hc]
        simp only [Option.bind_some, V.nth_zero, V.nth_succ, V.toInt_int, V.toBool_bool, V.toList_list, List.drop_succ_cons, List.drop_zero]
        rw [bif_decide, if_neg (by rw [subC g1, subC (by omega), wrap64 (by omega) (by omega), wrap64 (by omega) (by omega)]; omega), succC, wrap64 (x := ((mid + 1 : Nat) : Int)) (by omega) (by omega), e]
        simp only [Option.bind_some, V.nth_zero, V.toList_list]
  by_cases ha : 0 < a
  · by_cases hc : cmpE d[a - 1]! d[p]! < 0
    · obtain ⟨a2, b2, wb2, wp2, d2, q1, q2, q3, q4, q5, q6, q7⟩ := part
      refine ⟨a2, b2, wb2, wp2, d2, q1, q2, q3, q4, q5, q6, fun β kn => ?_⟩
      rw [← q7 β kn]
      unfold pdqRest
      rw [bif_decide, if_pos (by omega), sub1C ha, wrap64 (by omega) (by omega), chk_eA (i := a - 1) (by omega), getB (by omega), chk_eA (i := p) (by omega), getB (by omega)]
      simp only [Ed.enc_0, Ed.enc_1, Ed.enc_2, compareEdges_spec, Option.bind_some, V.nth_zero, V.toInt_int]
      rw [bif_not, bif_decide, if_pos hc]
    · obtain ⟨mid, d4, hx⟩ : ∃ mid d4, partitionEqual ltE d a b p = (mid, d4) := ⟨_, _, rfl⟩
      obtain ⟨g1, hm2, hs4, hB4, hfin⟩ := round_eq swo_E (partitionEqual_holds ltE) ha h1 h2 hb hB (by rw [ltE_eqf, ← propext (cmpE_neg _ _)]; exact hc) hx
      have he := pequ_spec (a := a) (b := b) (pivot := p) (d := d) h2 (by omega) hb hs
      rw [hx] at he
      refine ⟨mid, b, wb, wp, d4, by omega, hm2, by rw [hs4]; exact hb, by rw [hs4]; exact hs, hB4, hfin, fun β kn => ?_⟩
      unfold pdqRest
      rw [bif_decide, if_pos (by omega), sub1C ha, wrap64 (by omega) (by omega), chk_eA (i := a - 1) (by omega), getB (by omega), chk_eA (i := p) (by omega), getB (by omega)]
      simp only [Ed.enc_0, Ed.enc_1, Ed.enc_2, compareEdges_spec, Option.bind_some, V.nth_zero, V.toInt_int]
      rw [bif_not, bif_decide, if_neg hc, he]
      rfl
  · obtain ⟨a2, b2, wb2, wp2, d2, q1, q2, q3, q4, q5, q6, q7⟩ := part
    refine ⟨a2, b2, wb2, wp2, d2, q1, q2, q3, q4, q5, q6, fun β kn => ?_⟩
    rw [← q7 β kn]
    unfold pdqRest
    rw [bif_decide, if_neg (by omega)]
theorem pdq_main : ∀ (n a b : Nat) (d : Array Ed), b - a ≤ n → a ≤ b → b ≤ d.size → d.size < 1152921504606846976 → Below ltE a b d → Sorts a b d := by
  intro n
  induction n with
  | zero =>
    intro a b d hn hab hb hs hB lim wb wp
    have hi := insertionSort_holds (lt := ltE) swo_E d a b hab hb
    refine ⟨_, Loop_end ?_, hi⟩
    show s_slices_pdqsortCmpFunc_api_Edge__4 CC a b lim wb wp (eA d) (fun y => some (Sum.inl y)) (fun r => some (Sum.inr r)) = _
    rw [pdq4_eq, bif_decide, if_pos (by rw [subC hab, wrap64 (by omega) (by omega)]; omega), ins_spec hb hs (by omega)]
    rfl
  | succ n ih =>
    intro a b d hn hab hb hs hB lim wb wp
    by_cases h12 : b - a ≤ 12
    · have hi := insertionSort_holds (lt := ltE) swo_E d a b hab hb
      refine ⟨_, Loop_end ?_, hi⟩
      show s_slices_pdqsortCmpFunc_api_Edge__4 CC a b lim wb wp (eA d) (fun y => some (Sum.inl y)) (fun r => some (Sum.inr r)) = _
      rw [pdq4_eq, bif_decide, if_pos (by rw [subC hab, wrap64 (by omega) (by omega)]; omega), ins_spec hb hs (by omega)]
      rfl
    · have hab' : a + 12 < b := by omega
      have e12 : ¬ (((IntKind.wrap .i64 ((b : Int) - (a : Int))) : Int) ≤ 12) := by rw [subC hab, wrap64 (by omega) (by omega)]; omega
      by_cases h0 : lim = 0
      · have hi := heapSort_holds (lt := ltE) swo_E d a b hab hb
        refine ⟨_, Loop_end ?_, hi⟩
        show s_slices_pdqsortCmpFunc_api_Edge__4 CC a b lim wb wp (eA d) (fun y => some (Sum.inl y)) (fun r => some (Sum.inr r)) = _
        rw [pdq4_eq, bif_decide, if_neg e12, bif_beq, if_pos h0, heap_spec (by omega) hb hs]
        rfl
      · obtain ⟨l1, d1, s1, k1⟩ := pd_1 (lim := lim) (wb := wb) (wp := wp) hab' hb hs (IntKind.wrap .i64 ((b : Int) - (a : Int))) (!wb)
        have b1 : b ≤ d1.size := by rw [s1.1]; exact hb
        have z1 : d1.size < 1152921504606846976 := by rw [s1.1]; exact hs
        obtain ⟨p, h, c1, p1, p2⟩ := choose_spec' hab' b1 z1
        obtain ⟨q, h2, d2, q1, q2, s2, k2⟩ := pd_2 (lim := l1) (wb := wb) (wp := wp) hab' b1 z1 (IntKind.wrap .i64 ((b : Int) - (a : Int))) h (h == 2) p1 p2
        have b2 : b ≤ d2.size := by rw [s2.1]; exact b1
        have z2 : d2.size < 1152921504606846976 := by rw [s2.1]; exact z1
        have B2 : Below ltE a b d2 := (hB.perm hb s1).perm b1 s2
        obtain ⟨t, ht⟩ : ∃ t : Bool, t = (bif wb then (bif wp then (h2 == 1) else false) else false) := ⟨_, rfl⟩
        obtain ⟨d3, s3, k3⟩ := pd_3 (lim := l1) (wb := wb) (wp := wp) hab' b2 z2 B2 (IntKind.wrap .i64 ((b : Int) - (a : Int))) (q : Int) t
        have b3 : b ≤ d3.size := by rw [s3.1]; exact b2
        have z3 : d3.size < 1152921504606846976 := by rw [s3.1]; exact z2
        have B3 : Below ltE a b d3 := B2.perm b2 s3
        have P3 : PermIn a b d d3 := permIn_trans _ _ _ a b (permIn_trans _ _ _ a b s1 s2) s3
        have step : ∀ (β : Type) (kn : (Int × Int × Int × Bool × Bool × (List V)) → Option β) (kr : (List V) → Option β), s_slices_pdqsortCmpFunc_api_Edge__4 CC a b lim wb wp (eA d) kn kr =
            s_slices_pdqsortCmpFunc_api_Edge__3 CC a b l1 wb wp (IntKind.wrap .i64 ((b : Int) - (a : Int))) (q : Int) t (eA d2) (way2 (fun (datas_12 : List V) => pdqRest CC a b wb wp l1 q datas_12 kn) (un fun (t_23 : Bool) (datas_24 : List V) => kr datas_24)) := by
          intro β kn kr
          rw [pdq4_eq, bif_decide, if_neg e12, bif_beq, if_neg h0, k1]
          simp only [un]
          rw [c1]
          simp only [Option.bind_some, V.nth_zero, V.nth_succ, V.toInt_int, List.drop_succ_cons, List.drop_zero]
          rw [k2]
          simp only [un]
          rw [ht]
          cases wb
          · rfl
          · cases wp
            · rfl
            · rfl
        rcases k3 with k3 | ⟨k3s, k3⟩
        · obtain ⟨a4, b4, wb4, wp4, d4, r1, r2, r3, r4, r5, r6, r7⟩ := rest_spec hab' b3 z3 B3 q1 q2 (fun a2 b2 d2 hlt h1 h2 h3 h4 => ih a2 b2 d2 (by omega) h1 h2 h3 h4) wb wp l1
          obtain ⟨R, e, e1, e2⟩ := ih a4 b4 d4 (by omega) r2 r3 r4 r5 l1 wb4 wp4
          obtain ⟨f1, f2⟩ := r6 R e1 e2
          refine ⟨R, (Loop_norm ?_).trans e, permIn_trans _ _ _ a b P3 f1, f2⟩
          show s_slices_pdqsortCmpFunc_api_Edge__4 CC a b lim wb wp (eA d) (fun y => some (Sum.inl y)) (fun r => some (Sum.inr r)) = _
          rw [step, k3]
          exact r7 _ (fun y => some (Sum.inl y))
        · refine ⟨d3, Loop_end ?_, P3, k3s⟩
          show s_slices_pdqsortCmpFunc_api_Edge__4 CC a b lim wb wp (eA d) (fun y => some (Sum.inl y)) (fun r => some (Sum.inr r)) = _
          rw [step, k3]
          rfl
theorem sortE_spec (l : List Ed) (hs : l.length < 1152921504606846976) : ∃ R : List Ed, CC F_slices_SortFunc___api_Edge_api_Edge_ [.list T_api_Edge (l.map Ed.enc)] = some [.list T_api_Edge (R.map Ed.enc)] ∧ R.Perm l ∧ R.Pairwise (fun x y => ¬ y.lt x) := by
  obtain ⟨L, e1, _⟩ := Len_spec (x := l.length) (by omega)
  obtain ⟨R, e2, h1, h2⟩ := (pdq_main _ 0 l.toArray.size l.toArray (Nat.le_refl _) (Nat.zero_le _) (Nat.le_refl _) (by simpa using hs) (.inl rfl)).call (L : Int)
  have hsz : R.size = l.length := by rw [h1.1]; simp
  refine ⟨R.toList, f_slices_SortFunc___api_Edge_api_Edge__of ?_, ?_, ?_⟩
  · unfold f_slices_SortFunc___api_Edge_api_Edge_
    rw [List.length_map, wrapu64 (A := l.length) (by omega), e1]
    simp only [Option.bind_some, V.nth_zero, V.toInt_int]
    have e3 : eA l.toArray = l.map Ed.enc := by simp [encA]
    rw [e3, show ((l.toArray.size : Nat) : Int) = (l.length : Int) by simp, show ((0 : Nat) : Int) = 0 from rfl] at e2
    rw [e2]
    rfl
  · have h3 := h1.2.2
    rw [show l.toArray.size = R.size from h1.1.symm, Array.extract_size, h1.1, Array.extract_size] at h3
    exact h3
  · rw [List.pairwise_iff_getElem]
    intro i j hi hj hij
    have h3 := h2 i j (Nat.zero_le _) hij (by simpa [← hsz] using hj)
    rw [ltE_eqf] at h3
    have hi' : i < R.size := by simpa using hi
    have hj' : j < R.size := by simpa using hj
    rw [getElem!_pos R i hi', getElem!_pos R j hj'] at h3
    simpa using h3
end Go.AM
namespace Go.AM
theorem low_form : ∀ (x : Nat), x ≠ 0 → ∃ k m, x = 2 ^ k * (2 * m + 1) := by
  intro x
  induction x using Nat.strongRecOn with
  | ind x ih =>
    intro hx
    by_cases h : x % 2 = 1
    · exact ⟨0, x / 2, by simp; omega⟩
    · obtain ⟨k, m, hm⟩ := ih (x / 2) (by omega) (by omega)
      refine ⟨k + 1, m, ?_⟩
      rw [Nat.pow_succ, Nat.mul_assoc, Nat.mul_comm 2 (2 * m + 1), ← Nat.mul_assoc, ← hm]
      omega
theorem bit_low {k m j : Nat} : (2 ^ k * (2 * m + 1)).testBit j = (decide (j = k) || (decide (k < j) && m.testBit (j - k - 1))) := by
  rw [Nat.testBit_two_pow_mul]
  by_cases h : j < k
  · have h1 : ¬ k ≤ j := by omega
    have h2 : ¬ j = k := by omega
    have h3 : ¬ k < j := by omega
    simp [h1, h2, h3]
  · by_cases h2 : j = k
    · subst h2; simp
    · have h3 : k < j := by omega
      obtain ⟨d, hd⟩ : ∃ d, j - k = d + 1 := ⟨j - k - 1, by omega⟩
      have h4 : k ≤ j := by omega
      rw [hd, Nat.testBit_succ]
      have h5 : (2 * m + 1) / 2 = m := by omega
      have h6 : j - k - 1 = d := by omega
      rw [h5]
      simp [h2, h3, h4]
theorem bit_high {k m j : Nat} : (2 ^ k * (2 * m)).testBit j = (decide (k < j) && m.testBit (j - k - 1)) := by
  rw [Nat.testBit_two_pow_mul]
  by_cases h : j < k
  · have h1 : ¬ k ≤ j := by omega
    have h3 : ¬ k < j := by omega
    simp [h1, h3]
  · by_cases h2 : j = k
    · subst h2; simp
    · have h3 : k < j := by omega
      obtain ⟨d, hd⟩ : ∃ d, j - k = d + 1 := ⟨j - k - 1, by omega⟩
      have h4 : k ≤ j := by omega
      rw [hd, Nat.testBit_succ]
      have h5 : 2 * m / 2 = m := by omega
      have h6 : j - k - 1 = d := by omega
      rw [h5]
      simp [h3, h4]
theorem low_lt {k m : Nat} (h : 2 ^ k * (2 * m + 1) < 2 ^ 64) : k < 64 ∧ m < 2 ^ (63 - k) := by
  have h1 : 2 ^ k ≤ 2 ^ k * (2 * m + 1) := Nat.le_mul_of_pos_right _ (by omega)
  have hk : k < 64 := (Nat.pow_lt_pow_iff_right (by omega : 1 < 2)).1 (Nat.lt_of_le_of_lt h1 h)
  refine ⟨hk, ?_⟩
  have h2 : 2 ^ 64 = 2 ^ k * (2 * 2 ^ (63 - k)) := by
    have h4 : 2 * 2 ^ (63 - k) = 2 ^ (63 - k + 1) := by rw [Nat.pow_succ, Nat.mul_comm]
    rw [h4, ← Nat.pow_add]; congr 1; omega
  rw [h2] at h
  have := Nat.lt_of_mul_lt_mul_left h
  omega
theorem neg_low {k m : Nat} (h : 2 ^ k * (2 * m + 1) < 2 ^ 64) : 2 ^ 64 - 2 ^ k * (2 * m + 1) = 2 ^ k * (2 * (2 ^ (63 - k) - (m + 1)) + 1) := by
  obtain ⟨hk, hm⟩ := low_lt h
  have h2 : 2 ^ 64 = 2 ^ k * (2 * 2 ^ (63 - k)) := by
    have h4 : 2 * 2 ^ (63 - k) = 2 ^ (63 - k + 1) := by rw [Nat.pow_succ, Nat.mul_comm]
    rw [h4, ← Nat.pow_add]; congr 1; omega
  rw [h2, ← Nat.mul_sub]
  congr 1
  omega
theorem and_neg {k m : Nat} (h : 2 ^ k * (2 * m + 1) < 2 ^ 64) : (2 ^ k * (2 * m + 1)) &&& (2 ^ 64 - 2 ^ k * (2 * m + 1)) = 2 ^ k := by
  obtain ⟨hk, hm⟩ := low_lt h
  rw [neg_low h]
  apply Nat.eq_of_testBit_eq
  intro j
  rw [Nat.testBit_and, bit_low, bit_low, Nat.testBit_two_pow, Nat.testBit_two_pow_sub_succ hm]
  by_cases h1 : j = k
  · simp [h1]
  · have h2 : ¬ k = j := fun h => h1 h.symm
    cases m.testBit (j - k - 1) <;> simp [h1, h2]
theorem and_pred {k m : Nat} : (2 ^ k * (2 * m + 1)) &&& (2 ^ k * (2 * m + 1) - 1) = 2 ^ k * (2 * m) := by
  have e : 2 ^ k * (2 * m + 1) - 1 = 2 ^ k * (2 * m) + (2 ^ k - 1) := by
    have : 0 < 2 ^ k := Nat.pos_of_ne_zero (by simp)
    rw [Nat.mul_add]; omega
  rw [e]
  apply Nat.eq_of_testBit_eq
  intro j
  have hlt : 2 ^ k - 1 < 2 ^ k := by have : 0 < 2 ^ k := Nat.pos_of_ne_zero (by simp); omega
  rw [Nat.testBit_and, bit_low, bit_high, Nat.testBit_two_pow_mul_add _ hlt, Nat.testBit_two_pow_sub_one]
  by_cases h1 : j < k
  · have h2 : ¬ j = k := by omega
    have h3 : ¬ k < j := by omega
    simp [h1, h2, h3]
  · by_cases h2 : j = k
    · subst h2
      simp
    · have h3 : k < j := by omega
      obtain ⟨d, hd⟩ : ∃ d, j - k = d + 1 := ⟨j - k - 1, by omega⟩
      have h5 : 2 * m / 2 = m := by omega
      have h6 : j - k - 1 = d := by omega
      rw [hd, Nat.testBit_succ, h5]
      simp [h1, h2, h3]
def mem (s : Nat) : List Nat := (List.range 64).filter s.testBit
theorem filter_low {p q : Nat → Bool} {k : Nat} (hp : p k = true) (hq : ∀ j, j ≤ k → q j = false) (hlow : ∀ j, j < k → p j = false) (heq : ∀ j, k < j → p j = q j) :
    ∀ n, k < n → (List.range n).filter p = k :: (List.range n).filter q := by
  have hz : ∀ n, n ≤ k → (List.range n).filter p = [] ∧ (List.range n).filter q = [] := by
    intro n hn
    constructor <;> rw [List.filter_eq_nil_iff] <;> intro j hj <;> rw [List.mem_range] at hj
    · simp [hlow j (by omega)]
    · simp [hq j (by omega)]
  intro n
  induction n with
  | zero => intro h; omega
  | succ n ih =>
    intro hk
    rw [List.range_succ, List.filter_append, List.filter_append]
    by_cases h : k < n
    · rw [ih h]
      simp [List.filter_cons, heq n h]
    · have : k = n := by omega
      subst this
      obtain ⟨h1, h2⟩ := hz k (Nat.le_refl _)
      rw [h1, h2]
      simp [List.filter_cons, hp, hq k (Nat.le_refl _)]
theorem mem_zero : mem 0 = [] := by
  unfold mem
  rw [List.filter_eq_nil_iff]
  intro j _
  simp
theorem mem_low {k m : Nat} (hk : k < 64) : mem (2 ^ k * (2 * m + 1)) = k :: mem (2 ^ k * (2 * m)) := by
  unfold mem
  refine filter_low ?_ ?_ ?_ ?_ 64 hk
  · rw [bit_low]; simp
  · intro j hj
    rw [bit_high]
    have : ¬ k < j := by omega
    simp [this]
  · intro j hj
    rw [bit_low]
    have h1 : ¬ k < j := by omega
    have h2 : ¬ j = k := by omega
    simp [h1, h2]
  · intro j hj
    rw [bit_low, bit_high]
    have h2 : ¬ j = k := by omega
    simp [h2]
theorem mem_iff {s j : Nat} (hs : s < 2 ^ 64) : j ∈ mem s ↔ s.testBit j = true := by
  unfold mem
  rw [List.mem_filter, List.mem_range]
  refine ⟨fun h => h.2, fun h => ⟨?_, h⟩⟩
  by_cases hj : j < 64
  · exact hj
  · have : s.testBit j = false := Nat.testBit_lt_two_pow (Nat.lt_of_lt_of_le hs (Nat.pow_le_pow_right (by omega) (by omega)))
    rw [this] at h; cases h
theorem mem_length (s : Nat) : (mem s).length ≤ 64 := by
  unfold mem
  exact Nat.le_trans (List.length_filter_le _ _) (by simp)
end Go.AM
set_option maxRecDepth 100000
namespace Go.AM
open Go.Proofs
noncomputable def f_bits_TrailingZeros64 (C : CallF) (x : Int) : Option (List V) :=
  bif (x : Int) == 0 then
   some [.int .i64 64]
  else
   bif (decide (0 ≤ (Int.fdiv (IntKind.wrap .u64 (285870213051353865 * (IntKind.wrap .u64 ((BitVec.ofInt (IntKind.bits .u64) x &&& BitVec.ofInt (IntKind.bits .u64) (IntKind.wrap .u64 (0 - x))).toNat)))) (2 ^ (min (58 : Int).toNat (IntKind.bits .u64)))))) && (decide ((Int.fdiv (IntKind.wrap .u64 (285870213051353865 * (IntKind.wrap .u64 ((BitVec.ofInt (IntKind.bits .u64) x &&& BitVec.ofInt (IntKind.bits .u64) (IntKind.wrap .u64 (0 - x))).toNat)))) (2 ^ (min (58 : Int).toNat (IntKind.bits .u64)))) < 64)) then
    (((tab_0).drop ((Int.fdiv (IntKind.wrap .u64 (285870213051353865 * (IntKind.wrap .u64 ((BitVec.ofInt (IntKind.bits .u64) x &&& BitVec.ofInt (IntKind.bits .u64) (IntKind.wrap .u64 (0 - x))).toNat)))) (2 ^ (min (58 : Int).toNat (IntKind.bits .u64))) : Int).toNat * 1))[0]?).bind fun x1 =>
    bif typed1 Tryd.prog 5 x1 then
     some [.int .i64 (IntKind.wrap .i64 x1.toInt)]
    else none
   else none
theorem f_bits_TrailingZeros64_of {x : Int} {r : Option (List V)} (h : f_bits_TrailingZeros64 CC x = r) : CC F_bits_TrailingZeros64 [.int .u64 x] = r :=
  func_of (key := 62) (L := LT0) (bs := []) (by kernel_rfl) tells_nil (Eq.trans (by kernel_rfl) h)
end Go.AM
set_option maxRecDepth 100000
namespace Go.AM
open Go.Proofs
noncomputable abbrev B_relation_Members : Code := bodyOf Tryd.prog (ann.fid 43)
noncomputable def s_relation_Members_1 (C : CallF) (set' : Int) (memberss : List V) {β : Type} (kn : (Int × (List V)) → Option β) (kr : (Int × Bool × (List V)) → Option β) : Option β :=
  bif (set' : Int) != 0 then
   (C F_bits_TrailingZeros64 [.int .u64 set']).bind fun r1 =>
   bif Nat.ble ((memberss.length + ([.int .i64 ((V.nth r1 0).toInt)] : List V).length) * 8) maxBytes then
    kn (IntKind.wrap .u64 ((BitVec.ofInt (IntKind.bits .u64) set' &&& BitVec.ofInt (IntKind.bits .u64) (IntKind.wrap .u64 (set' - 1))).toNat), memberss ++ ([.int .i64 ((V.nth r1 0).toInt)] : List V))
   else none
  else
   kr (set', (set' : Int) != 0, memberss)
noncomputable def s_relation_Members_1L (C : CallF) : (Int × (List V)) → Option ((Int × (List V)) ⊕ (Int × Bool × (List V))) := un fun set' memberss => s_relation_Members_1 C set' memberss (fun y => some (.inl y)) (fun r => some (.inr r))
noncomputable def LT_relation_Members (C : CallF) : LTab := fun β n ds k =>
  bif Nat.beq n 33 then loopS S43_33 [true, true] [[0, 0, 0]] (@s_relation_Members_1 C) ds k else
  none
abbrev TS_relation_Members (C : CallF) (b : Bar) : Prop := Tells Tryd.prog ann C (LT_relation_Members C) 43 (ntmpsOf Tryd.prog (ann.fid 43)) (ann.sin 43).blks.length b
theorem t_relation_Members_1 (C : CallF) : TS_relation_Members C (.loop (codeAt [1, 1, 0, 0, 0] B_relation_Members)) :=
  tl3 S43_33 [true, true] [[0, 0, 0]] (@s_relation_Members_1 C) (by kernel_rfl) (ltok_of (bs := []) (by kernel_rfl) tells_nil) (fun ds => by kernel_rfl) (fun i x => by kernel_rfl) (fun i x β k => by kernel_rfl) (fun β ds k => by kernel_rfl)
noncomputable def f_relation_Members (C : CallF) (set' : Int) : Option (List V) :=
  (Loop (s_relation_Members_1L C) (set', ([] : List V))).bind (un fun (set_2 : Int) => un fun (t_3 : Bool) (memberss_4 : List V) =>
    some [.list T_int memberss_4])
theorem f_relation_Members_of {set' : Int} {r : Option (List V)} (h : f_relation_Members CC set' = r) : CC F_relation_Members [.int .u64 set'] = r :=
  func_of (key := 43) (L := LT_relation_Members CC) (bs := [.loop (codeAt [1, 1, 0, 0, 0] B_relation_Members)]) (by kernel_rfl) (tells_cons (t_relation_Members_1 CC) tells_nil) (Eq.trans (by kernel_rfl) h)
end Go.AM
set_option maxRecDepth 100000
set_option linter.unusedSimpArgs false
namespace Go.AM
open Go.Proofs
def bruijn (k : Nat) : Nat := 285870213051353865 * 2 ^ k % 18446744073709551616 / 288230376151711744
theorem bruijn_tab : (List.range 64).map (fun k => (tab_0.drop (bruijn k * 1))[0]?) = (List.range 64).map (fun k : Nat => some (V.int .u8 (k : Int))) := by kernel_rfl
theorem bruijn_lt : (List.range 64).all (fun k => Nat.blt (bruijn k) 64) = true := by kernel_rfl
theorem bruijn_at {k : Nat} (hk : k < 64) : (tab_0.drop (bruijn k * 1))[0]? = some (V.int .u8 (k : Int)) := by
  have h := congrArg (·[k]?) bruijn_tab
  simpa [hk] using h
theorem bruijn_lt' {k : Nat} (hk : k < 64) : bruijn k < 64 := by
  have h := List.all_eq_true.1 bruijn_lt k (List.mem_range.2 hk)
  simpa [Nat.blt_eq] using h
theorem typed_u8 (z : Int) : typed1 Tryd.prog 5 (.int .u8 z) = true := by kernel_rfl
theorem Trailing_spec {k m : Nat} (h : 2 ^ k * (2 * m + 1) < 2 ^ 64) : CC F_bits_TrailingZeros64 [.int .u64 ((2 ^ k * (2 * m + 1) : Nat) : Int)] = some [.int .i64 (k : Int)] := by
  obtain ⟨hk, hm⟩ := low_lt h
  have hpos : 0 < 2 ^ k * (2 * m + 1) := Nat.mul_pos (Nat.pos_of_ne_zero (by simp)) (by omega)
  refine f_bits_TrailingZeros64_of ?_
  unfold f_bits_TrailingZeros64
  generalize hx : 2 ^ k * (2 * m + 1) = x at *
  have e1 : IntKind.wrap .u64 (0 - (x : Int)) = ((2 ^ 64 - x : Nat) : Int) := by rw [wrap_u64]; omega
  have e2 : x &&& (2 ^ 64 - x) = 2 ^ k := by rw [← hx]; exact and_neg (by rw [hx]; exact h)
  have hk2 : 2 ^ k < 2 ^ 64 := Nat.pow_lt_pow_right (by omega) hk
  have e3 : IntKind.wrap .u64 (285870213051353865 * ((2 ^ k : Nat) : Int)) = ((285870213051353865 * 2 ^ k % 18446744073709551616 : Nat) : Int) := by rw [wrap_u64]; omega
  have e4 : Int.fdiv ((285870213051353865 * 2 ^ k % 18446744073709551616 : Nat) : Int) (2 ^ (min (58 : Int).toNat (IntKind.bits .u64))) = ((bruijn k : Nat) : Int) := by
    have := u64_shr (A := 285870213051353865 * 2 ^ k % 18446744073709551616) (m := 58) (by omega)
    exact this
  rw [bif_beq, if_neg (by omega), e1, u64_and h (by omega), e2, e3, e4, Int.toNat_natCast, bruijn_at hk]
  have hb := bruijn_lt' hk
  rw [bif_and, bif_decide, if_pos (by omega), bif_decide, if_pos (by omega)]
  simp only [Option.bind_some, typed_u8, cond_true, V.toInt_int]
  rw [wrap64 (by omega) (by omega)]
def encI (l : List Nat) : List V := l.map fun (k : Nat) => V.int .i64 (k : Int)
theorem maxB : maxBytes = 35184372088832 := by unfold maxBytes; rfl
theorem Members_loop : ∀ (s : Nat), s < 2 ^ 64 → ∀ acc : List V, acc.length + (mem s).length ≤ 64 → Loop (s_relation_Members_1L CC) ((s : Int), acc) = some (0, false, acc ++ encI (mem s)) := by
  intro s
  induction s using Nat.strongRecOn with
  | ind s ih =>
    intro hs acc hl
    by_cases h0 : s = 0
    · subst h0
      refine Loop_end ?_
      simp [s_relation_Members_1L, s_relation_Members_1, un, mem_zero, encI]
    · obtain ⟨k, m, rfl⟩ := low_form s h0
      obtain ⟨hk, hm⟩ := low_lt hs
      have hpos : 0 < 2 ^ k := Nat.pos_of_ne_zero (by simp)
      have hlt : 2 ^ k * (2 * m) < 2 ^ k * (2 * m + 1) := Nat.mul_lt_mul_of_pos_left (by omega) hpos
      have hmem := mem_low (m := m) hk
      rw [hmem, List.length_cons] at hl
      have hp : ((2 ^ k * (2 * m + 1) : Nat) : Int) - 1 = ((2 ^ k * (2 * m + 1) - 1 : Nat) : Int) := by omega
      have hst : s_relation_Members_1L CC (((2 ^ k * (2 * m + 1) : Nat) : Int), acc) = some (.inl (((2 ^ k * (2 * m) : Nat) : Int), acc ++ [V.int .i64 (k : Int)])) := by
        simp only [s_relation_Members_1L, s_relation_Members_1, un]
        rw [bif_bne, if_neg (by omega), Trailing_spec hs]
        simp only [Option.bind_some, V.nth_zero, V.toInt_int]
        rw [hp, wrapu64 (A := 2 ^ k * (2 * m + 1) - 1) (by omega), u64_and hs (by omega), and_pred, bif_ble, if_pos (by rw [maxB]; simp only [List.length_cons, List.length_nil]; omega)]
      rw [Loop_norm hst, ih _ hlt (by omega) _ (by simp only [List.length_append, List.length_cons, List.length_nil]; omega), hmem]
      simp [encI]
theorem Members_spec {s : Nat} (hs : s < 2 ^ 64) : CC F_relation_Members [.int .u64 (s : Int)] = some [.list T_int (encI (mem s))] := by
  refine f_relation_Members_of ?_
  unfold f_relation_Members
  have := Members_loop s hs [] (by simpa using mem_length s)
  rw [this]
  simp [un]
end Go.AM
set_option maxRecDepth 100000
set_option linter.unusedSimpArgs false
namespace Go.AM
open Go.Proofs
theorem Ed.In.nat {L S : Int} {e : Ed} (h : e.In L S) (hS : S ≤ 64) : ∃ f t : Nat, e.f = (f : Int) ∧ e.t = (t : Int) ∧ f < 64 ∧ t < 64 ∧ f < S.toNat ∧ t < S.toNat := by
  unfold Ed.In at h
  exact ⟨e.f.toNat, e.t.toNat, by omega, by omega, by omega, by omega, by omega, by omega⟩
theorem getD_mem {E : List Ed} {i : Nat} (h : i < E.length) : E.getD i default = E[i] := by simp [h]
end Go.AM
set_option maxRecDepth 100000
namespace Go.AM
open Go.Proofs
noncomputable abbrev B_semigroupref06_Sorted : Code := bodyOf Tryd.prog (ann.fid 48)
noncomputable def s_semigroupref06_Sorted_1 (C : CallF) (t7 : List V) (t8 t9 : Int) (outs : List V) (es_0 es_1 es_2 k' : Int) {β : Type} (kn : Int → Option β) (kr : (Int × Bool) → Option β) : Option β :=
  bif decide ((k' : Int) > 0) then
   bif (decide (0 ≤ (IntKind.wrap .i64 (k' - 1)))) && (decide ((IntKind.wrap .i64 (k' - 1)) < (outs.length : Int))) then
    (outs[(IntKind.wrap .i64 (k' - 1) : Int).toNat]?).bind fun x2 =>
    (C F_semigroupref06_before [.int .i64 es_0, .int .i64 es_1, .int .i64 es_2, .int .i64 ((x2.cell 0).toInt), .int .i64 ((x2.cell 1).toInt), .int .i64 ((x2.cell 2).toInt)]).bind fun r3 =>
    bif (V.nth r3 0).toBool then
     kn (IntKind.wrap .i64 (k' - 1))
    else
     kr (k', (V.nth r3 0).toBool)
   else none
  else
   kr (k', false)
noncomputable def s_semigroupref06_Sorted_1L (C : CallF) (t7 : List V) (t8 t9 : Int) (outs : List V) (es_0 es_1 es_2 : Int) : (Int) → Option ((Int) ⊕ (Int × Bool)) := fun k' => s_semigroupref06_Sorted_1 C t7 t8 t9 outs es_0 es_1 es_2 k' (fun y => some (.inl y)) (fun r => some (.inr r))
noncomputable def s_semigroupref06_Sorted_2 (C : CallF) (t7 : List V) (t8 t9 : Int) (outs : List V) {β : Type} (kn : (Int × (List V)) → Option β) (kr : (Int × Bool × (List V)) → Option β) : Option β :=
  bif decide ((t9 : Int) < t8) then
   (idx t7 t9).bind fun x1 =>
   (Loop (s_semigroupref06_Sorted_1L C t7 t8 t9 outs ((x1.cell 0).toInt) ((x1.cell 1).toInt) ((x1.cell 2).toInt)) (outs.length : Int)).bind (un fun (k_4 : Int) (t_5 : Bool) =>
     bif (k_4 : Int) == 0 then
      bif (decide (0 ≤ k_4)) && (decide (k_4 ≤ (outs.length : Int))) then
       bif Nat.ble ((([] : List V).length + ((outs.drop 0).take (((k_4 : Int).toNat) - 0)).length) * 24) maxBytes then
        bif Nat.ble (((([] : List V) ++ ((outs.drop 0).take (((k_4 : Int).toNat) - 0))).length + ([.agg [.int .i64 ((x1.cell 0).toInt), .int .i64 ((x1.cell 1).toInt), .int .i64 ((x1.cell 2).toInt)]] : List V).length) * 24) maxBytes then
         bif (decide (0 ≤ k_4)) && (decide (k_4 ≤ (outs.length : Int))) then
          bif Nat.ble ((((([] : List V) ++ ((outs.drop 0).take (((k_4 : Int).toNat) - 0))) ++ ([.agg [.int .i64 ((x1.cell 0).toInt), .int .i64 ((x1.cell 1).toInt), .int .i64 ((x1.cell 2).toInt)]] : List V)).length + ((outs.drop ((k_4 : Int).toNat)).take (outs.length - ((k_4 : Int).toNat))).length) * 24) maxBytes then
           kn (IntKind.wrap .i64 (t9 + 1), ((([] : List V) ++ ((outs.drop 0).take (((k_4 : Int).toNat) - 0))) ++ ([.agg [.int .i64 ((x1.cell 0).toInt), .int .i64 ((x1.cell 1).toInt), .int .i64 ((x1.cell 2).toInt)]] : List V)) ++ ((outs.drop ((k_4 : Int).toNat)).take (outs.length - ((k_4 : Int).toNat))))
          else none
         else none
        else none
       else none
      else none
     else
      bif (decide (0 ≤ (IntKind.wrap .i64 (k_4 - 1)))) && (decide ((IntKind.wrap .i64 (k_4 - 1)) < (outs.length : Int))) then
       (outs[(IntKind.wrap .i64 (k_4 - 1) : Int).toNat]?).bind fun x6 =>
       bif !(((((x6.cell 0).toInt) : Int) == ((x1.cell 0).toInt)) && (((((x6.cell 1).toInt) : Int) == ((x1.cell 1).toInt)) && (((((x6.cell 2).toInt) : Int) == ((x1.cell 2).toInt)) && true))) then
        bif (decide (0 ≤ k_4)) && (decide (k_4 ≤ (outs.length : Int))) then
         bif Nat.ble ((([] : List V).length + ((outs.drop 0).take (((k_4 : Int).toNat) - 0)).length) * 24) maxBytes then
          bif Nat.ble (((([] : List V) ++ ((outs.drop 0).take (((k_4 : Int).toNat) - 0))).length + ([.agg [.int .i64 ((x1.cell 0).toInt), .int .i64 ((x1.cell 1).toInt), .int .i64 ((x1.cell 2).toInt)]] : List V).length) * 24) maxBytes then
           bif (decide (0 ≤ k_4)) && (decide (k_4 ≤ (outs.length : Int))) then
            bif Nat.ble ((((([] : List V) ++ ((outs.drop 0).take (((k_4 : Int).toNat) - 0))) ++ ([.agg [.int .i64 ((x1.cell 0).toInt), .int .i64 ((x1.cell 1).toInt), .int .i64 ((x1.cell 2).toInt)]] : List V)).length + ((outs.drop ((k_4 : Int).toNat)).take (outs.length - ((k_4 : Int).toNat))).length) * 24) maxBytes then
             kn (IntKind.wrap .i64 (t9 + 1), ((([] : List V) ++ ((outs.drop 0).take (((k_4 : Int).toNat) - 0))) ++ ([.agg [.int .i64 ((x1.cell 0).toInt), .int .i64 ((x1.cell 1).toInt), .int .i64 ((x1.cell 2).toInt)]] : List V)) ++ ((outs.drop ((k_4 : Int).toNat)).take (outs.length - ((k_4 : Int).toNat))))
            else none
           else none
          else none
         else none
        else none
       else
        kn (IntKind.wrap .i64 (t9 + 1), outs)
      else none)
  else
   kr (t9, decide ((t9 : Int) < t8), outs)
noncomputable def s_semigroupref06_Sorted_2L (C : CallF) (t7 : List V) (t8 : Int) : (Int × (List V)) → Option ((Int × (List V)) ⊕ (Int × Bool × (List V))) := un fun t9 outs => s_semigroupref06_Sorted_2 C t7 t8 t9 outs (fun y => some (.inl y)) (fun r => some (.inr r))
noncomputable def LT_semigroupref06_Sorted (C : CallF) : LTab := fun β n ds k =>
  bif Nat.beq n 97 then loopS S48_97 [true, false, false, false, false, false, false, false] [[0, 2, 3, 4, 0, 5, 6, 7, 8]] (@s_semigroupref06_Sorted_1 C) ds k else
  bif Nat.beq n 49 then loopS S48_49 [false, false, true, true] [[1, 2, 0, 0, 0]] (@s_semigroupref06_Sorted_2 C) ds k else
  none
abbrev TS_semigroupref06_Sorted (C : CallF) (b : Bar) : Prop := Tells Tryd.prog ann C (LT_semigroupref06_Sorted C) 48 (ntmpsOf Tryd.prog (ann.fid 48)) (ann.sin 48).blks.length b
theorem t_semigroupref06_Sorted_1 (C : CallF) : TS_semigroupref06_Sorted C (.loop (codeAt [1, 1, 0, 1, 0, 0, 1, 1, 0, 0, 1, 1, 0, 0, 0] B_semigroupref06_Sorted)) :=
  tl3 S48_97 [true, false, false, false, false, false, false, false] [[0, 2, 3, 4, 0, 5, 6, 7, 8]] (@s_semigroupref06_Sorted_1 C) (by kernel_rfl) (ltok_of (bs := []) (by kernel_rfl) tells_nil) (fun ds => by kernel_rfl) (fun i x => by kernel_rfl) (fun i x β k => by kernel_rfl) (fun β ds k => by kernel_rfl)
theorem t_semigroupref06_Sorted_2 (C : CallF) : TS_semigroupref06_Sorted C (.loop (codeAt [1, 1, 0, 1, 0, 0] B_semigroupref06_Sorted)) :=
  tl3 S48_49 [false, false, true, true] [[1, 2, 0, 0, 0]] (@s_semigroupref06_Sorted_2 C) (by kernel_rfl) (ltok_of (bs := [.loop (codeAt [1, 1, 0, 1, 0, 0, 1, 1, 0, 0, 1, 1, 0, 0, 0] B_semigroupref06_Sorted)]) (by kernel_rfl) (tells_cons (t_semigroupref06_Sorted_1 C) tells_nil)) (fun ds => by kernel_rfl) (fun i x => by kernel_rfl) (fun i x β k => by kernel_rfl) (fun β ds k => by kernel_rfl)
noncomputable def f_semigroupref06_Sorted (C : CallF) (l : List V) : Option (List V) :=
  (Loop (s_semigroupref06_Sorted_2L C l (l.length : Int)) (0, ([] : List V))).bind (un fun (t_7 : Int) => un fun (t_8 : Bool) (outs_9 : List V) =>
    some [.list T_api_Edge outs_9])
theorem f_semigroupref06_Sorted_of {l : List V} {r : Option (List V)} (h : f_semigroupref06_Sorted CC l = r) : CC F_semigroupref06_Sorted [.list T_api_Edge l] = r :=
  func_of (key := 48) (L := LT_semigroupref06_Sorted CC) (bs := [.loop (codeAt [1, 1, 0, 1, 0, 0] B_semigroupref06_Sorted)]) (by kernel_rfl) (tells_cons (t_semigroupref06_Sorted_2 CC) tells_nil) (Eq.trans (by kernel_rfl) h)
end Go.AM
set_option maxRecDepth 100000
namespace Go.AM
open Go.Proofs
noncomputable abbrev B_semigroupref06_Same : Code := bodyOf Tryd.prog (ann.fid 16)
noncomputable def s_semigroupref06_Same_1 (C : CallF) (t43 as_0 as_1 as_2 as_3 : Int) (as_4 : List V) (b's_0 b's_1 b's_2 b's_3 : Int) (b's_4 : List V) (t44 : Int) {β : Type} (kn : Int → Option β) (kr : ((Bool) ⊕ (Int × Bool)) → Option β) : Option β :=
  bif decide ((t44 : Int) < t43) then
   (idx as_4 t44).bind fun x1 =>
   (idx b's_4 t44).bind fun x2 =>
   bif !(((((x1.cell 0).toInt) : Int) == ((x2.cell 0).toInt)) && (((((x1.cell 1).toInt) : Int) == ((x2.cell 1).toInt)) && (((((x1.cell 2).toInt) : Int) == ((x2.cell 2).toInt)) && true))) then
    kr (.inl false)
   else
    kn (IntKind.wrap .i64 (t44 + 1))
  else
   kr (.inr (t44, decide ((t44 : Int) < t43)))
noncomputable def s_semigroupref06_Same_1L (C : CallF) (t43 as_0 as_1 as_2 as_3 : Int) (as_4 : List V) (b's_0 b's_1 b's_2 b's_3 : Int) (b's_4 : List V) : (Int) → Option ((Int) ⊕ ((Bool) ⊕ (Int × Bool))) := fun t44 => s_semigroupref06_Same_1 C t43 as_0 as_1 as_2 as_3 as_4 b's_0 b's_1 b's_2 b's_3 b's_4 t44 (fun y => some (.inl y)) (fun r => some (.inr r))
noncomputable def LT_semigroupref06_Same (C : CallF) : LTab := fun β n ds k =>
  bif Nat.beq n 65 then loopS S16_65 [false, true, false, false, false, false, false, false, false, false, false, false] [[0], [1, 0, 0, 3, 4, 5, 6, 7, 8, 9, 10, 11, 12]] (@s_semigroupref06_Same_1 C) ds k else
  none
abbrev TS_semigroupref06_Same (C : CallF) (b : Bar) : Prop := Tells Tryd.prog ann C (LT_semigroupref06_Same C) 16 (ntmpsOf Tryd.prog (ann.fid 16)) (ann.sin 16).blks.length b
theorem t_semigroupref06_Same_1 (C : CallF) : TS_semigroupref06_Same C (.loop (codeAt [1, 1, 0, 1, 0, 0] B_semigroupref06_Same)) :=
  tl3 S16_65 [false, true, false, false, false, false, false, false, false, false, false, false] [[0], [1, 0, 0, 3, 4, 5, 6, 7, 8, 9, 10, 11, 12]] (@s_semigroupref06_Same_1 C) (by kernel_rfl) (ltok_of (bs := []) (by kernel_rfl) tells_nil) (fun ds => by kernel_rfl) (fun i x => by kernel_rfl) (fun i x β k => by kernel_rfl) (fun β ds k => by kernel_rfl)
noncomputable def f_semigroupref06_Same (C : CallF) (a_0 a_1 a_2 a_3 : Int) (a_4 : List V) (b'_0 b'_1 b'_2 b'_3 : Int) (b'_4 : List V) : Option (List V) :=
  bif (a_0 : Int) != b'_0 then
   some [.bool false]
  else
   bif (a_1 : Int) != b'_1 then
    some [.bool false]
   else
    bif (a_2 : Int) != b'_2 then
     some [.bool false]
    else
     bif (a_3 : Int) != b'_3 then
      some [.bool false]
     else
      bif ((a_4.length : Int) : Int) != (b'_4.length : Int) then
       some [.bool false]
      else
       (Loop (s_semigroupref06_Same_1L C (a_4.length : Int) a_0 a_1 a_2 a_3 a_4 b'_0 b'_1 b'_2 b'_3 b'_4) 0).bind (way2 (fun (t_3 : Bool) =>
         some [.bool t_3]) (un fun (t_4 : Int) (t_5 : Bool) =>
         some [.bool true]))
theorem f_semigroupref06_Same_of {a_0 a_1 a_2 a_3 : Int} {a_4 : List V} {b'_0 b'_1 b'_2 b'_3 : Int} {b'_4 : List V} {r : Option (List V)} (h : f_semigroupref06_Same CC a_0 a_1 a_2 a_3 a_4 b'_0 b'_1 b'_2 b'_3 b'_4 = r) : CC F_semigroupref06_Same [.int .i64 a_0, .int .i64 a_1, .int .u64 a_2, .int .u64 a_3, .list T_api_Edge a_4, .int .i64 b'_0, .int .i64 b'_1, .int .u64 b'_2, .int .u64 b'_3, .list T_api_Edge b'_4] = r :=
  func_of (key := 16) (L := LT_semigroupref06_Same CC) (bs := [.loop (codeAt [1, 1, 0, 1, 0, 0] B_semigroupref06_Same)]) (by kernel_rfl) (tells_cons (t_semigroupref06_Same_1 CC) tells_nil) (Eq.trans (by kernel_rfl) h)
end Go.AM
set_option maxRecDepth 100000
set_option linter.unusedSimpArgs false
set_option maxHeartbeats 1000000
namespace Go.AM
open Go.Proofs
theorem Ed.lt_irrefl (a : Ed) : ¬ a.lt a := by unfold Ed.lt; omega
theorem Ed.lt_trans {a b c : Ed} : a.lt b → b.lt c → a.lt c := by unfold Ed.lt; omega
theorem Ed.lt_asymm {a b : Ed} : a.lt b → ¬ b.lt a := by unfold Ed.lt; omega
theorem Ed.lt_tri {a b : Ed} (h1 : ¬ a.lt b) (h2 : ¬ b.lt a) : a = b := by
  cases a; cases b
  simp only [Ed.lt, Ed.mk.injEq] at *
  omega
abbrev Srt (E : List Ed) : Prop := E.Pairwise Ed.lt
theorem srt_of_next {E : List Ed} (h : ∀ i, i + 1 < E.length → (E.getD i default).lt (E.getD (i + 1) default)) : Srt E := by
  rw [Srt, List.pairwise_iff_getElem]
  intro i j hi hj hij
  have : ∀ d i, i + d + 1 < E.length → (E.getD i default).lt (E.getD (i + d + 1) default) := by
    intro d
    induction d with
    | zero => intro i hi; exact h i hi
    | succ d ih => intro i hi; exact Ed.lt_trans (ih i (by omega)) (by have := h (i + d + 1) (by omega); exact this)
  have h1 := this (j - i - 1) i (by omega)
  rw [show i + (j - i - 1) + 1 = j by omega] at h1
  simpa [hi, hj] using h1
theorem Nf.srt {n : Nf} (h : n.code = 0) : Srt n.E := by
  unfold Nf.code at h
  split at h
  · omega
  split at h
  · omega
  split at h
  · rename_i h3
    refine srt_of_next fun i hi => ?_
    have := (h3 (i + 1) hi).2 (by omega)
    simpa using this
  · omega
def Ed.key (e : Ed) : Nat := (e.f.toNat * 6 + e.l.toNat) * 64 + e.t.toNat
theorem Ed.key_lt {a b : Ed} {L S : Int} (hL : L ≤ 6) (hS : S ≤ 64) (ha : a.In L S) (hb : b.In L S) (h : a.lt b) : a.key < b.key := by
  unfold Ed.In at ha hb
  unfold Ed.lt at h
  unfold Ed.key
  omega
theorem key_ge {L S : Int} (hL : L ≤ 6) (hS : S ≤ 64) : ∀ (E : List Ed), Srt E → (∀ e ∈ E, e.In L S) → ∀ i (hi : i < E.length), i ≤ E[i].key := by
  intro E h hE i
  induction i with
  | zero => intro hi; omega
  | succ i ih =>
    intro hi
    have h1 := ih (by omega)
    have h2 := (List.pairwise_iff_getElem.1 h) i (i + 1) (by omega) hi (by omega)
    have := Ed.key_lt hL hS (hE _ (List.getElem_mem _)) (hE _ (List.getElem_mem _)) h2
    omega
theorem srt_len {L S : Int} (hL : L ≤ 6) (hS : S ≤ 64) {E : List Ed} (h : Srt E) (hE : ∀ e ∈ E, e.In L S) : E.length ≤ 24576 := by
  by_cases h0 : E.length = 0
  · omega
  · have h1 := key_ge hL hS E h hE (E.length - 1) (by omega)
    have h2 := hE E[E.length - 1] (List.getElem_mem _)
    unfold Ed.In at h2
    unfold Ed.key at h1
    omega
theorem srt_ext : ∀ {A B : List Ed}, Srt A → Srt B → (∀ x, x ∈ A ↔ x ∈ B) → A = B
  | [], [], _, _, _ => rfl
  | [], b :: B, _, _, h => by have := (h b).2 (by simp); cases this
  | a :: A, [], _, _, h => by have := (h a).1 (by simp); cases this
  | a :: A, b :: B, hA, hB, h => by
    have a1 := List.pairwise_cons.1 hA
    have b1 := List.pairwise_cons.1 hB
    have hab : a = b := by
      have ha := (h a).1 (by simp)
      have hb := (h b).2 (by simp)
      rcases List.mem_cons.1 ha with e | e
      · exact e
      · rcases List.mem_cons.1 hb with e' | e'
        · exact e'.symm
        · exact absurd (a1.1 b e') (Ed.lt_asymm (b1.1 a e))
    subst hab
    rw [srt_ext a1.2 b1.2 fun x => ?_]
    constructor
    · intro hx
      rcases List.mem_cons.1 ((h x).1 (by simp [hx])) with e | e
      · subst e; exact absurd (a1.1 x hx) (Ed.lt_irrefl x)
      · exact e
    · intro hx
      rcases List.mem_cons.1 ((h x).2 (by simp [hx])) with e | e
      · subst e; exact absurd (b1.1 x hx) (Ed.lt_irrefl x)
      · exact e
theorem srt_nodup {E : List Ed} (h : Srt E) : E.Nodup := List.Pairwise.imp (fun hab e => by subst e; exact Ed.lt_irrefl _ hab) h
theorem srt_of_sort {R l : List Ed} (hp : R.Perm l) (hn : l.Nodup) (hs : R.Pairwise (fun x y => ¬ y.lt x)) : Srt R := by
  have hn' : R.Nodup := hp.nodup_iff.2 hn
  refine List.Pairwise.imp₂ (fun a b h1 h2 => ?_) hs hn'
  by_cases h : a.lt b
  · exact h
  · exact absurd (Ed.lt_tri h h1) h2
def posE (out : List Ed) (e : Ed) : Nat → Nat
  | 0 => 0
  | k + 1 => if e.lt (out.getD k default) then posE out e k else k + 1
def insE (out : List Ed) (e : Ed) : List Ed :=
  if posE out e out.length = 0 ∨ ¬ out.getD (posE out e out.length - 1) default = e then out.take (posE out e out.length) ++ [e] ++ out.drop (posE out e out.length) else out
def sortedN (l : List Ed) : List Ed := l.foldl insE []
theorem posE_le (out : List Ed) (e : Ed) : ∀ k, posE out e k ≤ k
  | 0 => Nat.le_refl _
  | k + 1 => by unfold posE; split; exact Nat.le_succ_of_le (posE_le out e k); exact Nat.le_refl _
theorem posE_up (out : List Ed) (e : Ed) : ∀ k i, posE out e k ≤ i → i < k → e.lt (out.getD i default)
  | 0, i, _, h => by omega
  | k + 1, i, h1, h2 => by
    unfold posE at h1
    split at h1
    · rename_i h3
      by_cases hi : i = k
      · subst hi; exact h3
      · exact posE_up out e k i h1 (by omega)
    · omega
theorem posE_dn (out : List Ed) (e : Ed) : ∀ k, posE out e k ≠ 0 → ¬ e.lt (out.getD (posE out e k - 1) default)
  | 0, h => by simp [posE] at h
  | k + 1, h => by
    unfold posE at h ⊢
    split
    · rename_i h3
      rw [if_pos h3] at h
      exact posE_dn out e k h
    · rename_i h3
      simpa using h3
theorem insE_mem {out : List Ed} {e x : Ed} (hk : posE out e out.length ≤ out.length) : x ∈ insE out e ↔ x = e ∨ x ∈ out := by
  unfold insE
  split
  · rename_i h
    have := List.take_append_drop (posE out e out.length) out
    constructor
    · intro hx
      simp only [List.append_assoc, List.mem_append, List.mem_singleton] at hx
      rcases hx with hx | hx | hx
      · exact .inr (List.mem_of_mem_take hx)
      · exact .inl hx
      · exact .inr (List.mem_of_mem_drop hx)
    · rintro (rfl | hx)
      · simp
      · rw [← this] at hx
        simp only [List.mem_append] at hx
        simp only [List.append_assoc, List.mem_append, List.mem_singleton]
        rcases hx with hx | hx
        · exact .inl hx
        · exact .inr (.inr hx)
  · rename_i h
    simp only [not_or, Classical.not_not] at h
    constructor
    · exact .inr
    · rintro (rfl | hx)
      · have h1 := h.2
        have h2 : posE out x out.length - 1 < out.length := by omega
        rw [← h1]
        simp [h2]
      · exact hx
theorem insE_srt {out : List Ed} {e : Ed} (h : Srt out) : Srt (insE out e) := by
  have hk := posE_le out e out.length
  have up := posE_up out e out.length
  have dn := posE_dn out e out.length
  unfold insE
  generalize hq : posE out e out.length = k at *
  split
  · rename_i hc
    have g := List.pairwise_iff_getElem.1 h
    have hlo : ∀ x ∈ out.take k, x.lt e := by
      intro x hx
      obtain ⟨i, hi, rfl⟩ := List.getElem_of_mem hx
      have hi' : i < k := by rw [List.length_take] at hi; omega
      have hil : i < out.length := by omega
      rw [List.getElem_take]
      have hk0 : k ≠ 0 := by omega
      have h1 := dn hk0
      have h2 : ¬ out.getD (k - 1) default = e := by
        rcases hc with hc | hc
        · exact absurd hc hk0
        · exact hc
      have hkl : k - 1 < out.length := by omega
      have e1 : out.getD (k - 1) default = out[k - 1] := by simp [hkl]
      rw [e1] at h1 h2
      have h3 : out[k - 1].lt e := by
        by_cases h4 : out[k - 1].lt e
        · exact h4
        · exact absurd (Ed.lt_tri h4 h1) h2
      by_cases hik : i = k - 1
      · subst hik; exact h3
      · exact Ed.lt_trans (g i (k - 1) hil hkl (by omega)) h3
    have hhi : ∀ y ∈ out.drop k, e.lt y := by
      intro y hy
      obtain ⟨i, hi, rfl⟩ := List.getElem_of_mem hy
      rw [List.length_drop] at hi
      rw [List.getElem_drop]
      have := up (k + i) (by omega) (by omega)
      have e1 : out.getD (k + i) default = out[k + i] := by simp [show k + i < out.length by omega]
      rwa [e1] at this
    rw [Srt, List.append_assoc, List.pairwise_append]
    refine ⟨h.sublist (List.take_sublist _ _), ?_, ?_⟩
    · rw [List.singleton_append, List.pairwise_cons]
      exact ⟨hhi, h.sublist (List.drop_sublist _ _)⟩
    · intro x hx y hy
      rw [List.singleton_append, List.mem_cons] at hy
      rcases hy with rfl | hy
      · exact hlo x hx
      · exact Ed.lt_trans (hlo x hx) (hhi y hy)
  · exact h
theorem insFold : ∀ (l out : List Ed), Srt out → Srt (l.foldl insE out) ∧ ∀ x, x ∈ l.foldl insE out ↔ x ∈ l ∨ x ∈ out
  | [], out, h => ⟨h, by simp⟩
  | e :: l, out, h => by
    obtain ⟨h1, h2⟩ := insFold l (insE out e) (insE_srt h)
    refine ⟨h1, fun x => ?_⟩
    rw [List.foldl_cons, h2, insE_mem (posE_le _ _ _)]
    simp only [List.mem_cons]
    constructor
    · rintro (h | h | h)
      · exact .inl (.inr h)
      · exact .inl (.inl h)
      · exact .inr h
    · rintro ((h | h) | h)
      · exact .inr (.inl h)
      · exact .inl h
      · exact .inr (.inr h)
theorem sortedN_srt (l : List Ed) : Srt (sortedN l) := (insFold l [] List.Pairwise.nil).1
theorem sortedN_mem {l : List Ed} {x : Ed} : x ∈ sortedN l ↔ x ∈ l := by
  have := (insFold l [] List.Pairwise.nil).2 x
  simpa [sortedN] using this
theorem insE_len (out : List Ed) (e : Ed) : (insE out e).length ≤ out.length + 1 := by
  unfold insE
  have := posE_le out e out.length
  split
  · simp only [List.length_append, List.length_take, List.length_drop, List.length_cons, List.length_nil]; omega
  · omega
theorem sorted_1 {out : List Ed} {e : Ed} {t7 : List V} {t8 t9 : Int} : ∀ k, k ≤ out.length → out.length < 1152921504606846976 → ∃ t, Loop (s_semigroupref06_Sorted_1L CC t7 t8 t9 (out.map Ed.enc) e.f e.l e.t) (k : Int) = some (((posE out e k : Nat) : Int), t)
  | 0, _, _ => ⟨false, Loop_end (by
      simp (disch := omega) only [s_semigroupref06_Sorted_1L, s_semigroupref06_Sorted_1, bif_decide, if_neg]
      rfl)⟩
  | k + 1, hk, hs => by
    obtain ⟨t, ih⟩ := sorted_1 (out := out) (e := e) (t7 := t7) (t8 := t8) (t9 := t9) k (by omega) hs
    have e1 : s_semigroupref06_Sorted_1L CC t7 t8 t9 (out.map Ed.enc) e.f e.l e.t ((k + 1 : Nat) : Int) = bif decide (e.lt (out.getD k default)) then some (.inl (k : Int)) else some (.inr (((k + 1 : Nat) : Int), decide (e.lt (out.getD k default)))) := by
      simp only [s_semigroupref06_Sorted_1L, s_semigroupref06_Sorted_1]
      rw [bif_decide, if_pos (by omega), predC, wrap64 (by omega) (by omega), bif_and, bif_decide, if_pos (by omega), bif_decide, if_pos (by rw [List.length_map]; omega), Int.toNat_natCast]
      have hg : (out.map Ed.enc)[k]? = some (out.getD k default).enc := by
        rw [List.getElem?_map, List.getElem?_eq_getElem (by omega)]; simp [show k < out.length by omega]
      rw [hg]
      simp only [Option.bind_some, Ed.enc_0, Ed.enc_1, Ed.enc_2, before_spec, V.nth_zero, V.toBool_bool]
    unfold posE
    by_cases h : e.lt (out.getD k default)
    · rw [if_pos h]
      rw [decide_eq_true h, cond_true] at e1
      exact ⟨t, (Loop_norm e1).trans ih⟩
    · rw [if_neg h]
      rw [decide_eq_false h, cond_false] at e1
      exact ⟨_, Loop_end e1⟩
theorem edeq (a b : Ed) : ((a.f == b.f) && ((a.l == b.l) && ((a.t == b.t) && true))) = decide (a = b) := by
  cases a; cases b
  rw [Bool.eq_iff_iff]
  simp
theorem takeDrop (out : List Ed) (k : Nat) (e : Ed) : ((([] : List V) ++ (((out.map Ed.enc).drop 0).take (k - 0))) ++ ([e.enc] : List V)) ++ (((out.map Ed.enc).drop k).take ((out.map Ed.enc).length - k)) = (out.take k ++ [e] ++ out.drop k).map Ed.enc := by
  simp
  rw [List.take_of_length_le (by simp)]
theorem Sorted_spec {l : List Ed} (hl : l.length ≤ 1000000000) : CC F_semigroupref06_Sorted [.list T_api_Edge (l.map Ed.enc)] = some [.list T_api_Edge ((sortedN l).map Ed.enc)] := by
  refine f_semigroupref06_Sorted_of ?_
  unfold f_semigroupref06_Sorted
  have := Loop_foldI (step := s_semigroupref06_Sorted_2L CC (l.map Ed.enc) ((l.map Ed.enc).length : Int)) l (fun i (out : List Ed) => ((i : Int), out.map Ed.enc)) insE (fun out => ((l.length : Int), false, out.map Ed.enc)) (fun i out => out.length ≤ i) ?_ ?_ [] (Nat.le_refl _)
  · rw [show Loop (s_semigroupref06_Sorted_2L CC (l.map Ed.enc) ((l.map Ed.enc).length : Int)) (0, ([] : List V)) = _ from this.1]
    rfl
  · intro i out hi ho
    refine ⟨?_, Nat.le_trans (insE_len _ _) (by omega)⟩
    obtain ⟨t, h1⟩ := sorted_1 (out := out) (e := l[i]) (t7 := l.map Ed.enc) (t8 := ((l.map Ed.enc).length : Int)) (t9 := (i : Int)) out.length (Nat.le_refl _) (by omega)
    have hk := posE_le out l[i] out.length
    simp only [s_semigroupref06_Sorted_2L, s_semigroupref06_Sorted_2, un]
    rw [bif_decide, if_pos (by rw [List.length_map]; omega), idx_ed hi, getD_mem hi]
    simp only [Option.bind_some, Ed.enc_0, Ed.enc_1, Ed.enc_2]
    rw [show ((out.map Ed.enc).length : Int) = ((out.length : Nat) : Int) by simp, h1]
    simp only [Option.bind_some, un, Ed.re]
    unfold insE
    generalize posE out l[i] out.length = k at *
    have hput : ∀ X : Option (((Int × List V)) ⊕ (Int × Bool × List V)), X = some (.inl (IntKind.wrap .i64 ((i : Int) + 1), ((([] : List V) ++ (((out.map Ed.enc).drop 0).take (((k : Int).toNat) - 0))) ++ ([l[i].enc] : List V)) ++ (((out.map Ed.enc).drop ((k : Int).toNat)).take ((out.map Ed.enc).length - ((k : Int).toNat))))) →
        X = some (.inl (((i + 1 : Nat) : Int), (out.take k ++ [l[i]] ++ out.drop k).map Ed.enc)) := by
      intro X hX
      rw [hX, Int.toNat_natCast, takeDrop, succC, wrap64 (by omega) (by omega)]
    have lens : (([] : List V).length + (((out.map Ed.enc).drop 0).take (((k : Int).toNat) - 0)).length) * 24 ≤ maxBytes ∧
        ((([] : List V) ++ (((out.map Ed.enc).drop 0).take (((k : Int).toNat) - 0))).length + ([l[i].enc] : List V).length) * 24 ≤ maxBytes ∧
        (((([] : List V) ++ (((out.map Ed.enc).drop 0).take (((k : Int).toNat) - 0))) ++ ([l[i].enc] : List V)).length + (((out.map Ed.enc).drop ((k : Int).toNat)).take ((out.map Ed.enc).length - ((k : Int).toNat))).length) * 24 ≤ maxBytes := by
      rw [maxB]
      simp only [Int.toNat_natCast, List.length_append, List.length_take, List.length_drop, List.length_map, List.length_nil, List.length_cons]
      omega
    by_cases hk0 : k = 0
    · rw [if_pos (Or.inl hk0), bif_beq, if_pos (by omega)]
      refine hput _ ?_
      rw [bif_and, bif_decide, if_pos (by omega), bif_decide, if_pos (by omega), bif_ble, if_pos lens.1, bif_ble, if_pos lens.2.1, bif_and, bif_decide, if_pos (by omega), bif_decide, if_pos (by omega), bif_ble, if_pos lens.2.2]
    · rw [bif_beq, if_neg (by omega), sub1C (by omega), wrap64 (x := ((k - 1 : Nat) : Int)) (by omega) (by omega), bif_and, bif_decide, if_pos (by omega), bif_decide, if_pos (by omega), Int.toNat_natCast]
      have hg : (out.map Ed.enc)[k - 1]? = some (out.getD (k - 1) default).enc := by
        rw [List.getElem?_map, List.getElem?_eq_getElem (by omega)]; simp [show k - 1 < out.length by omega]
      rw [hg]
      simp only [Option.bind_some, Ed.enc_0, Ed.enc_1, Ed.enc_2, edeq]
      by_cases hc : out.getD (k - 1) default = l[i]
      · rw [if_neg (fun hx => hx.elim hk0 (fun h => h hc)), decide_eq_true hc]
        simp only [Bool.not_true, cond_false]
        rw [succC, wrap64 (by omega) (by omega)]
      · rw [if_pos (Or.inr hc), decide_eq_false hc]
        simp only [Bool.not_false, cond_true]
        refine hput _ ?_
        rw [bif_and, bif_decide, if_pos (by omega), bif_decide, if_pos (by omega), bif_ble, if_pos lens.1, bif_ble, if_pos lens.2.1, bif_and, bif_decide, if_pos (by omega), bif_decide, if_pos (by omega), bif_ble, if_pos lens.2.2]
  · intro out ho
    simp only [s_semigroupref06_Sorted_2L, s_semigroupref06_Sorted_2, un]
    rw [List.length_map, dec_false (by omega), cond_false]
theorem Same_refl (n : Nf) (hl : n.E.length ≤ maxLen) : CC F_semigroupref06_Same (nfA n (nfA n [])) = some [.bool true] := by
  have hm := maxLen_le
  refine f_semigroupref06_Same_of ?_
  unfold f_semigroupref06_Same
  rw [bif_bne, if_pos rfl, bif_bne, if_pos rfl, bif_bne, if_pos rfl, bif_bne, if_pos rfl, bif_bne, if_pos rfl]
  have := Loop_rounds (step := s_semigroupref06_Same_1L CC ((n.E.map Ed.enc).length : Int) n.L n.S n.st n.fin (n.E.map Ed.enc) n.L n.S n.st n.fin (n.E.map Ed.enc)) (fun i => (i : Int)) n.E.length (r := .inr ((n.E.length : Int), false)) ?_ ?_
  · rw [show Loop (s_semigroupref06_Same_1L CC ((n.E.map Ed.enc).length : Int) n.L n.S n.st n.fin (n.E.map Ed.enc) n.L n.S n.st n.fin (n.E.map Ed.enc)) 0 = _ from this]
    rfl
  · intro i hi
    simp only [s_semigroupref06_Same_1L, s_semigroupref06_Same_1]
    rw [bif_decide, if_pos (by rw [List.length_map]; omega), idx_ed hi]
    simp only [Option.bind_some, Ed.enc_0, Ed.enc_1, Ed.enc_2, edeq]
    simp only [decide_true, Bool.not_true, cond_false]
    rw [succC, wrap64 (by omega) (by omega)]
  · simp only [s_semigroupref06_Same_1L, s_semigroupref06_Same_1]
    rw [List.length_map, dec_false (by omega), cond_false]
end Go.AM
set_option maxRecDepth 100000
set_option linter.unusedSimpArgs false
namespace Go.AM
open Go.Proofs
def U1 (R : List Nat) : List V := R.map fun (x : Nat) => V.int .u64 (x : Int)
def U2 (T : List (List Nat)) : List V := T.map fun R => V.list T_uint64 (U1 R)
@[simp] theorem U1_length (R : List Nat) : (U1 R).length = R.length := by simp [U1]
@[simp] theorem U2_length (T : List (List Nat)) : (U2 T).length = T.length := by simp [U2]
end Go.AM
set_option maxRecDepth 100000
set_option linter.unusedSimpArgs false
namespace Go.AM
open Go.Proofs
structure RelOk (R : List Nat) : Prop where
  len : R.length ≤ 64
  lt : ∀ a ∈ R, a < 2 ^ R.length
theorem RelOk.get {R : List Nat} (h : RelOk R) (i : Nat) : R.getD i 0 < 2 ^ 64 := by
  rw [List.getD_eq_getElem?_getD]
  by_cases hi : i < R.length
  · rw [List.getElem?_eq_getElem hi]
    exact Nat.lt_of_lt_of_le (h.lt _ (List.getElem_mem hi)) (Nat.pow_le_pow_right (by omega) h.len)
  · rw [List.getElem?_eq_none (by omega)]
    exact Nat.pos_of_ne_zero (by simp)
end Go.AM
set_option maxRecDepth 100000
namespace Go.AM
open Go.Proofs
noncomputable abbrev B_word_Valid : Code := bodyOf Tryd.prog (ann.fid 51)
noncomputable def s_word_Valid_1 (C : CallF) (w : List UInt8) (letters t18 t19 : Int) {β : Type} (kn : Int → Option β) (kr : ((Bool) ⊕ (Int × Bool)) → Option β) : Option β :=
  bif decide ((t19 : Int) < t18) then
   (bif decide (0 ≤ t19) then (w[(t19 : Int).toNat]?).map fun b => V.int .u8 b.toNat else none).bind fun x1 =>
   bif decide ((x1.toInt : Int) < 97) then
    kr (.inl false)
   else
    (bif decide (0 ≤ t19) then (w[(t19 : Int).toNat]?).map fun b => V.int .u8 b.toNat else none).bind fun x2 =>
    bif decide (((IntKind.wrap .i64 (IntKind.wrap .u8 (x2.toInt - 97))) : Int) ≥ letters) then
     kr (.inl false)
    else
     kn (IntKind.wrap .i64 (t19 + 1))
  else
   kr (.inr (t19, decide ((t19 : Int) < t18)))
noncomputable def s_word_Valid_1L (C : CallF) (w : List UInt8) (letters t18 : Int) : (Int) → Option ((Int) ⊕ ((Bool) ⊕ (Int × Bool))) := fun t19 => s_word_Valid_1 C w letters t18 t19 (fun y => some (.inl y)) (fun r => some (.inr r))
noncomputable def LT_word_Valid (C : CallF) : LTab := fun β n ds k =>
  bif Nat.beq n 65 then loopS S51_65 [false, false, false, true] [[0], [1, 2, 3, 0, 0]] (@s_word_Valid_1 C) ds k else
  none
abbrev TS_word_Valid (C : CallF) (b : Bar) : Prop := Tells Tryd.prog ann C (LT_word_Valid C) 51 (ntmpsOf Tryd.prog (ann.fid 51)) (ann.sin 51).blks.length b
theorem t_word_Valid_1 (C : CallF) : TS_word_Valid C (.loop (codeAt [1, 1, 0, 1, 0, 0] B_word_Valid)) :=
  tl3 S51_65 [false, false, false, true] [[0], [1, 2, 3, 0, 0]] (@s_word_Valid_1 C) (by kernel_rfl) (ltok_of (bs := []) (by kernel_rfl) tells_nil) (fun ds => by kernel_rfl) (fun i x => by kernel_rfl) (fun i x β k => by kernel_rfl) (fun β ds k => by kernel_rfl)
noncomputable def f_word_Valid (C : CallF) (w : List UInt8) (letters : Int) : Option (List V) :=
  bif decide ((letters : Int) < 1) then
   some [.bool false]
  else
   bif decide ((letters : Int) > 6) then
    some [.bool false]
   else
    bif decide (((w.length : Int) : Int) > 2048) then
     some [.bool false]
    else
     (Loop (s_word_Valid_1L C w letters (w.length : Int)) 0).bind (way2 (fun (t_3 : Bool) =>
       some [.bool t_3]) (un fun (t_4 : Int) (t_5 : Bool) =>
       some [.bool true]))
theorem f_word_Valid_of {w : List UInt8} {letters : Int} {r : Option (List V)} (h : f_word_Valid CC w letters = r) : CC F_word_Valid [.str w, .int .i64 letters] = r :=
  func_of (key := 51) (L := LT_word_Valid CC) (bs := [.loop (codeAt [1, 1, 0, 1, 0, 0] B_word_Valid)]) (by kernel_rfl) (tells_cons (t_word_Valid_1 CC) tells_nil) (Eq.trans (by kernel_rfl) h)
end Go.AM
set_option maxRecDepth 100000
set_option linter.unusedSimpArgs false
namespace Go.AM
open Go.Proofs
def let_ (w : List UInt8) (i : Nat) : Int := ((w.getD i 0).toNat : Int) - 97
def wOk (w : List UInt8) (L : Int) : Prop := 1 ≤ L ∧ L ≤ 6 ∧ w.length ≤ 2048 ∧ ∀ i, i < w.length → 0 ≤ let_ w i ∧ let_ w i < L
instance (w : List UInt8) (L : Int) : Decidable (wOk w L) := by unfold wOk; infer_instance
theorem byte_at {w : List UInt8} {i : Nat} (h : i < w.length) : (bif decide (0 ≤ (i : Int)) then (w[((i : Nat) : Int).toNat]?).map (fun b => V.int .u8 b.toNat) else none) = some (.int .u8 ((w.getD i 0).toNat : Int)) := by
  rw [bif_decide, if_pos (by omega), Int.toNat_natCast]
  simp [h]
theorem byte_lt (b : UInt8) : b.toNat < 256 := b.toNat_lt
theorem let_wrap {w : List UInt8} {i : Nat} (h : 0 ≤ let_ w i) : IntKind.wrap .u8 (((w.getD i 0).toNat : Int) - 97) = let_ w i := by
  have := byte_lt (w.getD i 0)
  unfold let_ at *
  exact wrap8 h (by omega)
theorem let_lt {w : List UInt8} {i : Nat} : let_ w i < 256 := by
  have := byte_lt (w.getD i 0)
  unfold let_
  omega
theorem word_loop {w : List UInt8} {L : Int} (hl : w.length ≤ 2048) : Loop (s_word_Valid_1L CC w L (w.length : Int)) 0 = some (if ∀ i, i < w.length → 0 ≤ let_ w i ∧ let_ w i < L then .inr ((w.length : Int), false) else .inl false) := by
  refine Loop_all (good := fun i => 0 ≤ let_ w i ∧ let_ w i < L) w.length (fun i => (i : Int)) (Sum.inl false : Bool ⊕ (Int × Bool)) (Sum.inr ((w.length : Int), false)) (fun i hi => ?_) ?_
  · simp only [s_word_Valid_1L, s_word_Valid_1, un]
    rw [bif_decide, if_pos (by omega), byte_at hi]
    simp only [Option.bind_some, V.toInt_int, bif_decide]
    by_cases h1 : 0 ≤ let_ w i
    · have h1' := h1
      unfold let_ at h1'
      rw [if_neg (by omega), let_wrap h1, wrap64 (by omega) (by have := @let_lt w i; omega)]
      by_cases h2 : let_ w i < L
      · rw [if_neg (by omega), if_pos ⟨h1, h2⟩, wrap64 (by omega) (by omega)]
        simp
      · rw [if_pos (by omega), if_neg (fun h => h2 h.2)]
    · have h1' := h1
      unfold let_ at h1'
      rw [if_pos (by omega), if_neg (fun h => h1 h.1)]
  · simp only [s_word_Valid_1L, s_word_Valid_1, un]
    rw [bif_decide, if_neg (by omega)]
    simp
theorem wValid_spec (w : List UInt8) (L : Int) : CC F_word_Valid [.str w, .int .i64 L] = some [.bool (decide (wOk w L))] := by
  refine f_word_Valid_of ?_
  unfold f_word_Valid
  simp only [bif_decide]
  by_cases h1 : L < 1
  · rw [if_pos h1, decide_eq_false (fun h => by have := h.1; omega)]
  rw [if_neg h1]
  by_cases h2 : L > 6
  · rw [if_pos h2, decide_eq_false (fun h => by have := h.2.1; omega)]
  rw [if_neg h2]
  by_cases h3 : (w.length : Int) > 2048
  · rw [if_pos h3, decide_eq_false (fun h => by have := h.2.2.1; omega)]
  rw [if_neg h3, word_loop (by omega)]
  by_cases h4 : ∀ i, i < w.length → 0 ≤ let_ w i ∧ let_ w i < L
  · rw [if_pos h4, decide_eq_true (show wOk w L from ⟨by omega, by omega, by omega, h4⟩)]
    simp [way2, un]
  · rw [if_neg h4, decide_eq_false (fun h => h4 h.2.2.2)]
    simp [way2, un]
end Go.AM
set_option maxRecDepth 100000
namespace Go.AM
open Go.Proofs
noncomputable abbrev B_nfa_Runs : Code := bodyOf Tryd.prog (ann.fid 23)
noncomputable def s_nfa_Runs_1 (C : CallF) (w : List UInt8) (t31 ns_0 ns_1 ns_2 ns_3 : Int) (ns_4 t30s : List V) (t32 : Int) (countss : List V) {β : Type} (kn : (Int × (List V)) → Option β) (kr : (Int × Bool × (List V)) → Option β) : Option β :=
  bif decide ((t32 : Int) < t31) then
   bif (decide (0 ≤ t32)) && (decide (t32 < (t30s.length : Int))) then
    (t30s[(t32 : Int).toNat]?).bind fun x4 =>
    bif (decide (0 ≤ x4.toInt)) && (decide (x4.toInt < (countss.length : Int))) then
     (countss[(x4.toInt : Int).toNat]?).bind fun x5 =>
     kn (IntKind.wrap .i64 (t32 + 1), countss.set ((x4.toInt : Int).toNat) (.int .i64 1))
    else none
   else none
  else
   kr (t32, decide ((t32 : Int) < t31), countss)
noncomputable def s_nfa_Runs_1L (C : CallF) (w : List UInt8) (t31 ns_0 ns_1 ns_2 ns_3 : Int) (ns_4 t30s : List V) : (Int × (List V)) → Option ((Int × (List V)) ⊕ (Int × Bool × (List V))) := un fun t32 countss => s_nfa_Runs_1 C w t31 ns_0 ns_1 ns_2 ns_3 ns_4 t30s t32 countss (fun y => some (.inl y)) (fun r => some (.inr r))
noncomputable def s_nfa_Runs_2 (C : CallF) (w : List UInt8) (i t41 t42 : Int) (t49 : List V) (t50 ns_0 ns_1 ns_2 ns_3 : Int) (ns_4 countss : List V) (t51 : Int) (longers : List V) {β : Type} (kn : (Int × (List V)) → Option β) (kr : (Int × Bool × (List V)) → Option β) : Option β :=
  bif decide ((t51 : Int) < t50) then
   (idx t49 t51).bind fun x9 =>
   (bif decide (0 ≤ i) then (w[(i : Int).toNat]?).map fun b => V.int .u8 b.toNat else none).bind fun x10 =>
   bif (((x9.cell 1).toInt) : Int) == (IntKind.wrap .i64 (IntKind.wrap .u8 (x10.toInt - 97))) then
    bif (decide (0 ≤ ((x9.cell 2).toInt))) && (decide (((x9.cell 2).toInt) < (longers.length : Int))) then
     (longers[((x9.cell 2).toInt : Int).toNat]?).bind fun x11 =>
     bif (decide (0 ≤ ((x9.cell 0).toInt))) && (decide (((x9.cell 0).toInt) < (countss.length : Int))) then
      (countss[((x9.cell 0).toInt : Int).toNat]?).bind fun x12 =>
      bif (decide (0 ≤ ((x9.cell 2).toInt))) && (decide (((x9.cell 2).toInt) < (longers.length : Int))) then
       (longers[((x9.cell 2).toInt : Int).toNat]?).bind fun x13 =>
       kn (IntKind.wrap .i64 (t51 + 1), longers.set (((x9.cell 2).toInt : Int).toNat) (.int .i64 (if (IntKind.wrap .i64 (x11.toInt + x12.toInt)) < 2147483648 then (IntKind.wrap .i64 (x11.toInt + x12.toInt)) else 2147483648)))
      else none
     else none
    else none
   else
    kn (IntKind.wrap .i64 (t51 + 1), longers)
  else
   kr (t51, decide ((t51 : Int) < t50), longers)
noncomputable def s_nfa_Runs_2L (C : CallF) (w : List UInt8) (i t41 t42 : Int) (t49 : List V) (t50 ns_0 ns_1 ns_2 ns_3 : Int) (ns_4 countss : List V) : (Int × (List V)) → Option ((Int × (List V)) ⊕ (Int × Bool × (List V))) := un fun t51 longers => s_nfa_Runs_2 C w i t41 t42 t49 t50 ns_0 ns_1 ns_2 ns_3 ns_4 countss t51 longers (fun y => some (.inl y)) (fun r => some (.inr r))
noncomputable def s_nfa_Runs_3 (C : CallF) (w : List UInt8) (t41 ns_0 ns_1 ns_2 ns_3 : Int) (ns_4 : List V) (t42 : Int) (countss : List V) {β : Type} (kn : (Int × (List V)) → Option β) (kr : (Int × Bool × (List V)) → Option β) : Option β :=
  bif decide ((t42 : Int) < t41) then
   bif (decide (0 ≤ ns_1)) && ((decide (ns_1 ≤ ns_1)) && (Nat.ble (((ns_1 : Int).toNat) * 8) maxBytes)) then
    (Loop (s_nfa_Runs_2L C w t42 t41 t42 ns_4 (ns_4.length : Int) ns_0 ns_1 ns_2 ns_3 ns_4 countss) (0, List.replicate ((ns_1 : Int).toNat) (V.int .i64 0))).bind (un fun (t_14 : Int) => un fun (t_15 : Bool) (longers_16 : List V) =>
      kn (IntKind.wrap .i64 (t42 + 1), longers_16))
   else none
  else
   kr (t42, decide ((t42 : Int) < t41), countss)
noncomputable def s_nfa_Runs_3L (C : CallF) (w : List UInt8) (t41 ns_0 ns_1 ns_2 ns_3 : Int) (ns_4 : List V) : (Int × (List V)) → Option ((Int × (List V)) ⊕ (Int × Bool × (List V))) := un fun t42 countss => s_nfa_Runs_3 C w t41 ns_0 ns_1 ns_2 ns_3 ns_4 t42 countss (fun y => some (.inl y)) (fun r => some (.inr r))
noncomputable def s_nfa_Runs_4 (C : CallF) (t85 : Int) (countss t84s : List V) (runs t86 : Int) {β : Type} (kn : (Int × Int) → Option β) (kr : (Int × Int × Bool) → Option β) : Option β :=
  bif decide ((t86 : Int) < t85) then
   bif (decide (0 ≤ t86)) && (decide (t86 < (t84s.length : Int))) then
    (t84s[(t86 : Int).toNat]?).bind fun x21 =>
    bif (decide (0 ≤ x21.toInt)) && (decide (x21.toInt < (countss.length : Int))) then
     (countss[(x21.toInt : Int).toNat]?).bind fun x22 =>
     kn (if (IntKind.wrap .i64 (runs + x22.toInt)) < 2147483648 then (IntKind.wrap .i64 (runs + x22.toInt)) else 2147483648, IntKind.wrap .i64 (t86 + 1))
    else none
   else none
  else
   kr (runs, t86, decide ((t86 : Int) < t85))
noncomputable def s_nfa_Runs_4L (C : CallF) (t85 : Int) (countss t84s : List V) : (Int × Int) → Option ((Int × Int) ⊕ (Int × Int × Bool)) := un fun runs t86 => s_nfa_Runs_4 C t85 countss t84s runs t86 (fun y => some (.inl y)) (fun r => some (.inr r))
noncomputable def LT_nfa_Runs (C : CallF) : LTab := fun β n ds k =>
  bif Nat.beq n 81 then loopS S23_81 [false, false, true, false, false, false, false, false, true, false] [[1, 2, 0, 0, 4, 5, 6, 7, 8, 0, 10]] (@s_nfa_Runs_1 C) ds k else
  bif Nat.beq n 225 then loopS S23_225 [false, false, false, false, false, false, true, false, false, false, false, false, false, true] [[1, 2, 3, 4, 5, 6, 0, 0, 8, 9, 10, 11, 12, 13, 0]] (@s_nfa_Runs_2 C) ds k else
  bif Nat.beq n 161 then loopS S23_161 [false, false, true, false, false, false, false, false, true] [[1, 2, 0, 0, 4, 5, 6, 7, 8, 0]] (@s_nfa_Runs_3 C) ds k else
  bif Nat.beq n 369 then loopS S23_369 [true, false, true, false, false] [[0, 2, 0, 0, 4, 5]] (@s_nfa_Runs_4 C) ds k else
  none
abbrev TS_nfa_Runs (C : CallF) (b : Bar) : Prop := Tells Tryd.prog ann C (LT_nfa_Runs C) 23 (ntmpsOf Tryd.prog (ann.fid 23)) (ann.sin 23).blks.length b
theorem t_nfa_Runs_1 (C : CallF) : TS_nfa_Runs C (.loop (codeAt [1, 1, 1, 0, 1, 0, 0] B_nfa_Runs)) :=
  tl3 S23_81 [false, false, true, false, false, false, false, false, true, false] [[1, 2, 0, 0, 4, 5, 6, 7, 8, 0, 10]] (@s_nfa_Runs_1 C) (by kernel_rfl) (ltok_of (bs := []) (by kernel_rfl) tells_nil) (fun ds => by kernel_rfl) (fun i x => by kernel_rfl) (fun i x β k => by kernel_rfl) (fun β ds k => by kernel_rfl)
theorem t_nfa_Runs_2 (C : CallF) : TS_nfa_Runs C (.loop (codeAt [1, 1, 1, 1, 0, 1, 0, 0, 1, 1, 0, 0, 1, 1, 0, 1, 0, 0] B_nfa_Runs)) :=
  tl3 S23_225 [false, false, false, false, false, false, true, false, false, false, false, false, false, true] [[1, 2, 3, 4, 5, 6, 0, 0, 8, 9, 10, 11, 12, 13, 0]] (@s_nfa_Runs_2 C) (by kernel_rfl) (ltok_of (bs := []) (by kernel_rfl) tells_nil) (fun ds => by kernel_rfl) (fun i x => by kernel_rfl) (fun i x β k => by kernel_rfl) (fun β ds k => by kernel_rfl)
theorem t_nfa_Runs_3 (C : CallF) : TS_nfa_Runs C (.loop (codeAt [1, 1, 1, 1, 0, 1, 0, 0] B_nfa_Runs)) :=
  tl3 S23_161 [false, false, true, false, false, false, false, false, true] [[1, 2, 0, 0, 4, 5, 6, 7, 8, 0]] (@s_nfa_Runs_3 C) (by kernel_rfl) (ltok_of (bs := [.loop (codeAt [1, 1, 1, 1, 0, 1, 0, 0, 1, 1, 0, 0, 1, 1, 0, 1, 0, 0] B_nfa_Runs)]) (by kernel_rfl) (tells_cons (t_nfa_Runs_2 C) tells_nil)) (fun ds => by kernel_rfl) (fun i x => by kernel_rfl) (fun i x β k => by kernel_rfl) (fun β ds k => by kernel_rfl)
theorem t_nfa_Runs_4 (C : CallF) : TS_nfa_Runs C (.loop (codeAt [1, 1, 1, 1, 1, 1, 0, 1, 0, 0] B_nfa_Runs)) :=
  tl3 S23_369 [true, false, true, false, false] [[0, 2, 0, 0, 4, 5]] (@s_nfa_Runs_4 C) (by kernel_rfl) (ltok_of (bs := []) (by kernel_rfl) tells_nil) (fun ds => by kernel_rfl) (fun i x => by kernel_rfl) (fun i x β k => by kernel_rfl) (fun β ds k => by kernel_rfl)
noncomputable def f_nfa_Runs (C : CallF) (n_0 n_1 n_2 n_3 : Int) (n_4 : List V) (w : List UInt8) : Option (List V) :=
  (C F_nfa_Validate [.int .i64 n_0, .int .i64 n_1, .int .u64 n_2, .int .u64 n_3, .list T_api_Edge n_4]).bind fun r1 =>
  bif (((V.nth r1 0).toInt) : Int) != 0 then
   some [.int .i64 0]
  else
   (C F_word_Valid [.str w, .int .i64 n_0]).bind fun r2 =>
   bif !((V.nth r2 0).toBool) then
    some [.int .i64 0]
   else
    bif (decide (0 ≤ n_1)) && ((decide (n_1 ≤ n_1)) && (Nat.ble (((n_1 : Int).toNat) * 8) maxBytes)) then
     (C F_relation_Members [.int .u64 n_2]).bind fun r3 =>
     (Loop (s_nfa_Runs_1L C w (((V.nth r3 0).toList).length : Int) n_0 n_1 n_2 n_3 n_4 ((V.nth r3 0).toList)) (0, List.replicate ((n_1 : Int).toNat) (V.int .i64 0))).bind (un fun (t_6 : Int) => un fun (t_7 : Bool) (countss_8 : List V) =>
       (Loop (s_nfa_Runs_3L C w (w.length : Int) n_0 n_1 n_2 n_3 n_4) (0, countss_8)).bind (un fun (t_17 : Int) => un fun (t_18 : Bool) (countss_19 : List V) =>
         (C F_relation_Members [.int .u64 n_3]).bind fun r20 =>
         (Loop (s_nfa_Runs_4L C (((V.nth r20 0).toList).length : Int) countss_19 ((V.nth r20 0).toList)) (0, 0)).bind (un fun (runs_23 : Int) => un fun (t_24 : Int) (t_25 : Bool) =>
           some [.int .i64 runs_23])))
    else none
theorem f_nfa_Runs_of {n_0 n_1 n_2 n_3 : Int} {n_4 : List V} {w : List UInt8} {r : Option (List V)} (h : f_nfa_Runs CC n_0 n_1 n_2 n_3 n_4 w = r) : CC F_nfa_Runs [.int .i64 n_0, .int .i64 n_1, .int .u64 n_2, .int .u64 n_3, .list T_api_Edge n_4, .str w] = r :=
  func_of (key := 23) (L := LT_nfa_Runs CC) (bs := [.loop (codeAt [1, 1, 1, 0, 1, 0, 0] B_nfa_Runs), .loop (codeAt [1, 1, 1, 1, 0, 1, 0, 0] B_nfa_Runs), .loop (codeAt [1, 1, 1, 1, 1, 1, 0, 1, 0, 0] B_nfa_Runs)]) (by kernel_rfl) (tells_cons (t_nfa_Runs_1 CC) (tells_cons (t_nfa_Runs_3 CC) (tells_cons (t_nfa_Runs_4 CC) tells_nil))) (Eq.trans (by kernel_rfl) h)
end Go.AM
set_option maxRecDepth 100000
set_option linter.unusedSimpArgs false
namespace Go.AM
open Go.Proofs
def wlet (b : UInt8) : Int := (b.toNat : Int) - 97
theorem let_get {w : List UInt8} {i : Nat} (h : i < w.length) : let_ w i = wlet w[i] := by unfold let_ wlet; simp [h]
def wAll (L : Int) (w : List UInt8) : Prop := ∀ b ∈ w, 0 ≤ wlet b ∧ wlet b < L
theorem wOk.all {w : List UInt8} {L : Int} (h : wOk w L) : wAll L w := by
  intro b hb
  obtain ⟨i, hi, rfl⟩ := List.getElem_of_mem hb
  have := h.2.2.2 i hi
  rwa [let_get hi] at this
theorem byte_get {w : List UInt8} {i : Nat} (h : i < w.length) : (bif decide (0 ≤ (i : Int)) then (w[((i : Nat) : Int).toNat]?).map (fun b => V.int .u8 b.toNat) else none) = some (.int .u8 (w[i].toNat : Int)) := by
  rw [bif_decide, if_pos (by omega), Int.toNat_natCast]
  simp [h]
theorem wlet_wrap8 {b : UInt8} (h : 0 ≤ wlet b) : IntKind.wrap .u8 ((b.toNat : Int) - 97) = wlet b := by
  have := byte_lt b
  unfold wlet at *
  exact wrap8 h (by omega)
theorem wlet_lt (b : UInt8) : wlet b < 256 := by have := byte_lt b; unfold wlet; omega
theorem wlet_wrap {b : UInt8} (h : 0 ≤ wlet b) : IntKind.wrap .i64 (IntKind.wrap .u8 ((b.toNat : Int) - 97)) = wlet b := by
  rw [wlet_wrap8 h, wrap64 (by omega) (by have := wlet_lt b; omega)]
theorem pow_S {n : Nf} (hg : n.Good) : 2 ^ n.S.toNat ≤ 2 ^ 64 := Nat.pow_le_pow_right (by omega) (by have := hg.S64; omega)
theorem edF {n : Nf} (hg : n.Good) : ∀ e ∈ n.E, e.f.toNat < n.S.toNat := fun e he => by
  obtain ⟨f, t, ef, et, hf, ht, hfS, htS⟩ := (hg.E e he).nat hg.S64
  omega
theorem edT {n : Nf} (hg : n.Good) : ∀ e ∈ n.E, e.t.toNat < n.S.toNat := fun e he => by
  obtain ⟨f, t, ef, et, hf, ht, hfS, htS⟩ := (hg.E e he).nat hg.S64
  omega
def I1 (R : List Nat) : List V := R.map fun (x : Nat) => V.int .i64 (x : Int)
@[simp] theorem I1_length (R : List Nat) : (I1 R).length = R.length := by simp [I1]
theorem I1_get {R : List Nat} {i : Nat} (h : i < R.length) : (I1 R)[i]? = some (.int .i64 ((R.getD i 0 : Nat) : Int)) := by
  unfold I1; rw [List.getElem?_map, List.getElem?_eq_getElem h]; simp [h]
theorem I1_set (R : List Nat) (i a : Nat) : (I1 R).set i (.int .i64 (a : Int)) = I1 (R.set i a) := (List.map_set (f := fun (x : Nat) => V.int .i64 (x : Int))).symm
theorem I1_rep (n : Nat) : List.replicate n (V.int .i64 0) = I1 (List.replicate n 0) := by simp [I1]
def top31 : Nat := 2147483648
def cMin (a b : Nat) : Nat := if a + b < top31 then a + b else top31
def cstep1 (x : Int) (c a : List Nat) (e : Ed) : List Nat := if e.l = x then a.set e.t.toNat (cMin (a.getD e.t.toNat 0) (c.getD e.f.toNat 0)) else a
def cstep (E : List Ed) (S : Nat) (x : Int) (c : List Nat) : List Nat := E.foldl (cstep1 x c) (List.replicate S 0)
def crun (E : List Ed) (S : Nat) (c : List Nat) (w : List UInt8) : List Nat := w.foldl (fun c b => cstep E S (wlet b) c) c
def cinit (S st : Nat) : List Nat := (mem st).foldl (fun a q => a.set q 1) (List.replicate S 0)
def csum (fin : Nat) (c : List Nat) : Nat := (mem fin).foldl (fun a q => cMin a (c.getD q 0)) 0
def runsN (n : Nf) (w : List UInt8) : Nat := csum n.fin (crun n.E n.S.toNat (cinit n.S.toNat n.st) w)
structure Cts (S : Nat) (c : List Nat) : Prop where
  len : c.length = S
  le : ∀ i, c.getD i 0 ≤ top31
theorem cMin_le {a b : Nat} : cMin a b ≤ top31 := by unfold cMin; split <;> omega
theorem getD_set {c : List Nat} {i j a : Nat} : (c.set i a).getD j 0 = if i = j ∧ i < c.length then a else c.getD j 0 := by
  rw [List.getD_eq_getElem?_getD, List.getElem?_set, List.getD_eq_getElem?_getD]
  by_cases h : i = j
  · subst h
    by_cases h2 : i < c.length
    · simp [h2]
    · simp [h2]
  · simp [h]
theorem Cts.set {S i a : Nat} {c : List Nat} (h : Cts S c) (ha : a ≤ top31) : Cts S (c.set i a) where
  len := by simp [h.len]
  le j := by
    rw [getD_set]
    split
    · exact ha
    · exact h.le j
theorem Cts.zero (S : Nat) : Cts S (List.replicate S 0) where
  len := by simp
  le i := by
    rw [List.getD_eq_getElem?_getD, List.getElem?_replicate]
    split <;> simp
theorem Cts.cstep1 {S : Nat} {x : Int} {c a : List Nat} (e : Ed) (h : Cts S a) : Cts S (cstep1 x c a e) := by
  unfold AM.cstep1
  split
  · exact h.set cMin_le
  · exact h
theorem Cts.fold {S : Nat} {x : Int} {c : List Nat} : ∀ (E : List Ed) (a : List Nat), Cts S a → Cts S (E.foldl (AM.cstep1 x c) a)
  | [], _, h => h
  | e :: E, _, h => Cts.fold E _ (h.cstep1 e)
theorem Cts.cstep {E : List Ed} {S : Nat} {x : Int} {c : List Nat} : Cts S (cstep E S x c) := Cts.fold E _ (Cts.zero S)
theorem Cts.crun {E : List Ed} {S : Nat} : ∀ (w : List UInt8) (c : List Nat), Cts S c → Cts S (crun E S c w)
  | [], _, h => h
  | b :: w, _, _ => Cts.crun w _ Cts.cstep
theorem Cts.ones {S : Nat} : ∀ (l : List Nat) (a : List Nat), Cts S a → Cts S (l.foldl (fun a q => a.set q 1) a)
  | [], _, h => h
  | _ :: l, _, h => Cts.ones l _ (h.set (by unfold top31; omega))
theorem Cts.cinit {S st : Nat} : Cts S (cinit S st) := Cts.ones _ _ (Cts.zero S)
theorem min_a (m : Int) {a b : Nat} (h : m = (a : Int) + (b : Int)) : (if m < 2147483648 then m else 2147483648) = ((cMin a b : Nat) : Int) := by
  unfold cMin top31; subst h; split <;> split <;> omega
theorem foldl_mem {A : Type} (f : A → Nat → A) (s : Nat) (a : A) : (mem s).foldl f a = (List.range 64).foldl (fun a q => if s.testBit q = true then f a q else a) a := by
  unfold mem; rw [List.foldl_filter]
theorem foldl_idle {A : Type} (f : A → Nat → A) : ∀ (l : List Nat) (a : A), (∀ q ∈ l, ∀ a, f a q = a) → l.foldl f a = a
  | [], _, _ => rfl
  | q :: l, a, h => by rw [List.foldl_cons, h q (by simp)]; exact foldl_idle f l a fun q hq => h q (by simp [hq])
theorem mem_fold {A : Type} (f : A → Nat → A) {s S : Nat} (hs : s < 2 ^ S) (hS : S ≤ 64) (a : A) : (mem s).foldl f a = (List.range S).foldl (fun a q => if s.testBit q = true then f a q else a) a := by
  rw [foldl_mem]
  rw [show List.range 64 = List.range (S + (64 - S)) by congr 1; omega, List.range_add, List.foldl_append]
  refine foldl_idle _ _ _ fun q hq b => ?_
  rw [List.mem_map] at hq
  obtain ⟨k, _, rfl⟩ := hq
  rw [if_neg]
  rw [lt_pow_iff.1 hs (S + k) (by omega)]
  simp
section
variable {n : Nf}
theorem runs_1 (hg : n.Good) {w : List UInt8} {a0 a1 a2 a3 : Int} {a4 : List V} :
    Loop (s_nfa_Runs_1L CC w ((encI (mem n.st)).length : Int) a0 a1 a2 a3 a4 (encI (mem n.st))) (0, I1 (List.replicate n.S.toNat 0)) = some (((mem n.st).length : Int), false, I1 (cinit n.S.toNat n.st)) := by
  have h64 := hg.S64
  have hst := hg.st
  have hp := pow_S hg
  have hml := mem_length n.st
  have e1 : (encI (mem n.st)).length = (mem n.st).length := by simp [encI]
  have := Loop_foldI (step := s_nfa_Runs_1L CC w ((encI (mem n.st)).length : Int) a0 a1 a2 a3 a4 (encI (mem n.st))) (mem n.st) (fun i (a : List Nat) => ((i : Int), I1 a)) (fun a q => a.set q 1)
    (fun a => (((mem n.st).length : Int), false, I1 a)) (fun _ a => Cts n.S.toNat a) ?_ ?_ _ (Cts.zero n.S.toNat)
  · exact this.1
  · intro i a hi ha
    refine ⟨?_, ha.set (by unfold top31; omega)⟩
    have hq : (mem n.st)[i] < n.S.toNat := by
      have h1 := (mem_iff (by omega)).1 (List.getElem_mem hi)
      by_cases hx : (mem n.st)[i] < n.S.toNat
      · exact hx
      · rw [lt_pow_iff.1 hst _ (by omega)] at h1; cases h1
    have e2 : (encI (mem n.st))[i]? = some (.int .i64 ((mem n.st)[i] : Int)) := by
      unfold encI; rw [List.getElem?_map, List.getElem?_eq_getElem hi]; rfl
    have hl := ha.len
    simp only [s_nfa_Runs_1L, s_nfa_Runs_1, un]
    rw [bif_decide, if_pos (by omega), bif_and, bif_decide, if_pos (by omega), bif_decide, if_pos (by omega), Int.toNat_natCast, e2]
    simp only [Option.bind_some, V.toInt_int]
    rw [bif_and, bif_decide, if_pos (by omega), bif_decide, if_pos (by rw [I1_length]; omega), Int.toNat_natCast, I1_get (by omega)]
    simp only [Option.bind_some]
    rw [show (V.int .i64 1) = V.int .i64 ((1 : Nat) : Int) from rfl, I1_set, wrap64 (by omega) (by omega)]
    simp
  · intro a ha
    simp only [s_nfa_Runs_1L, s_nfa_Runs_1, un]
    rw [bif_decide, if_neg (by omega), e1]
    simp
theorem runs_2 (h : n.Ok) (hg : n.Good) {w : List UInt8} {i : Nat} (hi : i < w.length) (h0 : 0 ≤ wlet w[i]) {c : List Nat} (hc : Cts n.S.toNat c) {t41 t42 a0 a1 a2 a3 : Int} {a4 : List V} :
    Loop (s_nfa_Runs_2L CC w (i : Int) t41 t42 (n.E.map Ed.enc) ((n.E.map Ed.enc).length : Int) a0 a1 a2 a3 a4 (I1 c)) (0, I1 (List.replicate n.S.toNat 0)) = some ((n.E.length : Int), false, I1 (cstep n.E n.S.toNat (wlet w[i]) c)) := by
  have hm := maxLen_le
  have hlen := h.len
  have := Loop_foldI (step := s_nfa_Runs_2L CC w (i : Int) t41 t42 (n.E.map Ed.enc) ((n.E.map Ed.enc).length : Int) a0 a1 a2 a3 a4 (I1 c)) n.E (fun j (a : List Nat) => ((j : Int), I1 a)) (cstep1 (wlet w[i]) c)
    (fun a => ((n.E.length : Int), false, I1 a)) (fun _ a => Cts n.S.toNat a) ?_ ?_ _ (Cts.zero n.S.toNat)
  · exact this.1
  · intro j a hj ha
    refine ⟨?_, ha.cstep1 _⟩
    have hin := hg.E n.E[j] (List.getElem_mem hj)
    obtain ⟨f, t, ef, et, hf, ht, hfS, htS⟩ := hin.nat hg.S64
    have hla := ha.len
    have hlc := hc.len
    have b1 := ha.le t
    have b2 := hc.le f
    unfold top31 at b1 b2
    simp only [s_nfa_Runs_2L, s_nfa_Runs_2, un, List.length_map]
    rw [bif_decide, if_pos (by omega), idx_ed hj, getD_mem hj, byte_get hi]
    simp only [Option.bind_some, Ed.enc_0, Ed.enc_1, Ed.enc_2, V.toInt_int, ef, et]
    rw [wlet_wrap h0, bif_beq]
    by_cases hx : n.E[j].l = wlet w[i]
    · rw [if_pos hx, bif_and, bif_decide, if_pos (by omega), bif_decide, if_pos (by rw [I1_length]; omega), Int.toNat_natCast, I1_get (by omega)]
      simp only [Option.bind_some]
      rw [bif_and, bif_decide, if_pos (by omega), bif_decide, if_pos (by rw [I1_length]; omega), Int.toNat_natCast, I1_get (by omega)]
      simp only [Option.bind_some, V.toInt_int]
      rw [min_a _ (a := a.getD t 0) (b := c.getD f 0) (wrap64 (by omega) (by omega)), I1_set, wrap64 (by omega) (by omega)]
      unfold cstep1
      rw [if_pos hx, ef, et]
      simp
      omega
    · rw [if_neg hx, wrap64 (by omega) (by omega)]
      unfold cstep1
      rw [if_neg hx]
      simp
  · intro a ha
    simp only [s_nfa_Runs_2L, s_nfa_Runs_2, un, List.length_map]
    rw [bif_decide, if_neg (by omega)]
    simp
theorem runs_3 (h : n.Ok) (hg : n.Good) {w : List UInt8} (hw : wOk w n.L) {c : List Nat} (hc : Cts n.S.toNat c) {a0 a2 a3 : Int} :
    Loop (s_nfa_Runs_3L CC w (w.length : Int) a0 n.S a2 a3 (n.E.map Ed.enc)) (0, I1 c) = some ((w.length : Int), false, I1 (crun n.E n.S.toNat c w)) := by
  have hall := hw.all
  have hlen := hw.2.2.1
  have h0 := hg.S0
  have h64 := hg.S64
  have := Loop_foldI (step := s_nfa_Runs_3L CC w (w.length : Int) a0 n.S a2 a3 (n.E.map Ed.enc)) w (fun j (a : List Nat) => ((j : Int), I1 a)) (fun c b => cstep n.E n.S.toNat (wlet b) c)
    (fun a => ((w.length : Int), false, I1 a)) (fun _ a => Cts n.S.toNat a) ?_ ?_ _ hc
  · exact this.1
  · intro i a hi ha
    refine ⟨?_, Cts.cstep⟩
    simp only [s_nfa_Runs_3L, s_nfa_Runs_3, un]
    rw [bif_decide, if_pos (by omega), bif_and, bif_decide, if_pos (by omega), bif_and, bif_decide, if_pos (by omega), bif_ble, if_pos (by rw [maxB]; omega), I1_rep, runs_2 h hg hi (hall _ (List.getElem_mem hi)).1 ha]
    simp only [Option.bind_some, un]
    rw [wrap64 (by omega) (by omega)]
    simp
  · intro a ha
    simp only [s_nfa_Runs_3L, s_nfa_Runs_3, un]
    rw [bif_decide, if_neg (by omega)]
    simp
theorem runs_4 (h : n.Ok) (hg : n.Good) {c : List Nat} (hc : Cts n.S.toNat c) :
    Loop (s_nfa_Runs_4L CC ((encI (mem n.fin)).length : Int) (I1 c) (encI (mem n.fin))) (0, 0) = some (((csum n.fin c : Nat) : Int), ((mem n.fin).length : Int), false) := by
  have h64 := hg.S64
  have hst := hg.fin
  have hp := pow_S hg
  have hml := mem_length n.fin
  have e1 : (encI (mem n.fin)).length = (mem n.fin).length := by simp [encI]
  have := Loop_foldI (step := s_nfa_Runs_4L CC ((encI (mem n.fin)).length : Int) (I1 c) (encI (mem n.fin))) (mem n.fin) (fun i (a : Nat) => ((a : Int), (i : Int))) (fun a q => cMin a (c.getD q 0))
    (fun a => ((a : Int), ((mem n.fin).length : Int), false)) (fun _ a => a ≤ top31) ?_ ?_ 0 (by omega)
  · exact this.1
  · intro i a hi ha
    refine ⟨?_, cMin_le⟩
    have hq : (mem n.fin)[i] < n.S.toNat := by
      have h1 := (mem_iff (by omega)).1 (List.getElem_mem hi)
      by_cases hx : (mem n.fin)[i] < n.S.toNat
      · exact hx
      · rw [lt_pow_iff.1 hst _ (by omega)] at h1; cases h1
    have e2 : (encI (mem n.fin))[i]? = some (.int .i64 ((mem n.fin)[i] : Int)) := by
      unfold encI; rw [List.getElem?_map, List.getElem?_eq_getElem hi]; rfl
    have hl := hc.len
    have b2 := hc.le (mem n.fin)[i]
    unfold top31 at ha b2
    simp only [s_nfa_Runs_4L, s_nfa_Runs_4, un]
    rw [bif_decide, if_pos (by omega), bif_and, bif_decide, if_pos (by omega), bif_decide, if_pos (by omega), Int.toNat_natCast, e2]
    simp only [Option.bind_some, V.toInt_int]
    rw [bif_and, bif_decide, if_pos (by omega), bif_decide, if_pos (by rw [I1_length]; omega), Int.toNat_natCast, I1_get (by omega)]
    simp only [Option.bind_some, V.toInt_int]
    rw [min_a _ (a := a) (b := c.getD (mem n.fin)[i] 0) (wrap64 (by omega) (by omega)), wrap64 (by omega) (by omega)]
    simp
  · intro a ha
    simp only [s_nfa_Runs_4L, s_nfa_Runs_4, un]
    rw [bif_decide, if_neg (by omega), e1]
    simp
end
theorem Runs_spec (n : Nf) (h : n.Ok) (w : List UInt8) : CC F_nfa_Runs (nfA n [.str w]) = some [.int .i64 ((if n.code = 0 ∧ wOk w n.L then runsN n w else 0 : Nat) : Int)] := by
  refine f_nfa_Runs_of ?_
  unfold f_nfa_Runs
  rw [show CC F_nfa_Validate [.int .i64 n.L, .int .i64 n.S, .int .u64 (n.st : Int), .int .u64 (n.fin : Int), .list T_api_Edge (n.E.map Ed.enc)] = _ from Validate_spec n h, wValid_spec]
  simp only [Option.bind_some, V.nth_zero, V.toInt_int, V.toBool_bool, bif_bne, bif_not, bif_decide]
  by_cases h0 : n.code = 0
  · rw [if_pos h0]
    have hg := Nf.good_of h0
    have hS0 := hg.S0
    have hS64 := hg.S64
    by_cases h1 : wOk w n.L
    · rw [if_pos h1, if_pos (And.intro h0 h1), bif_and, bif_decide, if_pos (by omega), bif_and, bif_decide, if_pos (by omega), bif_ble, if_pos (by rw [maxB]; omega), Members_spec h.st]
      simp only [Option.bind_some, V.nth_zero, V.toList_list]
      rw [I1_rep, runs_1 hg]
      simp only [Option.bind_some, un]
      rw [runs_3 h hg h1 Cts.cinit]
      simp only [Option.bind_some, un]
      rw [Members_spec h.fin]
      simp only [Option.bind_some, V.nth_zero, V.toList_list]
      rw [runs_4 h hg (Cts.crun _ _ Cts.cinit)]
      simp only [Option.bind_some, un]
      rfl
    · rw [if_neg h1, if_neg (fun hx => h1 hx.2)]; rfl
  · rw [if_neg h0, if_neg (fun hx => h0 hx.1)]; rfl
end Go.AM
set_option maxRecDepth 100000
namespace Go.AM
open Go.Proofs
theorem awake : CC F_semigrouplaw06_awake [] = some [.bool true] := Call_of_run (N := 60) (n := 60) (by kernel_rfl)
end Go.AM
set_option linter.unusedSimpArgs false
namespace Go.AM
open Go.Proofs
theorem ones_pos {q : Nat} : ∀ (l : List Nat) (a : List Nat), 0 < (l.foldl (fun a q => a.set q 1) a).getD q 0 ↔ 0 < a.getD q 0 ∨ (q ∈ l ∧ q < a.length)
  | [], a => by simp
  | p :: l, a => by
    rw [List.foldl_cons, ones_pos l, getD_set, List.length_set, List.mem_cons]
    by_cases h : p = q
    · subst h
      by_cases h2 : p < a.length
      · simp [h2]
      · simp [h2]
    · have h3 : ¬ q = p := fun h' => h h'.symm
      simp [h, h3]
theorem cinit_pos {S st q : Nat} (hS : S ≤ 64) (hst : st < 2 ^ S) : 0 < (cinit S st).getD q 0 ↔ st.testBit q = true := by
  have h64 : 2 ^ S ≤ 2 ^ 64 := Nat.pow_le_pow_right (by omega) hS
  unfold cinit
  rw [ones_pos, mem_iff (by omega), List.length_replicate]
  have h0 : (List.replicate S 0).getD q 0 = 0 := by rw [List.getD_eq_getElem?_getD, List.getElem?_replicate]; split <;> rfl
  rw [h0]
  constructor
  · rintro (h | h)
    · omega
    · exact h.1
  · intro h
    refine .inr ⟨h, ?_⟩
    by_cases hq : q < S
    · exact hq
    · rw [lt_pow_iff.1 hst q (by omega)] at h; cases h
end Go.AM
set_option maxRecDepth 100000
namespace Go.AM
open Go.Proofs
noncomputable abbrev B_nfa_Reverse : Code := bodyOf Tryd.prog (ann.fid 26)
noncomputable def s_nfa_Reverse_1 (C : CallF) (t20 : List V) (t21 t2s_0 t2s_1 t2s_2 t2s_3 r's_0 r's_1 r's_2 r's_3 : Int) (b2_ : List V) (t22 : Int) (b3_ : List V) {β : Type} (kn : (Int × (List V)) → Option β) (kr : (Int × Bool × (List V)) → Option β) : Option β :=
  bif decide ((t22 : Int) < t21) then
   (idx t20 t22).bind fun x2 =>
   bif Nat.ble ((b3_.length + ([.agg [.int .i64 ((x2.cell 2).toInt), .int .i64 ((x2.cell 1).toInt), .int .i64 ((x2.cell 0).toInt)]] : List V).length) * 24) maxBytes then
    kn (IntKind.wrap .i64 (t22 + 1), b3_ ++ ([.agg [.int .i64 ((x2.cell 2).toInt), .int .i64 ((x2.cell 1).toInt), .int .i64 ((x2.cell 0).toInt)]] : List V))
   else none
  else
   kr (t22, decide ((t22 : Int) < t21), b3_)
noncomputable def s_nfa_Reverse_1L (C : CallF) (t20 : List V) (t21 t2s_0 t2s_1 t2s_2 t2s_3 r's_0 r's_1 r's_2 r's_3 : Int) (b2_ : List V) : (Int × (List V)) → Option ((Int × (List V)) ⊕ (Int × Bool × (List V))) := un fun t22 b3_ => s_nfa_Reverse_1 C t20 t21 t2s_0 t2s_1 t2s_2 t2s_3 r's_0 r's_1 r's_2 r's_3 b2_ t22 b3_ (fun y => some (.inl y)) (fun r => some (.inr r))
noncomputable def LT_nfa_Reverse (C : CallF) : LTab := fun β n ds k =>
  bif Nat.beq n 81 then loopS S26_81 [false, false, true, false, false, false, false, false, false, false, false, false, true] [[1, 2, 0, 0, 4, 5, 6, 7, 8, 9, 10, 11, 12, 0]] (@s_nfa_Reverse_1 C) ds k else
  none
abbrev TS_nfa_Reverse (C : CallF) (b : Bar) : Prop := Tells Tryd.prog ann C (LT_nfa_Reverse C) 26 (ntmpsOf Tryd.prog (ann.fid 26)) (ann.sin 26).blks.length b
theorem t_nfa_Reverse_1 (C : CallF) : TS_nfa_Reverse C (.loop (codeAt [1, 1, 1, 0, 1, 0, 0] B_nfa_Reverse)) :=
  tl3 S26_81 [false, false, true, false, false, false, false, false, false, false, false, false, true] [[1, 2, 0, 0, 4, 5, 6, 7, 8, 9, 10, 11, 12, 0]] (@s_nfa_Reverse_1 C) (by kernel_rfl) (ltok_of (bs := []) (by kernel_rfl) tells_nil) (fun ds => by kernel_rfl) (fun i x => by kernel_rfl) (fun i x β k => by kernel_rfl) (fun β ds k => by kernel_rfl)
noncomputable def f_nfa_Reverse (C : CallF) (n_0 n_1 n_2 n_3 : Int) (n_4 : List V) : Option (List V) :=
  (C F_nfa_Validate [.int .i64 n_0, .int .i64 n_1, .int .u64 n_2, .int .u64 n_3, .list T_api_Edge n_4]).bind fun r1 =>
  bif (((V.nth r1 0).toInt) : Int) != 0 then
   some [.int .i64 0, .int .i64 0, .int .u64 0, .int .u64 0, .list T_api_Edge ([] : List V)]
  else
   (Loop (s_nfa_Reverse_1L C n_4 (n_4.length : Int) 0 0 0 0 n_0 n_1 n_3 n_2 ([] : List V)) (0, ([] : List V))).bind (un fun (t_3 : Int) => un fun (t_4 : Bool) (b_5 : List V) =>
     (C F_slices_SortFunc___api_Edge_api_Edge_ [.list T_api_Edge b_5]).bind fun r6 =>
     some [.int .i64 n_0, .int .i64 n_1, .int .u64 n_3, .int .u64 n_2, .list T_api_Edge ((V.nth r6 0).toList)])
theorem f_nfa_Reverse_of {n_0 n_1 n_2 n_3 : Int} {n_4 : List V} {r : Option (List V)} (h : f_nfa_Reverse CC n_0 n_1 n_2 n_3 n_4 = r) : CC F_nfa_Reverse [.int .i64 n_0, .int .i64 n_1, .int .u64 n_2, .int .u64 n_3, .list T_api_Edge n_4] = r :=
  func_of (key := 26) (L := LT_nfa_Reverse CC) (bs := [.loop (codeAt [1, 1, 1, 0, 1, 0, 0] B_nfa_Reverse)]) (by kernel_rfl) (tells_cons (t_nfa_Reverse_1 CC) tells_nil) (Eq.trans (by kernel_rfl) h)
end Go.AM
set_option maxRecDepth 100000
namespace Go.AM
open Go.Proofs
noncomputable abbrev B_semigroupref06_Reverse : Code := bodyOf Tryd.prog (ann.fid 27)
noncomputable def s_semigroupref06_Reverse_1 (C : CallF) (t7 : List V) (t8 ns_0 ns_1 ns_2 ns_3 : Int) (ns_4 : List V) (t2s_0 t2s_1 t2s_2 t2s_3 : Int) (b3_ : List V) (t9 : Int) (ls : List V) {β : Type} (kn : (Int × (List V)) → Option β) (kr : (Int × Bool × (List V)) → Option β) : Option β :=
  bif decide ((t9 : Int) < t8) then
   (idx t7 t9).bind fun x1 =>
   bif Nat.ble ((ls.length + ([.agg [.int .i64 ((x1.cell 2).toInt), .int .i64 ((x1.cell 1).toInt), .int .i64 ((x1.cell 0).toInt)]] : List V).length) * 24) maxBytes then
    kn (IntKind.wrap .i64 (t9 + 1), ls ++ ([.agg [.int .i64 ((x1.cell 2).toInt), .int .i64 ((x1.cell 1).toInt), .int .i64 ((x1.cell 0).toInt)]] : List V))
   else none
  else
   kr (t9, decide ((t9 : Int) < t8), ls)
noncomputable def s_semigroupref06_Reverse_1L (C : CallF) (t7 : List V) (t8 ns_0 ns_1 ns_2 ns_3 : Int) (ns_4 : List V) (t2s_0 t2s_1 t2s_2 t2s_3 : Int) (b3_ : List V) : (Int × (List V)) → Option ((Int × (List V)) ⊕ (Int × Bool × (List V))) := un fun t9 ls => s_semigroupref06_Reverse_1 C t7 t8 ns_0 ns_1 ns_2 ns_3 ns_4 t2s_0 t2s_1 t2s_2 t2s_3 b3_ t9 ls (fun y => some (.inl y)) (fun r => some (.inr r))
noncomputable def LT_semigroupref06_Reverse (C : CallF) : LTab := fun β n ds k =>
  bif Nat.beq n 49 then loopS S27_49 [false, false, true, false, false, false, false, false, false, false, false, false, true, false] [[1, 2, 0, 0, 4, 5, 6, 7, 8, 9, 10, 11, 12, 0, 14]] (@s_semigroupref06_Reverse_1 C) ds k else
  none
abbrev TS_semigroupref06_Reverse (C : CallF) (b : Bar) : Prop := Tells Tryd.prog ann C (LT_semigroupref06_Reverse C) 27 (ntmpsOf Tryd.prog (ann.fid 27)) (ann.sin 27).blks.length b
theorem t_semigroupref06_Reverse_1 (C : CallF) : TS_semigroupref06_Reverse C (.loop (codeAt [1, 1, 0, 1, 0, 0] B_semigroupref06_Reverse)) :=
  tl3 S27_49 [false, false, true, false, false, false, false, false, false, false, false, false, true, false] [[1, 2, 0, 0, 4, 5, 6, 7, 8, 9, 10, 11, 12, 0, 14]] (@s_semigroupref06_Reverse_1 C) (by kernel_rfl) (ltok_of (bs := []) (by kernel_rfl) tells_nil) (fun ds => by kernel_rfl) (fun i x => by kernel_rfl) (fun i x β k => by kernel_rfl) (fun β ds k => by kernel_rfl)
noncomputable def f_semigroupref06_Reverse (C : CallF) (n_0 n_1 n_2 n_3 : Int) (n_4 : List V) : Option (List V) :=
  (Loop (s_semigroupref06_Reverse_1L C n_4 (n_4.length : Int) n_0 n_1 n_2 n_3 n_4 0 0 0 0 ([] : List V)) (0, ([] : List V))).bind (un fun (t_2 : Int) => un fun (t_3 : Bool) (ls_4 : List V) =>
    (C F_semigroupref06_Sorted [.list T_api_Edge ls_4]).bind fun r5 =>
    some [.int .i64 n_0, .int .i64 n_1, .int .u64 n_3, .int .u64 n_2, .list T_api_Edge ((V.nth r5 0).toList)])
theorem f_semigroupref06_Reverse_of {n_0 n_1 n_2 n_3 : Int} {n_4 : List V} {r : Option (List V)} (h : f_semigroupref06_Reverse CC n_0 n_1 n_2 n_3 n_4 = r) : CC F_semigroupref06_Reverse [.int .i64 n_0, .int .i64 n_1, .int .u64 n_2, .int .u64 n_3, .list T_api_Edge n_4] = r :=
  func_of (key := 27) (L := LT_semigroupref06_Reverse CC) (bs := [.loop (codeAt [1, 1, 0, 1, 0, 0] B_semigroupref06_Reverse)]) (by kernel_rfl) (tells_cons (t_semigroupref06_Reverse_1 CC) tells_nil) (Eq.trans (by kernel_rfl) h)
end Go.AM
set_option maxRecDepth 100000
namespace Go.AM
open Go.Proofs
noncomputable abbrev B_semigroupref01_Reverse : Code := bodyOf Tryd.prog (ann.fid 28)
noncomputable def s_semigroupref01_Reverse_1 (C : CallF) (w : List UInt8) (i : Int) (b's : List V) {β : Type} (kn : (Int × (List V)) → Option β) (kr : (Int × Bool × (List V)) → Option β) : Option β :=
  bif decide ((i : Int) < (w.length : Int)) then
   (bif decide (0 ≤ i) then (w[(i : Int).toNat]?).map fun b => V.int .u8 b.toNat else none).bind fun x1 =>
   bif (decide (0 ≤ (IntKind.wrap .i64 ((IntKind.wrap .i64 ((w.length : Int) - 1)) - i)))) && (decide ((IntKind.wrap .i64 ((IntKind.wrap .i64 ((w.length : Int) - 1)) - i)) < (b's.length : Int))) then
    (b's[(IntKind.wrap .i64 ((IntKind.wrap .i64 ((w.length : Int) - 1)) - i) : Int).toNat]?).bind fun x2 =>
    kn (IntKind.wrap .i64 (i + 1), b's.set ((IntKind.wrap .i64 ((IntKind.wrap .i64 ((w.length : Int) - 1)) - i) : Int).toNat) (.int .u8 x1.toInt))
   else none
  else
   kr (i, decide ((i : Int) < (w.length : Int)), b's)
noncomputable def s_semigroupref01_Reverse_1L (C : CallF) (w : List UInt8) : (Int × (List V)) → Option ((Int × (List V)) ⊕ (Int × Bool × (List V))) := un fun i b's => s_semigroupref01_Reverse_1 C w i b's (fun y => some (.inl y)) (fun r => some (.inr r))
noncomputable def LT_semigroupref01_Reverse (C : CallF) : LTab := fun β n ds k =>
  bif Nat.beq n 49 then loopS S28_49 [false, true, true] [[1, 0, 0, 0]] (@s_semigroupref01_Reverse_1 C) ds k else
  none
abbrev TS_semigroupref01_Reverse (C : CallF) (b : Bar) : Prop := Tells Tryd.prog ann C (LT_semigroupref01_Reverse C) 28 (ntmpsOf Tryd.prog (ann.fid 28)) (ann.sin 28).blks.length b
theorem t_semigroupref01_Reverse_1 (C : CallF) : TS_semigroupref01_Reverse C (.loop (codeAt [1, 1, 0, 1, 0, 0] B_semigroupref01_Reverse)) :=
  tl3 S28_49 [false, true, true] [[1, 0, 0, 0]] (@s_semigroupref01_Reverse_1 C) (by kernel_rfl) (ltok_of (bs := []) (by kernel_rfl) tells_nil) (fun ds => by kernel_rfl) (fun i x => by kernel_rfl) (fun i x β k => by kernel_rfl) (fun β ds k => by kernel_rfl)
noncomputable def f_semigroupref01_Reverse (C : CallF) (w : List UInt8) : Option (List V) :=
  bif (decide (0 ≤ (w.length : Int))) && ((decide ((w.length : Int) ≤ (w.length : Int))) && (Nat.ble ((((w.length : Int) : Int).toNat) * 1) maxBytes)) then
   (Loop (s_semigroupref01_Reverse_1L C w) (0, List.replicate (((w.length : Int) : Int).toNat) (V.int .u8 0))).bind (un fun (i_3 : Int) => un fun (t_4 : Bool) (b's_5 : List V) =>
     some [.str (bytesOfV b's_5)])
  else none
theorem f_semigroupref01_Reverse_of {w : List UInt8} {r : Option (List V)} (h : f_semigroupref01_Reverse CC w = r) : CC F_semigroupref01_Reverse [.str w] = r :=
  func_of (key := 28) (L := LT_semigroupref01_Reverse CC) (bs := [.loop (codeAt [1, 1, 0, 1, 0, 0] B_semigroupref01_Reverse)]) (by kernel_rfl) (tells_cons (t_semigroupref01_Reverse_1 CC) tells_nil) (Eq.trans (by kernel_rfl) h)
end Go.AM
set_option maxRecDepth 100000
set_option linter.unusedSimpArgs false
set_option maxHeartbeats 1000000
namespace Go.AM
open Go.Proofs
def Ed.rev (e : Ed) : Ed := ⟨e.t, e.l, e.f⟩
@[simp] theorem Ed.rev_rev (e : Ed) : e.rev.rev = e := rfl
theorem Ed.rev_inj {a b : Ed} (h : a.rev = b.rev) : a = b := by rw [← Ed.rev_rev a, h, Ed.rev_rev]
theorem Ed.In.rev {L S : Int} {e : Ed} (h : e.In L S) : e.rev.In L S := by unfold Ed.In at *; simp only [Ed.rev]; omega
def Nf.rev (n : Nf) : Nf := ⟨n.L, n.S, n.fin, n.st, sortedN (n.E.map Ed.rev)⟩
def Nf.zero : Nf := ⟨0, 0, 0, 0, []⟩
theorem Nf.rev_good {n : Nf} (h : n.Good) : n.rev.Good where
  L1 := h.L1
  L6 := h.L6
  S0 := h.S0
  S64 := h.S64
  st := h.fin
  fin := h.st
  E e he := by
    have h1 : e ∈ n.E.map Ed.rev := sortedN_mem.1 he
    obtain ⟨a, ha, rfl⟩ := List.mem_map.1 h1
    exact (h.E a ha).rev
theorem Nf.code_of {n : Nf} (h : n.Good) (hs : Srt n.E) : n.code = 0 := by
  unfold Nf.code
  have := h.L1; have := h.L6; have := h.S0; have := h.S64
  rw [if_neg (by omega), if_neg (not_not_intro ⟨h.st, h.fin⟩), if_pos]
  intro i hi
  have e1 : n.E.getD i default = n.E[i] := by simp [hi]
  refine ⟨by rw [e1]; exact h.E _ (List.getElem_mem _), fun h0 => ?_⟩
  have hi1 : i - 1 < n.E.length := by omega
  have e2 : n.E.getD (i - 1) default = n.E[i - 1] := by simp [hi1]
  rw [e1, e2]
  exact (List.pairwise_iff_getElem.1 hs) (i - 1) i hi1 hi (by omega)
theorem Nf.rev_code {n : Nf} (h : n.Good) : n.rev.code = 0 := Nf.code_of (Nf.rev_good h) (sortedN_srt _)
theorem Nf.len {n : Nf} (h : n.code = 0) : n.E.length ≤ 24576 := srt_len (Nf.good_of h).L6 (Nf.good_of h).S64 (Nf.srt h) (Nf.good_of h).E
theorem Ed.In.ok {L S : Int} {e : Ed} (h : e.In L S) (hL : L ≤ 6) (hS : S ≤ 64) : e.Ok := by unfold Ed.In at h; unfold Ed.Ok; omega
theorem Nf.ok_of {n : Nf} (h : n.code = 0) : n.Ok := by
  have hg := Nf.good_of h
  have hl := Nf.len h
  have := hg.L1; have := hg.L6; have := hg.S0; have := hg.S64
  have hp := pow_S hg
  have h1 := hg.st
  have h2 := hg.fin
  refine ⟨by omega, by omega, by omega, by omega, by omega, by omega, ?_, fun e he => (hg.E e he).ok hg.L6 hg.S64⟩
  have : 24576 ≤ maxLen := by unfold maxLen; omega
  omega
theorem Nf.rev_rev {n : Nf} (h : n.code = 0) : n.rev.rev = n := by
  cases n with
  | mk L S st fin E =>
    have hs : Srt E := Nf.srt h
    unfold Nf.rev
    simp only [Nf.mk.injEq, true_and]
    refine srt_ext (sortedN_srt _) hs fun x => ?_
    rw [sortedN_mem, List.mem_map]
    constructor
    · rintro ⟨a, ha, rfl⟩
      rw [sortedN_mem, List.mem_map] at ha
      obtain ⟨b, hb, rfl⟩ := ha
      exact hb
    · intro hx
      exact ⟨x.rev, sortedN_mem.2 (List.mem_map.2 ⟨x, hx, rfl⟩), rfl⟩
theorem rev_nodup {E : List Ed} (h : Srt E) : (E.map Ed.rev).Nodup := by
  have := srt_nodup h
  rw [List.Nodup, List.pairwise_map]
  exact this.imp fun hab e => hab (Ed.rev_inj e)
theorem enc_rev (e : Ed) : V.agg [.int .i64 e.t, .int .i64 e.l, .int .i64 e.f] = e.rev.enc := rfl
theorem revE_loop {E : List Ed} (hl : E.length ≤ 24576) {t2s_0 t2s_1 t2s_2 t2s_3 r0 r1 r2 r3 : Int} {b : List V} : Loop (s_nfa_Reverse_1L CC (E.map Ed.enc) ((E.map Ed.enc).length : Int) t2s_0 t2s_1 t2s_2 t2s_3 r0 r1 r2 r3 b) (0, ([] : List V)) = some ((E.length : Int), false, (E.map Ed.rev).map Ed.enc) := by
  have := Loop_rounds (step := s_nfa_Reverse_1L CC (E.map Ed.enc) ((E.map Ed.enc).length : Int) t2s_0 t2s_1 t2s_2 t2s_3 r0 r1 r2 r3 b) (fun i => ((i : Int), ((E.take i).map Ed.rev).map Ed.enc)) E.length (r := ((E.length : Int), false, (E.map Ed.rev).map Ed.enc)) ?_ ?_
  · simpa using this
  · intro i hi
    simp only [s_nfa_Reverse_1L, s_nfa_Reverse_1, un]
    rw [bif_decide, if_pos (by rw [List.length_map]; omega), idx_ed hi]
    simp only [Option.bind_some, Ed.enc_0, Ed.enc_1, Ed.enc_2, enc_rev]
    rw [bif_ble, if_pos (by rw [maxB]; simp only [List.length_map, List.length_take, List.length_cons, List.length_nil]; omega), succC, wrap64 (by omega) (by omega)]
    have e1 : E.getD i default = E[i] := by simp [hi]
    rw [e1, ← List.take_append_getElem hi]
    simp only [List.map_append, List.map_cons, List.map_nil]
  · simp only [s_nfa_Reverse_1L, s_nfa_Reverse_1, un]
    rw [List.length_map, dec_false (by omega), cond_false, List.take_length]
theorem revR_loop {E : List Ed} (hl : E.length ≤ 24576) {a0 a1 a2 a3 r0 r1 r2 r3 : Int} {a4 b : List V} : Loop (s_semigroupref06_Reverse_1L CC (E.map Ed.enc) ((E.map Ed.enc).length : Int) a0 a1 a2 a3 a4 r0 r1 r2 r3 b) (0, ([] : List V)) = some ((E.length : Int), false, (E.map Ed.rev).map Ed.enc) := by
  have := Loop_rounds (step := s_semigroupref06_Reverse_1L CC (E.map Ed.enc) ((E.map Ed.enc).length : Int) a0 a1 a2 a3 a4 r0 r1 r2 r3 b) (fun i => ((i : Int), ((E.take i).map Ed.rev).map Ed.enc)) E.length (r := ((E.length : Int), false, (E.map Ed.rev).map Ed.enc)) ?_ ?_
  · simpa using this
  · intro i hi
    simp only [s_semigroupref06_Reverse_1L, s_semigroupref06_Reverse_1, un]
    rw [bif_decide, if_pos (by rw [List.length_map]; omega), idx_ed hi]
    simp only [Option.bind_some, Ed.enc_0, Ed.enc_1, Ed.enc_2, enc_rev]
    rw [bif_ble, if_pos (by rw [maxB]; simp only [List.length_map, List.length_take, List.length_cons, List.length_nil]; omega), succC, wrap64 (by omega) (by omega)]
    have e1 : E.getD i default = E[i] := by simp [hi]
    rw [e1, ← List.take_append_getElem hi]
    simp only [List.map_append, List.map_cons, List.map_nil]
  · simp only [s_semigroupref06_Reverse_1L, s_semigroupref06_Reverse_1, un]
    rw [List.length_map, dec_false (by omega), cond_false, List.take_length]
theorem Reverse_spec (n : Nf) (h : n.Ok) : CC F_nfa_Reverse (nfA n []) = some (nfA (if n.code = 0 then n.rev else Nf.zero) []) := by
  refine f_nfa_Reverse_of ?_
  unfold f_nfa_Reverse
  rw [show CC F_nfa_Validate [.int .i64 n.L, .int .i64 n.S, .int .u64 (n.st : Int), .int .u64 (n.fin : Int), .list T_api_Edge (n.E.map Ed.enc)] = _ from Validate_spec n h]
  simp only [Option.bind_some, V.nth_zero, V.toInt_int]
  by_cases h0 : n.code = 0
  · rw [bif_bne, if_pos h0, if_pos h0, revE_loop (Nf.len h0)]
    simp only [Option.bind_some, un]
    obtain ⟨R, e, hp, hs⟩ := sortE_spec (n.E.map Ed.rev) (by rw [List.length_map]; have := Nf.len h0; omega)
    rw [e]
    have hR : R = sortedN (n.E.map Ed.rev) := srt_ext (srt_of_sort hp (rev_nodup (Nf.srt h0)) hs) (sortedN_srt _) fun x => by rw [sortedN_mem, hp.mem_iff]
    rw [hR]
    rfl
  · rw [bif_bne, if_neg h0, if_neg h0]
    rfl
theorem refReverse_spec (n : Nf) (hl : n.E.length ≤ 24576) : CC F_semigroupref06_Reverse (nfA n []) = some (nfA n.rev []) := by
  refine f_semigroupref06_Reverse_of ?_
  unfold f_semigroupref06_Reverse
  rw [revR_loop hl]
  simp only [Option.bind_some, un]
  rw [Sorted_spec (by rw [List.length_map]; omega)]
  rfl
def bV (b : UInt8) : V := .int .u8 (b.toNat : Int)
theorem bytesOf_map (w : List UInt8) : bytesOfV (w.map bV) = w := by
  unfold bytesOfV
  rw [List.map_map]
  conv => rhs; rw [← List.map_id w]
  apply List.map_congr_left
  intro b _
  simp [bV]
theorem refRev_spec {w : List UInt8} (hl : w.length ≤ 1000000) : CC F_semigroupref01_Reverse [.str w] = some [.str w.reverse] := by
  refine f_semigroupref01_Reverse_of ?_
  unfold f_semigroupref01_Reverse
  rw [bif_and, bif_decide, if_pos (by omega), bif_and, bif_decide, if_pos (by omega), bif_ble, if_pos (by rw [maxB]; omega)]
  have := Loop_rounds (step := s_semigroupref01_Reverse_1L CC w) (fun i => ((i : Int), List.replicate (w.length - i) (V.int .u8 0) ++ ((w.take i).reverse.map bV))) w.length (r := ((w.length : Int), false, w.reverse.map bV)) ?_ ?_
  · simp only [Int.toNat_natCast]
    simp only [Nat.sub_zero, List.take_zero, List.reverse_nil, List.map_nil, List.append_nil] at this
    rw [show Loop (s_semigroupref01_Reverse_1L CC w) (0, List.replicate w.length (V.int .u8 0)) = _ from this]
    simp only [Option.bind_some, un, bytesOf_map]
  · intro i hi
    simp only [s_semigroupref01_Reverse_1L, s_semigroupref01_Reverse_1, un]
    rw [bif_decide, if_pos (by omega), byte_get hi]
    simp only [Option.bind_some, V.toInt_int]
    have e1 : IntKind.wrap .i64 (IntKind.wrap .i64 ((w.length : Int) - 1) - (i : Int)) = ((w.length - i - 1 : Nat) : Int) := by
      rw [wrap64 (x := (w.length : Int) - 1) (by omega) (by omega), wrap64 (by omega) (by omega)]; omega
    obtain ⟨d, hd⟩ : ∃ d, w.length - i = d + 1 := ⟨w.length - i - 1, by omega⟩
    have hd2 : w.length - (i + 1) = d := by omega
    rw [e1, hd, hd2]
    simp only [Nat.add_sub_cancel]
    rw [bif_and, bif_decide, if_pos (by omega), bif_decide, if_pos (by simp only [List.length_append, List.length_replicate]; omega), Int.toNat_natCast]
    have hg : (List.replicate (d + 1) (V.int .u8 0) ++ ((w.take i).reverse.map bV))[d]? = some (V.int .u8 0) := by
      rw [List.getElem?_append_left (by simp)]; simp
    rw [hg]
    simp only [Option.bind_some]
    rw [succC, wrap64 (by omega) (by omega), List.set_append_left _ _ (by simp), List.replicate_succ', List.set_append_right _ _ (by simp), ← List.take_append_getElem hi, List.length_replicate, Nat.sub_self, List.reverse_append, List.map_append]
    simp only [List.set_cons_zero, List.reverse_cons, List.reverse_nil, List.nil_append, List.map_cons, List.map_nil, List.append_assoc, List.singleton_append]
    rfl
  · simp only [s_semigroupref01_Reverse_1L, s_semigroupref01_Reverse_1, un]
    rw [dec_false (by omega), cond_false, Nat.sub_self, List.take_length]
    rfl
theorem wOk_rev {w : List UInt8} {L : Int} : wOk w.reverse L ↔ wOk w L := by
  have key : ∀ w : List UInt8, wOk w L → wOk w.reverse L := by
    intro w h
    refine ⟨h.1, h.2.1, by rw [List.length_reverse]; exact h.2.2.1, fun i hi => ?_⟩
    rw [let_get hi]
    exact h.all _ (List.mem_reverse.1 (List.getElem_mem _))
  exact ⟨fun h => by simpa using key _ h, key w⟩
def sumN {α : Type} (l : List α) (f : α → Nat) : Nat := (l.map f).sum
theorem sumN_nil {α : Type} (f : α → Nat) : sumN [] f = 0 := rfl
theorem sumN_cons {α : Type} (a : α) (l : List α) (f : α → Nat) : sumN (a :: l) f = f a + sumN l f := rfl
theorem sumN_add {α : Type} (l : List α) (f g : α → Nat) : sumN l (fun x => f x + g x) = sumN l f + sumN l g := by
  induction l with
  | nil => rfl
  | cons a l ih => simp only [sumN_cons, ih]; omega
theorem sumN_zero {α : Type} (l : List α) : sumN l (fun _ => 0) = 0 := by
  induction l with
  | nil => rfl
  | cons a l ih => simp only [sumN_cons, ih]
theorem sumN_congr {α : Type} {l : List α} {f g : α → Nat} (h : ∀ x ∈ l, f x = g x) : sumN l f = sumN l g := by
  unfold sumN; rw [List.map_congr_left h]
theorem sumN_perm {α : Type} {l m : List α} (f : α → Nat) (h : l.Perm m) : sumN l f = sumN m f := by
  induction h with
  | nil => rfl
  | cons x _ ih => simp only [sumN_cons, ih]
  | swap x y l => simp only [sumN_cons]; omega
  | trans _ _ h1 h2 => exact h1.trans h2
theorem sumN_map {α β : Type} (l : List α) (g : α → β) (f : β → Nat) : sumN (l.map g) f = sumN l (fun x => f (g x)) := by
  unfold sumN; rw [List.map_map]; rfl
theorem sumN_point {S q : Nat} (h : q < S) (a : Nat) (u : Nat → Nat) : sumN (List.range S) (fun p => (if q = p then a else 0) * u p) = a * u q := by
  induction S with
  | zero => omega
  | succ S ih =>
    have e : sumN (List.range (S + 1)) (fun p => (if q = p then a else 0) * u p) = sumN (List.range S) (fun p => (if q = p then a else 0) * u p) + (if q = S then a else 0) * u S := by
      unfold sumN; rw [List.range_succ, List.map_append, List.sum_append]; simp
    rw [e]
    by_cases hq : q = S
    · subst hq
      rw [if_pos rfl, sumN_congr (g := fun _ => 0), sumN_zero, Nat.zero_add]
      intro p hp
      rw [List.mem_range] at hp
      rw [if_neg (by omega), Nat.zero_mul]
    · rw [ih (by omega), if_neg hq, Nat.zero_mul, Nat.add_zero]
def tStep (E : List Ed) (x : Int) (t : Nat → Nat) (q : Nat) : Nat := sumN E fun e => if e.l = x ∧ e.t.toNat = q then t e.f.toNat else 0
def tRun (E : List Ed) : List UInt8 → (Nat → Nat) → Nat → Nat
  | [], t => t
  | b :: w, t => tRun E w (tStep E (wlet b) t)
def dot (S : Nat) (t u : Nat → Nat) : Nat := sumN (List.range S) fun q => t q * u q
theorem dot_comm (S : Nat) (t u : Nat → Nat) : dot S t u = dot S u t := sumN_congr fun q _ => Nat.mul_comm _ _
theorem dot_step {S : Nat} {x : Int} {t u : Nat → Nat} : ∀ (E : List Ed), (∀ e ∈ E, e.t.toNat < S) → dot S (tStep E x t) u = sumN E fun e => if e.l = x then t e.f.toNat * u e.t.toNat else 0
  | [], _ => by
    unfold dot tStep
    rw [sumN_congr (g := fun _ => 0) (fun q _ => by rw [sumN_nil, Nat.zero_mul]), sumN_zero, sumN_nil]
  | e :: E, h => by
    have ih := dot_step (x := x) (t := t) (u := u) E fun e he => h e (by simp [he])
    have e1 : dot S (tStep (e :: E) x t) u = sumN (List.range S) (fun q => (if e.t.toNat = q then (if e.l = x then t e.f.toNat else 0) else 0) * u q) + dot S (tStep E x t) u := by
      unfold dot
      rw [← sumN_add]
      refine sumN_congr fun q _ => ?_
      unfold tStep
      rw [sumN_cons, Nat.add_mul]
      congr 2
      by_cases h1 : e.t.toNat = q <;> by_cases h2 : e.l = x <;> simp [h1, h2]
    rw [e1, ih, sumN_point (h e (by simp)), sumN_cons]
    congr 1
    split <;> simp
theorem dot_rev {S : Nat} {x : Int} {t u : Nat → Nat} {E E' : List Ed} (hp : E'.Perm (E.map Ed.rev)) (h : ∀ e ∈ E, e.t.toNat < S) (h' : ∀ e ∈ E, e.f.toNat < S) : dot S (tStep E x t) u = dot S t (tStep E' x u) := by
  rw [dot_comm S t, dot_step E h, dot_step E' (fun e he => ?_), sumN_perm _ hp, sumN_map]
  · refine sumN_congr fun e _ => ?_
    show (if e.l = x then t e.f.toNat * u e.t.toNat else 0) = if e.l = x then u e.t.toNat * t e.f.toNat else 0
    by_cases h1 : e.l = x
    · rw [if_pos h1, if_pos h1, Nat.mul_comm]
    · rw [if_neg h1, if_neg h1]
  · obtain ⟨a, ha, rfl⟩ := List.mem_map.1 (hp.mem_iff.1 he)
    exact h' a ha
theorem tRun_snoc (E : List Ed) (b : UInt8) : ∀ (w : List UInt8) (t : Nat → Nat), tRun E (w ++ [b]) t = tStep E (wlet b) (tRun E w t)
  | [], t => rfl
  | c :: w, t => by rw [List.cons_append]; exact tRun_snoc E b w _
theorem run_rev {S : Nat} {E E' : List Ed} (hp : E'.Perm (E.map Ed.rev)) (h : ∀ e ∈ E, e.t.toNat < S) (h' : ∀ e ∈ E, e.f.toNat < S) : ∀ (w : List UInt8) (t u : Nat → Nat), dot S (tRun E w t) u = dot S t (tRun E' w.reverse u)
  | [], t, u => rfl
  | b :: w, t, u => by
    show dot S (tRun E w (tStep E (wlet b) t)) u = _
    rw [run_rev hp h h' w, dot_rev hp h h', List.reverse_cons, tRun_snoc]
def Cap (c : List Nat) (t : Nat → Nat) : Prop := ∀ q, c.getD q 0 = min top31 (t q)
theorem cMin_cap {a b x y : Nat} (ha : a = min top31 x) (hb : b = min top31 y) : cMin a b = min top31 (x + y) := by
  unfold cMin; split <;> omega
theorem cstep_cap {x : Int} {c : List Nat} {t : Nat → Nat} {S : Nat} (hc : Cap c t) : ∀ (E : List Ed) (a : List Nat) (A : Nat → Nat), a.length = S → (∀ e ∈ E, e.t.toNat < S) → Cap a A → Cap (E.foldl (cstep1 x c) a) (fun q => A q + tStep E x t q)
  | [], a, A, _, _, h => by
    intro q
    have := h q
    simp only [List.foldl_nil, tStep, sumN_nil, Nat.add_zero]
    exact this
  | e :: E, a, A, ha, hE, h => by
    have ih := cstep_cap (x := x) hc E (cstep1 x c a e) (fun q => A q + if e.l = x ∧ e.t.toNat = q then t e.f.toNat else 0) (by unfold cstep1; split <;> simp [ha]) (fun e he => hE e (by simp [he])) ?_
    · intro q
      rw [List.foldl_cons, ih q]
      simp only [tStep, sumN_cons, Nat.add_assoc]
    · intro q
      show _ = min top31 (A q + if e.l = x ∧ e.t.toNat = q then t e.f.toNat else 0)
      unfold cstep1
      by_cases hx : e.l = x
      · rw [if_pos hx, getD_set]
        by_cases hq : e.t.toNat = q
        · subst hq
          rw [if_pos ⟨rfl, by rw [ha]; exact hE e (by simp)⟩, if_pos ⟨hx, rfl⟩]
          exact cMin_cap (h _) (hc _)
        · rw [if_neg (fun hh => hq hh.1), if_neg (fun hh => hq hh.2), Nat.add_zero]
          exact h q
      · rw [if_neg hx, if_neg (fun hh => hx hh.1), Nat.add_zero]
        exact h q
theorem cap_zero (S : Nat) : Cap (List.replicate S 0) (fun _ => 0) := by
  intro q
  rw [List.getD_eq_getElem?_getD, List.getElem?_replicate]
  split <;> simp
theorem crun_cap {E : List Ed} {S : Nat} (hE : ∀ e ∈ E, e.t.toNat < S) : ∀ (w : List UInt8) (c : List Nat) (t : Nat → Nat), Cap c t → Cap (crun E S c w) (tRun E w t)
  | [], _, _, h => h
  | b :: w, c, t, h => by
    refine crun_cap hE w _ _ ?_
    have := cstep_cap (x := wlet b) (S := S) h E _ _ (by simp) hE (cap_zero S)
    intro q
    show (cstep E S (wlet b) c).getD q 0 = _
    rw [show cstep E S (wlet b) c = E.foldl (cstep1 (wlet b) c) (List.replicate S 0) from rfl, this q]
    simp only [Nat.zero_add]
def ind (s : Nat) (q : Nat) : Nat := if s.testBit q = true then 1 else 0
theorem cinit_cap {S st : Nat} (hS : S ≤ 64) (hst : st < 2 ^ S) : Cap (cinit S st) (ind st) := by
  have h64 : 2 ^ S ≤ 2 ^ 64 := Nat.pow_le_pow_right (by omega) hS
  have key : ∀ (l : List Nat) (a : List Nat), (∀ q, a.getD q 0 ≤ 1) → ∀ q, (l.foldl (fun a q => a.set q 1) a).getD q 0 ≤ 1 := by
    intro l
    induction l with
    | nil => exact fun a h => h
    | cons p l ih =>
      intro a h
      refine ih _ fun q => ?_
      rw [getD_set]
      split
      · omega
      · exact h q
  intro q
  have h1 := key (mem st) (List.replicate S 0) (fun q => by rw [List.getD_eq_getElem?_getD, List.getElem?_replicate]; split <;> simp) q
  have h2 := cinit_pos (q := q) hS hst
  unfold cinit at *
  unfold ind top31
  by_cases hb : st.testBit q = true
  · rw [if_pos hb]
    have := h2.2 hb
    omega
  · rw [if_neg hb]
    have : ¬ 0 < _ := fun hx => hb (h2.1 hx)
    omega
theorem csum_cap {c : List Nat} {t : Nat → Nat} (hc : Cap c t) : ∀ (l : List Nat) (a A : Nat), a = min top31 A → l.foldl (fun a q => cMin a (c.getD q 0)) a = min top31 (A + sumN l t)
  | [], a, A, h => by rw [sumN_nil, Nat.add_zero]; exact h
  | p :: l, a, A, h => by
    rw [List.foldl_cons, csum_cap hc l _ _ (cMin_cap h (hc p)), sumN_cons, Nat.add_assoc]
theorem sum_mem {S fin : Nat} (hS : S ≤ 64) (hf : fin < 2 ^ S) (t : Nat → Nat) : sumN (mem fin) t = dot S t (ind fin) := by
  have h1 : ∀ (l : List Nat) (a : Nat), l.foldl (fun a q => a + t q) a = a + sumN l t := by
    intro l
    induction l with
    | nil => intro a; rfl
    | cons p l ih => intro a; rw [List.foldl_cons, ih, sumN_cons, Nat.add_assoc]
  have h2 : ∀ (l : List Nat) (a : Nat), l.foldl (fun a q => if fin.testBit q = true then a + t q else a) a = a + sumN l (fun q => t q * ind fin q) := by
    intro l
    induction l with
    | nil => intro a; rfl
    | cons p l ih =>
      intro a
      rw [List.foldl_cons, ih, sumN_cons]
      unfold ind
      split <;> omega
  have h3 := mem_fold (fun a q => a + t q) hf hS 0
  rw [h1, h2, Nat.zero_add, Nat.zero_add] at h3
  exact h3
theorem runs_true {n : Nf} (hg : n.Good) (w : List UInt8) : runsN n w = min top31 (dot n.S.toNat (tRun n.E w (ind n.st)) (ind n.fin)) := by
  have h64 := hg.S64
  unfold runsN csum
  rw [csum_cap (crun_cap (edT hg) w _ _ (cinit_cap (by omega) hg.st)) _ 0 0 (by simp), Nat.zero_add, sum_mem (by omega) hg.fin]
theorem rev_perm {n : Nf} (h : n.code = 0) : n.rev.E.Perm (n.E.map Ed.rev) := by
  have h1 : n.rev.E.Nodup := srt_nodup (sortedN_srt _)
  exact (List.perm_ext_iff_of_nodup h1 (rev_nodup (Nf.srt h))).2 fun x => sortedN_mem
theorem runs_rev {n : Nf} (h : n.code = 0) (w : List UInt8) : runsN n.rev w.reverse = runsN n w := by
  have hg := Nf.good_of h
  rw [runs_true hg, runs_true (Nf.rev_good hg), run_rev (rev_perm h) (edT hg) (edF hg) w]
  show min top31 (dot n.S.toNat (tRun n.rev.E w.reverse (ind n.fin)) (ind n.st)) = _
  rw [dot_comm]
end Go.AM
set_option maxRecDepth 100000
namespace Go.AM
open Go.Proofs
noncomputable abbrev B_semigrouplaw06_NfaReverses : Code := bodyOf Tryd.prog (ann.fid 8)
noncomputable def s_semigrouplaw06_NfaReverses_1 (C : CallF) (w : List UInt8) (t19 : Bool) (ns_0 ns_1 ns_2 ns_3 : Int) (ns_4 : List V) (r's_0 r's_1 r's_2 r's_3 : Int) (b2_ : List V) {β : Type} (kr : (List UInt8) → Option β) : Option β :=
  bif t19 then
   bif decide (100 ≤ (w.length : Int)) then
    kr ((w.drop 0).take (100 - 0))
   else none
  else
   kr w
noncomputable def LT_semigrouplaw06_NfaReverses (C : CallF) : LTab := fun β n ds k =>
  bif Nat.beq n 319 then condS S8_319 [[0, 3, 4, 5, 6, 7, 8, 9, 10, 11, 12]] (@s_semigrouplaw06_NfaReverses_1 C) ds k else
  none
abbrev TS_semigrouplaw06_NfaReverses (C : CallF) (b : Bar) : Prop := Tells Tryd.prog ann C (LT_semigrouplaw06_NfaReverses C) 8 (ntmpsOf Tryd.prog (ann.fid 8)) (ann.sin 8).blks.length b
theorem t_semigrouplaw06_NfaReverses_1 (C : CallF) : TS_semigrouplaw06_NfaReverses C (.cond 19 (codeAt [1, 1, 1, 0, 1, 0] B_semigrouplaw06_NfaReverses) (codeAt [1, 1, 1, 0, 1, 1] B_semigrouplaw06_NfaReverses)) :=
  tc3 S8_319 [[0, 3, 4, 5, 6, 7, 8, 9, 10, 11, 12]] (@s_semigrouplaw06_NfaReverses_1 C) (by kernel_rfl) (ltok_of (bs := []) (by kernel_rfl) tells_nil) (ltok_of (bs := []) (by kernel_rfl) tells_nil) (fun ds => by kernel_rfl) (fun i β k => by kernel_rfl) (fun β ds k => by kernel_rfl)
noncomputable def f_semigrouplaw06_NfaReverses (C : CallF) (n_0 n_1 n_2 n_3 : Int) (n_4 : List V) (w : List UInt8) : Option (List V) :=
  (C F_nfa_Reverse [.int .i64 n_0, .int .i64 n_1, .int .u64 n_2, .int .u64 n_3, .list T_api_Edge n_4]).bind fun r1 =>
  (C F_semigrouplaw06_valid [.int .i64 n_0, .int .i64 n_1, .int .u64 n_2, .int .u64 n_3, .list T_api_Edge n_4]).bind fun r2 =>
  bif !((V.nth r2 0).toBool) then
   (C F_semigroupref06_Same [.int .i64 ((V.nth r1 0).toInt), .int .i64 ((V.nth (r1.drop 1) 0).toInt), .int .u64 ((V.nth ((r1.drop 1).drop 1) 0).toInt), .int .u64 ((V.nth (((r1.drop 1).drop 1).drop 1) 0).toInt), .list T_api_Edge ((V.nth (r1.drop 4) 0).toList), .int .i64 0, .int .i64 0, .int .u64 0, .int .u64 0, .list T_api_Edge ([] : List V)]).bind fun r3 =>
   bif (V.nth r3 0).toBool then
    (C F_semigrouplaw06_awake []).bind fun r4 =>
    some [.bool ((V.nth r4 0).toBool)]
   else
    some [.bool false]
  else
   s_semigrouplaw06_NfaReverses_1 C w (decide (((w.length : Int) : Int) > 100)) n_0 n_1 n_2 n_3 n_4 ((V.nth r1 0).toInt) ((V.nth (r1.drop 1) 0).toInt) ((V.nth ((r1.drop 1).drop 1) 0).toInt) ((V.nth (((r1.drop 1).drop 1).drop 1) 0).toInt) ((V.nth (r1.drop 4) 0).toList) (fun (w_5 : List UInt8) =>
     (C F_semigroupref06_Reverse [.int .i64 n_0, .int .i64 n_1, .int .u64 n_2, .int .u64 n_3, .list T_api_Edge n_4]).bind fun r6 =>
     (C F_semigroupref06_Same [.int .i64 ((V.nth r1 0).toInt), .int .i64 ((V.nth (r1.drop 1) 0).toInt), .int .u64 ((V.nth ((r1.drop 1).drop 1) 0).toInt), .int .u64 ((V.nth (((r1.drop 1).drop 1).drop 1) 0).toInt), .list T_api_Edge ((V.nth (r1.drop 4) 0).toList), .int .i64 ((V.nth r6 0).toInt), .int .i64 ((V.nth (r6.drop 1) 0).toInt), .int .u64 ((V.nth ((r6.drop 1).drop 1) 0).toInt), .int .u64 ((V.nth (((r6.drop 1).drop 1).drop 1) 0).toInt), .list T_api_Edge ((V.nth (r6.drop 4) 0).toList)]).bind fun r7 =>
     bif (V.nth r7 0).toBool then
      (C F_semigroupref01_Reverse [.str w_5]).bind fun r8 =>
      (C F_nfa_Runs [.int .i64 ((V.nth r1 0).toInt), .int .i64 ((V.nth (r1.drop 1) 0).toInt), .int .u64 ((V.nth ((r1.drop 1).drop 1) 0).toInt), .int .u64 ((V.nth (((r1.drop 1).drop 1).drop 1) 0).toInt), .list T_api_Edge ((V.nth (r1.drop 4) 0).toList), .str ((V.nth r8 0).toStr)]).bind fun r9 =>
      (C F_nfa_Runs [.int .i64 n_0, .int .i64 n_1, .int .u64 n_2, .int .u64 n_3, .list T_api_Edge n_4, .str w_5]).bind fun r10 =>
      bif (((V.nth r9 0).toInt) : Int) == ((V.nth r10 0).toInt) then
       (C F_nfa_Reverse [.int .i64 ((V.nth r1 0).toInt), .int .i64 ((V.nth (r1.drop 1) 0).toInt), .int .u64 ((V.nth ((r1.drop 1).drop 1) 0).toInt), .int .u64 ((V.nth (((r1.drop 1).drop 1).drop 1) 0).toInt), .list T_api_Edge ((V.nth (r1.drop 4) 0).toList)]).bind fun r11 =>
       (C F_semigroupref06_Same [.int .i64 ((V.nth r11 0).toInt), .int .i64 ((V.nth (r11.drop 1) 0).toInt), .int .u64 ((V.nth ((r11.drop 1).drop 1) 0).toInt), .int .u64 ((V.nth (((r11.drop 1).drop 1).drop 1) 0).toInt), .list T_api_Edge ((V.nth (r11.drop 4) 0).toList), .int .i64 n_0, .int .i64 n_1, .int .u64 n_2, .int .u64 n_3, .list T_api_Edge n_4]).bind fun r12 =>
       bif (V.nth r12 0).toBool then
        (C F_semigrouplaw06_awake []).bind fun r13 =>
        some [.bool ((V.nth r13 0).toBool)]
       else
        some [.bool false]
      else
       some [.bool false]
     else
      some [.bool false])
theorem f_semigrouplaw06_NfaReverses_of {n_0 n_1 n_2 n_3 : Int} {n_4 : List V} {w : List UInt8} {r : Option (List V)} (h : f_semigrouplaw06_NfaReverses CC n_0 n_1 n_2 n_3 n_4 w = r) : CC F_semigrouplaw06_NfaReverses [.int .i64 n_0, .int .i64 n_1, .int .u64 n_2, .int .u64 n_3, .list T_api_Edge n_4, .str w] = r :=
  func_of (key := 8) (L := LT_semigrouplaw06_NfaReverses CC) (bs := [.cond 19 (codeAt [1, 1, 1, 0, 1, 0] B_semigrouplaw06_NfaReverses) (codeAt [1, 1, 1, 0, 1, 1] B_semigrouplaw06_NfaReverses)]) (by kernel_rfl) (tells_cons (t_semigrouplaw06_NfaReverses_1 CC) tells_nil) (Eq.trans (by kernel_rfl) h)
end Go.AM
set_option linter.unusedSimpArgs false
set_option maxRecDepth 100000
set_option maxHeartbeats 1000000
namespace Go.AM
open Go.Proofs
theorem nfaReverses (n : Nf) (h : n.Ok) (w : List UInt8) : CC F_semigrouplaw06_NfaReverses (nfA n [.str w]) = some [.bool true] := by
  refine f_semigrouplaw06_NfaReverses_of ?_
  unfold f_semigrouplaw06_NfaReverses
  rw [show CC F_nfa_Reverse [.int .i64 n.L, .int .i64 n.S, .int .u64 (n.st : Int), .int .u64 (n.fin : Int), .list T_api_Edge (n.E.map Ed.enc)] = _ from Reverse_spec n h,
    show CC F_semigrouplaw06_valid [.int .i64 n.L, .int .i64 n.S, .int .u64 (n.st : Int), .int .u64 (n.fin : Int), .list T_api_Edge (n.E.map Ed.enc)] = _ from valid_spec n h, awake]
  by_cases h0 : n.code = 0
  · rw [if_pos h0, decide_eq_true h0]
    simp only [Option.bind_some, nfA, V.nth_zero, V.nth_succ, V.toInt_int, V.toBool_bool, V.toList_list, List.drop_succ_cons, List.drop_zero, Bool.not_true, cond_false]
    have hr := Nf.rev_code (Nf.good_of h0)
    have hro := Nf.ok_of hr
    have rest : ∀ v : List UInt8, v.length ≤ 1000000 →
        ((CC F_semigroupref06_Reverse [.int .i64 n.L, .int .i64 n.S, .int .u64 (n.st : Int), .int .u64 (n.fin : Int), .list T_api_Edge (n.E.map Ed.enc)]).bind fun r6 =>
     (CC F_semigroupref06_Same [.int .i64 n.rev.L, .int .i64 n.rev.S, .int .u64 (n.rev.st : Int), .int .u64 (n.rev.fin : Int), .list T_api_Edge (n.rev.E.map Ed.enc), .int .i64 ((V.nth r6 0).toInt), .int .i64 ((V.nth (r6.drop 1) 0).toInt), .int .u64 ((V.nth ((r6.drop 1).drop 1) 0).toInt), .int .u64 ((V.nth (((r6.drop 1).drop 1).drop 1) 0).toInt), .list T_api_Edge ((V.nth (r6.drop 4) 0).toList)]).bind fun r7 =>
     bif (V.nth r7 0).toBool then
      (CC F_semigroupref01_Reverse [.str v]).bind fun r8 =>
      (CC F_nfa_Runs [.int .i64 n.rev.L, .int .i64 n.rev.S, .int .u64 (n.rev.st : Int), .int .u64 (n.rev.fin : Int), .list T_api_Edge (n.rev.E.map Ed.enc), .str ((V.nth r8 0).toStr)]).bind fun r9 =>
      (CC F_nfa_Runs [.int .i64 n.L, .int .i64 n.S, .int .u64 (n.st : Int), .int .u64 (n.fin : Int), .list T_api_Edge (n.E.map Ed.enc), .str v]).bind fun r10 =>
      bif (((V.nth r9 0).toInt) : Int) == ((V.nth r10 0).toInt) then
       (CC F_nfa_Reverse [.int .i64 n.rev.L, .int .i64 n.rev.S, .int .u64 (n.rev.st : Int), .int .u64 (n.rev.fin : Int), .list T_api_Edge (n.rev.E.map Ed.enc)]).bind fun r11 =>
       (CC F_semigroupref06_Same [.int .i64 ((V.nth r11 0).toInt), .int .i64 ((V.nth (r11.drop 1) 0).toInt), .int .u64 ((V.nth ((r11.drop 1).drop 1) 0).toInt), .int .u64 ((V.nth (((r11.drop 1).drop 1).drop 1) 0).toInt), .list T_api_Edge ((V.nth (r11.drop 4) 0).toList), .int .i64 n.L, .int .i64 n.S, .int .u64 (n.st : Int), .int .u64 (n.fin : Int), .list T_api_Edge (n.E.map Ed.enc)]).bind fun r12 =>
       bif (V.nth r12 0).toBool then
        (some [V.bool true] : Option (List V)).bind fun r13 =>
        some [V.bool ((V.nth r13 0).toBool)]
       else
        some [V.bool false]
      else
       some [V.bool false]
     else
      some [V.bool false]) = some [.bool true] := by
      intro v hv
      rw [show CC F_semigroupref06_Reverse [.int .i64 n.L, .int .i64 n.S, .int .u64 (n.st : Int), .int .u64 (n.fin : Int), .list T_api_Edge (n.E.map Ed.enc)] = _ from refReverse_spec n (Nf.len h0)]
      simp only [Option.bind_some, nfA, V.nth_zero, V.nth_succ, V.toInt_int, V.toBool_bool, V.toList_list, List.drop_succ_cons, List.drop_zero]
      rw [show CC F_semigroupref06_Same [.int .i64 n.rev.L, .int .i64 n.rev.S, .int .u64 (n.rev.st : Int), .int .u64 (n.rev.fin : Int), .list T_api_Edge (n.rev.E.map Ed.enc), .int .i64 n.rev.L, .int .i64 n.rev.S, .int .u64 (n.rev.st : Int), .int .u64 (n.rev.fin : Int), .list T_api_Edge (n.rev.E.map Ed.enc)] = _ from Same_refl n.rev hro.len]
      simp only [Option.bind_some, V.nth_zero, V.toBool_bool, cond_true]
      rw [refRev_spec hv]
      simp only [Option.bind_some, V.nth_zero, V.toStr_str]
      rw [show CC F_nfa_Runs [.int .i64 n.rev.L, .int .i64 n.rev.S, .int .u64 (n.rev.st : Int), .int .u64 (n.rev.fin : Int), .list T_api_Edge (n.rev.E.map Ed.enc), .str v.reverse] = _ from Runs_spec n.rev hro v.reverse,
        show CC F_nfa_Runs [.int .i64 n.L, .int .i64 n.S, .int .u64 (n.st : Int), .int .u64 (n.fin : Int), .list T_api_Edge (n.E.map Ed.enc), .str v] = _ from Runs_spec n h v]
      simp only [Option.bind_some, V.nth_zero, V.toInt_int]
      have he : (if n.rev.code = 0 ∧ wOk v.reverse n.rev.L then runsN n.rev v.reverse else 0) = (if n.code = 0 ∧ wOk v n.L then runsN n v else 0) := by
        by_cases hw : wOk v n.L
        · rw [if_pos ⟨hr, wOk_rev.2 hw⟩, if_pos ⟨h0, hw⟩, runs_rev h0]
        · rw [if_neg (fun hx => hw (wOk_rev.1 hx.2)), if_neg (fun hx => hw hx.2)]
      rw [he, bif_beq, if_pos rfl,
        show CC F_nfa_Reverse [.int .i64 n.rev.L, .int .i64 n.rev.S, .int .u64 (n.rev.st : Int), .int .u64 (n.rev.fin : Int), .list T_api_Edge (n.rev.E.map Ed.enc)] = _ from Reverse_spec n.rev hro, if_pos hr, Nf.rev_rev h0]
      simp only [Option.bind_some, nfA, V.nth_zero, V.nth_succ, V.toInt_int, V.toBool_bool, V.toList_list, List.drop_succ_cons, List.drop_zero]
      rw [show CC F_semigroupref06_Same [.int .i64 n.L, .int .i64 n.S, .int .u64 (n.st : Int), .int .u64 (n.fin : Int), .list T_api_Edge (n.E.map Ed.enc), .int .i64 n.L, .int .i64 n.S, .int .u64 (n.st : Int), .int .u64 (n.fin : Int), .list T_api_Edge (n.E.map Ed.enc)] = _ from Same_refl n h.len]
      rfl
    unfold s_semigrouplaw06_NfaReverses_1
    by_cases hw : (w.length : Int) > 100
    · rw [dec_true hw, cond_true, bif_decide, if_pos (by omega)]
      exact rest _ (by simp only [List.length_take, List.length_drop]; omega)
    · rw [dec_false hw, cond_false]
      exact rest w (by omega)
  · rw [if_neg h0, decide_eq_false h0]
    simp only [Option.bind_some, nfA, V.nth_zero, V.nth_succ, V.toInt_int, V.toBool_bool, V.toList_list, List.drop_succ_cons, List.drop_zero, Bool.not_false, cond_true]
    have := Same_refl Nf.zero (by unfold Nf.zero; simp)
    rw [show CC F_semigroupref06_Same [.int .i64 Nf.zero.L, .int .i64 Nf.zero.S, .int .u64 (Nf.zero.st : Int), .int .u64 (Nf.zero.fin : Int), .list T_api_Edge (Nf.zero.E.map Ed.enc), .int .i64 0, .int .i64 0, .int .u64 0, .int .u64 0, .list T_api_Edge ([] : List V)] = _ from this]
    rfl
end Go.AM
set_option maxRecDepth 100000
namespace Go.AM
open Go.Proofs
theorem WT.u64_inv {P : Program} {t : TypeId} {x : V} (hu : P.underlying t = some (.int .u64)) (h : WT P t x) : ∃ n : Nat, x = .int .u64 (n : Int) ∧ n < 2 ^ 64 := by
  obtain ⟨n, rfl, h1, h2⟩ := h.int_inv hu
  have e1 : IntKind.min .u64 = 0 := by decide
  have e2 : IntKind.max .u64 = 18446744073709551615 := by decide
  rw [e1] at h1
  rw [e2] at h2
  exact ⟨n.toNat, by rw [Int.toNat_of_nonneg h1], by omega⟩
theorem WT.i64_inv {P : Program} {t : TypeId} {x : V} (hu : P.underlying t = some (.int .i64)) (h : WT P t x) : ∃ n : Int, x = .int .i64 n ∧ -9223372036854775808 ≤ n ∧ n ≤ 9223372036854775807 := by
  obtain ⟨n, rfl, h1, h2⟩ := h.int_inv hu
  have e1 : IntKind.min .i64 = -9223372036854775808 := by decide
  have e2 : IntKind.max .i64 = 9223372036854775807 := by decide
  rw [e1] at h1
  rw [e2] at h2
  exact ⟨n, rfl, h1, h2⟩
theorem list3 {α : Type} {l : List α} (h : l.length = 3) : ∃ a b c, l = [a, b, c] := by
  match l, h with
  | [a, b, c], _ => exact ⟨a, b, c, rfl⟩
theorem list5 {α : Type} {l : List α} (h : l.length = 5) : ∃ a b c d e, l = [a, b, c, d, e] := by
  match l, h with
  | [a, b, c, d, e], _ => exact ⟨a, b, c, d, e, rfl⟩
theorem wt_ed {x : V} (h : WTv Tryd.prog T_api_Edge x) : ∃ e : Ed, x = e.enc ∧ e.Ok := by
  have he : etys Tryd.prog T_api_Edge = [3, 3, 3] := by kernel_rfl
  obtain ⟨xs, rfl, hl, hx⟩ := WTv.agg_inv (by kernel_rfl) h
  rw [he] at hl
  obtain ⟨a, b, c, rfl⟩ := list3 hl
  have hu : Tryd.prog.underlying 3 = some (.int .i64) := by kernel_rfl
  obtain ⟨f, rfl, f1, f2⟩ := WT.i64_inv hu (hx 0 3 a (by rw [he]; rfl) rfl)
  obtain ⟨l, rfl, l1, l2⟩ := WT.i64_inv hu (hx 1 3 b (by rw [he]; rfl) rfl)
  obtain ⟨t, rfl, t1, t2⟩ := WT.i64_inv hu (hx 2 3 c (by rw [he]; rfl) rfl)
  exact ⟨⟨f, l, t⟩, rfl, f1, f2, l1, l2, t1, t2⟩
def Nf.enc (n : Nf) : V := .agg (nfA n [])
theorem wt_nf {t : TypeId} {x : V} (ha : isAggT Tryd.prog t = true) (he : etys Tryd.prog t = [3, 3, 22, 22, 23]) (h : WTv Tryd.prog t x) : ∃ n : Nf, x = n.enc ∧ n.Ok := by
  obtain ⟨xs, rfl, hl, hx⟩ := WTv.agg_inv ha h
  rw [he] at hl
  obtain ⟨a, b, c, d, e, rfl⟩ := list5 hl
  have hu : Tryd.prog.underlying 3 = some (.int .i64) := by kernel_rfl
  have hv : Tryd.prog.underlying 22 = some (.int .u64) := by kernel_rfl
  have hw : Tryd.prog.underlying 23 = some (.slice T_api_Edge) := by kernel_rfl
  obtain ⟨L, rfl, l1, l2⟩ := WT.i64_inv hu (hx 0 3 a (by rw [he]; rfl) rfl)
  obtain ⟨S, rfl, s1, s2⟩ := WT.i64_inv hu (hx 1 3 b (by rw [he]; rfl) rfl)
  obtain ⟨st, rfl, st1⟩ := WT.u64_inv hv (hx 2 22 c (by rw [he]; rfl) rfl)
  obtain ⟨fin, rfl, f1⟩ := WT.u64_inv hv (hx 3 22 d (by rw [he]; rfl) rfl)
  obtain ⟨es, rfl, e1, e2⟩ := WT.list_inv hw (hx 4 23 e (by rw [he]; rfl) rfl)
  obtain ⟨E, rfl, hE⟩ := map_of_forallP fun y hy => wt_ed (e2 y hy)
  exact ⟨⟨L, S, st, fin, E⟩, rfl, l1, l2, s1, s2, st1, f1, by simpa using e1, hE⟩
end Go.AM
