/-
  Functions of the program, lifted to plain data.
-/
import Derived.Test.YtcgkkhgapeiabaaDoorP4
set_option linter.unusedVariables false
set_option linter.unusedSimpArgs false
set_option maxRecDepth 100000
namespace Go.AM
open Go.Proofs
noncomputable abbrev B_expr_matcher_combine_1 : Code := bodyOf Tryd.prog (ann.fid 51)
noncomputable def s_expr_matcher_combine_1_1 (C : CallF) (i t10 t2s_0 t2s_1 : Int) (t2s_2 b4_ : List V) (t11 : Int) (b3_ : List V) {β : Type} (kn : (Int × (List V)) → Option β) (kr : (Int × Bool × (List V)) → Option β) : Option β :=
  bif decide ((t11 : Int) < t10) then
   bif (t2s_0 : Int) == 4 then
    bif (decide (0 ≤ i)) && (decide (i < (b3_.length : Int))) then
     (b3_[(i : Int).toNat]?).bind fun x3 =>
     (rowV Tryd.prog T_expr_offsets b3_ [((i : Int).toNat, 0)]).bind fun x4 =>
     bif (decide (0 ≤ t11)) && (decide (t11 < (x4.toList.length : Int))) then
      (rowV Tryd.prog T_expr_offsets b3_ [((i : Int).toNat, 0)]).bind fun x5 =>
      (x5.toList[(t11 : Int).toNat]?).bind fun x6 =>
      bif (decide (0 ≤ i)) && (decide (i < (b4_.length : Int))) then
       (b4_[(i : Int).toNat]?).bind fun x7 =>
       (rowV Tryd.prog T_expr_offsets b4_ [((i : Int).toNat, 0)]).bind fun x8 =>
       bif (decide (0 ≤ t11)) && (decide (t11 < (x8.toList.length : Int))) then
        (rowV Tryd.prog T_expr_offsets b4_ [((i : Int).toNat, 0)]).bind fun x9 =>
        (x9.toList[(t11 : Int).toNat]?).bind fun x10 =>
        (rowV Tryd.prog T_expr_offsets b3_ [((i : Int).toNat, 0)]).bind fun x11 =>
        bif (decide (0 ≤ t11)) && (decide (t11 < (x11.toList.length : Int))) then
         (rowV Tryd.prog T_expr_offsets b3_ [((i : Int).toNat, 0)]).bind fun x12 =>
         (x12.toList[(t11 : Int).toNat]?).bind fun x13 =>
         kn (IntKind.wrap .i64 (t11 + 1), setRow Tryd.prog (x12.toList.set ((t11 : Int).toNat) (.int .u64 (IntKind.wrap .u64 ((BitVec.ofInt (IntKind.bits .u64) x6.toInt ||| BitVec.ofInt (IntKind.bits .u64) x10.toInt).toNat)))) T_expr_offsets b3_ [((i : Int).toNat, 0)])
        else none
       else none
      else none
     else none
    else none
   else
    bif (decide (0 ≤ i)) && (decide (i < (b3_.length : Int))) then
     (b3_[(i : Int).toNat]?).bind fun x14 =>
     (rowV Tryd.prog T_expr_offsets b3_ [((i : Int).toNat, 0)]).bind fun x15 =>
     bif (decide (0 ≤ t11)) && (decide (t11 < (x15.toList.length : Int))) then
      (rowV Tryd.prog T_expr_offsets b3_ [((i : Int).toNat, 0)]).bind fun x16 =>
      (x16.toList[(t11 : Int).toNat]?).bind fun x17 =>
      bif (decide (0 ≤ i)) && (decide (i < (b4_.length : Int))) then
       (b4_[(i : Int).toNat]?).bind fun x18 =>
       (rowV Tryd.prog T_expr_offsets b4_ [((i : Int).toNat, 0)]).bind fun x19 =>
       bif (decide (0 ≤ t11)) && (decide (t11 < (x19.toList.length : Int))) then
        (rowV Tryd.prog T_expr_offsets b4_ [((i : Int).toNat, 0)]).bind fun x20 =>
        (x20.toList[(t11 : Int).toNat]?).bind fun x21 =>
        (rowV Tryd.prog T_expr_offsets b3_ [((i : Int).toNat, 0)]).bind fun x22 =>
        bif (decide (0 ≤ t11)) && (decide (t11 < (x22.toList.length : Int))) then
         (rowV Tryd.prog T_expr_offsets b3_ [((i : Int).toNat, 0)]).bind fun x23 =>
         (x23.toList[(t11 : Int).toNat]?).bind fun x24 =>
         kn (IntKind.wrap .i64 (t11 + 1), setRow Tryd.prog (x23.toList.set ((t11 : Int).toNat) (.int .u64 (IntKind.wrap .u64 ((BitVec.ofInt (IntKind.bits .u64) x17.toInt &&& BitVec.ofInt (IntKind.bits .u64) x21.toInt).toNat)))) T_expr_offsets b3_ [((i : Int).toNat, 0)])
        else none
       else none
      else none
     else none
    else none
  else
   kr (t11, decide ((t11 : Int) < t10), b3_)
noncomputable def s_expr_matcher_combine_1_1L (C : CallF) (i t10 t2s_0 t2s_1 : Int) (t2s_2 b4_ : List V) : (Int × (List V)) → Option ((Int × (List V)) ⊕ (Int × Bool × (List V))) := un fun t11 b3_ => s_expr_matcher_combine_1_1 C i t10 t2s_0 t2s_1 t2s_2 b4_ t11 b3_ (fun y => some (.inl y)) (fun r => some (.inr r))
noncomputable def LT_expr_matcher_combine_1 (C : CallF) : LTab := fun β n ds k =>
  bif Nat.beq n 17 then loopS S51_17 [false, false, true, false, false, false, true, false] [[1, 2, 0, 0, 4, 5, 6, 0, 8]] (@s_expr_matcher_combine_1_1 C) ds k else
  none
abbrev TS_expr_matcher_combine_1 (C : CallF) (b : Bar) : Prop := Tells Tryd.prog ann C (LT_expr_matcher_combine_1 C) 51 (ntmpsOf Tryd.prog (ann.fid 51)) (ann.sin 51).blks.length b
theorem t_expr_matcher_combine_1_1 (C : CallF) : TS_expr_matcher_combine_1 C (.loop (codeAt [1, 0, 0] B_expr_matcher_combine_1)) :=
  tl3 S51_17 [false, false, true, false, false, false, true, false] [[1, 2, 0, 0, 4, 5, 6, 0, 8]] (@s_expr_matcher_combine_1_1 C) (by kernel_rfl) (ltok_of (bs := []) (by kernel_rfl) tells_nil) (fun ds => by kernel_rfl) (fun i x => by kernel_rfl) (fun i x β k => by kernel_rfl) (fun β ds k => by kernel_rfl)
noncomputable def f_expr_matcher_combine_1 (C : CallF) (i t2s_0 t2s_1 : Int) (t2s_2 b3_ b4_ : List V) : Option (List V) :=
  bif (decide (0 ≤ i)) && (decide (i < (b3_.length : Int))) then
   (b3_[(i : Int).toNat]?).bind fun x1 =>
   (rowV Tryd.prog T_expr_offsets b3_ [((i : Int).toNat, 0)]).bind fun x2 =>
   (Loop (s_expr_matcher_combine_1_1L C i (x2.toList.length : Int) t2s_0 t2s_1 t2s_2 b4_) (0, b3_)).bind (un fun (t_25 : Int) => un fun (t_26 : Bool) (b_27 : List V) =>
     some [.int .i64 t2s_0, .int .i64 t2s_1, .list T_api_Expr t2s_2, .list T_expr_offsets b_27, .list T_expr_offsets b4_])
  else none
theorem f_expr_matcher_combine_1_of {i t2s_0 t2s_1 : Int} {t2s_2 b3_ b4_ : List V} {r : Option (List V)} (h : f_expr_matcher_combine_1 CC i t2s_0 t2s_1 t2s_2 b3_ b4_ = r) : CC F_expr_matcher_combine_1 [.int .i64 i, .int .i64 t2s_0, .int .i64 t2s_1, .list T_api_Expr t2s_2, .list T_expr_offsets b3_, .list T_expr_offsets b4_] = r :=
  func_of (key := 51) (L := LT_expr_matcher_combine_1 CC) (bs := [.loop (codeAt [1, 0, 0] B_expr_matcher_combine_1)]) (by kernel_rfl) (tells_cons (t_expr_matcher_combine_1_1 CC) tells_nil) (Eq.trans (by kernel_rfl) h)
end Go.AM
set_option maxRecDepth 100000
namespace Go.AM
open Go.Proofs
noncomputable def f_expr_matcher_concat_1 (C : CallF) (i : Int) (b2_ b3_ : List V) : Option (List V) :=
  bif (decide (0 ≤ i)) && (decide (i < (b3_.length : Int))) then
   (b3_[(i : Int).toNat]?).bind fun x1 =>
   (rowV Tryd.prog T_expr_offsets b3_ [((i : Int).toNat, 0)]).bind fun x2 =>
   (C F_expr_offsets_unite [.list T_uint64 x2.toList, .int .i64 i, .list T_uint64 b2_]).bind fun r3 =>
   some [.list T_expr_offsets b3_, .list T_uint64 ((V.nth r3 0).toList)]
  else none
theorem f_expr_matcher_concat_1_of {i : Int} {b2_ b3_ : List V} {r : Option (List V)} (h : f_expr_matcher_concat_1 CC i b2_ b3_ = r) : CC F_expr_matcher_concat_1 [.int .i64 i, .list T_uint64 b2_, .list T_expr_offsets b3_] = r :=
  func_of (key := 44) (L := LT0) (bs := []) (by kernel_rfl) tells_nil (Eq.trans (by kernel_rfl) h)
end Go.AM
set_option maxRecDepth 100000
namespace Go.AM
open Go.Proofs
noncomputable def f_expr_matcher_concat_2 (C : CallF) (i : Int) (t1s : List UInt8) (t3s : Bool) (b4_ b5_ : List V) : Option (List V) :=
  (C F_expr_matcher_none [.str t1s]).bind fun r1 =>
  bif (decide (0 ≤ i)) && (decide (i < (b4_.length : Int))) then
   (b4_[(i : Int).toNat]?).bind fun x2 =>
   (rowV Tryd.prog T_expr_offsets b4_ [((i : Int).toNat, 0)]).bind fun x3 =>
   (C K_expr_offsets_each_k105 [.list T_uint64 x3.toList, .bool t3s, .list T_uint64 ((V.nth r1 0).toList), .list T_expr_offsets b5_]).bind fun r4 =>
   bif (decide (0 ≤ i)) && (decide (i < (b4_.length : Int))) then
    (b4_[(i : Int).toNat]?).bind fun x5 =>
    some [.str t1s, .bool ((V.nth r4 0).toBool), .list T_expr_offsets (b4_.set ((i : Int).toNat) (.list T_uint64 ((V.nth ((r4.drop 1).drop 1) 0).toList))), .list T_expr_offsets ((V.nth (r4.drop 1) 0).toList)]
   else none
  else none
theorem f_expr_matcher_concat_2_of {i : Int} {t1s : List UInt8} {t3s : Bool} {b4_ b5_ : List V} {r : Option (List V)} (h : f_expr_matcher_concat_2 CC i t1s t3s b4_ b5_ = r) : CC F_expr_matcher_concat_2 [.int .i64 i, .str t1s, .bool t3s, .list T_expr_offsets b4_, .list T_expr_offsets b5_] = r :=
  func_of (key := 47) (L := LT0) (bs := []) (by kernel_rfl) tells_nil (Eq.trans (by kernel_rfl) h)
end Go.AM
set_option maxRecDepth 100000
namespace Go.AM
open Go.Proofs
noncomputable def f_expr_matcher_concat_2_1 (C : CallF) (j : Int) (t1s : Bool) (b3_ b4_ : List V) : Option (List V) :=
  bif !t1s then
   bif (decide (0 ≤ j)) && (decide (j < (b4_.length : Int))) then
    (b4_[(j : Int).toNat]?).bind fun x1 =>
    (rowV Tryd.prog T_expr_offsets b4_ [((j : Int).toNat, 0)]).bind fun x2 =>
    (C F_expr_offsets_unite [.list T_uint64 x2.toList, .int .i64 j, .list T_uint64 b3_]).bind fun r3 =>
    some [.bool t1s, .list T_expr_offsets b4_, .list T_uint64 ((V.nth r3 0).toList)]
   else none
  else
   (C F_expr_offsets_has [.list T_uint64 b3_, .int .i64 j]).bind fun r4 =>
   bif !((V.nth r4 0).toBool) then
    bif (decide (0 ≤ j)) && (decide (j < (b4_.length : Int))) then
     (b4_[(j : Int).toNat]?).bind fun x5 =>
     (rowV Tryd.prog T_expr_offsets b4_ [((j : Int).toNat, 0)]).bind fun x6 =>
     (C F_expr_offsets_unite [.list T_uint64 x6.toList, .int .i64 j, .list T_uint64 b3_]).bind fun r7 =>
     some [.bool t1s, .list T_expr_offsets b4_, .list T_uint64 ((V.nth r7 0).toList)]
    else none
   else
    some [.bool t1s, .list T_expr_offsets b4_, .list T_uint64 b3_]
theorem f_expr_matcher_concat_2_1_of {j : Int} {t1s : Bool} {b3_ b4_ : List V} {r : Option (List V)} (h : f_expr_matcher_concat_2_1 CC j t1s b3_ b4_ = r) : CC F_expr_matcher_concat_2_1 [.int .i64 j, .bool t1s, .list T_uint64 b3_, .list T_expr_offsets b4_] = r :=
  func_of (key := 48) (L := LT0) (bs := []) (by kernel_rfl) tells_nil (Eq.trans (by kernel_rfl) h)
end Go.AM
set_option maxRecDepth 100000
namespace Go.AM
open Go.Proofs
noncomputable abbrev B_expr_matcher_complement_1 : Code := bodyOf Tryd.prog (ann.fid 52)
noncomputable def s_expr_matcher_complement_1_1 (C : CallF) (i : Int) (t1s : List UInt8) (t2s : Int) (b3_ : List V) (k' : Int) (otherss : List V) {β : Type} (kn : (Int × (List V)) → Option β) (kr : (Int × Bool × (List V)) → Option β) : Option β :=
  bif decide ((k' : Int) ≤ t2s) then
   bif (decide (0 ≤ i)) && (decide (i < (b3_.length : Int))) then
    (b3_[(i : Int).toNat]?).bind fun x2 =>
    (rowV Tryd.prog T_expr_offsets b3_ [((i : Int).toNat, 0)]).bind fun x3 =>
    bif (decide (0 ≤ k')) && (decide (k' < (x3.toList.length : Int))) then
     (rowV Tryd.prog T_expr_offsets b3_ [((i : Int).toNat, 0)]).bind fun x4 =>
     (x4.toList[(k' : Int).toNat]?).bind fun x5 =>
     bif (decide (0 ≤ k')) && (decide (k' < (otherss.length : Int))) then
      (otherss[(k' : Int).toNat]?).bind fun x6 =>
      kn (IntKind.wrap .i64 (k' + 1), otherss.set ((k' : Int).toNat) (.int .u64 (IntKind.wrap .u64 (BitVec.ofInt (IntKind.bits .u64) 18446744073709551615 ^^^ BitVec.ofInt (IntKind.bits .u64) x5.toInt).toNat)))
     else none
    else none
   else none
  else
   kr (k', decide ((k' : Int) ≤ t2s), otherss)
noncomputable def s_expr_matcher_complement_1_1L (C : CallF) (i : Int) (t1s : List UInt8) (t2s : Int) (b3_ : List V) : (Int × (List V)) → Option ((Int × (List V)) ⊕ (Int × Bool × (List V))) := un fun k' otherss => s_expr_matcher_complement_1_1 C i t1s t2s b3_ k' otherss (fun y => some (.inl y)) (fun r => some (.inr r))
noncomputable def LT_expr_matcher_complement_1 (C : CallF) : LTab := fun β n ds k =>
  bif Nat.beq n 33 then loopS S52_33 [false, true, false, false, false, true] [[1, 0, 0, 3, 4, 5, 0]] (@s_expr_matcher_complement_1_1 C) ds k else
  none
abbrev TS_expr_matcher_complement_1 (C : CallF) (b : Bar) : Prop := Tells Tryd.prog ann C (LT_expr_matcher_complement_1 C) 52 (ntmpsOf Tryd.prog (ann.fid 52)) (ann.sin 52).blks.length b
theorem t_expr_matcher_complement_1_1 (C : CallF) : TS_expr_matcher_complement_1 C (.loop (codeAt [1, 0, 1, 0, 0] B_expr_matcher_complement_1)) :=
  tl3 S52_33 [false, true, false, false, false, true] [[1, 0, 0, 3, 4, 5, 0]] (@s_expr_matcher_complement_1_1 C) (by kernel_rfl) (ltok_of (bs := []) (by kernel_rfl) tells_nil) (fun ds => by kernel_rfl) (fun i x => by kernel_rfl) (fun i x β k => by kernel_rfl) (fun β ds k => by kernel_rfl)
noncomputable def f_expr_matcher_complement_1 (C : CallF) (i : Int) (t1s : List UInt8) (t2s : Int) (b3_ : List V) : Option (List V) :=
  (C F_expr_matcher_none [.str t1s]).bind fun r1 =>
  (Loop (s_expr_matcher_complement_1_1L C i t1s t2s b3_) (Int.fdiv i (2 ^ (min (6 : Int).toNat (IntKind.bits .i64))), (V.nth r1 0).toList)).bind (un fun (k_7 : Int) => un fun (t_8 : Bool) (otherss_9 : List V) =>
    bif (decide (0 ≤ (Int.fdiv i (2 ^ (min (6 : Int).toNat (IntKind.bits .i64)))))) && (decide ((Int.fdiv i (2 ^ (min (6 : Int).toNat (IntKind.bits .i64)))) < (otherss_9.length : Int))) then
     (otherss_9[(Int.fdiv i (2 ^ (min (6 : Int).toNat (IntKind.bits .i64))) : Int).toNat]?).bind fun x10 =>
     bif decide (0 ≤ (IntKind.wrap .i64 ((BitVec.ofInt (IntKind.bits .i64) i &&& BitVec.ofInt (IntKind.bits .i64) 63).toNat))) then
      bif (decide (0 ≤ (Int.fdiv i (2 ^ (min (6 : Int).toNat (IntKind.bits .i64)))))) && (decide ((Int.fdiv i (2 ^ (min (6 : Int).toNat (IntKind.bits .i64)))) < (otherss_9.length : Int))) then
       (otherss_9[(Int.fdiv i (2 ^ (min (6 : Int).toNat (IntKind.bits .i64))) : Int).toNat]?).bind fun x11 =>
       bif (decide (0 ≤ t2s)) && (decide (t2s < ((otherss_9.set ((Int.fdiv i (2 ^ (min (6 : Int).toNat (IntKind.bits .i64))) : Int).toNat) (.int .u64 (IntKind.wrap .u64 ((BitVec.ofInt (IntKind.bits .u64) x10.toInt &&& BitVec.ofInt (IntKind.bits .u64) (IntKind.wrap .u64 (18446744073709551615 * 2 ^ (min (IntKind.wrap .i64 ((BitVec.ofInt (IntKind.bits .i64) i &&& BitVec.ofInt (IntKind.bits .i64) 63).toNat)).toNat (IntKind.bits .u64))))).toNat)))).length : Int))) then
        ((otherss_9.set ((Int.fdiv i (2 ^ (min (6 : Int).toNat (IntKind.bits .i64))) : Int).toNat) (.int .u64 (IntKind.wrap .u64 ((BitVec.ofInt (IntKind.bits .u64) x10.toInt &&& BitVec.ofInt (IntKind.bits .u64) (IntKind.wrap .u64 (18446744073709551615 * 2 ^ (min (IntKind.wrap .i64 ((BitVec.ofInt (IntKind.bits .i64) i &&& BitVec.ofInt (IntKind.bits .i64) 63).toNat)).toNat (IntKind.bits .u64))))).toNat))))[(t2s : Int).toNat]?).bind fun x12 =>
        bif decide (0 ≤ (IntKind.wrap .i64 (63 - (IntKind.wrap .i64 ((BitVec.ofInt (IntKind.bits .i64) (t1s.length : Int) &&& BitVec.ofInt (IntKind.bits .i64) 63).toNat))))) then
         bif (decide (0 ≤ t2s)) && (decide (t2s < ((otherss_9.set ((Int.fdiv i (2 ^ (min (6 : Int).toNat (IntKind.bits .i64))) : Int).toNat) (.int .u64 (IntKind.wrap .u64 ((BitVec.ofInt (IntKind.bits .u64) x10.toInt &&& BitVec.ofInt (IntKind.bits .u64) (IntKind.wrap .u64 (18446744073709551615 * 2 ^ (min (IntKind.wrap .i64 ((BitVec.ofInt (IntKind.bits .i64) i &&& BitVec.ofInt (IntKind.bits .i64) 63).toNat)).toNat (IntKind.bits .u64))))).toNat)))).length : Int))) then
          ((otherss_9.set ((Int.fdiv i (2 ^ (min (6 : Int).toNat (IntKind.bits .i64))) : Int).toNat) (.int .u64 (IntKind.wrap .u64 ((BitVec.ofInt (IntKind.bits .u64) x10.toInt &&& BitVec.ofInt (IntKind.bits .u64) (IntKind.wrap .u64 (18446744073709551615 * 2 ^ (min (IntKind.wrap .i64 ((BitVec.ofInt (IntKind.bits .i64) i &&& BitVec.ofInt (IntKind.bits .i64) 63).toNat)).toNat (IntKind.bits .u64))))).toNat))))[(t2s : Int).toNat]?).bind fun x13 =>
          bif (decide (0 ≤ i)) && (decide (i < (b3_.length : Int))) then
           (b3_[(i : Int).toNat]?).bind fun x14 =>
           some [.str t1s, .int .i64 t2s, .list T_expr_offsets (b3_.set ((i : Int).toNat) (.list T_uint64 ((otherss_9.set ((Int.fdiv i (2 ^ (min (6 : Int).toNat (IntKind.bits .i64))) : Int).toNat) (.int .u64 (IntKind.wrap .u64 ((BitVec.ofInt (IntKind.bits .u64) x10.toInt &&& BitVec.ofInt (IntKind.bits .u64) (IntKind.wrap .u64 (18446744073709551615 * 2 ^ (min (IntKind.wrap .i64 ((BitVec.ofInt (IntKind.bits .i64) i &&& BitVec.ofInt (IntKind.bits .i64) 63).toNat)).toNat (IntKind.bits .u64))))).toNat)))).set ((t2s : Int).toNat) (.int .u64 (IntKind.wrap .u64 ((BitVec.ofInt (IntKind.bits .u64) x12.toInt &&& BitVec.ofInt (IntKind.bits .u64) (Int.fdiv 18446744073709551615 (2 ^ (min (IntKind.wrap .i64 (63 - (IntKind.wrap .i64 ((BitVec.ofInt (IntKind.bits .i64) (t1s.length : Int) &&& BitVec.ofInt (IntKind.bits .i64) 63).toNat)))).toNat (IntKind.bits .u64))))).toNat))))))]
          else none
         else none
        else none
       else none
      else none
     else none
    else none)
theorem f_expr_matcher_complement_1_of {i : Int} {t1s : List UInt8} {t2s : Int} {b3_ : List V} {r : Option (List V)} (h : f_expr_matcher_complement_1 CC i t1s t2s b3_ = r) : CC F_expr_matcher_complement_1 [.int .i64 i, .str t1s, .int .i64 t2s, .list T_expr_offsets b3_] = r :=
  func_of (key := 52) (L := LT_expr_matcher_complement_1 CC) (bs := [.loop (codeAt [1, 0, 1, 0, 0] B_expr_matcher_complement_1)]) (by kernel_rfl) (tells_cons (t_expr_matcher_complement_1_1 CC) tells_nil) (Eq.trans (by kernel_rfl) h)
end Go.AM
set_option maxRecDepth 100000
set_option linter.unusedSimpArgs false
namespace Go.AM
open Go.Proofs
def mW (w : List UInt8) : Nat := w.length / 64 + 1
abbrev uV (w : List UInt8) (S : Nat) : V := .list T_uint64 (offV (mW w) S)
abbrev oV (w : List UInt8) (R : Nat → Option Nat) : V := .list T_expr_offsets (Rows (mW w) (w.length + 1) R)
theorem mW_le {w : List UInt8} (h : w.length ≤ 2048) : mW w ≤ 100 := by unfold mW; omega
theorem mW_lt {w : List UInt8} {i : Nat} (h : i ≤ w.length) : i / 64 < mW w := by unfold mW; omega
theorem mW_64 {w : List UInt8} : w.length < 64 * mW w := by unfold mW; omega
theorem none_w {w : List UInt8} (h : w.length ≤ 2048) : CC F_expr_matcher_none [.str w] = some [uV w 0] := none_spec h
def base (w : List UInt8) (o l : Int) (i : Nat) : Nat := if o = 2 then 2 ^ i else if o = 3 ∧ i < w.length ∧ let_ w i = l then 2 ^ (i + 1) else 0
theorem ends_1_spec {w : List UInt8} {o l : Int} {ks : List V} {R : Nat → Option Nat} {i : Nat} (hw : w.length ≤ 2048) (hl : ∀ i, i < w.length → 0 ≤ let_ w i) (hi : i ≤ w.length) :
    CC F_expr_matcher_ends_1 [.int .i64 (i : Int), .str w, .int .i64 o, .int .i64 l, .list T_api_Expr ks, oV w R] = some [.str w, .int .i64 o, .int .i64 l, .list T_api_Expr ks, oV w (upd R i (base w o l i))] := by
  refine f_expr_matcher_ends_1_of ?_
  unfold f_expr_matcher_ends_1
  rw [none_w hw]
  simp only [Option.bind_some, V.nth_zero, V.toList_list, bif_and, bif_decide, Int.toNat_natCast, Rows_len, Rows_get (show i < w.length + 1 by omega), Rows_set]
  rw [if_pos (by omega), if_pos (by omega)]
  unfold s_expr_matcher_ends_1_1 base
  by_cases h2 : o = 2
  · have e : (o == 2) = true := by simp [h2]
    rw [e, if_pos h2]
    simp only [cond_true, Rows_len, bif_and, bif_decide, Int.toNat_natCast, Rows_get (show i < w.length + 1 by omega), Option.bind_some]
    rw [if_pos (by omega), if_pos (by omega), addRow_spec (mW_lt hi) (by omega) (by omega) upd_same]
    simp only [Option.bind_some, V.nth_zero, V.toList_list, upd_upd, Nat.zero_or]
  · have e : (o == 2) = false := by simp [h2]
    rw [e, if_neg h2]
    simp only [cond_false, bif_beq, bif_decide]
    by_cases h3 : o = 3
    · rw [if_pos h3]
      by_cases h4 : i < w.length
      · rw [if_pos (by omega), ← bif_decide, byte_at h4]
        simp only [Option.bind_some, V.toInt_int]
        rw [let_wrap (hl i h4), wrap64 (by have := hl i h4; omega) (by have := @let_lt w i; omega)]
        by_cases h5 : let_ w i = l
        · rw [if_pos h5, if_pos ⟨h3, h4, h5⟩]
          simp only [Rows_len, bif_and, bif_decide, Int.toNat_natCast, Rows_get (show i < w.length + 1 by omega), Option.bind_some]
          rw [if_pos (by omega), if_pos (by omega), wrap64 (by omega) (by omega)]
          have := addRow_spec (m := mW w) (N := w.length + 1) (i := i) (j := i + 1) (S := 0) (R := upd R i 0) (mW_lt (by omega)) (by omega) (by omega) upd_same
          rw [Int.natCast_add] at this
          refine (congrArg (fun o => Option.bind o _) this).trans ?_
          simp only [Option.bind_some, V.nth_zero, V.toList_list, upd_upd, Nat.zero_or]
        · rw [if_neg h5, if_neg (fun h => h5 h.2.2)]
      · rw [if_neg (by omega), if_neg (fun h => h4 h.2.1)]
    · rw [if_neg h3, if_neg (fun h => h3 h.1)]
theorem concat_1_spec {w : List UInt8} {R : Nat → Option Nat} {i S M : Nat} (hw : w.length ≤ 2048) (hi : i ≤ w.length) (hR : R i = some S) (hS : ∀ j, j < i → S.testBit j = false) :
    CC F_expr_matcher_concat_1 [.int .i64 (i : Int), uV w M, oV w R] = some [oV w R, uV w (M ||| S)] := by
  refine f_expr_matcher_concat_1_of ?_
  unfold f_expr_matcher_concat_1
  simp only [bif_and, bif_decide, Int.toNat_natCast, Rows_len, Rows_get (show i < w.length + 1 by omega), rowV_O (show i < w.length + 1 by omega) hR, Option.bind_some, V.toList_list]
  rw [if_pos (by omega), if_pos (by omega), unite_spec (mW_le hw) (mW_lt hi) hS]
  simp only [Option.bind_some, V.nth_zero, V.toList_list]
theorem star_1_spec {i a : Nat} : CC F_expr_matcher_star_1 [.int .i64 (i : Int), .int .i64 (a : Int)] = some [.int .i64 ((min i a : Nat) : Int)] := by
  refine f_expr_matcher_star_1_of ?_
  unfold f_expr_matcher_star_1
  congr 3
  split <;> omega
theorem star_2_spec {w : List UInt8} {R : Nat → Option Nat} {j O : Nat} (hw : w.length ≤ 2048) (hj : j ≤ w.length) {S : Nat} (hR : O.testBit j = false → R j = some S) (hS : ∀ t, t < j → S.testBit t = false) :
    CC F_expr_matcher_star_2 [.int .i64 (j : Int), uV w O, oV w R] = some [oV w R, uV w (if O.testBit j = true then O else O ||| S)] := by
  refine f_expr_matcher_star_2_of ?_
  unfold f_expr_matcher_star_2
  rw [has_spec (mW_lt hj) (by omega)]
  simp only [Option.bind_some, V.nth_zero, V.toBool_bool, bif_not]
  cases h : O.testBit j with
  | true => simp
  | false =>
    have hR := hR h
    simp only [cond_false, bif_and, bif_decide, Int.toNat_natCast, Rows_len, Rows_get (show j < w.length + 1 by omega), rowV_O (show j < w.length + 1 by omega) hR, Option.bind_some, V.toList_list]
    rw [if_pos (by omega), if_pos (by omega), unite_spec (mW_le hw) (mW_lt hj) hS]
    simp
theorem concat_2_1_spec {w : List UInt8} {R : Nat → Option Nat} {j O S : Nat} {b : Bool} (hw : w.length ≤ 2048) (hj : j ≤ w.length) (hR : R j = some S) (hS : ∀ t, t < j → S.testBit t = false) :
    CC F_expr_matcher_concat_2_1 [.int .i64 (j : Int), .bool b, uV w O, oV w R] = some [.bool b, oV w R, uV w (if b = true ∧ O.testBit j = true then O else O ||| S)] := by
  refine f_expr_matcher_concat_2_1_of ?_
  unfold f_expr_matcher_concat_2_1
  rw [has_spec (mW_lt hj) (by omega)]
  simp only [Option.bind_some, V.nth_zero, V.toBool_bool, bif_not, bif_and, bif_decide, Int.toNat_natCast, Rows_len, Rows_get (show j < w.length + 1 by omega), rowV_O (show j < w.length + 1 by omega) hR, V.toList_list, unite_spec (mW_le hw) (mW_lt hj) hS]
  rw [if_pos (by omega), if_pos (by omega)]
  cases b <;> cases h : O.testBit j <;> simp
end Go.AM
set_option maxRecDepth 100000
set_option linter.unusedSimpArgs false
namespace Go.AM
open Go.Proofs
theorem set_get {m N i : Nat} {R : Nat → Option Nat} {x : V} (h : i < N) : ((Rows m N R).set i x)[i]? = some x := by
  rw [List.getElem?_set]; simp [Rows_len, h]
theorem rowV_set {m N i : Nat} {R : Nat → Option Nat} {l : List V} (h : i < N) : rowV Tryd.prog T_expr_offsets ((Rows m N R).set i (.list T_uint64 l)) [(i, 0)] = some (.list T_uint64 l) := by
  simp only [rowV, set_get h, Option.bind_some, parts_off]
  rfl
theorem setRow_set {m N i : Nat} {R : Nat → Option Nat} {l l' : List V} (h : i < N) : setRow Tryd.prog l' T_expr_offsets ((Rows m N R).set i (.list T_uint64 l)) [(i, 0)] = (Rows m N R).set i (.list T_uint64 l') := by
  simp only [setRow, set_get h, parts_off]
  simp only [List.getElem?_cons_zero, List.set_cons_zero, mkElem, agg_off, cond_false, V.nth_zero, List.set_set]
theorem Rows_put {m N i S : Nat} {R : Nat → Option Nat} (hR : R i = some S) : Rows m N R = (Rows m N R).set i (.list T_uint64 (offV m S)) := by
  rw [Rows_set]
  congr 1
  funext j
  unfold upd
  split
  · rename_i h; rw [h, hR]
  · rfl
def opW (o : Int) (a b : Nat) : Nat := if o = 4 then a ||| b else a &&& b
theorem opW_lt {o : Int} {a b n : Nat} (ha : a < 2 ^ n) (hb : b < 2 ^ n) : opW o a b < 2 ^ n := by
  unfold opW; split
  · exact Nat.or_lt_two_pow ha hb
  · exact Nat.lt_of_le_of_lt Nat.and_le_left ha
theorem opW_bit {o : Int} {a b j : Nat} : (opW o a b).testBit j = if o = 4 then (a.testBit j || b.testBit j) else (a.testBit j && b.testBit j) := by
  unfold opW; split
  · rw [Nat.testBit_or]
  · rw [Nat.testBit_and]
theorem combine_1_spec {w : List UInt8} {R R2 : Nat → Option Nat} {i S T : Nat} {o l : Int} {ks : List V} (hw : w.length ≤ 2048) (hi : i ≤ w.length) (hR : R i = some S) (hT : R2 i = some T) :
    CC F_expr_matcher_combine_1 [.int .i64 (i : Int), .int .i64 o, .int .i64 l, .list T_api_Expr ks, oV w R, oV w R2] = some [.int .i64 o, .int .i64 l, .list T_api_Expr ks, oV w (upd R i (opW o S T)), oV w R2] := by
  refine f_expr_matcher_combine_1_of ?_
  unfold f_expr_matcher_combine_1
  have hN : i < w.length + 1 := by omega
  have hm := mW_le hw
  simp only [bif_and, bif_decide, Int.toNat_natCast, Rows_len, Rows_get hN, rowV_O hN hR, Option.bind_some, V.toList_list, offV_len]
  rw [if_pos (by omega), if_pos (by omega)]
  let g : Nat → Nat → Nat := fun b k => if k < b then opW o (wd S k) (wd T k) else wd S k
  have hg : ∀ b k, g b k < 2 ^ 64 := fun b k => by
    show (if k < b then _ else _) < _
    split
    · exact opW_lt wd_lt wd_lt
    · exact wd_lt
  have go : ∀ d b, b + d = mW w → Loop (s_expr_matcher_combine_1_1L CC (i : Int) (mW w : Int) o l ks (Rows (mW w) (w.length + 1) R2)) ((b : Int), (Rows (mW w) (w.length + 1) R).set i (.list T_uint64 (offF (mW w) (g b)))) = some ((mW w : Int), false, (Rows (mW w) (w.length + 1) R).set i (.list T_uint64 (offF (mW w) (g (mW w))))) := by
    intro d
    induction d with
    | zero =>
      intro b hb
      have hb : b = mW w := by omega
      subst hb
      refine Loop_end ?_
      simp only [s_expr_matcher_combine_1_1L, s_expr_matcher_combine_1_1, un]
      rw [bif_decide, if_neg (by omega), decide_eq_false (by omega)]
    | succ d ih =>
      intro b hb
      have hbm : b < mW w := by omega
      have hst : s_expr_matcher_combine_1_1L CC (i : Int) (mW w : Int) o l ks (Rows (mW w) (w.length + 1) R2) ((b : Int), (Rows (mW w) (w.length + 1) R).set i (.list T_uint64 (offF (mW w) (g b)))) = some (.inl (((b + 1 : Nat) : Int), (Rows (mW w) (w.length + 1) R).set i (.list T_uint64 (offF (mW w) (g (b + 1)))))) := by
        simp only [s_expr_matcher_combine_1_1L, s_expr_matcher_combine_1_1, un]
        simp only [bif_and, bif_decide, bif_beq, Int.toNat_natCast, List.length_set, Rows_len, set_get hN, rowV_set hN, Option.bind_some, V.toList_list, V.toInt_int, offF_len, offF_get hbm, Rows_get hN, rowV_O hN hT, offV_len, offV_get hbm, setRow_set hN]
        have e1 : g b b = wd S b := by simp [g]
        have e2 : offF (mW w) (fun j => if j = b then opW o (wd S b) (wd T b) else g b j) = offF (mW w) (g (b + 1)) := by
          refine offF_ext fun k _ => ?_
          show (if k = b then opW o (wd S b) (wd T b) else if k < b then opW o (wd S k) (wd T k) else wd S k) = if k < b + 1 then opW o (wd S k) (wd T k) else wd S k
          by_cases h1 : k = b
          · subst h1; rw [if_pos rfl, if_pos (by omega)]
          · rw [if_neg h1]
            by_cases h2 : k < b
            · rw [if_pos h2, if_pos (by omega)]
            · rw [if_neg h2, if_neg (by omega)]
        have t1 : (b : Int) < (mW w : Int) := by omega
        have t2 : (0 : Int) ≤ (i : Int) := by omega
        have t3 : (i : Int) < ((w.length + 1 : Nat) : Int) := by omega
        have t4 : (0 : Int) ≤ (b : Int) := by omega
        simp only [t1, t2, t3, t4, if_true]
        rw [e1, u64_or wd_lt wd_lt, u64_and wd_lt wd_lt, offF_set, offF_set, wrap64 (by omega) (by omega)]
        by_cases h4 : o = 4
        · rw [if_pos h4]
          unfold opW at e2
          simp only [h4, if_true] at e2
          rw [e2]; rfl
        · rw [if_neg h4]
          unfold opW at e2
          simp only [h4, if_false] at e2
          rw [e2]; rfl
      rw [Loop_norm hst]
      exact ih (b + 1) (by omega)
  have e0 : Rows (mW w) (w.length + 1) R = (Rows (mW w) (w.length + 1) R).set i (.list T_uint64 (offF (mW w) (g 0))) := by
    have : offF (mW w) (g 0) = offV (mW w) S := offF_ext fun k _ => by show (if k < 0 then _ else _) = _; rw [if_neg (by omega)]
    rw [this]; exact Rows_put hR
  have e1 : offF (mW w) (g (mW w)) = offV (mW w) (opW o S T) := by
    refine off_eq (fun k _ => hg _ _) fun k hk j hj => ?_
    show (if k < mW w then _ else _ : Nat).testBit j = _
    rw [if_pos hk, opW_bit, opW_bit, wd_bit, wd_bit]
    simp [hj]
  have hl := go (mW w) 0 (by omega)
  rw [← e0, e1, Rows_set] at hl
  refine (congrArg (fun o => Option.bind o _) hl).trans ?_
  simp [un]
def full : Nat := 2 ^ 64 - 1
theorem full_bit {j : Nat} : full.testBit j = decide (j < 64) := by unfold full; rw [Nat.testBit_two_pow_sub_one]
theorem u64_not {A : Nat} (hA : A < 2 ^ 64) : IntKind.wrap .u64 (BitVec.ofInt (IntKind.bits .u64) 18446744073709551615 ^^^ BitVec.ofInt (IntKind.bits .u64) (A : Int)).toNat = ((full ^^^ A : Nat) : Int) := by
  have e : (18446744073709551615 : Int) = ((full : Nat) : Int) := by unfold full; rfl
  have hf : full < 2 ^ 64 := by unfold full; omega
  rw [e, BitVec.toNat_xor, bv_toNat (n := IntKind.bits .u64) (A := full) hf, bv_toNat (n := IntKind.bits .u64) (A := A) hA]
  exact wrapu64 (Nat.xor_lt_two_pow hf hA)
def hiM (s : Nat) : Nat := full * 2 ^ s % 2 ^ 64
def loM (s : Nat) : Nat := full / 2 ^ s
theorem hiM_lt {s : Nat} : hiM s < 2 ^ 64 := Nat.mod_lt _ (by decide)
theorem loM_lt {s : Nat} : loM s < 2 ^ 64 := Nat.lt_of_le_of_lt (Nat.div_le_self _ _) (by unfold full; omega)
theorem hiM_bit {s j : Nat} (hj : j < 64) : (hiM s).testBit j = decide (s ≤ j) := by
  unfold hiM
  rw [Nat.testBit_mod_two_pow, Nat.mul_comm, Nat.testBit_two_pow_mul, full_bit]
  by_cases h : s ≤ j
  · have h2 : j - s < 64 := by omega
    simp [h, hj, h2]
  · simp [h]
theorem loM_bit {s j : Nat} : (loM s).testBit j = decide (j + s < 64) := by
  unfold loM
  rw [Nat.testBit_div_two_pow, full_bit]
theorem u64_hi {s : Nat} (h : s < 64) : IntKind.wrap .u64 (18446744073709551615 * 2 ^ (min s (IntKind.bits .u64))) = ((hiM s : Nat) : Int) := by
  have e : min s (IntKind.bits .u64) = s := Nat.min_eq_left (by show s ≤ 64; omega)
  rw [e, wrap_u64]
  unfold hiM full
  rw [Int.natCast_emod, Int.natCast_mul, Int.natCast_pow]
  rfl
theorem u64_lo {s : Nat} (h : s < 64) : Int.fdiv 18446744073709551615 (2 ^ (min s (IntKind.bits .u64))) = ((loM s : Nat) : Int) := by
  have := u64_shr (A := full) (m := s) h
  exact this
def cmpl (i n S : Nat) : Nat := (((2 ^ (n + 1) - 1) ^^^ (S &&& (2 ^ (n + 1) - 1))) >>> i) <<< i
theorem cmpl_bit {i n S j : Nat} : (cmpl i n S).testBit j = (decide (i ≤ j) && (decide (j ≤ n) && !(S.testBit j))) := by
  unfold cmpl
  rw [Nat.testBit_shiftLeft, Nat.testBit_shiftRight, Nat.testBit_xor, Nat.testBit_and, Nat.testBit_two_pow_sub_one]
  by_cases h : i ≤ j
  · have e : i + (j - i) = j := by omega
    have e2 : (j < n + 1) ↔ (j ≤ n) := by omega
    simp only [e, e2, h, ge_iff_le, decide_true, Bool.true_and]
    by_cases h2 : j ≤ n <;> simp [h2]
  · simp [h]
theorem complement_1_spec {w : List UInt8} {R : Nat → Option Nat} {i S : Nat} (hw : w.length ≤ 2048) (hi : i ≤ w.length) (hR : R i = some S) :
    CC F_expr_matcher_complement_1 [.int .i64 (i : Int), .str w, .int .i64 ((w.length / 64 : Nat) : Int), oV w R] = some [.str w, .int .i64 ((w.length / 64 : Nat) : Int), oV w (upd R i (cmpl i w.length S))] := by
  refine f_expr_matcher_complement_1_of ?_
  unfold f_expr_matcher_complement_1
  have hN : i < w.length + 1 := by omega
  have hm := mW_le hw
  have him := mW_lt hi
  have hnm : w.length / 64 < mW w := by unfold mW; omega
  rw [none_w hw, i64_shr6, i64_and63 (by omega), i64_and63 (by omega)]
  simp only [Option.bind_some, V.nth_zero, V.toList_list]
  let g : Nat → Nat → Nat := fun b k => if i / 64 ≤ k ∧ k < b then full ^^^ wd S k else wd 0 k
  have hfl : full < 2 ^ 64 := by unfold full; omega
  have go : ∀ d b, i / 64 ≤ b → b + d = mW w → Loop (s_expr_matcher_complement_1_1L CC (i : Int) w ((w.length / 64 : Nat) : Int) (Rows (mW w) (w.length + 1) R)) ((b : Int), offF (mW w) (g b)) = some ((mW w : Int), false, offF (mW w) (g (mW w))) := by
    intro d
    induction d with
    | zero =>
      intro b _ hb
      have hb : b = mW w := by omega
      subst hb
      refine Loop_end ?_
      simp only [s_expr_matcher_complement_1_1L, s_expr_matcher_complement_1_1, un]
      rw [bif_decide, if_neg (by unfold mW; omega), decide_eq_false (by unfold mW; omega)]
    | succ d ih =>
      intro b hbi hb
      have hbm : b < mW w := by omega
      have hst : s_expr_matcher_complement_1_1L CC (i : Int) w ((w.length / 64 : Nat) : Int) (Rows (mW w) (w.length + 1) R) ((b : Int), offF (mW w) (g b)) = some (.inl (((b + 1 : Nat) : Int), offF (mW w) (g (b + 1)))) := by
        simp only [s_expr_matcher_complement_1_1L, s_expr_matcher_complement_1_1, un]
        simp only [bif_and, bif_decide, Int.toNat_natCast, Rows_len, Option.bind_some, V.toList_list, V.toInt_int, offF_len, offF_get hbm, Rows_get hN, rowV_O hN hR, offV_len, offV_get hbm]
        have t1 : (b : Int) < (mW w : Int) := by omega
        have t2 : (0 : Int) ≤ (i : Int) := by omega
        have t3 : (i : Int) < ((w.length + 1 : Nat) : Int) := by omega
        have t4 : (0 : Int) ≤ (b : Int) := by omega
        have t5 : (b : Int) ≤ ((w.length / 64 : Nat) : Int) := by unfold mW at hbm; omega
        simp only [t1, t2, t3, t4, t5, if_true]
        rw [u64_not wd_lt, offF_set, wrap64 (by omega) (by omega)]
        have e2 : offF (mW w) (fun j => if j = b then full ^^^ wd S b else g b j) = offF (mW w) (g (b + 1)) := by
          refine offF_ext fun k _ => ?_
          show (if k = b then full ^^^ wd S b else if i / 64 ≤ k ∧ k < b then full ^^^ wd S k else wd 0 k) = if i / 64 ≤ k ∧ k < b + 1 then full ^^^ wd S k else wd 0 k
          by_cases h1 : k = b
          · subst h1; rw [if_pos rfl, if_pos (by omega)]
          · rw [if_neg h1]
            by_cases h2 : i / 64 ≤ k ∧ k < b
            · rw [if_pos h2, if_pos (by omega)]
            · rw [if_neg h2, if_neg (by omega)]
        rw [e2]; rfl
      rw [Loop_norm hst]
      exact ih (b + 1) (by omega) (by omega)
  have e0 : offV (mW w) 0 = offF (mW w) (g (i / 64)) := offF_ext fun k _ => by
    show _ = if i / 64 ≤ k ∧ k < i / 64 then _ else wd 0 k
    rw [if_neg (by omega)]
  have hl := go (mW w - i / 64) (i / 64) (by omega) (by omega)
  rw [← e0] at hl
  refine (congrArg (fun o => Option.bind o _) hl).trans ?_
  generalize hG : g (mW w) = G
  have hGl : ∀ k, G k < 2 ^ 64 := fun k => by
    rw [← hG]; show (if i / 64 ≤ k ∧ k < mW w then _ else _) < _
    split
    · exact Nat.xor_lt_two_pow hfl wd_lt
    · exact wd_lt
  have s1 : i % 64 < 64 := by omega
  have s2 : 63 - w.length % 64 < 64 := by omega
  have w1 : IntKind.wrap .i64 (63 - ((w.length % 64 : Nat) : Int)) = ((63 - w.length % 64 : Nat) : Int) := by rw [wrap64 (by omega) (by omega)]; omega
  simp only [Option.bind_some, un, bif_and, bif_decide, Int.toNat_natCast, offF_len, offF_get him, offF_get hnm, V.toInt_int, u64_hi s1, w1, u64_lo s2]
  rw [u64_and (hGl _) hiM_lt, offF_set]
  simp only [offF_len, offF_get hnm, Option.bind_some, V.toInt_int, Rows_len, Rows_get hN]
  have t1 : (0 : Int) ≤ ((i / 64 : Nat) : Int) := by omega
  have t2 : ((i / 64 : Nat) : Int) < (mW w : Int) := by omega
  have t3 : (0 : Int) ≤ ((i % 64 : Nat) : Int) := by omega
  have t4 : (0 : Int) ≤ ((w.length / 64 : Nat) : Int) := by omega
  have t5 : ((w.length / 64 : Nat) : Int) < (mW w : Int) := by omega
  have t6 : (0 : Int) ≤ ((63 - w.length % 64 : Nat) : Int) := by omega
  have t7 : (0 : Int) ≤ (i : Int) := by omega
  have t8 : (i : Int) < ((w.length + 1 : Nat) : Int) := by omega
  simp only [t1, t2, t3, t4, t5, t6, t7, t8, if_true]
  have hH : ∀ k, (if k = i / 64 then G (i / 64) &&& hiM (i % 64) else G k) < 2 ^ 64 := fun k => by
    split
    · exact Nat.lt_of_le_of_lt Nat.and_le_left (hGl _)
    · exact hGl _
  rw [u64_and (hH _) loM_lt, offF_set]
  have e9 : offF (mW w) (fun j => if j = w.length / 64 then (if w.length / 64 = i / 64 then G (i / 64) &&& hiM (i % 64) else G (w.length / 64)) &&& loM (63 - w.length % 64) else if j = i / 64 then G (i / 64) &&& hiM (i % 64) else G j) = offV (mW w) (cmpl i w.length S) := by
    refine off_eq (fun k _ => ?_) fun k hk j hj => ?_
    · split
      · exact Nat.lt_of_le_of_lt Nat.and_le_left (hH _)
      · exact hH _
    · have hGb : (G k).testBit j = (decide (i / 64 ≤ k) && !(S.testBit (64 * k + j))) := by
        rw [← hG]
        show (if i / 64 ≤ k ∧ k < mW w then full ^^^ wd S k else wd 0 k : Nat).testBit j = _
        by_cases h : i / 64 ≤ k
        · rw [if_pos ⟨h, hk⟩, Nat.testBit_xor, full_bit, wd_bit]; simp [hj, h]
        · rw [if_neg (fun h2 => h h2.1), wd_bit]; simp [h]
      have hK : (if k = i / 64 then G (i / 64) &&& hiM (i % 64) else G k : Nat).testBit j = (decide (i ≤ 64 * k + j) && !(S.testBit (64 * k + j))) := by
        by_cases h : k = i / 64
        · rw [if_pos h, ← h, Nat.testBit_and, hGb, hiM_bit hj]
          have e : (i % 64 ≤ j) ↔ (i ≤ 64 * k + j) := by omega
          have e2 : i / 64 ≤ k := by omega
          simp only [e, e2, decide_true, Bool.true_and]
          rw [Bool.and_comm]
        · rw [if_neg h, hGb]
          have e : (i / 64 ≤ k) ↔ (i ≤ 64 * k + j) := by omega
          simp only [e]
      rw [cmpl_bit]
      by_cases h : k = w.length / 64
      · rw [if_pos h]
        rw [← h, Nat.testBit_and, hK, loM_bit]
        have e : (j + (63 - w.length % 64) < 64) ↔ (64 * k + j ≤ w.length) := by omega
        simp only [e]
        cases decide (i ≤ 64 * k + j) <;> cases decide (64 * k + j ≤ w.length) <;> simp
      · rw [if_neg h, hK]
        have e : 64 * k + j ≤ w.length := by unfold mW at hk; omega
        simp only [e, decide_true, Bool.true_and]
  rw [e9, Rows_set]
theorem concat_2_spec {w : List UInt8} {R R2 : Nat → Option Nat} {i S : Nat} {b : Bool} (hw : w.length ≤ 2048) (hi : i ≤ w.length) (hR : R i = some S) (hS : In w S)
    (h2 : ∀ j, S.testBit j = true → ∃ T, R2 j = some T ∧ (∀ t, t < j → T.testBit t = false))
    (hb : b = true → ∀ j' T' j T x, S.testBit j' = true → S.testBit j = true → R2 j' = some T' → R2 j = some T → T'.testBit j = true → T.testBit x = true → T'.testBit x = true) :
    ∃ O : Nat, CC F_expr_matcher_concat_2 [.int .i64 (i : Int), .str w, .bool b, oV w R, oV w R2] = some [.str w, .bool b, oV w (upd R i O), oV w R2] ∧
      ∀ x, O.testBit x = true ↔ ∃ j T, S.testBit j = true ∧ R2 j = some T ∧ T.testBit x = true := by
  have hN : i < w.length + 1 := by omega
  obtain ⟨⟨b', r', u'⟩, hc, hb', hr', O, hu', hO⟩ := each_concat_2_1 (m := mW w) (F := S) (mW_le hw)
    (P := fun t a => a.1 = b ∧ a.2.1 = Rows (mW w) (w.length + 1) R2 ∧ ∃ O : Nat, a.2.2 = offV (mW w) O ∧ ∀ x, O.testBit x = true ↔ ∃ j T, j < t ∧ S.testBit j = true ∧ R2 j = some T ∧ T.testBit x = true)
    (fun t a ht hSt hP => by
      obtain ⟨b', r', u'⟩ := a
      obtain ⟨rfl, rfl, O, rfl, hO⟩ := hP
      obtain ⟨T, hT, hTl⟩ := h2 t hSt
      refine ⟨(b', Rows (mW w) (w.length + 1) R2, offV (mW w) (if b' = true ∧ O.testBit t = true then O else O ||| T)), concat_2_1_spec hw (hS t hSt) hT hTl, rfl, rfl, _, rfl, fun x => ?_⟩
      constructor
      · intro hx
        split at hx
        · obtain ⟨j, T', h1, h2, h3, h4⟩ := (hO x).1 hx
          exact ⟨j, T', by omega, h2, h3, h4⟩
        · rcases bit_or.1 hx with hx | hx
          · obtain ⟨j, T', h1, h2, h3, h4⟩ := (hO x).1 hx
            exact ⟨j, T', by omega, h2, h3, h4⟩
          · exact ⟨t, T, by omega, hSt, hT, hx⟩
      · rintro ⟨j, T', h1, hj, h3, h4⟩
        by_cases hjt : j = t
        · subst hjt
          rw [hT] at h3
          obtain rfl := Option.some.inj h3
          split
          · rename_i hc
            obtain ⟨j0, T0, g1, g2, g3, g4⟩ := (hO j).1 hc.2
            exact (hO x).2 ⟨j0, T0, g1, g2, g3, hb hc.1 j0 T0 j T x g2 hj g3 hT g4 h4⟩
          · exact bit_or.2 (.inr h4)
        · have := (hO x).2 ⟨j, T', by omega, hj, h3, h4⟩
          split
          · exact this
          · exact bit_or.2 (.inl this))
    (fun t a hSt hP => by
      obtain ⟨h1, h2, O, h3, hO⟩ := hP
      refine ⟨h1, h2, O, h3, fun x => (hO x).trans ⟨?_, ?_⟩⟩
      · rintro ⟨j, T, h1, h2⟩; exact ⟨j, T, by omega, h2⟩
      · rintro ⟨j, T, h1, h2, h3⟩
        refine ⟨j, T, ?_, h2, h3⟩
        have : j ≠ t := by rintro rfl; rw [hSt] at h2; cases h2
        omega)
    (b, Rows (mW w) (w.length + 1) R2, offV (mW w) 0) ⟨rfl, rfl, 0, rfl, fun x => ⟨fun h => by simp at h, fun ⟨j, T, h, _⟩ => by omega⟩⟩
  subst hb' hr' hu'
  refine ⟨O, ?_, fun x => (hO x).trans ⟨fun ⟨j, T, _, h⟩ => ⟨j, T, h⟩, fun ⟨j, T, h1, h⟩ => ⟨j, T, by have := hS j h1; have := @mW_64 w; omega, h1, h⟩⟩⟩
  refine f_expr_matcher_concat_2_of ?_
  unfold f_expr_matcher_concat_2
  rw [none_w hw]
  simp only [bif_and, bif_decide, Int.toNat_natCast, Rows_len, Rows_get hN, rowV_O hN hR, Option.bind_some, V.toList_list, V.nth_zero]
  have t7 : (0 : Int) ≤ (i : Int) := by omega
  have t8 : (i : Int) < ((w.length + 1 : Nat) : Int) := by omega
  simp only [t7, t8, if_true]
  refine (congrArg (fun o => Option.bind o _) hc).trans ?_
  simp only [Option.bind_some, List.drop_succ_cons, List.drop_zero, V.nth_zero, V.toBool_bool, V.toList_list, Rows_set]
end Go.AM
set_option maxRecDepth 100000
namespace Go.AM
open Go.Proofs
noncomputable def f_expr_isEmpty (C : CallF) (e_0 e_1 : Int) (e_2 : List V) : Option (List V) :=
  some [.bool ((e_0 : Int) == 1)]
theorem f_expr_isEmpty_of {e_0 e_1 : Int} {e_2 : List V} {r : Option (List V)} (h : f_expr_isEmpty CC e_0 e_1 e_2 = r) : CC F_expr_isEmpty [.int .i64 e_0, .int .i64 e_1, .list T_api_Expr e_2] = r :=
  func_of (key := 62) (L := LT0) (bs := []) (by kernel_rfl) tells_nil (Eq.trans (by kernel_rfl) h)
end Go.AM
set_option maxRecDepth 100000
namespace Go.AM
open Go.Proofs
noncomputable def f_expr_isUniversal (C : CallF) (e_0 e_1 : Int) (e_2 : List V) : Option (List V) :=
  bif (e_0 : Int) == 8 then
   bif ((e_2.length : Int) : Int) == 1 then
    (e_2[0]?).bind fun x1 =>
    (C F_expr_isEmpty [.int .i64 ((x1.cell 0).toInt), .int .i64 ((x1.cell 1).toInt), .list T_api_Expr ((x1.cell 2).toList)]).bind fun r2 =>
    some [.bool ((V.nth r2 0).toBool)]
   else
    some [.bool false]
  else
   some [.bool false]
theorem f_expr_isUniversal_of {e_0 e_1 : Int} {e_2 : List V} {r : Option (List V)} (h : f_expr_isUniversal CC e_0 e_1 e_2 = r) : CC F_expr_isUniversal [.int .i64 e_0, .int .i64 e_1, .list T_api_Expr e_2] = r :=
  func_of (key := 46) (L := LT0) (bs := []) (by kernel_rfl) tells_nil (Eq.trans (by kernel_rfl) h)
end Go.AM
set_option maxRecDepth 100000
namespace Go.AM
open Go.Proofs
noncomputable def f_expr_matcher_ends (C : CallF) (m : List UInt8) (e_0 e_1 : Int) (e_2 from' : List V) : Option (List V) :=
  bif (e_0 : Int) == 5 then
   (C F_expr_matcher_concat [.str m, .list T_api_Expr e_2, .list T_uint64 from']).bind fun r1 =>
   some [.list T_expr_offsets ((V.nth r1 0).toList)]
  else
   bif (e_0 : Int) == 7 then
    (e_2[0]?).bind fun x2 =>
    (C F_expr_matcher_star [.str m, .int .i64 ((x2.cell 0).toInt), .int .i64 ((x2.cell 1).toInt), .list T_api_Expr ((x2.cell 2).toList), .list T_uint64 from']).bind fun r3 =>
    some [.list T_expr_offsets ((V.nth r3 0).toList)]
   else
    bif (e_0 : Int) == 4 then
     bif (e_0 : Int) == 4 then
      (C F_expr_matcher_combine [.str m, .int .i64 e_0, .int .i64 e_1, .list T_api_Expr e_2, .list T_uint64 from']).bind fun r4 =>
      some [.list T_expr_offsets ((V.nth r4 0).toList)]
     else
      bif (e_0 : Int) == 8 then
       (e_2[0]?).bind fun x5 =>
       (C F_expr_matcher_complement [.str m, .int .i64 ((x5.cell 0).toInt), .int .i64 ((x5.cell 1).toInt), .list T_api_Expr ((x5.cell 2).toList), .list T_uint64 from']).bind fun r6 =>
       some [.list T_expr_offsets ((V.nth r6 0).toList)]
      else
       bif (decide (0 ≤ (IntKind.wrap .i64 ((m.length : Int) + 1)))) && ((decide ((IntKind.wrap .i64 ((m.length : Int) + 1)) ≤ (IntKind.wrap .i64 ((m.length : Int) + 1)))) && (Nat.ble (((IntKind.wrap .i64 ((m.length : Int) + 1) : Int).toNat) * 24) maxBytes)) then
        (C F_expr_offsets_each [.list T_uint64 from', .str m, .int .i64 e_0, .int .i64 e_1, .list T_api_Expr e_2, .list T_expr_offsets (List.replicate ((IntKind.wrap .i64 ((m.length : Int) + 1) : Int).toNat) (V.list T_uint64 ([] : List V)))]).bind fun r7 =>
        some [.list T_expr_offsets ((V.nth ((r7.drop 1).drop 3) 0).toList)]
       else none
    else
     bif (e_0 : Int) == 6 then
      (C F_expr_matcher_combine [.str m, .int .i64 e_0, .int .i64 e_1, .list T_api_Expr e_2, .list T_uint64 from']).bind fun r8 =>
      some [.list T_expr_offsets ((V.nth r8 0).toList)]
     else
      bif (e_0 : Int) == 8 then
       (e_2[0]?).bind fun x9 =>
       (C F_expr_matcher_complement [.str m, .int .i64 ((x9.cell 0).toInt), .int .i64 ((x9.cell 1).toInt), .list T_api_Expr ((x9.cell 2).toList), .list T_uint64 from']).bind fun r10 =>
       some [.list T_expr_offsets ((V.nth r10 0).toList)]
      else
       bif (decide (0 ≤ (IntKind.wrap .i64 ((m.length : Int) + 1)))) && ((decide ((IntKind.wrap .i64 ((m.length : Int) + 1)) ≤ (IntKind.wrap .i64 ((m.length : Int) + 1)))) && (Nat.ble (((IntKind.wrap .i64 ((m.length : Int) + 1) : Int).toNat) * 24) maxBytes)) then
        (C F_expr_offsets_each [.list T_uint64 from', .str m, .int .i64 e_0, .int .i64 e_1, .list T_api_Expr e_2, .list T_expr_offsets (List.replicate ((IntKind.wrap .i64 ((m.length : Int) + 1) : Int).toNat) (V.list T_uint64 ([] : List V)))]).bind fun r11 =>
        some [.list T_expr_offsets ((V.nth ((r11.drop 1).drop 3) 0).toList)]
       else none
theorem f_expr_matcher_ends_of {m : List UInt8} {e_0 e_1 : Int} {e_2 from' : List V} {r : Option (List V)} (h : f_expr_matcher_ends CC m e_0 e_1 e_2 from' = r) : CC F_expr_matcher_ends [.str m, .int .i64 e_0, .int .i64 e_1, .list T_api_Expr e_2, .list T_uint64 from'] = r :=
  func_of (key := 18) (L := LT0) (bs := []) (by kernel_rfl) tells_nil (Eq.trans (by kernel_rfl) h)
end Go.AM
set_option maxRecDepth 100000
namespace Go.AM
open Go.Proofs
noncomputable abbrev B_expr_matcher_concat : Code := bodyOf Tryd.prog (ann.fid 29)
noncomputable def s_expr_matcher_concat_1 (C : CallF) (from' t20 : List V) (t21 t22 : Int) (ms : List UInt8) (b2_ : List V) {β : Type} (kn : (Int × (List UInt8) × (List V)) → Option β) (kr : (Int × Bool × (List UInt8) × (List V)) → Option β) : Option β :=
  bif decide ((t22 : Int) < t21) then
   (idx t20 t22).bind fun x3 =>
   (C F_expr_matcher_none [.str ms]).bind fun r4 =>
   (C K_expr_offsets_each_k102 [.list T_uint64 from', .list T_uint64 ((V.nth r4 0).toList), .list T_expr_offsets b2_]).bind fun r5 =>
   (C F_expr_matcher_ends [.str ms, .int .i64 ((x3.cell 0).toInt), .int .i64 ((x3.cell 1).toInt), .list T_api_Expr ((x3.cell 2).toList), .list T_uint64 ((V.nth (r5.drop 1) 0).toList)]).bind fun r6 =>
   bif (((x3.cell 0).toInt) : Int) == 7 then
    (C K_expr_offsets_each_k104 [.list T_uint64 from', .str ms, .bool true, .list T_expr_offsets ((V.nth r5 0).toList), .list T_expr_offsets ((V.nth r6 0).toList)]).bind fun r7 =>
    kn (IntKind.wrap .i64 (t22 + 1), (V.nth r7 0).toStr, (V.nth ((r7.drop 1).drop 1) 0).toList)
   else
    (C F_expr_isUniversal [.int .i64 ((x3.cell 0).toInt), .int .i64 ((x3.cell 1).toInt), .list T_api_Expr ((x3.cell 2).toList)]).bind fun r8 =>
    (C K_expr_offsets_each_k104 [.list T_uint64 from', .str ms, .bool ((V.nth r8 0).toBool), .list T_expr_offsets ((V.nth r5 0).toList), .list T_expr_offsets ((V.nth r6 0).toList)]).bind fun r9 =>
    kn (IntKind.wrap .i64 (t22 + 1), (V.nth r9 0).toStr, (V.nth ((r9.drop 1).drop 1) 0).toList)
  else
   kr (t22, decide ((t22 : Int) < t21), ms, b2_)
noncomputable def s_expr_matcher_concat_1L (C : CallF) (from' t20 : List V) (t21 : Int) : (Int × (List UInt8) × (List V)) → Option ((Int × (List UInt8) × (List V)) ⊕ (Int × Bool × (List UInt8) × (List V))) := un fun t22 => un fun ms b2_ => s_expr_matcher_concat_1 C from' t20 t21 t22 ms b2_ (fun y => some (.inl y)) (fun r => some (.inr r))
noncomputable def LT_expr_matcher_concat (C : CallF) : LTab := fun β n ds k =>
  bif Nat.beq n 49 then loopS S29_49 [false, false, false, true, true, true] [[1, 2, 3, 0, 0, 0, 0]] (@s_expr_matcher_concat_1 C) ds k else
  none
abbrev TS_expr_matcher_concat (C : CallF) (b : Bar) : Prop := Tells Tryd.prog ann C (LT_expr_matcher_concat C) 29 (ntmpsOf Tryd.prog (ann.fid 29)) (ann.sin 29).blks.length b
theorem t_expr_matcher_concat_1 (C : CallF) : TS_expr_matcher_concat C (.loop (codeAt [1, 1, 0, 1, 0, 0] B_expr_matcher_concat)) :=
  tl3 S29_49 [false, false, false, true, true, true] [[1, 2, 3, 0, 0, 0, 0]] (@s_expr_matcher_concat_1 C) (by kernel_rfl) (ltok_of (bs := []) (by kernel_rfl) tells_nil) (fun ds => by kernel_rfl) (fun i x => by kernel_rfl) (fun i x β k => by kernel_rfl) (fun β ds k => by kernel_rfl)
noncomputable def f_expr_matcher_concat (C : CallF) (m : List UInt8) (kids from' : List V) : Option (List V) :=
  (kids[0]?).bind fun x1 =>
  (C F_expr_matcher_ends [.str m, .int .i64 ((x1.cell 0).toInt), .int .i64 ((x1.cell 1).toInt), .list T_api_Expr ((x1.cell 2).toList), .list T_uint64 from']).bind fun r2 =>
  bif decide (1 ≤ (kids.length : Int)) then
   (Loop (s_expr_matcher_concat_1L C from' ((kids.drop 1).take (kids.length - 1)) (((kids.drop 1).take (kids.length - 1)).length : Int)) (0, m, (V.nth r2 0).toList)).bind (un fun (t_10 : Int) => un fun (t_11 : Bool) => un fun (ms_12 : List UInt8) (b_13 : List V) =>
     some [.list T_expr_offsets b_13])
  else none
theorem f_expr_matcher_concat_of {m : List UInt8} {kids from' : List V} {r : Option (List V)} (h : f_expr_matcher_concat CC m kids from' = r) : CC F_expr_matcher_concat [.str m, .list T_api_Expr kids, .list T_uint64 from'] = r :=
  func_of (key := 29) (L := LT_expr_matcher_concat CC) (bs := [.loop (codeAt [1, 1, 0, 1, 0, 0] B_expr_matcher_concat)]) (by kernel_rfl) (tells_cons (t_expr_matcher_concat_1 CC) tells_nil) (Eq.trans (by kernel_rfl) h)
end Go.AM
set_option maxRecDepth 100000
namespace Go.AM
open Go.Proofs
noncomputable abbrev B_expr_matcher_star : Code := bodyOf Tryd.prog (ann.fid 30)
noncomputable def s_expr_matcher_star_1 (C : CallF) (ms : List UInt8) (kids_0 kids_1 : Int) (kids_2 : List V) (leasts i : Int) (alls : List V) {β : Type} (kn : (Int × (List V)) → Option β) (kr : (Int × Bool × (List V)) → Option β) : Option β :=
  bif decide ((i : Int) ≤ (ms.length : Int)) then
   (C F_expr_offsets_add [.int .i64 i, .list T_uint64 alls]).bind fun r3 =>
   kn (IntKind.wrap .i64 (i + 1), (V.nth r3 0).toList)
  else
   kr (i, decide ((i : Int) ≤ (ms.length : Int)), alls)
noncomputable def s_expr_matcher_star_1L (C : CallF) (ms : List UInt8) (kids_0 kids_1 : Int) (kids_2 : List V) (leasts : Int) : (Int × (List V)) → Option ((Int × (List V)) ⊕ (Int × Bool × (List V))) := un fun i alls => s_expr_matcher_star_1 C ms kids_0 kids_1 kids_2 leasts i alls (fun y => some (.inl y)) (fun r => some (.inr r))
noncomputable def s_expr_matcher_star_2 (C : CallF) (ms : List UInt8) (leasts : Int) (stepss : List V) (i : Int) (b4_ : List V) {β : Type} (kn : (Int × (List V)) → Option β) (kr : (Int × Bool × (List V)) → Option β) : Option β :=
  bif decide ((i : Int) ≥ leasts) then
   (C F_expr_matcher_none [.str ms]).bind fun r8 =>
   (C F_expr_offsets_add [.int .i64 i, .list T_uint64 ((V.nth r8 0).toList)]).bind fun r9 =>
   bif (decide (0 ≤ i)) && (decide (i < (stepss.length : Int))) then
    (stepss[(i : Int).toNat]?).bind fun x10 =>
    (rowV Tryd.prog T_expr_offsets stepss [((i : Int).toNat, 0)]).bind fun x11 =>
    (C K_expr_offsets_each_k101 [.list T_uint64 x11.toList, .list T_uint64 ((V.nth r9 0).toList), .list T_expr_offsets b4_]).bind fun r12 =>
    bif (decide (0 ≤ i)) && (decide (i < (((V.nth r12 0).toList).length : Int))) then
     (((V.nth r12 0).toList)[(i : Int).toNat]?).bind fun x13 =>
     kn (IntKind.wrap .i64 (i - 1), ((V.nth r12 0).toList).set ((i : Int).toNat) (.list T_uint64 ((V.nth (r12.drop 1) 0).toList)))
    else none
   else none
  else
   kr (i, decide ((i : Int) ≥ leasts), b4_)
noncomputable def s_expr_matcher_star_2L (C : CallF) (ms : List UInt8) (leasts : Int) (stepss : List V) : (Int × (List V)) → Option ((Int × (List V)) ⊕ (Int × Bool × (List V))) := un fun i b4_ => s_expr_matcher_star_2 C ms leasts stepss i b4_ (fun y => some (.inl y)) (fun r => some (.inr r))
noncomputable def LT_expr_matcher_star (C : CallF) : LTab := fun β n ds k =>
  bif Nat.beq n 65 then loopS S30_65 [true, false, false, false, false, true, false] [[0, 0, 2, 3, 4, 5, 0, 7]] (@s_expr_matcher_star_1 C) ds k else
  bif Nat.beq n 161 then loopS S30_161 [true, false, false, false, true] [[0, 0, 2, 3, 4, 0]] (@s_expr_matcher_star_2 C) ds k else
  none
abbrev TS_expr_matcher_star (C : CallF) (b : Bar) : Prop := Tells Tryd.prog ann C (LT_expr_matcher_star C) 30 (ntmpsOf Tryd.prog (ann.fid 30)) (ann.sin 30).blks.length b
theorem t_expr_matcher_star_1 (C : CallF) : TS_expr_matcher_star C (.loop (codeAt [1, 1, 1, 0, 1, 0, 0] B_expr_matcher_star)) :=
  tl3 S30_65 [true, false, false, false, false, true, false] [[0, 0, 2, 3, 4, 5, 0, 7]] (@s_expr_matcher_star_1 C) (by kernel_rfl) (ltok_of (bs := []) (by kernel_rfl) tells_nil) (fun ds => by kernel_rfl) (fun i x => by kernel_rfl) (fun i x β k => by kernel_rfl) (fun β ds k => by kernel_rfl)
theorem t_expr_matcher_star_2 (C : CallF) : TS_expr_matcher_star C (.loop (codeAt [1, 1, 1, 1, 1, 1, 0, 1, 0, 0] B_expr_matcher_star)) :=
  tl3 S30_161 [true, false, false, false, true] [[0, 0, 2, 3, 4, 0]] (@s_expr_matcher_star_2 C) (by kernel_rfl) (ltok_of (bs := []) (by kernel_rfl) tells_nil) (fun ds => by kernel_rfl) (fun i x => by kernel_rfl) (fun i x β k => by kernel_rfl) (fun β ds k => by kernel_rfl)
noncomputable def f_expr_matcher_star (C : CallF) (m : List UInt8) (kid_0 kid_1 : Int) (kid_2 from' : List V) : Option (List V) :=
  (C F_expr_matcher_none [.str m]).bind fun r1 =>
  (C K_expr_offsets_each_k98 [.list T_uint64 from', .int .i64 (IntKind.wrap .i64 ((m.length : Int) + 1))]).bind fun r2 =>
  (Loop (s_expr_matcher_star_1L C m kid_0 kid_1 kid_2 ((V.nth r2 0).toInt)) ((V.nth r2 0).toInt, (V.nth r1 0).toList)).bind (un fun (i_4 : Int) => un fun (t_5 : Bool) (alls_6 : List V) =>
    (C F_expr_matcher_ends [.str m, .int .i64 kid_0, .int .i64 kid_1, .list T_api_Expr kid_2, .list T_uint64 alls_6]).bind fun r7 =>
    bif (decide (0 ≤ (IntKind.wrap .i64 ((m.length : Int) + 1)))) && ((decide ((IntKind.wrap .i64 ((m.length : Int) + 1)) ≤ (IntKind.wrap .i64 ((m.length : Int) + 1)))) && (Nat.ble (((IntKind.wrap .i64 ((m.length : Int) + 1) : Int).toNat) * 24) maxBytes)) then
     (Loop (s_expr_matcher_star_2L C m ((V.nth r2 0).toInt) ((V.nth r7 0).toList)) ((m.length : Int), List.replicate ((IntKind.wrap .i64 ((m.length : Int) + 1) : Int).toNat) (V.list T_uint64 ([] : List V)))).bind (un fun (i_14 : Int) => un fun (t_15 : Bool) (b_16 : List V) =>
       some [.list T_expr_offsets b_16])
    else none)
theorem f_expr_matcher_star_of {m : List UInt8} {kid_0 kid_1 : Int} {kid_2 from' : List V} {r : Option (List V)} (h : f_expr_matcher_star CC m kid_0 kid_1 kid_2 from' = r) : CC F_expr_matcher_star [.str m, .int .i64 kid_0, .int .i64 kid_1, .list T_api_Expr kid_2, .list T_uint64 from'] = r :=
  func_of (key := 30) (L := LT_expr_matcher_star CC) (bs := [.loop (codeAt [1, 1, 1, 0, 1, 0, 0] B_expr_matcher_star), .loop (codeAt [1, 1, 1, 1, 1, 1, 0, 1, 0, 0] B_expr_matcher_star)]) (by kernel_rfl) (tells_cons (t_expr_matcher_star_1 CC) (tells_cons (t_expr_matcher_star_2 CC) tells_nil)) (Eq.trans (by kernel_rfl) h)
end Go.AM
set_option maxRecDepth 100000
namespace Go.AM
open Go.Proofs
noncomputable abbrev B_expr_matcher_combine : Code := bodyOf Tryd.prog (ann.fid 31)
noncomputable def s_expr_matcher_combine_1 (C : CallF) (from' t20 : List V) (t21 : Int) (ms : List UInt8) (t22 es_0 es_1 : Int) (es_2 b3_ : List V) {β : Type} (kn : (Int × Int × Int × (List V) × (List V)) → Option β) (kr : (Int × Bool × Int × Int × (List V) × (List V)) → Option β) : Option β :=
  bif decide ((t22 : Int) < t21) then
   (idx t20 t22).bind fun x3 =>
   (C F_expr_matcher_ends [.str ms, .int .i64 ((x3.cell 0).toInt), .int .i64 ((x3.cell 1).toInt), .list T_api_Expr ((x3.cell 2).toList), .list T_uint64 from']).bind fun r4 =>
   (C K_expr_offsets_each_k100 [.list T_uint64 from', .int .i64 es_0, .int .i64 es_1, .list T_api_Expr es_2, .list T_expr_offsets b3_, .list T_expr_offsets ((V.nth r4 0).toList)]).bind fun r5 =>
   kn (IntKind.wrap .i64 (t22 + 1), (V.nth r5 0).toInt, (V.nth (r5.drop 1) 0).toInt, (V.nth ((r5.drop 1).drop 1) 0).toList, (V.nth (r5.drop 3) 0).toList)
  else
   kr (t22, decide ((t22 : Int) < t21), es_0, es_1, es_2, b3_)
noncomputable def s_expr_matcher_combine_1L (C : CallF) (from' t20 : List V) (t21 : Int) (ms : List UInt8) : (Int × Int × Int × (List V) × (List V)) → Option ((Int × Int × Int × (List V) × (List V)) ⊕ (Int × Bool × Int × Int × (List V) × (List V))) := un fun t22 => un fun es_0 => un fun es_1 => un fun es_2 b3_ => s_expr_matcher_combine_1 C from' t20 t21 ms t22 es_0 es_1 es_2 b3_ (fun y => some (.inl y)) (fun r => some (.inr r))
noncomputable def LT_expr_matcher_combine (C : CallF) : LTab := fun β n ds k =>
  bif Nat.beq n 49 then loopS S31_49 [false, false, false, true, false, true, true, true, true] [[1, 2, 3, 0, 0, 5, 0, 0, 0, 0]] (@s_expr_matcher_combine_1 C) ds k else
  none
abbrev TS_expr_matcher_combine (C : CallF) (b : Bar) : Prop := Tells Tryd.prog ann C (LT_expr_matcher_combine C) 31 (ntmpsOf Tryd.prog (ann.fid 31)) (ann.sin 31).blks.length b
theorem t_expr_matcher_combine_1 (C : CallF) : TS_expr_matcher_combine C (.loop (codeAt [1, 1, 0, 1, 0, 0] B_expr_matcher_combine)) :=
  tl3 S31_49 [false, false, false, true, false, true, true, true, true] [[1, 2, 3, 0, 0, 5, 0, 0, 0, 0]] (@s_expr_matcher_combine_1 C) (by kernel_rfl) (ltok_of (bs := []) (by kernel_rfl) tells_nil) (fun ds => by kernel_rfl) (fun i x => by kernel_rfl) (fun i x β k => by kernel_rfl) (fun β ds k => by kernel_rfl)
noncomputable def f_expr_matcher_combine (C : CallF) (m : List UInt8) (e_0 e_1 : Int) (e_2 from' : List V) : Option (List V) :=
  (e_2[0]?).bind fun x1 =>
  (C F_expr_matcher_ends [.str m, .int .i64 ((x1.cell 0).toInt), .int .i64 ((x1.cell 1).toInt), .list T_api_Expr ((x1.cell 2).toList), .list T_uint64 from']).bind fun r2 =>
  bif decide (1 ≤ (e_2.length : Int)) then
   (Loop (s_expr_matcher_combine_1L C from' ((e_2.drop 1).take (e_2.length - 1)) (((e_2.drop 1).take (e_2.length - 1)).length : Int) m) (0, e_0, e_1, e_2, (V.nth r2 0).toList)).bind (un fun (t_6 : Int) => un fun (t_7 : Bool) => un fun (es_8 : Int) => un fun (es_9 : Int) => un fun (es_10 : List V) (b_11 : List V) =>
     some [.list T_expr_offsets b_11])
  else none
theorem f_expr_matcher_combine_of {m : List UInt8} {e_0 e_1 : Int} {e_2 from' : List V} {r : Option (List V)} (h : f_expr_matcher_combine CC m e_0 e_1 e_2 from' = r) : CC F_expr_matcher_combine [.str m, .int .i64 e_0, .int .i64 e_1, .list T_api_Expr e_2, .list T_uint64 from'] = r :=
  func_of (key := 31) (L := LT_expr_matcher_combine CC) (bs := [.loop (codeAt [1, 1, 0, 1, 0, 0] B_expr_matcher_combine)]) (by kernel_rfl) (tells_cons (t_expr_matcher_combine_1 CC) tells_nil) (Eq.trans (by kernel_rfl) h)
end Go.AM
set_option maxRecDepth 100000
namespace Go.AM
open Go.Proofs
noncomputable def f_expr_matcher_complement (C : CallF) (m : List UInt8) (kid_0 kid_1 : Int) (kid_2 from' : List V) : Option (List V) :=
  (C F_expr_matcher_ends [.str m, .int .i64 kid_0, .int .i64 kid_1, .list T_api_Expr kid_2, .list T_uint64 from']).bind fun r1 =>
  (C K_expr_offsets_each_k103 [.list T_uint64 from', .str m, .int .i64 (Int.fdiv (m.length : Int) (2 ^ (min (6 : Int).toNat (IntKind.bits .i64)))), .list T_expr_offsets ((V.nth r1 0).toList)]).bind fun r2 =>
  some [.list T_expr_offsets ((V.nth ((r2.drop 1).drop 1) 0).toList)]
theorem f_expr_matcher_complement_of {m : List UInt8} {kid_0 kid_1 : Int} {kid_2 from' : List V} {r : Option (List V)} (h : f_expr_matcher_complement CC m kid_0 kid_1 kid_2 from' = r) : CC F_expr_matcher_complement [.str m, .int .i64 kid_0, .int .i64 kid_1, .list T_api_Expr kid_2, .list T_uint64 from'] = r :=
  func_of (key := 32) (L := LT0) (bs := []) (by kernel_rfl) tells_nil (Eq.trans (by kernel_rfl) h)
end Go.AM
set_option maxRecDepth 100000
set_option linter.unusedSimpArgs false
namespace Go.AM
open Go.Proofs Ex
def PR (F : Nat) (R : Nat → Option Nat) (Q : Nat → Nat → Prop) (t : Nat) (Rt : Nat → Option Nat) : Prop :=
  (∀ i, F.testBit i = true → i < t → ∃ S, Rt i = some S ∧ Q i S) ∧ ∀ i, t ≤ i → Rt i = R i
theorem PR.zero {F : Nat} {R : Nat → Option Nat} {Q : Nat → Nat → Prop} : PR F R Q 0 R := ⟨fun _ _ h => by omega, fun _ _ => rfl⟩
theorem PR.upd {F t S : Nat} {R Rt : Nat → Option Nat} {Q : Nat → Nat → Prop} (h : PR F R Q t Rt) (hQ : Q t S) : PR F R Q (t + 1) (upd Rt t S) := by
  refine ⟨fun i hi ht => ?_, fun i hi => ?_⟩
  · by_cases e : i = t
    · subst e; exact ⟨S, upd_same, hQ⟩
    · rw [upd_ne e]; exact h.1 i hi (by omega)
  · rw [upd_ne (by omega)]; exact h.2 i (by omega)
theorem PR.skip {F t : Nat} {R Rt : Nat → Option Nat} {Q : Nat → Nat → Prop} (h : PR F R Q t Rt) (hF : F.testBit t = false) : PR F R Q (t + 1) Rt := by
  refine ⟨fun i hi ht => ?_, fun i hi => h.2 i (by omega)⟩
  by_cases e : i = t
  · subst e; rw [hF] at hi; cases hi
  · exact h.1 i hi (by omega)
theorem PR.ends {w : List UInt8} {F : Nat} {R Rt : Nat → Option Nat} {L : Lg} (h : PR F R (fun i S => ∀ j, S.testBit j = true ↔ Pt w L i j) (64 * mW w) Rt) (hF : In w F) : Ends w F Rt L := fun i hi => by
  have := hF i hi; have := @mW_64 w
  exact h.1 i hi (by omega)
theorem sl_one {w : List UInt8} {i : Nat} (h : i < w.length) : sl w i (i + 1) = [w.getD i 0] := by
  unfold sl
  rw [show i + 1 - i = 1 by omega, List.drop_eq_getElem_cons h, List.take_succ_cons, List.take_zero]
  simp [h]
theorem base_bit {w : List UInt8} {o l : Int} {i j : Nat} (ho : o = 1 ∨ o = 2 ∨ o = 3) (hi : i ≤ w.length) : (base w o l i).testBit j = true ↔ Pt w (opL o l []) i j := by
  unfold base Pt opL
  rcases ho with rfl | rfl | rfl
  · simp
  · simp only [if_true]
    rw [bit_pow]
    constructor
    · rintro rfl; exact ⟨Nat.le_refl _, hi, sl_self⟩
    · rintro ⟨h1, h2, h3⟩
      have := sl_len h1 h2
      rw [h3, List.length_nil] at this
      omega
  · simp only [show ¬ ((3 : Int) = 2) by omega, if_false, if_true, true_and]
    by_cases h : i < w.length ∧ let_ w i = l
    · rw [if_pos h, bit_pow]
      have e := sl_one h.1
      constructor
      · rintro rfl
        exact ⟨by omega, by omega, _, e, h.2⟩
      · rintro ⟨h1, h2, c, h3, h4⟩
        have := sl_len h1 h2
        rw [h3] at this
        simp at this
        omega
    · rw [if_neg h]
      constructor
      · intro h; simp at h
      · rintro ⟨h1, h2, c, h3, h4⟩
        have := sl_len h1 h2
        rw [h3] at this
        simp at this
        have e2 : j = i + 1 := by omega
        subst e2
        have hlt : i < w.length := by omega
        have e := sl_one hlt
        rw [e] at h3
        injection h3 with h3
        subst h3
        exact absurd ⟨hlt, h4⟩ h
theorem isEmpty_spec {e : Ex} : CC F_expr_isEmpty (exA e []) = some [.bool (decide (e.op = 1))] := by
  refine f_expr_isEmpty_of ?_
  unfold f_expr_isEmpty
  congr 3
def isU (e : Ex) : Bool := decide (e.op = 8 ∧ e.kids.length = 1 ∧ ∀ k ∈ e.kids, k.op = 1)
theorem isUniversal_spec {e : Ex} : CC F_expr_isUniversal (exA e []) = some [.bool (isU e)] := by
  obtain ⟨o, l, ks⟩ := e
  refine f_expr_isUniversal_of ?_
  unfold f_expr_isUniversal isU
  simp only [Ex.op, Ex.kids, bif_beq, List.length_map]
  by_cases h1 : o = 8
  · rw [if_pos h1]
    match ks with
    | [] => simp
    | [k] =>
      simp only [List.map_cons, List.map_nil, List.getElem?_cons_zero, Option.bind_some, enc_0, enc_1, enc_2]
      rw [if_pos (by simp)]
      refine (congrArg (fun o => Option.bind o _) (isEmpty_spec (e := k))).trans ?_
      cases k
      simp [h1, Ex.op]
      try rfl
    | k :: k2 :: ks =>
      rw [if_neg (by simp <;> omega)]
      simp
  · rw [if_neg h1]; simp [h1]
theorem ends_base {w : List UInt8} {o l : Int} {ks : List V} {F : Nat} (hw : w.length ≤ 2048) (hl : ∀ i, i < w.length → 0 ≤ let_ w i) (ho : o = 1 ∨ o = 2 ∨ o = 3) (hF : In w F) :
    ∃ R, CC F_expr_offsets_each [uV w F, .str w, .int .i64 o, .int .i64 l, .list T_api_Expr ks, oV w (fun _ => none)] = some [.str w, .int .i64 o, .int .i64 l, .list T_api_Expr ks, oV w R] ∧ Ends w F R (opL o l []) := by
  obtain ⟨_, hc, R, rfl, hP⟩ := each_ends_1 (m := mW w) (F := F) (mW_le hw)
    (P := fun t a => ∃ R, a = (w, o, l, ks, Rows (mW w) (w.length + 1) R) ∧ PR F (fun _ => none) (fun i S => ∀ j, S.testBit j = true ↔ Pt w (opL o l []) i j) t R)
    (fun t a ht hSt hP => by
      obtain ⟨R, rfl, hP⟩ := hP
      exact ⟨(w, o, l, ks, _), ends_1_spec hw hl (hF t hSt), _, rfl, hP.upd fun j => base_bit ho (hF t hSt)⟩)
    (fun t a hSt hP => by
      obtain ⟨R, h5, hP⟩ := hP
      exact ⟨R, h5, hP.skip hSt⟩)
    (w, o, l, ks, Rows (mW w) (w.length + 1) fun _ => none) ⟨_, rfl, PR.zero⟩
  exact ⟨R, hc, hP.ends hF⟩
theorem rw_ends {w : List UInt8} {F i : Nat} {R : Nat → Option Nat} {L : Lg} (h : Ends w F R L) (hi : F.testBit i = true) : ∃ S, R i = some S ∧ In w S ∧ (∀ j, j < i → S.testBit j = false) ∧ ∀ j, S.testBit j = true ↔ Pt w L i j := by
  obtain ⟨S, h1, h2⟩ := h i hi
  exact ⟨S, h1, ends_in h2, fun j hj => bit_ext h2 fun h => by have := h.1; omega, h2⟩
theorem ends_complement {w : List UInt8} {k : Ex} {F : Nat} {R0 : Nat → Option Nat} (hw : w.length ≤ 2048) (hF : In w F)
    (hk : CC F_expr_matcher_ends (.str w :: exA k [uV w F]) = some [oV w R0]) (hR : Ends w F R0 k.lang) :
    ∃ R, CC F_expr_matcher_complement (.str w :: exA k [uV w F]) = some [oV w R] ∧ Ends w F R (fun v => ¬ k.lang v) := by
  obtain ⟨_, hc, R, rfl, hP⟩ := each_complement_1 (m := mW w) (F := F) (mW_le hw)
    (P := fun t a => ∃ R, a = (w, ((w.length / 64 : Nat) : Int), Rows (mW w) (w.length + 1) R) ∧ PR F R0 (fun i S => ∀ j, S.testBit j = true ↔ Pt w (fun v => ¬ k.lang v) i j) t R)
    (fun t a ht hSt hP => by
      obtain ⟨R, rfl, hP⟩ := hP
      obtain ⟨S, g1, g2, g3, g4⟩ := rw_ends hR hSt
      have hRt : R t = some S := by rw [hP.2 t (Nat.le_refl _), g1]
      refine ⟨(w, _, _), complement_1_spec hw (hF t hSt) hRt, _, rfl, hP.upd fun j => ?_⟩
      rw [cmpl_bit]
      have := g4 j
      simp only [Bool.and_eq_true, decide_eq_true_eq, Bool.not_eq_true', Pt]
      constructor
      · rintro ⟨h1, h2, h3⟩
        exact ⟨h1, h2, fun h => by rw [this.2 ⟨h1, h2, h⟩] at h3; cases h3⟩
      · rintro ⟨h1, h2, h3⟩
        refine ⟨h1, h2, ?_⟩
        cases hc : S.testBit j
        · rfl
        · exact absurd (this.1 hc).2.2 h3)
    (fun t a hSt hP => by
      obtain ⟨R, h5, hP⟩ := hP
      exact ⟨R, h5, hP.skip hSt⟩)
    (w, ((w.length / 64 : Nat) : Int), Rows (mW w) (w.length + 1) R0) ⟨_, rfl, PR.zero⟩
  refine ⟨R, ?_, hP.ends hF⟩
  refine f_expr_matcher_complement_of ?_
  unfold f_expr_matcher_complement
  refine (congrArg (fun o => Option.bind o _) hk).trans ?_
  simp only [Option.bind_some, V.nth_zero, V.toList_list]
  rw [i64_shr6]
  refine (congrArg (fun o => Option.bind o _) hc).trans ?_
  simp only [Option.bind_some, List.drop_succ_cons, List.drop_zero, V.nth_zero, V.toList_list]
end Go.AM
set_option maxRecDepth 100000
set_option linter.unusedSimpArgs false
namespace Go.AM
open Go.Proofs Ex
def EndsOk (w : List UInt8) (k : Ex) : Prop := ∀ F, In w F → ∃ R, CC F_expr_matcher_ends (.str w :: exA k [uV w F]) = some [oV w R] ∧ Ends w F R k.lang
theorem ends_mid {w : List UInt8} {A : Lg} {F : Nat} {R : Nat → Option Nat} (hw : w.length ≤ 2048) (hF : In w F) (hR : Ends w F R A) :
    ∃ M : Nat, CC KE_concat_1 [uV w F, uV w 0, oV w R] = some [oV w R, uV w M] ∧ In w M ∧ ∀ x, M.testBit x = true ↔ ∃ i, F.testBit i = true ∧ Pt w A i x := by
  obtain ⟨_, hc, M, rfl, hM⟩ := each_concat_1 (m := mW w) (F := F) (mW_le hw)
    (P := fun t a => ∃ M : Nat, a = (Rows (mW w) (w.length + 1) R, offV (mW w) M) ∧ ∀ x, M.testBit x = true ↔ ∃ i, i < t ∧ F.testBit i = true ∧ Pt w A i x)
    (fun t a ht hSt hP => by
      obtain ⟨M, rfl, hM⟩ := hP
      obtain ⟨S, g1, g2, g3, g4⟩ := rw_ends hR hSt
      refine ⟨(_, _), concat_1_spec hw (hF t hSt) g1 g3, _, rfl, fun x => ?_⟩
      rw [bit_or, hM x, g4 x]
      constructor
      · rintro (⟨i, h1, h2⟩ | h)
        · exact ⟨i, by omega, h2⟩
        · exact ⟨t, by omega, hSt, h⟩
      · rintro ⟨i, h1, h2, h3⟩
        by_cases e : i = t
        · subst e; exact .inr h3
        · exact .inl ⟨i, by omega, h2, h3⟩)
    (fun t a hSt hP => by
      obtain ⟨M, h5, hM⟩ := hP
      refine ⟨M, h5, fun x => (hM x).trans ⟨fun ⟨i, h1, h2⟩ => ⟨i, by omega, h2⟩, fun ⟨i, h1, h2, h3⟩ => ⟨i, ?_, h2, h3⟩⟩⟩
      have : i ≠ t := by rintro rfl; rw [hSt] at h2; cases h2
      omega)
    (Rows (mW w) (w.length + 1) R, offV (mW w) 0) ⟨0, rfl, fun x => ⟨fun h => by simp at h, fun ⟨i, h, _⟩ => by omega⟩⟩
  have hM2 : ∀ x, M.testBit x = true ↔ ∃ i, F.testBit i = true ∧ Pt w A i x := fun x =>
    (hM x).trans ⟨fun ⟨i, _, h⟩ => ⟨i, h⟩, fun ⟨i, h1, h⟩ => ⟨i, by have := hF i h1; have := @mW_64 w; omega, h1, h⟩⟩
  exact ⟨M, hc, fun i hi => by obtain ⟨_, _, h⟩ := (hM2 i).1 hi; exact h.2.1, hM2⟩
theorem isU_lang {k : Ex} (h : isU k = true) (v : List UInt8) : k.lang v := by
  obtain ⟨o, l, ks⟩ := k
  unfold isU at h
  obtain ⟨h1, h2, h3⟩ := of_decide_eq_true h
  have h1 : o = 8 := h1
  subst h1
  have h2 : ks.length = 1 := h2
  have h3 : ∀ k ∈ ks, k.op = 1 := h3
  match ks, h2, h3 with
  | [a], _, h3 =>
    have := h3 a (by simp)
    obtain ⟨o, l, ks⟩ := a
    rw [lang_node]
    have e : o = 1 := this
    subst e
    simp [opL, headL, lang_node]
theorem cat_step {w : List UInt8} {A : Lg} {k : Ex} {F M : Nat} {R R2 : Nat → Option Nat} {b : Bool} (hw : w.length ≤ 2048) (hF : In w F) (hR : Ends w F R A)
    (hM : ∀ x, M.testBit x = true ↔ ∃ i, F.testBit i = true ∧ Pt w A i x) (hR2 : Ends w M R2 k.lang)
    (hb : b = true → ∀ i j x, Pt w k.lang i j → Pt w k.lang j x → Pt w k.lang i x) :
    ∃ R', CC KE_concat_2 [uV w F, .str w, .bool b, oV w R, oV w R2] = some [.str w, .bool b, oV w R', oV w R2] ∧ Ends w F R' (L2 A k.lang) := by
  obtain ⟨_, hc, R', rfl, hP⟩ := each_concat_2 (m := mW w) (F := F) (mW_le hw)
    (P := fun t a => ∃ Rt, a = (w, b, Rows (mW w) (w.length + 1) Rt, Rows (mW w) (w.length + 1) R2) ∧ PR F R (fun i S => ∀ j, S.testBit j = true ↔ Pt w (L2 A k.lang) i j) t Rt)
    (fun t a ht hSt hP => by
      obtain ⟨Rt, rfl, hP⟩ := hP
      obtain ⟨S, g1, g2, g3, g4⟩ := rw_ends hR hSt
      have inM : ∀ j, S.testBit j = true → M.testBit j = true := fun j hj => (hM j).2 ⟨t, hSt, (g4 j).1 hj⟩
      obtain ⟨O, ho, hO⟩ := concat_2_spec (R := Rt) (R2 := R2) (b := b) hw (hF t hSt) (by rw [hP.2 t (Nat.le_refl _), g1]) g2
        (fun j hj => by obtain ⟨T, q1, q2, q3, q4⟩ := rw_ends hR2 (inM j hj); exact ⟨T, q1, q3⟩)
        (fun hbt j' T' j T x hj' hj e' e h1 h2 => by
          obtain ⟨T1, q1, q2, q3, q4⟩ := rw_ends hR2 (inM j hj)
          obtain ⟨T2, p1, p2, p3, p4⟩ := rw_ends hR2 (inM j' hj')
          rw [q1] at e; rw [p1] at e'
          obtain rfl := Option.some.inj e
          obtain rfl := Option.some.inj e'
          exact (p4 x).2 (hb hbt _ _ _ ((p4 j).1 h1) ((q4 x).1 h2)))
      refine ⟨(w, b, _, _), ho, _, rfl, hP.upd fun x => ?_⟩
      rw [hO x, at_L2]
      constructor
      · rintro ⟨j, T, h1, h2, h3⟩
        obtain ⟨T1, q1, q2, q3, q4⟩ := rw_ends hR2 (inM j h1)
        rw [q1] at h2
        obtain rfl := Option.some.inj h2
        exact ⟨j, (g4 j).1 h1, (q4 x).1 h3⟩
      · rintro ⟨j, h1, h2⟩
        have hj := (g4 j).2 h1
        obtain ⟨T1, q1, q2, q3, q4⟩ := rw_ends hR2 (inM j hj)
        exact ⟨j, T1, hj, q1, (q4 x).2 h2⟩)
    (fun t a hSt hP => by
      obtain ⟨R, h5, hP⟩ := hP
      exact ⟨R, h5, hP.skip hSt⟩)
    (w, b, Rows (mW w) (w.length + 1) R, Rows (mW w) (w.length + 1) R2) ⟨_, rfl, PR.zero⟩
  exact ⟨R', hc, hP.ends hF⟩
theorem concat_loop {w : List UInt8} {F : Nat} (hw : w.length ≤ 2048) (hF : In w F) {rest : List Ex} (hlen : rest.length ≤ maxLen) (hk : ∀ k ∈ rest, EndsOk w k) :
    ∀ (suf pre : List Ex) (A : Lg) (R : Nat → Option Nat), rest = pre ++ suf → Ends w F R A →
    ∃ R', Loop (s_expr_matcher_concat_1L CC (offV (mW w) F) (rest.map enc) ((rest.map enc).length : Int)) (((pre.length : Nat) : Int), w, Rows (mW w) (w.length + 1) R) = some (((rest.map enc).length : Int), false, w, Rows (mW w) (w.length + 1) R') ∧ Ends w F R' ((suf.map lang).foldl L2 A) := by
  have hm := maxLen_le
  intro suf
  induction suf with
  | nil =>
    intro pre A R e hR
    rw [List.append_nil] at e
    subst e
    refine ⟨R, Loop_end ?_, hR⟩
    simp only [s_expr_matcher_concat_1L, s_expr_matcher_concat_1, un, List.length_map]
    rw [bif_decide, if_neg (by omega), decide_eq_false (by omega)]
  | cons k suf ih =>
    intro pre A R e hR
    have hk1 : k ∈ rest := by rw [e]; simp
    have hlt : pre.length < rest.length := by rw [e]; simp
    obtain ⟨M, c1, hMi, hM⟩ := ends_mid hw hF hR
    obtain ⟨R2, c2, hR2⟩ := hk k hk1 M hMi
    have step : ∃ R', s_expr_matcher_concat_1L CC (offV (mW w) F) (rest.map enc) ((rest.map enc).length : Int) (((pre.length : Nat) : Int), w, Rows (mW w) (w.length + 1) R) = some (.inl (((pre.length + 1 : Nat) : Int), w, Rows (mW w) (w.length + 1) R')) ∧ Ends w F R' (L2 A k.lang) := by
      have hi : idx (rest.map enc) ((pre.length : Nat) : Int) = some k.enc := by rw [e]; exact idx_kid pre suf k
      by_cases h7 : k.op = 7
      · obtain ⟨R', c3, hR'⟩ := cat_step (b := true) hw hF hR hM hR2 (fun _ i j x h1 h2 => by
          obtain ⟨o, l, ks⟩ := k
          have e : o = 7 := h7
          subst e
          have el : (Ex.node 7 l ks).lang = StarL (headL (ks.map lang)) := by rw [lang_node]; funext v; simp [opL]
          rw [el] at h1 h2 ⊢
          exact at_star_trans h1 h2)
        refine ⟨R', ?_, hR'⟩
        simp only [s_expr_matcher_concat_1L, s_expr_matcher_concat_1, un, List.length_map]
        rw [bif_decide, if_pos (by omega), hi, none_w hw]
        simp only [Option.bind_some, enc_0, enc_1, enc_2, V.nth_zero, V.toList_list]
        refine (congrArg (fun o => Option.bind o _) c1).trans ?_
        simp only [Option.bind_some, List.drop_succ_cons, List.drop_zero, V.nth_zero, V.toList_list]
        refine (congrArg (fun o => Option.bind o _) c2).trans ?_
        simp only [Option.bind_some, V.nth_zero, V.toList_list]
        rw [bif_beq, if_pos h7]
        refine (congrArg (fun o => Option.bind o _) c3).trans ?_
        simp only [Option.bind_some, List.drop_succ_cons, List.drop_zero, V.nth_zero, V.toList_list, V.toStr_str]
        rw [wrap64 (by omega) (by omega)]
        rfl
      · obtain ⟨R', c3, hR'⟩ := cat_step (b := isU k) hw hF hR hM hR2 (fun hu i j x h1 h2 => ⟨Nat.le_trans h1.1 h2.1, h2.2.1, isU_lang hu _⟩)
        refine ⟨R', ?_, hR'⟩
        simp only [s_expr_matcher_concat_1L, s_expr_matcher_concat_1, un, List.length_map]
        rw [bif_decide, if_pos (by omega), hi, none_w hw]
        simp only [Option.bind_some, enc_0, enc_1, enc_2, V.nth_zero, V.toList_list]
        refine (congrArg (fun o => Option.bind o _) c1).trans ?_
        simp only [Option.bind_some, List.drop_succ_cons, List.drop_zero, V.nth_zero, V.toList_list]
        refine (congrArg (fun o => Option.bind o _) c2).trans ?_
        simp only [Option.bind_some, V.nth_zero, V.toList_list]
        rw [bif_beq, if_neg h7]
        refine (congrArg (fun o => Option.bind o _) (isUniversal_spec (e := k))).trans ?_
        simp only [Option.bind_some, V.nth_zero, V.toBool_bool]
        refine (congrArg (fun o => Option.bind o _) c3).trans ?_
        simp only [Option.bind_some, List.drop_succ_cons, List.drop_zero, V.nth_zero, V.toList_list, V.toStr_str]
        rw [wrap64 (by omega) (by omega)]
        rfl
    obtain ⟨R', hst, hR'⟩ := step
    obtain ⟨R'', h1, h2⟩ := ih (pre ++ [k]) (L2 A k.lang) R' (by simp [e]) hR'
    refine ⟨R'', ?_, h2⟩
    rw [Loop_norm hst]
    simpa using h1
theorem drop_one {α : Type} {a : α} {l : List α} : ((a :: l).drop 1).take ((a :: l).length - 1) = l := by simp
theorem ends_concat {w : List UInt8} {F : Nat} (hw : w.length ≤ 2048) (hF : In w F) {k : Ex} {rest : List Ex} (hlen : rest.length ≤ maxLen) (hk0 : EndsOk w k) (hk : ∀ k ∈ rest, EndsOk w k) :
    ∃ R, CC F_expr_matcher_concat [.str w, .list T_api_Expr ((k :: rest).map enc), uV w F] = some [oV w R] ∧ Ends w F R (catL ((k :: rest).map lang)) := by
  obtain ⟨R0, c0, h0⟩ := hk0 F hF
  obtain ⟨R, hl, hR⟩ := concat_loop hw hF hlen hk rest [] k.lang R0 rfl h0
  refine ⟨R, f_expr_matcher_concat_of ?_, by simpa [catL] using hR⟩
  unfold f_expr_matcher_concat
  simp only [List.map_cons, List.getElem?_cons_zero, Option.bind_some, enc_0, enc_1, enc_2]
  refine (congrArg (fun o => Option.bind o _) c0).trans ?_
  simp only [Option.bind_some, V.nth_zero, V.toList_list]
  rw [bif_decide, if_pos (by simp only [List.length_cons]; omega), drop_one]
  refine (congrArg (fun o => Option.bind o _) hl).trans ?_
  rfl
def comb (o : Int) (A B : Lg) : Lg := fun v => if o = 4 then A v ∨ B v else A v ∧ B v
theorem combine_step {w : List UInt8} {A : Lg} {k : Ex} {F : Nat} {R R2 : Nat → Option Nat} {o l : Int} {ks : List V} (hw : w.length ≤ 2048) (hF : In w F) (hR : Ends w F R A) (hR2 : Ends w F R2 k.lang) :
    ∃ R', CC KE_combine_1 [uV w F, .int .i64 o, .int .i64 l, .list T_api_Expr ks, oV w R, oV w R2] = some [.int .i64 o, .int .i64 l, .list T_api_Expr ks, oV w R', oV w R2] ∧ Ends w F R' (comb o A k.lang) := by
  obtain ⟨_, hc, R', rfl, hP⟩ := each_combine_1 (m := mW w) (F := F) (mW_le hw)
    (P := fun t a => ∃ Rt, a = (o, l, ks, Rows (mW w) (w.length + 1) Rt, Rows (mW w) (w.length + 1) R2) ∧ PR F R (fun i S => ∀ j, S.testBit j = true ↔ Pt w (comb o A k.lang) i j) t Rt)
    (fun t a ht hSt hP => by
      obtain ⟨Rt, rfl, hP⟩ := hP
      obtain ⟨S, g1, g2, g3, g4⟩ := rw_ends hR hSt
      obtain ⟨T, q1, q2, q3, q4⟩ := rw_ends hR2 hSt
      refine ⟨(o, l, ks, _, _), combine_1_spec hw (hF t hSt) (by rw [hP.2 t (Nat.le_refl _), g1]) q1, _, rfl, hP.upd fun x => ?_⟩
      rw [opW_bit]
      unfold comb
      have a1 := g4 x
      have a2 := q4 x
      unfold Pt at *
      by_cases h4 : o = 4
      · rw [if_pos h4, Bool.or_eq_true, a1, a2]
        simp only [if_pos h4]
        constructor
        · rintro (⟨h1, h2, h3⟩ | ⟨h1, h2, h3⟩)
          · exact ⟨h1, h2, .inl h3⟩
          · exact ⟨h1, h2, .inr h3⟩
        · rintro ⟨h1, h2, h3 | h3⟩
          · exact .inl ⟨h1, h2, h3⟩
          · exact .inr ⟨h1, h2, h3⟩
      · rw [if_neg h4, Bool.and_eq_true, a1, a2]
        simp only [if_neg h4]
        constructor
        · rintro ⟨⟨h1, h2, h3⟩, ⟨_, _, h4⟩⟩
          exact ⟨h1, h2, h3, h4⟩
        · rintro ⟨h1, h2, h3, h4⟩
          exact ⟨⟨h1, h2, h3⟩, ⟨h1, h2, h4⟩⟩)
    (fun t a hSt hP => by
      obtain ⟨R, h5, hP⟩ := hP
      exact ⟨R, h5, hP.skip hSt⟩)
    (o, l, ks, Rows (mW w) (w.length + 1) R, Rows (mW w) (w.length + 1) R2) ⟨_, rfl, PR.zero⟩
  exact ⟨R', hc, hP.ends hF⟩
theorem combine_loop {w : List UInt8} {F : Nat} {o l : Int} {es : List V} (hw : w.length ≤ 2048) (hF : In w F) {rest : List Ex} (hlen : rest.length ≤ maxLen) (hk : ∀ k ∈ rest, EndsOk w k) :
    ∀ (suf pre : List Ex) (A : Lg) (R : Nat → Option Nat), rest = pre ++ suf → Ends w F R A →
    ∃ R', Loop (s_expr_matcher_combine_1L CC (offV (mW w) F) (rest.map enc) ((rest.map enc).length : Int) w) (((pre.length : Nat) : Int), o, l, es, Rows (mW w) (w.length + 1) R) = some (((rest.map enc).length : Int), false, o, l, es, Rows (mW w) (w.length + 1) R') ∧ Ends w F R' ((suf.map lang).foldl (comb o) A) := by
  have hm := maxLen_le
  intro suf
  induction suf with
  | nil =>
    intro pre A R e hR
    rw [List.append_nil] at e
    subst e
    refine ⟨R, Loop_end ?_, hR⟩
    simp only [s_expr_matcher_combine_1L, s_expr_matcher_combine_1, un, List.length_map]
    rw [bif_decide, if_neg (by omega), decide_eq_false (by omega)]
  | cons k suf ih =>
    intro pre A R e hR
    have hk1 : k ∈ rest := by rw [e]; simp
    have hlt : pre.length < rest.length := by rw [e]; simp
    obtain ⟨R2, c2, hR2⟩ := hk k hk1 F hF
    obtain ⟨R', c3, hR'⟩ := combine_step (o := o) (l := l) (ks := es) hw hF hR hR2
    have hst : s_expr_matcher_combine_1L CC (offV (mW w) F) (rest.map enc) ((rest.map enc).length : Int) w (((pre.length : Nat) : Int), o, l, es, Rows (mW w) (w.length + 1) R) = some (.inl (((pre.length + 1 : Nat) : Int), o, l, es, Rows (mW w) (w.length + 1) R')) := by
      have hi : idx (rest.map enc) ((pre.length : Nat) : Int) = some k.enc := by rw [e]; exact idx_kid pre suf k
      simp only [s_expr_matcher_combine_1L, s_expr_matcher_combine_1, un, List.length_map]
      rw [bif_decide, if_pos (by omega), hi]
      simp only [Option.bind_some, enc_0, enc_1, enc_2, V.nth_zero, V.toList_list]
      refine (congrArg (fun o => Option.bind o _) c2).trans ?_
      simp only [Option.bind_some, V.nth_zero, V.toList_list]
      refine (congrArg (fun o => Option.bind o _) c3).trans ?_
      simp only [Option.bind_some, List.drop_succ_cons, List.drop_zero, V.nth_zero, V.toList_list, V.toInt_int]
      rw [wrap64 (by omega) (by omega)]
      rfl
    obtain ⟨R'', h1, h2⟩ := ih (pre ++ [k]) (comb o A k.lang) R' (by simp [e]) hR'
    refine ⟨R'', ?_, h2⟩
    rw [Loop_norm hst]
    simpa using h1
theorem ends_combine {w : List UInt8} {F : Nat} {o l : Int} (hw : w.length ≤ 2048) (hF : In w F) {k : Ex} {rest : List Ex} (hlen : rest.length ≤ maxLen) (hk0 : EndsOk w k) (hk : ∀ k ∈ rest, EndsOk w k) :
    ∃ R, CC F_expr_matcher_combine [.str w, .int .i64 o, .int .i64 l, .list T_api_Expr ((k :: rest).map enc), uV w F] = some [oV w R] ∧ Ends w F R ((rest.map lang).foldl (comb o) k.lang) := by
  obtain ⟨R0, c0, h0⟩ := hk0 F hF
  obtain ⟨R, hl, hR⟩ := combine_loop (o := o) (l := l) (es := (k :: rest).map enc) hw hF hlen hk rest [] k.lang R0 rfl h0
  refine ⟨R, f_expr_matcher_combine_of ?_, hR⟩
  unfold f_expr_matcher_combine
  simp only [List.map_cons, List.getElem?_cons_zero, Option.bind_some, enc_0, enc_1, enc_2]
  refine (congrArg (fun o => Option.bind o _) c0).trans ?_
  simp only [Option.bind_some, V.nth_zero, V.toList_list]
  rw [bif_decide, if_pos (by simp only [List.length_cons]; omega), drop_one]
  refine (congrArg (fun o => Option.bind o _) hl).trans ?_
  rfl
theorem comb_or {v : List UInt8} : ∀ (Ls : List Lg) (A : Lg), Ls.foldl (comb 4) A v ↔ A v ∨ ∃ L ∈ Ls, L v
  | [], A => by simp
  | L :: Ls, A => by
    rw [List.foldl_cons, comb_or Ls]
    simp [comb, or_assoc]
theorem comb_and {v : List UInt8} : ∀ (Ls : List Lg) (A : Lg), Ls.foldl (comb 6) A v ↔ A v ∧ ∀ L ∈ Ls, L v
  | [], A => by simp
  | L :: Ls, A => by
    rw [List.foldl_cons, comb_and Ls]
    simp [comb, and_assoc]
end Go.AM
set_option maxRecDepth 100000
namespace Go.AM
open Go.Proofs
noncomputable def f_expr_valid (C : CallF) (e_0 e_1 : Int) (e_2 : List V) : Option (List V) :=
  (C F_expr_Validate [.int .i64 e_0, .int .i64 e_1, .list T_api_Expr e_2, .int .i64 6]).bind fun r1 =>
  some [.bool ((((V.nth r1 0).toInt) : Int) == 0)]
theorem f_expr_valid_of {e_0 e_1 : Int} {e_2 : List V} {r : Option (List V)} (h : f_expr_valid CC e_0 e_1 e_2 = r) : CC F_expr_valid [.int .i64 e_0, .int .i64 e_1, .list T_api_Expr e_2] = r :=
  func_of (key := 14) (L := LT0) (bs := []) (by kernel_rfl) tells_nil (Eq.trans (by kernel_rfl) h)
end Go.AM
set_option maxRecDepth 100000
namespace Go.AM
open Go.Proofs
noncomputable def f_semigroupref04_Valid (C : CallF) (e_0 e_1 : Int) (e_2 : List V) : Option (List V) :=
  (C F_semigroupref04_Validate [.int .i64 e_0, .int .i64 e_1, .list T_api_Expr e_2, .int .i64 6]).bind fun r1 =>
  some [.bool ((((V.nth r1 0).toInt) : Int) == 0)]
theorem f_semigroupref04_Valid_of {e_0 e_1 : Int} {e_2 : List V} {r : Option (List V)} (h : f_semigroupref04_Valid CC e_0 e_1 e_2 = r) : CC F_semigroupref04_Valid [.int .i64 e_0, .int .i64 e_1, .list T_api_Expr e_2] = r :=
  func_of (key := 7) (L := LT0) (bs := []) (by kernel_rfl) tells_nil (Eq.trans (by kernel_rfl) h)
end Go.AM
set_option maxRecDepth 100000
namespace Go.AM
open Go.Proofs
noncomputable def f_semigroupref04_Size (C : CallF) (e_0 e_1 : Int) (e_2 : List V) : Option (List V) :=
  (C F_semigroupref04_measure [.int .i64 e_0, .int .i64 e_1, .list T_api_Expr e_2, .int .i64 400]).bind fun r1 =>
  some [.int .i64 ((V.nth r1 0).toInt)]
theorem f_semigroupref04_Size_of {e_0 e_1 : Int} {e_2 : List V} {r : Option (List V)} (h : f_semigroupref04_Size CC e_0 e_1 e_2 = r) : CC F_semigroupref04_Size [.int .i64 e_0, .int .i64 e_1, .list T_api_Expr e_2] = r :=
  func_of (key := 24) (L := LT0) (bs := []) (by kernel_rfl) tells_nil (Eq.trans (by kernel_rfl) h)
end Go.AM
set_option maxRecDepth 100000
namespace Go.AM
open Go.Proofs
noncomputable def f_semigroupref04_Depth (C : CallF) (e_0 e_1 : Int) (e_2 : List V) : Option (List V) :=
  (C F_semigroupref04_measure [.int .i64 e_0, .int .i64 e_1, .list T_api_Expr e_2, .int .i64 400]).bind fun r1 =>
  some [.int .i64 ((V.nth (r1.drop 1) 0).toInt)]
theorem f_semigroupref04_Depth_of {e_0 e_1 : Int} {e_2 : List V} {r : Option (List V)} (h : f_semigroupref04_Depth CC e_0 e_1 e_2 = r) : CC F_semigroupref04_Depth [.int .i64 e_0, .int .i64 e_1, .list T_api_Expr e_2] = r :=
  func_of (key := 12) (L := LT0) (bs := []) (by kernel_rfl) tells_nil (Eq.trans (by kernel_rfl) h)
end Go.AM
set_option maxRecDepth 100000
set_option linter.unusedSimpArgs false
namespace Go.AM
open Go.Proofs Ex
theorem beqd (m n : Int) : (m == n) = decide (m = n) := by rw [Bool.eq_iff_iff]; simp
theorem exValid_spec (e : Ex) (h : e.Ok) : CC F_expr_valid (exA e []) = some [.bool (decide (e.val 6 = 0))] := by
  refine f_expr_valid_of ?_
  unfold f_expr_valid
  rw [exVal_spec e h]
  simp only [Option.bind_some, V.nth_zero, V.toInt_int]
  rw [beqd]
theorem exRefValid_spec (e : Ex) (h : e.Ok) : CC F_semigroupref04_Valid (exA e []) = some [.bool (decide (e.val 6 = 0))] := by
  refine f_semigroupref04_Valid_of ?_
  unfold f_semigroupref04_Valid
  rw [exRefVal_spec e h]
  simp only [Option.bind_some, V.nth_zero, V.toInt_int]
  rw [beqd]
theorem val0 {e : Ex} (h : e.val 6 = 0) : e.depth ≤ 40 ∧ e.size ≤ 400 ∧ e.wf 6 = true := by
  unfold Ex.val at h
  rw [if_pos (by omega)] at h
  split at h
  · rename_i h1
    split at h
    · rename_i h2; exact ⟨h1.1, h1.2, h2⟩
    · omega
  · omega
theorem wfs_kid {letters : Int} {ks : List Ex} (h : wfs letters ks = true) : ∀ k ∈ ks, k.wf letters = true := by
  induction ks with
  | nil => simp
  | cons a ks ih =>
    simp only [wfs, Bool.and_eq_true] at h
    intro k hk
    rcases List.mem_cons.1 hk with rfl | hk
    · exact h.1
    · exact ih h.2 k hk
theorem wf_node {letters o l : Int} {ks : List Ex} (h : (Ex.node o l ks).wf letters = true) : shapeOk o l ks.length letters = true ∧ ∀ k ∈ ks, k.wf letters = true := by
  simp only [Ex.wf, Bool.and_eq_true] at h
  exact ⟨h.1, wfs_kid h.2⟩
theorem refSize_spec (e : Ex) (h : e.Ok) (hs : e.size ≤ 400) : CC F_semigroupref04_Size (exA e []) = some [.int .i64 e.size] := by
  obtain ⟨d, e1, e2⟩ := measure_spec e h 400 (by omega) (by omega)
  refine f_semigroupref04_Size_of ?_
  unfold f_semigroupref04_Size
  rw [e1, show min (e.size : Int) (400 + 1) = e.size by omega]
  simp
theorem refDepth_spec (e : Ex) (h : e.Ok) (hs : e.size ≤ 400) : CC F_semigroupref04_Depth (exA e []) = some [.int .i64 e.depth] := by
  obtain ⟨d, e1, e2⟩ := measure_spec e h 400 (by omega) (by omega)
  refine f_semigroupref04_Depth_of ?_
  unfold f_semigroupref04_Depth
  rw [e1, e2 (by omega)]
  simp
end Go.AM
set_option maxRecDepth 100000
namespace Go.AM
open Go.Proofs
noncomputable def f_expr_Match (C : CallF) (e_0 e_1 : Int) (e_2 : List V) (w : List UInt8) : Option (List V) :=
  (C F_expr_valid [.int .i64 e_0, .int .i64 e_1, .list T_api_Expr e_2]).bind fun r1 =>
  bif !((V.nth r1 0).toBool) then
   some [.bool false]
  else
   (C F_word_Valid [.str w, .int .i64 6]).bind fun r2 =>
   bif !((V.nth r2 0).toBool) then
    some [.bool false]
   else
    (C F_expr_matcher_none [.str w]).bind fun r3 =>
    (C F_expr_offsets_add [.int .i64 0, .list T_uint64 ((V.nth r3 0).toList)]).bind fun r4 =>
    (C F_expr_matcher_ends [.str w, .int .i64 e_0, .int .i64 e_1, .list T_api_Expr e_2, .list T_uint64 ((V.nth r4 0).toList)]).bind fun r5 =>
    bif decide (0 < (((V.nth r5 0).toList).length : Int)) then
     (((V.nth r5 0).toList)[0]?).bind fun x6 =>
     (rowV Tryd.prog T_expr_offsets ((V.nth r5 0).toList) [(0, 0)]).bind fun x7 =>
     (C F_expr_offsets_has [.list T_uint64 x7.toList, .int .i64 (w.length : Int)]).bind fun r8 =>
     some [.bool ((V.nth r8 0).toBool)]
    else none
theorem f_expr_Match_of {e_0 e_1 : Int} {e_2 : List V} {w : List UInt8} {r : Option (List V)} (h : f_expr_Match CC e_0 e_1 e_2 w = r) : CC F_expr_Match [.int .i64 e_0, .int .i64 e_1, .list T_api_Expr e_2, .str w] = r :=
  func_of (key := 6) (L := LT0) (bs := []) (by kernel_rfl) tells_nil (Eq.trans (by kernel_rfl) h)
end Go.AM
set_option maxRecDepth 100000
set_option linter.unusedSimpArgs false
namespace Go.AM
open Go.Proofs Ex
theorem least_spec {w : List UInt8} {F : Nat} (hw : w.length ≤ 2048) (hF : In w F) :
    ∃ a : Nat, CC KE_star_1 [uV w F, .int .i64 ((w.length + 1 : Nat) : Int)] = some [.int .i64 (a : Int)] ∧ a ≤ w.length + 1 ∧ ∀ i, F.testBit i = true → a ≤ i := by
  obtain ⟨_, hc, a, rfl, h1, h2⟩ := each_star_1 (m := mW w) (F := F) (mW_le hw)
    (P := fun t z => ∃ a : Nat, z = (a : Int) ∧ a ≤ w.length + 1 ∧ ∀ i, i < t → F.testBit i = true → a ≤ i)
    (fun t z ht hSt hP => by
      obtain ⟨a, rfl, h1, h2⟩ := hP
      refine ⟨_, star_1_spec, _, rfl, by omega, fun i hi hb => ?_⟩
      by_cases e : i = t
      · subst e; omega
      · have := h2 i (by omega) hb; omega)
    (fun t z hSt hP => by
      obtain ⟨a, h, h1, h2⟩ := hP
      refine ⟨a, h, h1, fun i hi hb => ?_⟩
      have : i ≠ t := by rintro rfl; rw [hSt] at hb; cases hb
      exact h2 i (by omega) hb)
    ((w.length + 1 : Nat) : Int) ⟨_, rfl, Nat.le_refl _, fun _ h => by omega⟩
  exact ⟨a, hc, h1, fun i hi => h2 i (by have := hF i hi; have := @mW_64 w; omega) hi⟩
theorem all_loop {w : List UInt8} {k0 k1 : Int} {k2 : List V} {a : Nat} (hw : w.length ≤ 2048) :
    ∀ d c S, a ≤ c → c + d = w.length + 1 → (∀ x, S.testBit x = true ↔ a ≤ x ∧ x < c) →
    ∃ S' : Nat, Loop (s_expr_matcher_star_1L CC w k0 k1 k2 (a : Int)) ((c : Int), offV (mW w) S) = some (((w.length + 1 : Nat) : Int), false, offV (mW w) S') ∧ ∀ x, S'.testBit x = true ↔ a ≤ x ∧ x ≤ w.length := by
  intro d
  induction d with
  | zero =>
    intro c S _ hc hS
    have hc : c = w.length + 1 := by omega
    subst hc
    refine ⟨S, Loop_end ?_, fun x => (hS x).trans ⟨fun h => by omega, fun h => by omega⟩⟩
    simp only [s_expr_matcher_star_1L, s_expr_matcher_star_1, un]
    rw [bif_decide, if_neg (by omega), decide_eq_false (by omega)]
  | succ d ih =>
    intro c S ha hc hS
    have hst : s_expr_matcher_star_1L CC w k0 k1 k2 (a : Int) ((c : Int), offV (mW w) S) = some (.inl (((c + 1 : Nat) : Int), offV (mW w) (S ||| 2 ^ c))) := by
      simp only [s_expr_matcher_star_1L, s_expr_matcher_star_1, un]
      rw [bif_decide, if_pos (by omega), add_spec (mW_lt (by omega)) (by omega)]
      simp only [Option.bind_some, V.nth_zero, V.toList_list]
      rw [wrap64 (by omega) (by omega)]
      rfl
    rw [Loop_norm hst]
    refine ih (c + 1) _ (by omega) (by omega) fun x => ?_
    rw [bit_or, hS x, bit_pow]
    omega
theorem star_row {w : List UInt8} {A : Lg} {i S : Nat} {Rt : Nat → Option Nat} (hw : w.length ≤ 2048) (hi : i ≤ w.length)
    (hS : ∀ j, S.testBit j = true ↔ Pt w A i j) (hR : ∀ j, i < j → j ≤ w.length → ∃ T : Nat, Rt j = some T ∧ ∀ x, T.testBit x = true ↔ Pt w (StarL A) j x) :
    ∃ O : Nat, CC KE_star_2 [uV w S, uV w (2 ^ i), oV w Rt] = some [oV w Rt, uV w O] ∧ ∀ x, O.testBit x = true ↔ Pt w (StarL A) i x := by
  have hSin : In w S := ends_in hS
  obtain ⟨_, hc, O, rfl, hO⟩ := each_star_2 (m := mW w) (F := S) (mW_le hw)
    (P := fun t a => ∃ O : Nat, a = (Rows (mW w) (w.length + 1) Rt, offV (mW w) O) ∧ ∀ x, O.testBit x = true ↔ x = i ∨ ∃ j, j < t ∧ i < j ∧ S.testBit j = true ∧ Pt w (StarL A) j x)
    (fun t a ht hSt hP => by
      obtain ⟨O, rfl, hO⟩ := hP
      have htn := hSin t hSt
      have hit := ((hS t).1 hSt).1
      by_cases hOt : O.testBit t = true
      · refine ⟨(_, _), star_2_spec (S := 0) hw htn (fun h => by rw [hOt] at h; cases h) (fun _ _ => by simp), _, rfl, fun x => ?_⟩
        rw [if_pos hOt, hO x]
        constructor
        · rintro (h | ⟨j, h1, h2⟩)
          · exact .inl h
          · exact .inr ⟨j, by omega, h2⟩
        · rintro (h | ⟨j, h1, h2, h3, h4⟩)
          · exact .inl h
          · by_cases e : j = t
            · subst e
              rcases (hO j).1 hOt with h | ⟨j', g1, g2, g3, g4⟩
              · omega
              · exact .inr ⟨j', g1, g2, g3, at_star_trans g4 h4⟩
            · exact .inr ⟨j, by omega, h2, h3, h4⟩
      · have hne : ¬ t = i := fun e => hOt ((hO t).2 (.inl e))
        obtain ⟨T, q1, q2⟩ := hR t (by omega) htn
        refine ⟨(_, _), star_2_spec (S := T) hw htn (fun _ => q1) (fun x hx => bit_ext q2 fun h => by have := h.1; omega), _, rfl, fun x => ?_⟩
        rw [if_neg hOt, bit_or, hO x, q2 x]
        constructor
        · rintro ((h | ⟨j, h1, h2⟩) | h)
          · exact .inl h
          · exact .inr ⟨j, by omega, h2⟩
          · exact .inr ⟨t, by omega, by omega, hSt, h⟩
        · rintro (h | ⟨j, h1, h2, h3, h4⟩)
          · exact .inl (.inl h)
          · by_cases e : j = t
            · subst e; exact .inr h4
            · exact .inl (.inr ⟨j, by omega, h2, h3, h4⟩))
    (fun t a hSt hP => by
      obtain ⟨O, h, hO⟩ := hP
      refine ⟨O, h, fun x => (hO x).trans ⟨?_, ?_⟩⟩
      · rintro (h | ⟨j, h1, h2⟩)
        · exact .inl h
        · exact .inr ⟨j, by omega, h2⟩
      · rintro (h | ⟨j, h1, h2, h3, h4⟩)
        · exact .inl h
        · have : j ≠ t := by rintro rfl; rw [hSt] at h3; cases h3
          exact .inr ⟨j, by omega, h2, h3, h4⟩)
    (Rows (mW w) (w.length + 1) Rt, offV (mW w) (2 ^ i)) ⟨_, rfl, fun x => by rw [bit_pow]; exact ⟨.inl, fun h => by rcases h with h | ⟨j, h, _⟩; exact h; omega⟩⟩
  refine ⟨O, hc, fun x => (hO x).trans ?_⟩
  rw [at_star]
  constructor
  · rintro (h | ⟨j, h1, h2, h3, h4⟩)
    · exact .inl ⟨h.symm, by omega⟩
    · exact .inr ⟨j, h2, (hS j).1 h3, h4⟩
  · rintro (⟨h, _⟩ | ⟨j, h2, h3, h4⟩)
    · exact .inl h.symm
    · have := (hS j).2 h3
      exact .inr ⟨j, by have := hSin j this; have := @mW_64 w; omega, h2, this, h4⟩
theorem rows_loop {w : List UInt8} {A : Lg} {a Z : Nat} {R1 : Nat → Option Nat} (hw : w.length ≤ 2048) (ha : a ≤ w.length + 1) (hZ : ∀ x, Z.testBit x = true ↔ a ≤ x ∧ x ≤ w.length) (hR1 : Ends w Z R1 A) :
    ∀ d c Rt, a ≤ c → c = a + d → c ≤ w.length + 1 → (∀ j, c ≤ j → j ≤ w.length → ∃ T : Nat, Rt j = some T ∧ ∀ x, T.testBit x = true ↔ Pt w (StarL A) j x) →
    ∃ R', Loop (s_expr_matcher_star_2L CC w (a : Int) (Rows (mW w) (w.length + 1) R1)) ((c : Int) - 1, Rows (mW w) (w.length + 1) Rt) = some ((a : Int) - 1, false, Rows (mW w) (w.length + 1) R') ∧
      ∀ j, a ≤ j → j ≤ w.length → ∃ T : Nat, R' j = some T ∧ ∀ x, T.testBit x = true ↔ Pt w (StarL A) j x := by
  intro d
  induction d with
  | zero =>
    intro c Rt _ hc _ hR
    have hc : c = a := by omega
    subst hc
    refine ⟨Rt, Loop_end ?_, hR⟩
    simp only [s_expr_matcher_star_2L, s_expr_matcher_star_2, un]
    rw [bif_decide, if_neg (by omega), decide_eq_false (by omega)]
  | succ d ih =>
    intro c Rt hac hc hcn hR
    obtain ⟨i, rfl⟩ : ∃ i, c = i + 1 := ⟨c - 1, by omega⟩
    have hin : i ≤ w.length := by omega
    obtain ⟨S, g1, g2⟩ := hR1 i ((hZ i).2 ⟨by omega, hin⟩)
    obtain ⟨O, c3, hO⟩ := star_row hw hin g2 (Rt := Rt) fun j h1 h2 => hR j (by omega) h2
    have hst : s_expr_matcher_star_2L CC w (a : Int) (Rows (mW w) (w.length + 1) R1) (((i + 1 : Nat) : Int) - 1, Rows (mW w) (w.length + 1) Rt) = some (.inl ((i : Int) - 1, Rows (mW w) (w.length + 1) (upd Rt i O))) := by
      have e : ((i + 1 : Nat) : Int) - 1 = (i : Int) := by omega
      rw [e]
      simp only [s_expr_matcher_star_2L, s_expr_matcher_star_2, un]
      rw [bif_decide, if_pos (by omega), none_w hw]
      simp only [Option.bind_some, V.nth_zero, V.toList_list]
      rw [add_spec (mW_lt hin) (by omega)]
      simp only [Option.bind_some, V.nth_zero, V.toList_list, Nat.zero_or, bif_and, bif_decide, Int.toNat_natCast, Rows_len, Rows_get (show i < w.length + 1 by omega), rowV_O (show i < w.length + 1 by omega) g1]
      have t7 : (0 : Int) ≤ (i : Int) := by omega
      have t8 : (i : Int) < ((w.length + 1 : Nat) : Int) := by omega
      simp only [t7, t8, if_true]
      refine (congrArg (fun o => Option.bind o _) c3).trans ?_
      simp only [Option.bind_some, List.drop_succ_cons, List.drop_zero, V.nth_zero, V.toList_list, Rows_len, Rows_get (show i < w.length + 1 by omega), Rows_set, t7, t8, if_true]
      rw [wrap64 (by omega) (by omega)]
    rw [Loop_norm hst]
    refine ih i _ (by omega) (by omega) (by omega) fun j h1 h2 => ?_
    by_cases e : j = i
    · subst e; exact ⟨O, upd_same, hO⟩
    · rw [upd_ne e]; exact hR j (by omega) h2
theorem ends_star {w : List UInt8} {F : Nat} {k : Ex} (hw : w.length ≤ 2048) (hF : In w F) (hk : EndsOk w k) :
    ∃ R, CC F_expr_matcher_star (.str w :: exA k [uV w F]) = some [oV w R] ∧ Ends w F R (StarL k.lang) := by
  obtain ⟨a, c1, ha, hmin⟩ := least_spec hw hF
  obtain ⟨Z, c2, hZ⟩ := all_loop (k0 := k.op) (k1 := k.letter) (k2 := k.kids.map enc) (a := a) hw (w.length + 1 - a) a 0 (Nat.le_refl _) (by omega) (fun x => ⟨fun h => by simp at h, fun h => by omega⟩)
  obtain ⟨R1, c3, hR1⟩ := hk Z fun x hx => ((hZ x).1 hx).2
  obtain ⟨R', c4, hR'⟩ := rows_loop hw ha hZ hR1 (w.length + 1 - a) (w.length + 1) (fun _ => none) ha (by omega) (Nat.le_refl _) (fun j h1 h2 => by omega)
  refine ⟨R', f_expr_matcher_star_of ?_, fun i hi => hR' i (hmin i hi) (hF i hi)⟩
  unfold f_expr_matcher_star
  have e1 : IntKind.wrap .i64 ((w.length : Int) + 1) = ((w.length + 1 : Nat) : Int) := by rw [wrap64 (by omega) (by omega)]; rfl
  rw [none_w hw, e1]
  simp only [Option.bind_some, V.nth_zero, V.toList_list]
  refine (congrArg (fun o => Option.bind o _) c1).trans ?_
  simp only [Option.bind_some, V.nth_zero, V.toInt_int]
  refine (congrArg (fun o => Option.bind o _) c2).trans ?_
  simp only [Option.bind_some, un]
  refine (congrArg (fun o => Option.bind o _) c3).trans ?_
  simp only [Option.bind_some, V.nth_zero, V.toList_list, bif_and, bif_decide, bif_ble, Int.toNat_natCast]
  rw [if_pos (by omega), if_pos (by omega), if_pos (by rw [maxB]; omega)]
  have e2 : (w.length : Int) = ((w.length + 1 : Nat) : Int) - 1 := by omega
  rw [Rows_none (m := mW w)]
  have c5 : Loop (s_expr_matcher_star_2L CC w (a : Int) (Rows (mW w) (w.length + 1) R1)) ((w.length : Int), Rows (mW w) (w.length + 1) fun _ => none) = some ((a : Int) - 1, false, Rows (mW w) (w.length + 1) R') := by rw [e2]; exact c4
  refine (congrArg (fun o => Option.bind o _) c5).trans ?_
  rfl
theorem ends_spec {w : List UInt8} (hw : w.length ≤ 2048) (hl : ∀ i, i < w.length → 0 ≤ let_ w i) : ∀ e : Ex, e.Ok → e.wf 6 = true → EndsOk w e :=
  ind fun o l ks ih hok hwf F hF => by
    obtain ⟨hs, hwk⟩ := wf_node hwf
    have hk : ∀ k ∈ ks, EndsOk w k := fun k hk => ih k hk (hok.kid k hk) (hwk k hk)
    have hlen := hok.len
    have hmx := maxLen_le
    show ∃ R, CC F_expr_matcher_ends [.str w, .int .i64 o, .int .i64 l, .list T_api_Expr (ks.map enc), uV w F] = some [oV w R] ∧ Ends w F R (Ex.node o l ks).lang
    rw [lang_node]
    unfold shapeOk at hs
    have e1 : IntKind.wrap .i64 ((w.length : Int) + 1) = ((w.length + 1 : Nat) : Int) := by rw [wrap64 (by omega) (by omega)]; rfl
    have base : (o = 1 ∨ o = 2 ∨ o = 3) → ∃ R, CC F_expr_matcher_ends [.str w, .int .i64 o, .int .i64 l, .list T_api_Expr (ks.map enc), uV w F] = some [oV w R] ∧ Ends w F R (opL o l (ks.map lang)) := by
      intro ho
      obtain ⟨R, hc, hR⟩ := ends_base (l := l) (ks := ks.map enc) hw hl ho hF
      have el : opL o l (ks.map lang) = opL o l [] := by
        funext v; unfold opL
        rcases ho with rfl | rfl | rfl <;> simp
      refine ⟨R, f_expr_matcher_ends_of ?_, by rw [el]; exact hR⟩
      unfold f_expr_matcher_ends
      rw [e1]
      simp only [bif_beq, bif_and, bif_decide, bif_ble, Int.toNat_natCast]
      rw [if_neg (by omega), if_neg (by omega), if_neg (by omega), if_neg (by omega), if_neg (by omega), if_pos (by omega), if_pos (by omega), if_pos (by rw [maxB]; omega)]
      rw [Rows_none (m := mW w)]
      refine (congrArg (fun o => Option.bind o _) hc).trans ?_
      simp only [Option.bind_some, List.drop_succ_cons, List.drop_zero, V.nth_zero, V.toList_list]
    by_cases h3 : o = 3
    · exact base (by omega)
    rw [if_neg h3] at hs
    simp only [Bool.and_eq_true] at hs
    obtain ⟨_, hs⟩ := hs
    by_cases h12 : o = 1 ∨ o = 2
    · exact base (by omega)
    rw [if_neg h12] at hs
    by_cases h78 : o = 7 ∨ o = 8
    · rw [if_pos h78] at hs
      have hs := of_decide_eq_true hs
      obtain ⟨k, rfl⟩ : ∃ k, ks = [k] := by
        match ks, hs with
        | [k], _ => exact ⟨k, rfl⟩
        | [], h => simp at h
        | _ :: _ :: _, h => simp at h; omega
      rcases h78 with rfl | rfl
      · obtain ⟨R, hc, hR⟩ := ends_star hw hF (hk k (by simp))
        refine ⟨R, f_expr_matcher_ends_of ?_, by
          have : opL 7 l ([k].map lang) = StarL k.lang := by funext v; simp [opL, headL]
          rw [this]; exact hR⟩
        unfold f_expr_matcher_ends
        simp only [bif_beq]
        rw [if_neg (by omega), if_pos trivial]
        simp only [List.map_cons, List.map_nil, List.getElem?_cons_zero, Option.bind_some, enc_0, enc_1, enc_2]
        refine (congrArg (fun o => Option.bind o _) hc).trans ?_
        simp only [Option.bind_some, V.nth_zero, V.toList_list]
      · obtain ⟨R0, hc0, hR0⟩ := hk k (by simp) F hF
        obtain ⟨R, hc, hR⟩ := ends_complement hw hF hc0 hR0
        refine ⟨R, f_expr_matcher_ends_of ?_, by
          have : opL 8 l ([k].map lang) = fun v => ¬ k.lang v := by funext v; simp [opL, headL]
          rw [this]; exact hR⟩
        unfold f_expr_matcher_ends
        simp only [bif_beq]
        rw [if_neg (by omega), if_neg (by omega), if_neg (by omega), if_neg (by omega), if_pos trivial]
        simp only [List.map_cons, List.map_nil, List.getElem?_cons_zero, Option.bind_some, enc_0, enc_1, enc_2]
        refine (congrArg (fun o => Option.bind o _) hc).trans ?_
        simp only [Option.bind_some, V.nth_zero, V.toList_list]
    · rw [if_neg h78] at hs
      obtain ⟨h4, h6, hn⟩ := of_decide_eq_true hs
      match ks, hn, hk, hlen with
      | k :: rest, hn, hk, hlen =>
        have hk0 := hk k (by simp)
        have hkr : ∀ k' ∈ rest, EndsOk w k' := fun k' h => hk k' (by simp [h])
        have hlr : rest.length ≤ maxLen := by simp at hlen; omega
        have h456 : o = 4 ∨ o = 5 ∨ o = 6 := by omega
        rcases h456 with rfl | rfl | rfl
        · obtain ⟨R, hc, hR⟩ := ends_combine (o := 4) (l := l) hw hF hlr hk0 hkr
          refine ⟨R, f_expr_matcher_ends_of ?_, by
            have : opL 4 l ((k :: rest).map lang) = (rest.map lang).foldl (comb 4) k.lang := by
              funext v; refine propext ?_; rw [comb_or]; simp [opL]
            rw [this]; exact hR⟩
          unfold f_expr_matcher_ends
          simp only [bif_beq]
          rw [if_neg (by omega), if_neg (by omega), if_pos trivial, if_pos trivial]
          refine (congrArg (fun o => Option.bind o _) hc).trans ?_
          simp only [Option.bind_some, V.nth_zero, V.toList_list]
        · obtain ⟨R, hc, hR⟩ := ends_concat hw hF hlr hk0 hkr
          refine ⟨R, f_expr_matcher_ends_of ?_, by
            have : opL 5 l ((k :: rest).map lang) = catL ((k :: rest).map lang) := by funext v; simp [opL]
            rw [this]; exact hR⟩
          unfold f_expr_matcher_ends
          simp only [bif_beq]
          rw [if_pos trivial]
          refine (congrArg (fun o => Option.bind o _) hc).trans ?_
          simp only [Option.bind_some, V.nth_zero, V.toList_list]
        · obtain ⟨R, hc, hR⟩ := ends_combine (o := 6) (l := l) hw hF hlr hk0 hkr
          refine ⟨R, f_expr_matcher_ends_of ?_, by
            have : opL 6 l ((k :: rest).map lang) = (rest.map lang).foldl (comb 6) k.lang := by
              funext v; refine propext ?_; rw [comb_and]; simp [opL]
            rw [this]; exact hR⟩
          unfold f_expr_matcher_ends
          simp only [bif_beq]
          rw [if_neg (by omega), if_neg (by omega), if_neg (by omega), if_pos trivial]
          refine (congrArg (fun o => Option.bind o _) hc).trans ?_
          simp only [Option.bind_some, V.nth_zero, V.toList_list]
noncomputable def mat (e : Ex) (w : List UInt8) : Bool := @decide (e.val 6 = 0 ∧ wOk w 6 ∧ e.lang w) (Classical.propDecidable _)
theorem mat_iff {e : Ex} {w : List UInt8} : mat e w = true ↔ e.val 6 = 0 ∧ wOk w 6 ∧ e.lang w := by
  unfold mat
  exact ⟨fun h => @of_decide_eq_true _ (Classical.propDecidable _) h, fun h => @decide_eq_true _ (Classical.propDecidable _) h⟩
theorem Match_spec (e : Ex) (h : e.Ok) (w : List UInt8) : CC F_expr_Match (exA e [.str w]) = some [.bool (mat e w)] := by
  refine f_expr_Match_of ?_
  unfold f_expr_Match
  refine (congrArg (fun o => Option.bind o _) (exValid_spec e h)).trans ?_
  simp only [Option.bind_some, V.nth_zero, V.toBool_bool, bif_not, bif_decide]
  by_cases h1 : e.val 6 = 0
  · rw [if_pos h1, wValid_spec]
    simp only [Option.bind_some, V.nth_zero, V.toBool_bool, bif_decide]
    by_cases h2 : wOk w 6
    · rw [if_pos h2]
      have hw := h2.2.2.1
      have hl : ∀ i, i < w.length → 0 ≤ let_ w i := fun i hi => (h2.2.2.2 i hi).1
      obtain ⟨R, hc, hR⟩ := ends_spec hw hl e h (val0 h1).2.2 (2 ^ 0) (fun i hi => by rw [bit_pow] at hi; omega)
      obtain ⟨S, g1, g2⟩ := hR 0 (bit_pow.2 rfl)
      rw [none_w hw]
      simp only [Option.bind_some, V.nth_zero, V.toList_list]
      have ha := add_spec (m := mW w) (S := 0) (i := 0) (by unfold mW; omega) (by omega)
      refine (congrArg (fun o => Option.bind o _) ha).trans ?_
      simp only [Option.bind_some, V.nth_zero, V.toList_list, Nat.zero_or]
      refine (congrArg (fun o => Option.bind o _) hc).trans ?_
      simp only [Option.bind_some, V.nth_zero, V.toList_list, Rows_len, Rows_get (show 0 < w.length + 1 by omega), rowV_O (show 0 < w.length + 1 by omega) g1]
      rw [if_pos (by omega), has_spec (mW_lt (Nat.le_refl _)) (by omega)]
      simp only [Option.bind_some, V.nth_zero, V.toBool_bool]
      congr 3
      rw [Bool.eq_iff_iff, g2, mat_iff]
      unfold Pt
      rw [sl_all]
      exact ⟨fun h => ⟨h1, h2, h.2.2⟩, fun h => ⟨by omega, Nat.le_refl _, h.2.2⟩⟩
    · rw [if_neg h2]
      have : mat e w = false := by rw [← Bool.not_eq_true, mat_iff]; exact fun h => h2 h.2.1
      rw [this]
  · rw [if_neg h1]
    have : mat e w = false := by rw [← Bool.not_eq_true, mat_iff]; exact fun h => h1 h.1
    rw [this]
end Go.AM
set_option maxRecDepth 100000
namespace Go.AM
open Go.Proofs
noncomputable def f_semigrouplaw04_little (C : CallF) (e_0 e_1 : Int) (e_2 : List V) (most : Int) : Option (List V) :=
  (C F_semigroupref04_Valid [.int .i64 e_0, .int .i64 e_1, .list T_api_Expr e_2]).bind fun r1 =>
  bif (V.nth r1 0).toBool then
   (C F_semigroupref04_Size [.int .i64 e_0, .int .i64 e_1, .list T_api_Expr e_2]).bind fun r2 =>
   bif decide ((((V.nth r2 0).toInt) : Int) ≤ most) then
    (C F_semigroupref04_Depth [.int .i64 e_0, .int .i64 e_1, .list T_api_Expr e_2]).bind fun r3 =>
    some [.bool (decide ((((V.nth r3 0).toInt) : Int) ≤ 12))]
   else
    some [.bool false]
  else
   some [.bool false]
theorem f_semigrouplaw04_little_of {e_0 e_1 : Int} {e_2 : List V} {most : Int} {r : Option (List V)} (h : f_semigrouplaw04_little CC e_0 e_1 e_2 most = r) : CC F_semigrouplaw04_little [.int .i64 e_0, .int .i64 e_1, .list T_api_Expr e_2, .int .i64 most] = r :=
  func_of (key := 10) (L := LT0) (bs := []) (by kernel_rfl) tells_nil (Eq.trans (by kernel_rfl) h)
end Go.AM
set_option maxRecDepth 100000
namespace Go.AM
open Go.Proofs
theorem awake : CC F_semigrouplaw04_awake [] = some [.bool true] := Call_of_run (N := 40) (n := 40) (by kernel_rfl)
end Go.AM
set_option maxRecDepth 100000
set_option linter.unusedSimpArgs false
namespace Go.AM
open Go.Proofs Ex
def lit (e : Ex) (most : Int) : Prop := e.val 6 = 0 ∧ (e.size : Int) ≤ most ∧ e.depth ≤ 12
instance (e : Ex) (most : Int) : Decidable (lit e most) := by unfold lit; infer_instance
theorem little_spec (e : Ex) (h : e.Ok) (most : Int) : CC F_semigrouplaw04_little (exA e [.int .i64 most]) = some [.bool (decide (lit e most))] := by
  refine f_semigrouplaw04_little_of ?_
  unfold f_semigrouplaw04_little
  refine (congrArg (fun o => Option.bind o _) (exRefValid_spec e h)).trans ?_
  simp only [Option.bind_some, V.nth_zero, V.toBool_bool, bif_decide]
  by_cases h1 : e.val 6 = 0
  · have hs := (val0 h1).2.1
    rw [if_pos h1]
    refine (congrArg (fun o => Option.bind o _) (refSize_spec e h hs)).trans ?_
    simp only [Option.bind_some, V.nth_zero, V.toInt_int, bif_decide]
    by_cases h2 : (e.size : Int) ≤ most
    · rw [if_pos h2]
      refine (congrArg (fun o => Option.bind o _) (refDepth_spec e h hs)).trans ?_
      simp only [Option.bind_some, V.nth_zero, V.toInt_int]
      congr 3
      rw [decide_eq_decide]
      unfold lit
      exact ⟨fun h3 => ⟨h1, h2, by omega⟩, fun h3 => by have := h3.2.2; omega⟩
    · rw [if_neg h2, decide_eq_false (fun h => h2 h.2.1)]
  · rw [if_neg h1, decide_eq_false (fun h => h1 h.1)]
theorem mat_lang {e : Ex} {w : List UInt8} (hv : e.val 6 = 0) (hw : wOk w 6) : mat e w = true ↔ e.lang w := by
  rw [mat_iff]
  exact ⟨fun h => h.2.2, fun h => ⟨hv, hw, h⟩⟩
end Go.AM
set_option maxRecDepth 100000
namespace Go.AM
open Go.Proofs
noncomputable abbrev B_semigroupref04_times : Code := bodyOf Tryd.prog (ann.fid 41)
noncomputable def s_semigroupref04_times_1 (C : CallF) (a b' : List V) (i j t13 t14 k' : Int) (outs : List V) {β : Type} (kn : (Int × (List V)) → Option β) (kr : (Int × Bool × (List V)) → Option β) : Option β :=
  bif decide ((k' : Int) ≤ j) then
   bif (decide (0 ≤ i)) && (decide (i < (outs.length : Int))) then
    (outs[(i : Int).toNat]?).bind fun x2 =>
    bif (decide (0 ≤ i)) && (decide (i < (outs.length : Int))) then
     (outs[(i : Int).toNat]?).bind fun x3 =>
     (rowV Tryd.prog T_l_bool outs [((i : Int).toNat, 0)]).bind fun x4 =>
     bif (decide (0 ≤ j)) && (decide (j < (x4.toList.length : Int))) then
      (rowV Tryd.prog T_l_bool outs [((i : Int).toNat, 0)]).bind fun x5 =>
      (x5.toList[(j : Int).toNat]?).bind fun x6 =>
      bif x6.toBool then
       (rowV Tryd.prog T_l_bool outs [((i : Int).toNat, 0)]).bind fun x7 =>
       bif (decide (0 ≤ j)) && (decide (j < (x7.toList.length : Int))) then
        (rowV Tryd.prog T_l_bool outs [((i : Int).toNat, 0)]).bind fun x8 =>
        (x8.toList[(j : Int).toNat]?).bind fun x9 =>
        kn (IntKind.wrap .i64 (k' + 1), setRow Tryd.prog (x8.toList.set ((j : Int).toNat) (.bool true)) T_l_bool outs [((i : Int).toNat, 0)])
       else none
      else
       (idx a i).bind fun x10 =>
       (idx x10.toList k').bind fun x11 =>
       bif x11.toBool then
        (idx b' k').bind fun x12 =>
        (idx x12.toList j).bind fun x13 =>
        (rowV Tryd.prog T_l_bool outs [((i : Int).toNat, 0)]).bind fun x14 =>
        bif (decide (0 ≤ j)) && (decide (j < (x14.toList.length : Int))) then
         (rowV Tryd.prog T_l_bool outs [((i : Int).toNat, 0)]).bind fun x15 =>
         (x15.toList[(j : Int).toNat]?).bind fun x16 =>
         kn (IntKind.wrap .i64 (k' + 1), setRow Tryd.prog (x15.toList.set ((j : Int).toNat) (.bool x13.toBool)) T_l_bool outs [((i : Int).toNat, 0)])
        else none
       else
        (rowV Tryd.prog T_l_bool outs [((i : Int).toNat, 0)]).bind fun x17 =>
        bif (decide (0 ≤ j)) && (decide (j < (x17.toList.length : Int))) then
         (rowV Tryd.prog T_l_bool outs [((i : Int).toNat, 0)]).bind fun x18 =>
         (x18.toList[(j : Int).toNat]?).bind fun x19 =>
         kn (IntKind.wrap .i64 (k' + 1), setRow Tryd.prog (x18.toList.set ((j : Int).toNat) (.bool false)) T_l_bool outs [((i : Int).toNat, 0)])
        else none
     else none
    else none
   else none
  else
   kr (k', decide ((k' : Int) ≤ j), outs)
noncomputable def s_semigroupref04_times_1L (C : CallF) (a b' : List V) (i j t13 t14 : Int) : (Int × (List V)) → Option ((Int × (List V)) ⊕ (Int × Bool × (List V))) := un fun k' outs => s_semigroupref04_times_1 C a b' i j t13 t14 k' outs (fun y => some (.inl y)) (fun r => some (.inr r))
noncomputable def s_semigroupref04_times_2 (C : CallF) (a b' : List V) (i t13 t14 j : Int) (outs : List V) {β : Type} (kn : (Int × (List V)) → Option β) (kr : (Int × Bool × (List V)) → Option β) : Option β :=
  bif decide ((j : Int) < (a.length : Int)) then
   (Loop (s_semigroupref04_times_1L C a b' i j t13 t14) (i, outs)).bind (un fun (k_20 : Int) => un fun (t_21 : Bool) (outs_22 : List V) =>
     kn (IntKind.wrap .i64 (j + 1), outs_22))
  else
   kr (j, decide ((j : Int) < (a.length : Int)), outs)
noncomputable def s_semigroupref04_times_2L (C : CallF) (a b' : List V) (i t13 t14 : Int) : (Int × (List V)) → Option ((Int × (List V)) ⊕ (Int × Bool × (List V))) := un fun j outs => s_semigroupref04_times_2 C a b' i t13 t14 j outs (fun y => some (.inl y)) (fun r => some (.inr r))
noncomputable def s_semigroupref04_times_3 (C : CallF) (a b' : List V) (t13 t14 : Int) (outs : List V) {β : Type} (kn : (Int × (List V)) → Option β) (kr : (Int × Bool × (List V)) → Option β) : Option β :=
  bif decide ((t14 : Int) < t13) then
   bif (decide (0 ≤ (a.length : Int))) && ((decide ((a.length : Int) ≤ (a.length : Int))) && (Nat.ble ((((a.length : Int) : Int).toNat) * 1) maxBytes)) then
    bif (decide (0 ≤ t14)) && (decide (t14 < (outs.length : Int))) then
     (outs[(t14 : Int).toNat]?).bind fun x1 =>
     (Loop (s_semigroupref04_times_2L C a b' t14 t13 t14) (t14, outs.set ((t14 : Int).toNat) (.list T_bool (List.replicate (((a.length : Int) : Int).toNat) (V.bool false))))).bind (un fun (j_23 : Int) => un fun (t_24 : Bool) (outs_25 : List V) =>
       kn (IntKind.wrap .i64 (t14 + 1), outs_25))
    else none
   else none
  else
   kr (t14, decide ((t14 : Int) < t13), outs)
noncomputable def s_semigroupref04_times_3L (C : CallF) (a b' : List V) (t13 : Int) : (Int × (List V)) → Option ((Int × (List V)) ⊕ (Int × Bool × (List V))) := un fun t14 outs => s_semigroupref04_times_3 C a b' t13 t14 outs (fun y => some (.inl y)) (fun r => some (.inr r))
noncomputable def LT_semigroupref04_times (C : CallF) : LTab := fun β n ds k =>
  bif Nat.beq n 161 then loopS S41_161 [false, false, false, false, true, false, false, true] [[1, 2, 3, 4, 0, 6, 7, 0, 0]] (@s_semigroupref04_times_1 C) ds k else
  bif Nat.beq n 113 then loopS S41_113 [false, false, false, true, false, false, true] [[1, 2, 3, 0, 5, 6, 0, 0]] (@s_semigroupref04_times_2 C) ds k else
  bif Nat.beq n 49 then loopS S41_49 [false, false, false, true, true] [[1, 2, 3, 0, 0, 0]] (@s_semigroupref04_times_3 C) ds k else
  none
abbrev TS_semigroupref04_times (C : CallF) (b : Bar) : Prop := Tells Tryd.prog ann C (LT_semigroupref04_times C) 41 (ntmpsOf Tryd.prog (ann.fid 41)) (ann.sin 41).blks.length b
theorem t_semigroupref04_times_1 (C : CallF) : TS_semigroupref04_times C (.loop (codeAt [1, 1, 0, 1, 0, 0, 1, 1, 0, 0, 1, 1, 1, 0, 0, 1, 0, 0, 1, 0, 0] B_semigroupref04_times)) :=
  tl3 S41_161 [false, false, false, false, true, false, false, true] [[1, 2, 3, 4, 0, 6, 7, 0, 0]] (@s_semigroupref04_times_1 C) (by kernel_rfl) (ltok_of (bs := []) (by kernel_rfl) tells_nil) (fun ds => by kernel_rfl) (fun i x => by kernel_rfl) (fun i x β k => by kernel_rfl) (fun β ds k => by kernel_rfl)
theorem t_semigroupref04_times_2 (C : CallF) : TS_semigroupref04_times C (.loop (codeAt [1, 1, 0, 1, 0, 0, 1, 1, 0, 0, 1, 1, 1, 0, 0] B_semigroupref04_times)) :=
  tl3 S41_113 [false, false, false, true, false, false, true] [[1, 2, 3, 0, 5, 6, 0, 0]] (@s_semigroupref04_times_2 C) (by kernel_rfl) (ltok_of (bs := [.loop (codeAt [1, 1, 0, 1, 0, 0, 1, 1, 0, 0, 1, 1, 1, 0, 0, 1, 0, 0, 1, 0, 0] B_semigroupref04_times)]) (by kernel_rfl) (tells_cons (t_semigroupref04_times_1 C) tells_nil)) (fun ds => by kernel_rfl) (fun i x => by kernel_rfl) (fun i x β k => by kernel_rfl) (fun β ds k => by kernel_rfl)
theorem t_semigroupref04_times_3 (C : CallF) : TS_semigroupref04_times C (.loop (codeAt [1, 1, 0, 1, 0, 0] B_semigroupref04_times)) :=
  tl3 S41_49 [false, false, false, true, true] [[1, 2, 3, 0, 0, 0]] (@s_semigroupref04_times_3 C) (by kernel_rfl) (ltok_of (bs := [.loop (codeAt [1, 1, 0, 1, 0, 0, 1, 1, 0, 0, 1, 1, 1, 0, 0] B_semigroupref04_times)]) (by kernel_rfl) (tells_cons (t_semigroupref04_times_2 C) tells_nil)) (fun ds => by kernel_rfl) (fun i x => by kernel_rfl) (fun i x β k => by kernel_rfl) (fun β ds k => by kernel_rfl)
noncomputable def f_semigroupref04_times (C : CallF) (a b' : List V) : Option (List V) :=
  bif (decide (0 ≤ (a.length : Int))) && ((decide ((a.length : Int) ≤ (a.length : Int))) && (Nat.ble ((((a.length : Int) : Int).toNat) * 24) maxBytes)) then
   (Loop (s_semigroupref04_times_3L C a b' (a.length : Int)) (0, List.replicate (((a.length : Int) : Int).toNat) (V.list T_bool ([] : List V)))).bind (un fun (t_26 : Int) => un fun (t_27 : Bool) (outs_28 : List V) =>
     some [.list T_l_bool outs_28])
  else none
theorem f_semigroupref04_times_of {a b' : List V} {r : Option (List V)} (h : f_semigroupref04_times CC a b' = r) : CC F_semigroupref04_times [.list T_l_bool a, .list T_l_bool b'] = r :=
  func_of (key := 41) (L := LT_semigroupref04_times CC) (bs := [.loop (codeAt [1, 1, 0, 1, 0, 0] B_semigroupref04_times)]) (by kernel_rfl) (tells_cons (t_semigroupref04_times_3 CC) tells_nil) (Eq.trans (by kernel_rfl) h)
end Go.AM
set_option maxRecDepth 100000
set_option linter.unusedSimpArgs false
namespace Go.AM
open Go.Proofs Ex
def rowB (N : Nat) (r : Nat → Bool) : List V := (List.range N).map fun j => V.bool (r j)
def rowT (N : Nat) : Option (Nat → Bool) → V
  | none => .list T_bool []
  | some r => .list T_bool (rowB N r)
def BT (N : Nat) (T : Nat → Option (Nat → Bool)) : List V := (List.range N).map fun i => rowT N (T i)
abbrev BF (N : Nat) (M : Nat → Nat → Bool) : List V := BT N fun i => some (M i)
def updT (T : Nat → Option (Nat → Bool)) (i : Nat) (r : Nat → Bool) : Nat → Option (Nat → Bool) := fun s => if s = i then some r else T s
def updB (r : Nat → Bool) (j : Nat) (b : Bool) : Nat → Bool := fun t => if t = j then b else r t
theorem updT_same {T : Nat → Option (Nat → Bool)} {i : Nat} {r : Nat → Bool} : updT T i r i = some r := by simp [updT]
theorem updT_ne {T : Nat → Option (Nat → Bool)} {i s : Nat} {r : Nat → Bool} (h : s ≠ i) : updT T i r s = T s := by simp [updT, h]
theorem updT_updT {T : Nat → Option (Nat → Bool)} {i : Nat} {r r' : Nat → Bool} : updT (updT T i r) i r' = updT T i r' := by
  funext s; unfold updT; split <;> rfl
theorem rset {α : Type} {m k : Nat} {f : Nat → α} {x : α} : ((List.range m).map f).set k x = (List.range m).map fun j => if j = k then x else f j := by
  apply List.ext_getElem?
  intro i
  rw [List.getElem?_set]
  by_cases h : k = i
  · subst h
    by_cases hk : k < m
    · simp [hk]
    · simp [hk]
  · have h' : ¬ i = k := fun e => h e.symm
    by_cases hi : i < m
    · simp [h, h', hi]
    · simp [h, hi]
theorem rowB_len {N : Nat} {r : Nat → Bool} : (rowB N r).length = N := by simp [rowB]
theorem rowB_get {N j : Nat} {r : Nat → Bool} (h : j < N) : (rowB N r)[j]? = some (.bool (r j)) := by simp [rowB, h]
theorem rowB_set {N j : Nat} {r : Nat → Bool} {b : Bool} : (rowB N r).set j (.bool b) = rowB N (updB r j b) := by
  unfold rowB; rw [rset]
  refine List.map_congr_left fun t _ => ?_
  unfold updB
  split <;> rfl
theorem BT_len {N : Nat} {T : Nat → Option (Nat → Bool)} : (BT N T).length = N := by simp [BT]
theorem BT_get {N i : Nat} {T : Nat → Option (Nat → Bool)} (h : i < N) : (BT N T)[i]? = some (rowT N (T i)) := by simp [BT, h]
theorem BT_set {N i : Nat} {T : Nat → Option (Nat → Bool)} {r : Nat → Bool} : (BT N T).set i (.list T_bool (rowB N r)) = BT N (updT T i r) := by
  unfold BT; rw [rset]
  refine List.map_congr_left fun t _ => ?_
  unfold updT
  split <;> rfl
theorem BT_none {N : Nat} : List.replicate N (V.list T_bool ([] : List V)) = BT N (fun _ => none) := by
  apply List.ext_getElem?
  intro i
  by_cases hi : i < N
  · rw [BT_get hi, List.getElem?_replicate, if_pos hi]; rfl
  · rw [List.getElem?_eq_none (by simp; omega), List.getElem?_eq_none (by rw [BT_len]; omega)]
theorem rowB_false {N : Nat} : List.replicate N (V.bool false) = rowB N (fun _ => false) := by
  apply List.ext_getElem?
  intro i
  by_cases hi : i < N
  · rw [rowB_get hi, List.getElem?_replicate, if_pos hi]
  · rw [List.getElem?_eq_none (by simp; omega), List.getElem?_eq_none (by rw [rowB_len]; omega)]
theorem und_lb : Tryd.prog.underlying T_l_bool = some (.slice T_bool) := by kernel_rfl
theorem agg_lb : isAggT Tryd.prog T_l_bool = false := by kernel_rfl
theorem parts_lb {l : List V} : parts Tryd.prog T_l_bool (.list T_bool l) = [.list T_bool l] := by
  unfold parts; rw [agg_lb]; simp only [cond_false, retype1, und_lb, V.toList_list]
theorem rowV_B {N i : Nat} {r : Nat → Bool} {T : Nat → Option (Nat → Bool)} (h : i < N) (hT : T i = some r) : rowV Tryd.prog T_l_bool (BT N T) [(i, 0)] = some (.list T_bool (rowB N r)) := by
  simp only [rowV, BT_get h, hT, rowT, Option.bind_some, parts_lb]
  rfl
theorem setRow_B {N i : Nat} {r r' : Nat → Bool} {T : Nat → Option (Nat → Bool)} (h : i < N) (hT : T i = some r) : setRow Tryd.prog (rowB N r') T_l_bool (BT N T) [(i, 0)] = BT N (updT T i r') := by
  rw [← BT_set]
  simp only [setRow, BT_get h, hT, rowT, parts_lb]
  simp only [List.getElem?_cons_zero, List.set_cons_zero, mkElem, agg_lb, cond_false, V.nth_zero]
def Full (N : Nat) (T : Nat → Option (Nat → Bool)) (Q : Nat → (Nat → Bool) → Prop) : Prop := ∀ i, i < N → ∃ r, T i = some r ∧ Q i r
theorem full_BF {N : Nat} {T : Nat → Option (Nat → Bool)} {Q : Nat → (Nat → Bool) → Prop} (h : Full N T Q) : ∃ M : Nat → Nat → Bool, BT N T = BF N M ∧ ∀ i, i < N → Q i (M i) := by
  refine ⟨fun i => (T i).getD fun _ => false, ?_, fun i hi => ?_⟩
  · unfold BF BT
    refine List.map_congr_left fun i hi => ?_
    obtain ⟨r, h1, _⟩ := h i (List.mem_range.1 hi)
    show rowT N (T i) = rowT N (some ((T i).getD fun _ => false))
    rw [h1]; rfl
  · obtain ⟨r, h1, h2⟩ := h i hi
    show Q i ((T i).getD fun _ => false)
    rw [h1]; exact h2
section
variable {N : Nat} {A B : Nat → Nat → Bool}
theorem times_1 (hN : N ≤ 3000) {i j : Nat} {t13 t14 : Int} (hi : i < N) (hj : j < N) :
    ∀ d k T r, i ≤ k → k + d = j + 1 → T i = some r →
    ∃ r', Loop (s_semigroupref04_times_1L CC (BF N A) (BF N B) (i : Int) (j : Int) t13 t14) ((k : Int), BT N T) = some (((j + 1 : Nat) : Int), false, BT N (updT T i r')) ∧
      (∀ t, t ≠ j → r' t = r t) ∧ (r' j = true ↔ r j = true ∨ ∃ x, k ≤ x ∧ x ≤ j ∧ A i x = true ∧ B x j = true) := by
  intro d
  induction d with
  | zero =>
    intro k T r hk hd hT
    have hd : k = j + 1 := by omega
    subst hd
    refine ⟨r, ?_, fun _ _ => rfl, ⟨.inl, ?_⟩⟩
    · have : updT T i r = T := by
        funext s; unfold updT; split
        · rename_i h; rw [h, hT]
        · rfl
      rw [this]
      refine Loop_end ?_
      simp only [s_semigroupref04_times_1L, s_semigroupref04_times_1, un]
      rw [bif_decide, if_neg (by omega), decide_eq_false (by omega)]
    · rintro (h | ⟨x, h1, h2, _⟩)
      · exact h
      · omega
  | succ d ih =>
    intro k T r hk hd hT
    have hkN : k < N := by omega
    have hst : s_semigroupref04_times_1L CC (BF N A) (BF N B) (i : Int) (j : Int) t13 t14 ((k : Int), BT N T) = some (.inl (((k + 1 : Nat) : Int), BT N (updT T i (updB r j (r j || (A i k && B k j)))))) := by
      simp only [s_semigroupref04_times_1L, s_semigroupref04_times_1, un]
      have t1 : (k : Int) ≤ (j : Int) := by omega
      have t2 : (0 : Int) ≤ (i : Int) := by omega
      have t3 : (i : Int) < (N : Int) := by omega
      have t4 : (0 : Int) ≤ (j : Int) := by omega
      have t5 : (j : Int) < (N : Int) := by omega
      have t6 : IntKind.wrap .i64 ((k : Int) + 1) = ((k + 1 : Nat) : Int) := by rw [wrap64 (by omega) (by omega)]; rfl
      simp only [bif_and, bif_decide, Int.toNat_natCast, BT_len, BT_get hi, rowV_B hi hT, Option.bind_some, V.toList_list, rowB_len, rowB_get hj, V.toBool_bool, t1, t2, t3, t4, t5, if_true, t6, idx_nat, BT_get hkN, rowT, rowB_get hkN, rowB_set, setRow_B hi hT]
      cases hr : r j <;> cases ha : A i k <;> cases hb : B k j <;> simp [hr, ha, hb]
    obtain ⟨r', h1, h2, h3⟩ := ih (k + 1) _ (updB r j (r j || (A i k && B k j))) (by omega) (by omega) (updT_same (T := T))
    refine ⟨r', by rw [Loop_norm hst, h1, updT_updT], fun t ht => by rw [h2 t ht]; simp [updB, ht], h3.trans ?_⟩
    simp only [updB, if_true, Bool.or_eq_true, Bool.and_eq_true]
    constructor
    · rintro ((h | h) | ⟨x, g1, g2⟩)
      · exact .inl h
      · exact .inr ⟨k, Nat.le_refl _, by omega, h⟩
      · exact .inr ⟨x, by omega, g2⟩
    · rintro (h | ⟨x, g1, g2, g3⟩)
      · exact .inl (.inl h)
      · by_cases e : x = k
        · subst e; exact .inl (.inr g3)
        · exact .inr ⟨x, by omega, g2, g3⟩
theorem times_2 (hN : N ≤ 3000) {i : Nat} {t13 t14 : Int} (hi : i < N) :
    ∀ d j T r, i ≤ j → j + d = N → T i = some r →
    ∃ r', Loop (s_semigroupref04_times_2L CC (BF N A) (BF N B) (i : Int) t13 t14) ((j : Int), BT N T) = some ((N : Int), false, BT N (updT T i r')) ∧
      (∀ t, t < j → r' t = r t) ∧ (∀ t, j ≤ t → t < N → (r' t = true ↔ r t = true ∨ ∃ x, i ≤ x ∧ x ≤ t ∧ A i x = true ∧ B x t = true)) := by
  intro d
  induction d with
  | zero =>
    intro j T r hj hd hT
    have hd : j = N := by omega
    subst hd
    refine ⟨r, ?_, fun _ _ => rfl, fun t h1 h2 => by omega⟩
    have : updT T i r = T := by
      funext s; unfold updT; split
      · rename_i h; rw [h, hT]
      · rfl
    rw [this]
    refine Loop_end ?_
    simp only [s_semigroupref04_times_2L, s_semigroupref04_times_2, un, BT_len]
    rw [bif_decide, if_neg (by omega), decide_eq_false (by omega)]
  | succ d ih =>
    intro j T r hj hd hT
    have hjN : j < N := by omega
    obtain ⟨r1, g1, g2, g3⟩ := times_1 (A := A) (B := B) (t13 := t13) (t14 := t14) hN hi hjN (j + 1 - i) i T r (Nat.le_refl _) (by omega) hT
    have hst : s_semigroupref04_times_2L CC (BF N A) (BF N B) (i : Int) t13 t14 ((j : Int), BT N T) = some (.inl (((j + 1 : Nat) : Int), BT N (updT T i r1))) := by
      simp only [s_semigroupref04_times_2L, s_semigroupref04_times_2, un, BT_len]
      rw [bif_decide, if_pos (by omega), g1]
      simp only [Option.bind_some]
      rw [wrap64 (by omega) (by omega)]
      rfl
    obtain ⟨r', h1, h2, h3⟩ := ih (j + 1) _ r1 (by omega) (by omega) (updT_same (T := T))
    refine ⟨r', by rw [Loop_norm hst, h1, updT_updT], fun t ht => by rw [h2 t (by omega), g2 t (by omega)], fun t ht1 ht2 => ?_⟩
    by_cases e : t = j
    · subst e; rw [h2 t (by omega)]; exact g3
    · rw [h3 t (by omega) ht2, g2 t e]
theorem times_3 (hN : N ≤ 3000) :
    ∀ d i T, i + d = N → Full i T (fun i r => ∀ j, j < N → (r j = true ↔ i ≤ j ∧ ∃ x, i ≤ x ∧ x ≤ j ∧ A i x = true ∧ B x j = true)) →
    ∃ T', Loop (s_semigroupref04_times_3L CC (BF N A) (BF N B) (N : Int)) ((i : Int), BT N T) = some ((N : Int), false, BT N T') ∧
      Full N T' (fun i r => ∀ j, j < N → (r j = true ↔ i ≤ j ∧ ∃ x, i ≤ x ∧ x ≤ j ∧ A i x = true ∧ B x j = true)) := by
  intro d
  induction d with
  | zero =>
    intro i T hd hT
    have hd : i = N := by omega
    subst hd
    refine ⟨T, Loop_end ?_, hT⟩
    simp only [s_semigroupref04_times_3L, s_semigroupref04_times_3, un, BT_len]
    rw [bif_decide, if_neg (by omega), decide_eq_false (by omega)]
  | succ d ih =>
    intro i T hd hT
    have hi : i < N := by omega
    obtain ⟨r1, g1, g2, g3⟩ := times_2 (A := A) (B := B) (t13 := (N : Int)) (t14 := (i : Int)) hN hi (N - i) i (updT T i fun _ => false) (fun _ => false) (Nat.le_refl _) (by omega) updT_same
    have hst : s_semigroupref04_times_3L CC (BF N A) (BF N B) (N : Int) ((i : Int), BT N T) = some (.inl (((i + 1 : Nat) : Int), BT N (updT T i r1))) := by
      simp only [s_semigroupref04_times_3L, s_semigroupref04_times_3, un, BT_len]
      simp only [bif_and, bif_decide, bif_ble, Int.toNat_natCast, BT_get hi, Option.bind_some, rowB_false, BT_set]
      rw [if_pos (by omega), if_pos (by omega), if_pos (by omega), if_pos (by rw [maxB]; omega), if_pos (by omega), g1, updT_updT]
      simp only [Option.bind_some]
      rw [wrap64 (by omega) (by omega)]
      simp [un, hi]
    obtain ⟨T', h1, h2⟩ := ih (i + 1) (updT T i r1) (by omega) (fun s hs => by
      by_cases e : s = i
      · subst e
        refine ⟨r1, updT_same, fun j hj => ?_⟩
        by_cases hsj : s ≤ j
        · rw [g3 j hsj hj]
          simp [hsj]
        · rw [g2 j (by omega)]
          simp [hsj]
      · rw [updT_ne e]; exact hT s (by omega))
    exact ⟨T', by rw [Loop_norm hst, h1], h2⟩
end
def TabOk (w : List UInt8) (M : Nat → Nat → Bool) (L : Lg) : Prop := ∀ i j, i ≤ w.length → j ≤ w.length → (M i j = true ↔ Pt w L i j)
abbrev bV (w : List UInt8) (M : Nat → Nat → Bool) : V := .list T_l_bool (BF (w.length + 1) M)
theorem times_spec {w : List UInt8} {A B : Nat → Nat → Bool} {L L' : Lg} (hw : w.length ≤ 2048) (hA : TabOk w A L) (hB : TabOk w B L') :
    ∃ M, CC F_semigroupref04_times [bV w A, bV w B] = some [bV w M] ∧ TabOk w M (L2 L L') := by
  obtain ⟨T', h1, h2⟩ := times_3 (N := w.length + 1) (A := A) (B := B) (by omega) (w.length + 1) 0 (fun _ => none) (by omega) (fun i hi => by omega)
  obtain ⟨M, h3, h4⟩ := full_BF h2
  refine ⟨M, f_semigroupref04_times_of ?_, fun i j hi hj => ?_⟩
  · unfold f_semigroupref04_times
    simp only [BT_len, bif_and, bif_decide, bif_ble, Int.toNat_natCast]
    rw [if_pos (by omega), if_pos (by omega), if_pos (by rw [maxB]; omega), BT_none]
    refine (congrArg (fun o => Option.bind o _) h1).trans ?_
    rw [h3]; rfl
  · rw [h4 i (by omega) j (by omega), at_L2]
    constructor
    · rintro ⟨g1, x, g2, g3, g4, g5⟩
      exact ⟨x, (hA i x hi (by omega)).1 g4, (hB x j (by omega) hj).1 g5⟩
    · rintro ⟨x, g1, g2⟩
      exact ⟨by have := g1.1; have := g2.1; omega, x, g1.1, g2.1, (hA i x hi g1.2.1).2 g1, (hB x j g1.2.1 hj).2 g2⟩
end Go.AM
set_option maxRecDepth 100000
namespace Go.AM
open Go.Proofs
noncomputable abbrev B_semigroupref04_spans : Code := bodyOf Tryd.prog (ann.fid 25)
noncomputable def s_semigroupref04_spans_1 (C : CallF) (w : List UInt8) (n i j t24 t25 t41 : Int) (t55 : Bool) (es_0 es_1 : Int) (es_2 ms : List V) {β : Type} (kr : (List V) → Option β) : Option β :=
  bif t55 then
   bif (decide (0 ≤ i)) && (decide (i < (ms.length : Int))) then
    (ms[(i : Int).toNat]?).bind fun x6 =>
    bif (j : Int) == (IntKind.wrap .i64 (i + 1)) then
     (bif decide (0 ≤ i) then (w[(i : Int).toNat]?).map fun b => V.int .u8 b.toNat else none).bind fun x7 =>
     (rowV Tryd.prog T_l_bool ms [((i : Int).toNat, 0)]).bind fun x8 =>
     bif (decide (0 ≤ j)) && (decide (j < (x8.toList.length : Int))) then
      (rowV Tryd.prog T_l_bool ms [((i : Int).toNat, 0)]).bind fun x9 =>
      (x9.toList[(j : Int).toNat]?).bind fun x10 =>
      kr (setRow Tryd.prog (x9.toList.set ((j : Int).toNat) (.bool (((IntKind.wrap .i64 x7.toInt) : Int) == (IntKind.wrap .i64 (97 + es_1))))) T_l_bool ms [((i : Int).toNat, 0)])
     else none
    else
     (rowV Tryd.prog T_l_bool ms [((i : Int).toNat, 0)]).bind fun x11 =>
     bif (decide (0 ≤ j)) && (decide (j < (x11.toList.length : Int))) then
      (rowV Tryd.prog T_l_bool ms [((i : Int).toNat, 0)]).bind fun x12 =>
      (x12.toList[(j : Int).toNat]?).bind fun x13 =>
      kr (setRow Tryd.prog (x12.toList.set ((j : Int).toNat) (.bool false)) T_l_bool ms [((i : Int).toNat, 0)])
     else none
   else none
  else
   bif (t41 : Int) == 6 then
    bif (t41 : Int) == 6 then
     bif (decide (0 ≤ i)) && (decide (i < (ms.length : Int))) then
      (ms[(i : Int).toNat]?).bind fun x14 =>
      (rowV Tryd.prog T_l_bool ms [((i : Int).toNat, 0)]).bind fun x15 =>
      bif (decide (0 ≤ j)) && (decide (j < (x15.toList.length : Int))) then
       (rowV Tryd.prog T_l_bool ms [((i : Int).toNat, 0)]).bind fun x16 =>
       (x16.toList[(j : Int).toNat]?).bind fun x17 =>
       kr (setRow Tryd.prog (x16.toList.set ((j : Int).toNat) (.bool true)) T_l_bool ms [((i : Int).toNat, 0)])
      else none
     else none
    else
     kr ms
   else
    bif (t41 : Int) == 8 then
     bif (decide (0 ≤ i)) && (decide (i < (ms.length : Int))) then
      (ms[(i : Int).toNat]?).bind fun x18 =>
      (rowV Tryd.prog T_l_bool ms [((i : Int).toNat, 0)]).bind fun x19 =>
      bif (decide (0 ≤ j)) && (decide (j < (x19.toList.length : Int))) then
       (rowV Tryd.prog T_l_bool ms [((i : Int).toNat, 0)]).bind fun x20 =>
       (x20.toList[(j : Int).toNat]?).bind fun x21 =>
       kr (setRow Tryd.prog (x20.toList.set ((j : Int).toNat) (.bool true)) T_l_bool ms [((i : Int).toNat, 0)])
      else none
     else none
    else
     kr ms
noncomputable def s_semigroupref04_spans_2 (C : CallF) (w : List UInt8) (n i t24 t25 es_0 es_1 : Int) (es_2 : List V) (j : Int) (ms : List V) {β : Type} (kn : (Int × (List V)) → Option β) (kr : (Int × Bool × (List V)) → Option β) : Option β :=
  bif decide ((j : Int) ≤ n) then
   bif (es_0 : Int) == 2 then
    bif (es_0 : Int) == 2 then
     bif (decide (0 ≤ i)) && (decide (i < (ms.length : Int))) then
      (ms[(i : Int).toNat]?).bind fun x2 =>
      (rowV Tryd.prog T_l_bool ms [((i : Int).toNat, 0)]).bind fun x3 =>
      bif (decide (0 ≤ j)) && (decide (j < (x3.toList.length : Int))) then
       (rowV Tryd.prog T_l_bool ms [((i : Int).toNat, 0)]).bind fun x4 =>
       (x4.toList[(j : Int).toNat]?).bind fun x5 =>
       kn (IntKind.wrap .i64 (j + 1), setRow Tryd.prog (x4.toList.set ((j : Int).toNat) (.bool ((i : Int) == j))) T_l_bool ms [((i : Int).toNat, 0)])
      else none
     else none
    else
     s_semigroupref04_spans_1 C w n i j t24 t25 es_0 ((es_0 : Int) == 3) es_0 es_1 es_2 ms (fun (ms_22 : List V) =>
       kn (IntKind.wrap .i64 (j + 1), ms_22))
   else
    bif (es_0 : Int) == 7 then
     bif (es_0 : Int) == 7 then
      bif (decide (0 ≤ i)) && (decide (i < (ms.length : Int))) then
       (ms[(i : Int).toNat]?).bind fun x23 =>
       (rowV Tryd.prog T_l_bool ms [((i : Int).toNat, 0)]).bind fun x24 =>
       bif (decide (0 ≤ j)) && (decide (j < (x24.toList.length : Int))) then
        (rowV Tryd.prog T_l_bool ms [((i : Int).toNat, 0)]).bind fun x25 =>
        (x25.toList[(j : Int).toNat]?).bind fun x26 =>
        kn (IntKind.wrap .i64 (j + 1), setRow Tryd.prog (x25.toList.set ((j : Int).toNat) (.bool ((i : Int) == j))) T_l_bool ms [((i : Int).toNat, 0)])
       else none
      else none
     else
      s_semigroupref04_spans_1 C w n i j t24 t25 es_0 ((es_0 : Int) == 3) es_0 es_1 es_2 ms (fun (ms_27 : List V) =>
        kn (IntKind.wrap .i64 (j + 1), ms_27))
    else
     bif (es_0 : Int) == 5 then
      bif (decide (0 ≤ i)) && (decide (i < (ms.length : Int))) then
       (ms[(i : Int).toNat]?).bind fun x28 =>
       (rowV Tryd.prog T_l_bool ms [((i : Int).toNat, 0)]).bind fun x29 =>
       bif (decide (0 ≤ j)) && (decide (j < (x29.toList.length : Int))) then
        (rowV Tryd.prog T_l_bool ms [((i : Int).toNat, 0)]).bind fun x30 =>
        (x30.toList[(j : Int).toNat]?).bind fun x31 =>
        kn (IntKind.wrap .i64 (j + 1), setRow Tryd.prog (x30.toList.set ((j : Int).toNat) (.bool ((i : Int) == j))) T_l_bool ms [((i : Int).toNat, 0)])
       else none
      else none
     else
      s_semigroupref04_spans_1 C w n i j t24 t25 es_0 ((es_0 : Int) == 3) es_0 es_1 es_2 ms (fun (ms_32 : List V) =>
        kn (IntKind.wrap .i64 (j + 1), ms_32))
  else
   kr (j, decide ((j : Int) ≤ n), ms)
noncomputable def s_semigroupref04_spans_2L (C : CallF) (w : List UInt8) (n i t24 t25 es_0 es_1 : Int) (es_2 : List V) : (Int × (List V)) → Option ((Int × (List V)) ⊕ (Int × Bool × (List V))) := un fun j ms => s_semigroupref04_spans_2 C w n i t24 t25 es_0 es_1 es_2 j ms (fun y => some (.inl y)) (fun r => some (.inr r))
noncomputable def s_semigroupref04_spans_3 (C : CallF) (w : List UInt8) (n t24 es_0 es_1 : Int) (es_2 : List V) (t25 : Int) (ms : List V) {β : Type} (kn : (Int × (List V)) → Option β) (kr : (Int × Bool × (List V)) → Option β) : Option β :=
  bif decide ((t25 : Int) < t24) then
   bif (decide (0 ≤ (IntKind.wrap .i64 (n + 1)))) && ((decide ((IntKind.wrap .i64 (n + 1)) ≤ (IntKind.wrap .i64 (n + 1)))) && (Nat.ble (((IntKind.wrap .i64 (n + 1) : Int).toNat) * 1) maxBytes)) then
    bif (decide (0 ≤ t25)) && (decide (t25 < (ms.length : Int))) then
     (ms[(t25 : Int).toNat]?).bind fun x1 =>
     (Loop (s_semigroupref04_spans_2L C w n t25 t24 t25 es_0 es_1 es_2) (t25, ms.set ((t25 : Int).toNat) (.list T_bool (List.replicate ((IntKind.wrap .i64 (n + 1) : Int).toNat) (V.bool false))))).bind (un fun (j_33 : Int) => un fun (t_34 : Bool) (ms_35 : List V) =>
       kn (IntKind.wrap .i64 (t25 + 1), ms_35))
    else none
   else none
  else
   kr (t25, decide ((t25 : Int) < t24), ms)
noncomputable def s_semigroupref04_spans_3L (C : CallF) (w : List UInt8) (n t24 es_0 es_1 : Int) (es_2 : List V) : (Int × (List V)) → Option ((Int × (List V)) ⊕ (Int × Bool × (List V))) := un fun t25 ms => s_semigroupref04_spans_3 C w n t24 es_0 es_1 es_2 t25 ms (fun y => some (.inl y)) (fun r => some (.inr r))
noncomputable def s_semigroupref04_spans_4 (C : CallF) (w : List UInt8) (n round i : Int) (t88 : List V) (t89 t90 t193 t194 t198 es_0 es_1 : Int) (es_2 xs next's : List V) (t199 : Int) (ms : List V) {β : Type} (kn : (Int × (List V)) → Option β) (kr : (Int × Bool × (List V)) → Option β) : Option β :=
  bif decide ((t199 : Int) < t198) then
   bif (decide (0 ≤ i)) && (decide (i < (ms.length : Int))) then
    (ms[(i : Int).toNat]?).bind fun x43 =>
    bif (decide (0 ≤ i)) && (decide (i < (ms.length : Int))) then
     (ms[(i : Int).toNat]?).bind fun x44 =>
     (rowV Tryd.prog T_l_bool ms [((i : Int).toNat, 0)]).bind fun x45 =>
     bif (decide (0 ≤ t199)) && (decide (t199 < (x45.toList.length : Int))) then
      (rowV Tryd.prog T_l_bool ms [((i : Int).toNat, 0)]).bind fun x46 =>
      (x46.toList[(t199 : Int).toNat]?).bind fun x47 =>
      bif x47.toBool then
       (rowV Tryd.prog T_l_bool ms [((i : Int).toNat, 0)]).bind fun x48 =>
       bif (decide (0 ≤ t199)) && (decide (t199 < (x48.toList.length : Int))) then
        (rowV Tryd.prog T_l_bool ms [((i : Int).toNat, 0)]).bind fun x49 =>
        (x49.toList[(t199 : Int).toNat]?).bind fun x50 =>
        kn (IntKind.wrap .i64 (t199 + 1), setRow Tryd.prog (x49.toList.set ((t199 : Int).toNat) (.bool true)) T_l_bool ms [((i : Int).toNat, 0)])
       else none
      else
       bif (decide (0 ≤ i)) && (decide (i < (next's.length : Int))) then
        (next's[(i : Int).toNat]?).bind fun x51 =>
        (rowV Tryd.prog T_l_bool next's [((i : Int).toNat, 0)]).bind fun x52 =>
        bif (decide (0 ≤ t199)) && (decide (t199 < (x52.toList.length : Int))) then
         (rowV Tryd.prog T_l_bool next's [((i : Int).toNat, 0)]).bind fun x53 =>
         (x53.toList[(t199 : Int).toNat]?).bind fun x54 =>
         (rowV Tryd.prog T_l_bool ms [((i : Int).toNat, 0)]).bind fun x55 =>
         bif (decide (0 ≤ t199)) && (decide (t199 < (x55.toList.length : Int))) then
          (rowV Tryd.prog T_l_bool ms [((i : Int).toNat, 0)]).bind fun x56 =>
          (x56.toList[(t199 : Int).toNat]?).bind fun x57 =>
          kn (IntKind.wrap .i64 (t199 + 1), setRow Tryd.prog (x56.toList.set ((t199 : Int).toNat) (.bool x54.toBool)) T_l_bool ms [((i : Int).toNat, 0)])
         else none
        else none
       else none
     else none
    else none
   else none
  else
   kr (t199, decide ((t199 : Int) < t198), ms)
noncomputable def s_semigroupref04_spans_4L (C : CallF) (w : List UInt8) (n round i : Int) (t88 : List V) (t89 t90 t193 t194 t198 es_0 es_1 : Int) (es_2 xs next's : List V) : (Int × (List V)) → Option ((Int × (List V)) ⊕ (Int × Bool × (List V))) := un fun t199 ms => s_semigroupref04_spans_4 C w n round i t88 t89 t90 t193 t194 t198 es_0 es_1 es_2 xs next's t199 ms (fun y => some (.inl y)) (fun r => some (.inr r))
noncomputable def s_semigroupref04_spans_5 (C : CallF) (w : List UInt8) (n round : Int) (t88 : List V) (t89 t90 t193 es_0 es_1 : Int) (es_2 xs next's : List V) (t194 : Int) (ms : List V) {β : Type} (kn : (Int × (List V)) → Option β) (kr : (Int × Bool × (List V)) → Option β) : Option β :=
  bif decide ((t194 : Int) < t193) then
   (Loop (s_semigroupref04_spans_4L C w n round t194 t88 t89 t90 t193 t194 (ms.length : Int) es_0 es_1 es_2 xs next's) (0, ms)).bind (un fun (t_58 : Int) => un fun (t_59 : Bool) (ms_60 : List V) =>
     kn (IntKind.wrap .i64 (t194 + 1), ms_60))
  else
   kr (t194, decide ((t194 : Int) < t193), ms)
noncomputable def s_semigroupref04_spans_5L (C : CallF) (w : List UInt8) (n round : Int) (t88 : List V) (t89 t90 t193 es_0 es_1 : Int) (es_2 xs next's : List V) : (Int × (List V)) → Option ((Int × (List V)) ⊕ (Int × Bool × (List V))) := un fun t194 ms => s_semigroupref04_spans_5 C w n round t88 t89 t90 t193 es_0 es_1 es_2 xs next's t194 ms (fun y => some (.inl y)) (fun r => some (.inr r))
noncomputable def s_semigroupref04_spans_6 (C : CallF) (w : List UInt8) (n : Int) (t88 : List V) (t89 t90 es_0 es_1 : Int) (es_2 xs : List V) (round : Int) (ms : List V) {β : Type} (kn : (Int × (List V)) → Option β) (kr : (Int × Bool × (List V)) → Option β) : Option β :=
  bif decide ((round : Int) < n) then
   (C F_semigroupref04_times [.list T_l_bool ms, .list T_l_bool xs]).bind fun r42 =>
   (Loop (s_semigroupref04_spans_5L C w n round t88 t89 t90 (ms.length : Int) es_0 es_1 es_2 xs ((V.nth r42 0).toList)) (0, ms)).bind (un fun (t_61 : Int) => un fun (t_62 : Bool) (ms_63 : List V) =>
     kn (IntKind.wrap .i64 (round + 1), ms_63))
  else
   kr (round, decide ((round : Int) < n), ms)
noncomputable def s_semigroupref04_spans_6L (C : CallF) (w : List UInt8) (n : Int) (t88 : List V) (t89 t90 es_0 es_1 : Int) (es_2 xs : List V) : (Int × (List V)) → Option ((Int × (List V)) ⊕ (Int × Bool × (List V))) := un fun round ms => s_semigroupref04_spans_6 C w n t88 t89 t90 es_0 es_1 es_2 xs round ms (fun y => some (.inl y)) (fun r => some (.inr r))
noncomputable def s_semigroupref04_spans_7 (C : CallF) (w : List UInt8) (n i j : Int) (t88 : List V) (t89 t90 t100 t101 t111 : Int) (t112 : Bool) (es_0 es_1 : Int) (es_2 ms xs : List V) {β : Type} (kr : (List V) → Option β) : Option β :=
  bif t112 then
   bif (decide (0 ≤ i)) && (decide (i < (ms.length : Int))) then
    (ms[(i : Int).toNat]?).bind fun x67 =>
    bif (decide (0 ≤ i)) && (decide (i < (ms.length : Int))) then
     (ms[(i : Int).toNat]?).bind fun x68 =>
     (rowV Tryd.prog T_l_bool ms [((i : Int).toNat, 0)]).bind fun x69 =>
     bif (decide (0 ≤ j)) && (decide (j < (x69.toList.length : Int))) then
      (rowV Tryd.prog T_l_bool ms [((i : Int).toNat, 0)]).bind fun x70 =>
      (x70.toList[(j : Int).toNat]?).bind fun x71 =>
      bif x71.toBool then
       (rowV Tryd.prog T_l_bool ms [((i : Int).toNat, 0)]).bind fun x72 =>
       bif (decide (0 ≤ j)) && (decide (j < (x72.toList.length : Int))) then
        (rowV Tryd.prog T_l_bool ms [((i : Int).toNat, 0)]).bind fun x73 =>
        (x73.toList[(j : Int).toNat]?).bind fun x74 =>
        kr (setRow Tryd.prog (x73.toList.set ((j : Int).toNat) (.bool true)) T_l_bool ms [((i : Int).toNat, 0)])
       else none
      else
       bif (decide (0 ≤ i)) && (decide (i < (xs.length : Int))) then
        (xs[(i : Int).toNat]?).bind fun x75 =>
        (rowV Tryd.prog T_l_bool xs [((i : Int).toNat, 0)]).bind fun x76 =>
        bif (decide (0 ≤ j)) && (decide (j < (x76.toList.length : Int))) then
         (rowV Tryd.prog T_l_bool xs [((i : Int).toNat, 0)]).bind fun x77 =>
         (x77.toList[(j : Int).toNat]?).bind fun x78 =>
         (rowV Tryd.prog T_l_bool ms [((i : Int).toNat, 0)]).bind fun x79 =>
         bif (decide (0 ≤ j)) && (decide (j < (x79.toList.length : Int))) then
          (rowV Tryd.prog T_l_bool ms [((i : Int).toNat, 0)]).bind fun x80 =>
          (x80.toList[(j : Int).toNat]?).bind fun x81 =>
          kr (setRow Tryd.prog (x80.toList.set ((j : Int).toNat) (.bool x78.toBool)) T_l_bool ms [((i : Int).toNat, 0)])
         else none
        else none
       else none
     else none
    else none
   else none
  else
   bif (t111 : Int) == 6 then
    bif (decide (0 ≤ i)) && (decide (i < (ms.length : Int))) then
     (ms[(i : Int).toNat]?).bind fun x82 =>
     bif (decide (0 ≤ i)) && (decide (i < (ms.length : Int))) then
      (ms[(i : Int).toNat]?).bind fun x83 =>
      (rowV Tryd.prog T_l_bool ms [((i : Int).toNat, 0)]).bind fun x84 =>
      bif (decide (0 ≤ j)) && (decide (j < (x84.toList.length : Int))) then
       (rowV Tryd.prog T_l_bool ms [((i : Int).toNat, 0)]).bind fun x85 =>
       (x85.toList[(j : Int).toNat]?).bind fun x86 =>
       bif x86.toBool then
        bif (decide (0 ≤ i)) && (decide (i < (xs.length : Int))) then
         (xs[(i : Int).toNat]?).bind fun x87 =>
         (rowV Tryd.prog T_l_bool xs [((i : Int).toNat, 0)]).bind fun x88 =>
         bif (decide (0 ≤ j)) && (decide (j < (x88.toList.length : Int))) then
          (rowV Tryd.prog T_l_bool xs [((i : Int).toNat, 0)]).bind fun x89 =>
          (x89.toList[(j : Int).toNat]?).bind fun x90 =>
          (rowV Tryd.prog T_l_bool ms [((i : Int).toNat, 0)]).bind fun x91 =>
          bif (decide (0 ≤ j)) && (decide (j < (x91.toList.length : Int))) then
           (rowV Tryd.prog T_l_bool ms [((i : Int).toNat, 0)]).bind fun x92 =>
           (x92.toList[(j : Int).toNat]?).bind fun x93 =>
           kr (setRow Tryd.prog (x92.toList.set ((j : Int).toNat) (.bool x90.toBool)) T_l_bool ms [((i : Int).toNat, 0)])
          else none
         else none
        else none
       else
        (rowV Tryd.prog T_l_bool ms [((i : Int).toNat, 0)]).bind fun x94 =>
        bif (decide (0 ≤ j)) && (decide (j < (x94.toList.length : Int))) then
         (rowV Tryd.prog T_l_bool ms [((i : Int).toNat, 0)]).bind fun x95 =>
         (x95.toList[(j : Int).toNat]?).bind fun x96 =>
         kr (setRow Tryd.prog (x95.toList.set ((j : Int).toNat) (.bool false)) T_l_bool ms [((i : Int).toNat, 0)])
        else none
      else none
     else none
    else none
   else
    bif (t111 : Int) == 8 then
     bif (decide (0 ≤ i)) && (decide (i < (ms.length : Int))) then
      (ms[(i : Int).toNat]?).bind fun x97 =>
      bif (decide (0 ≤ i)) && (decide (i < (xs.length : Int))) then
       (xs[(i : Int).toNat]?).bind fun x98 =>
       (rowV Tryd.prog T_l_bool xs [((i : Int).toNat, 0)]).bind fun x99 =>
       bif (decide (0 ≤ j)) && (decide (j < (x99.toList.length : Int))) then
        (rowV Tryd.prog T_l_bool xs [((i : Int).toNat, 0)]).bind fun x100 =>
        (x100.toList[(j : Int).toNat]?).bind fun x101 =>
        (rowV Tryd.prog T_l_bool ms [((i : Int).toNat, 0)]).bind fun x102 =>
        bif (decide (0 ≤ j)) && (decide (j < (x102.toList.length : Int))) then
         (rowV Tryd.prog T_l_bool ms [((i : Int).toNat, 0)]).bind fun x103 =>
         (x103.toList[(j : Int).toNat]?).bind fun x104 =>
         kr (setRow Tryd.prog (x103.toList.set ((j : Int).toNat) (.bool (!x101.toBool))) T_l_bool ms [((i : Int).toNat, 0)])
        else none
       else none
      else none
     else none
    else
     kr ms
noncomputable def s_semigroupref04_spans_8 (C : CallF) (w : List UInt8) (n i : Int) (t88 : List V) (t89 t90 t100 t101 es_0 es_1 : Int) (es_2 xs : List V) (j : Int) (ms : List V) {β : Type} (kn : (Int × (List V)) → Option β) (kr : (Int × Bool × (List V)) → Option β) : Option β :=
  bif decide ((j : Int) ≤ n) then
   s_semigroupref04_spans_7 C w n i j t88 t89 t90 t100 t101 es_0 ((es_0 : Int) == 4) es_0 es_1 es_2 ms xs (fun (ms_105 : List V) =>
     kn (IntKind.wrap .i64 (j + 1), ms_105))
  else
   kr (j, decide ((j : Int) ≤ n), ms)
noncomputable def s_semigroupref04_spans_8L (C : CallF) (w : List UInt8) (n i : Int) (t88 : List V) (t89 t90 t100 t101 es_0 es_1 : Int) (es_2 xs : List V) : (Int × (List V)) → Option ((Int × (List V)) ⊕ (Int × Bool × (List V))) := un fun j ms => s_semigroupref04_spans_8 C w n i t88 t89 t90 t100 t101 es_0 es_1 es_2 xs j ms (fun y => some (.inl y)) (fun r => some (.inr r))
noncomputable def s_semigroupref04_spans_9 (C : CallF) (w : List UInt8) (n : Int) (t88 : List V) (t89 t90 t100 es_0 es_1 : Int) (es_2 xs : List V) (t101 : Int) (ms : List V) {β : Type} (kn : (Int × (List V)) → Option β) (kr : (Int × Bool × (List V)) → Option β) : Option β :=
  bif decide ((t101 : Int) < t100) then
   (Loop (s_semigroupref04_spans_8L C w n t101 t88 t89 t90 t100 t101 es_0 es_1 es_2 xs) (t101, ms)).bind (un fun (j_106 : Int) => un fun (t_107 : Bool) (ms_108 : List V) =>
     kn (IntKind.wrap .i64 (t101 + 1), ms_108))
  else
   kr (t101, decide ((t101 : Int) < t100), ms)
noncomputable def s_semigroupref04_spans_9L (C : CallF) (w : List UInt8) (n : Int) (t88 : List V) (t89 t90 t100 es_0 es_1 : Int) (es_2 xs : List V) : (Int × (List V)) → Option ((Int × (List V)) ⊕ (Int × Bool × (List V))) := un fun t101 ms => s_semigroupref04_spans_9 C w n t88 t89 t90 t100 es_0 es_1 es_2 xs t101 ms (fun y => some (.inl y)) (fun r => some (.inr r))
noncomputable def s_semigroupref04_spans_10 (C : CallF) (w : List UInt8) (n : Int) (t88 : List V) (t89 es_0 es_1 : Int) (es_2 : List V) (t90 : Int) (ms : List V) {β : Type} (kn : (Int × (List V)) → Option β) (kr : (Int × Bool × (List V)) → Option β) : Option β :=
  bif decide ((t90 : Int) < t89) then
   (idx t88 t90).bind fun x39 =>
   (C F_semigroupref04_spans [.int .i64 ((x39.cell 0).toInt), .int .i64 ((x39.cell 1).toInt), .list T_api_Expr ((x39.cell 2).toList), .str w]).bind fun r40 =>
   bif (es_0 : Int) == 5 then
    (C F_semigroupref04_times [.list T_l_bool ms, .list T_l_bool ((V.nth r40 0).toList)]).bind fun r41 =>
    kn (IntKind.wrap .i64 (t90 + 1), (V.nth r41 0).toList)
   else
    bif (es_0 : Int) == 7 then
     (Loop (s_semigroupref04_spans_6L C w n t88 t89 t90 es_0 es_1 es_2 ((V.nth r40 0).toList)) (0, ms)).bind (un fun (round_64 : Int) => un fun (t_65 : Bool) (ms_66 : List V) =>
       kn (IntKind.wrap .i64 (t90 + 1), ms_66))
    else
     (Loop (s_semigroupref04_spans_9L C w n t88 t89 t90 (ms.length : Int) es_0 es_1 es_2 ((V.nth r40 0).toList)) (0, ms)).bind (un fun (t_109 : Int) => un fun (t_110 : Bool) (ms_111 : List V) =>
       kn (IntKind.wrap .i64 (t90 + 1), ms_111))
  else
   kr (t90, decide ((t90 : Int) < t89), ms)
noncomputable def s_semigroupref04_spans_10L (C : CallF) (w : List UInt8) (n : Int) (t88 : List V) (t89 es_0 es_1 : Int) (es_2 : List V) : (Int × (List V)) → Option ((Int × (List V)) ⊕ (Int × Bool × (List V))) := un fun t90 ms => s_semigroupref04_spans_10 C w n t88 t89 es_0 es_1 es_2 t90 ms (fun y => some (.inl y)) (fun r => some (.inr r))
noncomputable def LT_semigroupref04_spans (C : CallF) : LTab := fun β n ds k =>
  bif Nat.beq n 895 then condS S25_895 [[1, 2, 3, 4, 5, 6, 9, 10, 11, 0]] (@s_semigroupref04_spans_1 C) ds k else
  bif Nat.beq n 129 then loopS S25_129 [false, false, false, true, false, false, false, false, false, true] [[1, 2, 3, 0, 5, 6, 0, 7, 8, 9, 0]] (@s_semigroupref04_spans_2 C) ds k else
  bif Nat.beq n 65 then loopS S25_65 [false, false, false, true, false, false, false, true] [[1, 2, 3, 0, 0, 5, 6, 7, 0]] (@s_semigroupref04_spans_3 C) ds k else
  bif Nat.beq n 817 then loopS S25_817 [false, false, false, false, false, false, false, false, false, false, true, false, false, false, true, false, false] [[1, 2, 3, 4, 5, 6, 7, 8, 9, 10, 0, 0, 12, 13, 14, 0, 16, 17]] (@s_semigroupref04_spans_4 C) ds k else
  bif Nat.beq n 769 then loopS S25_769 [false, false, false, false, false, false, false, true, false, false, false, true, false, false] [[1, 2, 3, 4, 5, 6, 7, 0, 0, 9, 10, 11, 0, 13, 14]] (@s_semigroupref04_spans_5 C) ds k else
  bif Nat.beq n 705 then loopS S25_705 [false, false, true, false, false, false, false, false, false, true, false] [[1, 2, 0, 4, 5, 6, 0, 7, 8, 9, 0, 11]] (@s_semigroupref04_spans_6 C) ds k else
  bif Nat.beq n 1807 then condS S25_1807 [[1, 2, 3, 4, 5, 6, 7, 8, 9, 12, 13, 14, 0, 16]] (@s_semigroupref04_spans_7 C) ds k else
  bif Nat.beq n 481 then loopS S25_481 [false, false, false, true, false, false, false, false, false, false, false, false, true, false] [[1, 2, 3, 0, 5, 6, 7, 8, 9, 0, 10, 11, 12, 0, 14]] (@s_semigroupref04_spans_8 C) ds k else
  bif Nat.beq n 433 then loopS S25_433 [false, false, false, false, false, false, true, false, false, false, true, false] [[1, 2, 3, 4, 5, 6, 0, 0, 8, 9, 10, 0, 12]] (@s_semigroupref04_spans_9 C) ds k else
  bif Nat.beq n 353 then loopS S25_353 [false, false, false, false, true, false, false, false, true] [[1, 2, 3, 4, 0, 0, 6, 7, 8, 0]] (@s_semigroupref04_spans_10 C) ds k else
  none
abbrev TS_semigroupref04_spans (C : CallF) (b : Bar) : Prop := Tells Tryd.prog ann C (LT_semigroupref04_spans C) 25 (ntmpsOf Tryd.prog (ann.fid 25)) (ann.sin 25).blks.length b
theorem t_semigroupref04_spans_1 (C : CallF) : TS_semigroupref04_spans C (.cond 55 (codeAt [1, 1, 1, 0, 1, 0, 0, 1, 1, 0, 0, 1, 1, 1, 0, 0, 1, 0, 0, 1, 0, 1, 1, 1, 0] B_semigroupref04_spans) (codeAt [1, 1, 1, 0, 1, 0, 0, 1, 1, 0, 0, 1, 1, 1, 0, 0, 1, 0, 0, 1, 0, 1, 1, 1, 1] B_semigroupref04_spans)) :=
  tc3 S25_895 [[1, 2, 3, 4, 5, 6, 9, 10, 11, 0]] (@s_semigroupref04_spans_1 C) (by kernel_rfl) (ltok_of (bs := []) (by kernel_rfl) tells_nil) (ltok_of (bs := []) (by kernel_rfl) tells_nil) (fun ds => by kernel_rfl) (fun i β k => by kernel_rfl) (fun β ds k => by kernel_rfl)
theorem t_semigroupref04_spans_2 (C : CallF) : TS_semigroupref04_spans C (.loop (codeAt [1, 1, 1, 0, 1, 0, 0, 1, 1, 0, 0, 1, 1, 1, 0, 0] B_semigroupref04_spans)) :=
  tl3 S25_129 [false, false, false, true, false, false, false, false, false, true] [[1, 2, 3, 0, 5, 6, 0, 7, 8, 9, 0]] (@s_semigroupref04_spans_2 C) (by kernel_rfl) (ltok_of (bs := [.cond 55 (codeAt [1, 1, 1, 0, 1, 0, 0, 1, 1, 0, 0, 1, 1, 1, 0, 0, 1, 0, 0, 1, 0, 1, 1, 1, 0] B_semigroupref04_spans) (codeAt [1, 1, 1, 0, 1, 0, 0, 1, 1, 0, 0, 1, 1, 1, 0, 0, 1, 0, 0, 1, 0, 1, 1, 1, 1] B_semigroupref04_spans)]) (by kernel_rfl) (tells_cons (t_semigroupref04_spans_1 C) tells_nil)) (fun ds => by kernel_rfl) (fun i x => by kernel_rfl) (fun i x β k => by kernel_rfl) (fun β ds k => by kernel_rfl)
theorem t_semigroupref04_spans_3 (C : CallF) : TS_semigroupref04_spans C (.loop (codeAt [1, 1, 1, 0, 1, 0, 0] B_semigroupref04_spans)) :=
  tl3 S25_65 [false, false, false, true, false, false, false, true] [[1, 2, 3, 0, 0, 5, 6, 7, 0]] (@s_semigroupref04_spans_3 C) (by kernel_rfl) (ltok_of (bs := [.loop (codeAt [1, 1, 1, 0, 1, 0, 0, 1, 1, 0, 0, 1, 1, 1, 0, 0] B_semigroupref04_spans)]) (by kernel_rfl) (tells_cons (t_semigroupref04_spans_2 C) tells_nil)) (fun ds => by kernel_rfl) (fun i x => by kernel_rfl) (fun i x β k => by kernel_rfl) (fun β ds k => by kernel_rfl)
theorem t_semigroupref04_spans_4 (C : CallF) : TS_semigroupref04_spans C (.loop (codeAt [1, 1, 1, 1, 0, 1, 0, 0, 1, 1, 0, 0, 1, 1, 1, 0, 1, 1, 1, 0, 1, 0, 0, 1, 0, 0, 1, 1, 0, 0, 1, 1, 0, 0, 1, 1, 0, 0] B_semigroupref04_spans)) :=
  tl3 S25_817 [false, false, false, false, false, false, false, false, false, false, true, false, false, false, true, false, false] [[1, 2, 3, 4, 5, 6, 7, 8, 9, 10, 0, 0, 12, 13, 14, 0, 16, 17]] (@s_semigroupref04_spans_4 C) (by kernel_rfl) (ltok_of (bs := []) (by kernel_rfl) tells_nil) (fun ds => by kernel_rfl) (fun i x => by kernel_rfl) (fun i x β k => by kernel_rfl) (fun β ds k => by kernel_rfl)
theorem t_semigroupref04_spans_5 (C : CallF) : TS_semigroupref04_spans C (.loop (codeAt [1, 1, 1, 1, 0, 1, 0, 0, 1, 1, 0, 0, 1, 1, 1, 0, 1, 1, 1, 0, 1, 0, 0, 1, 0, 0, 1, 1, 0, 0] B_semigroupref04_spans)) :=
  tl3 S25_769 [false, false, false, false, false, false, false, true, false, false, false, true, false, false] [[1, 2, 3, 4, 5, 6, 7, 0, 0, 9, 10, 11, 0, 13, 14]] (@s_semigroupref04_spans_5 C) (by kernel_rfl) (ltok_of (bs := [.loop (codeAt [1, 1, 1, 1, 0, 1, 0, 0, 1, 1, 0, 0, 1, 1, 1, 0, 1, 1, 1, 0, 1, 0, 0, 1, 0, 0, 1, 1, 0, 0, 1, 1, 0, 0, 1, 1, 0, 0] B_semigroupref04_spans)]) (by kernel_rfl) (tells_cons (t_semigroupref04_spans_4 C) tells_nil)) (fun ds => by kernel_rfl) (fun i x => by kernel_rfl) (fun i x β k => by kernel_rfl) (fun β ds k => by kernel_rfl)
theorem t_semigroupref04_spans_6 (C : CallF) : TS_semigroupref04_spans C (.loop (codeAt [1, 1, 1, 1, 0, 1, 0, 0, 1, 1, 0, 0, 1, 1, 1, 0, 1, 1, 1, 0, 1, 0, 0] B_semigroupref04_spans)) :=
  tl3 S25_705 [false, false, true, false, false, false, false, false, false, true, false] [[1, 2, 0, 4, 5, 6, 0, 7, 8, 9, 0, 11]] (@s_semigroupref04_spans_6 C) (by kernel_rfl) (ltok_of (bs := [.loop (codeAt [1, 1, 1, 1, 0, 1, 0, 0, 1, 1, 0, 0, 1, 1, 1, 0, 1, 1, 1, 0, 1, 0, 0, 1, 0, 0, 1, 1, 0, 0] B_semigroupref04_spans)]) (by kernel_rfl) (tells_cons (t_semigroupref04_spans_5 C) tells_nil)) (fun ds => by kernel_rfl) (fun i x => by kernel_rfl) (fun i x β k => by kernel_rfl) (fun β ds k => by kernel_rfl)
theorem t_semigroupref04_spans_7 (C : CallF) : TS_semigroupref04_spans C (.cond 112 (codeAt [1, 1, 1, 1, 0, 1, 0, 0, 1, 1, 0, 0, 1, 1, 1, 0, 1, 1, 1, 1, 1, 0, 0, 1, 1, 0, 0, 1, 1, 0, 0, 1, 0, 0, 1, 0, 1, 0] B_semigroupref04_spans) (codeAt [1, 1, 1, 1, 0, 1, 0, 0, 1, 1, 0, 0, 1, 1, 1, 0, 1, 1, 1, 1, 1, 0, 0, 1, 1, 0, 0, 1, 1, 0, 0, 1, 0, 0, 1, 0, 1, 1] B_semigroupref04_spans)) :=
  tc3 S25_1807 [[1, 2, 3, 4, 5, 6, 7, 8, 9, 12, 13, 14, 0, 16]] (@s_semigroupref04_spans_7 C) (by kernel_rfl) (ltok_of (bs := []) (by kernel_rfl) tells_nil) (ltok_of (bs := []) (by kernel_rfl) tells_nil) (fun ds => by kernel_rfl) (fun i β k => by kernel_rfl) (fun β ds k => by kernel_rfl)
theorem t_semigroupref04_spans_8 (C : CallF) : TS_semigroupref04_spans C (.loop (codeAt [1, 1, 1, 1, 0, 1, 0, 0, 1, 1, 0, 0, 1, 1, 1, 0, 1, 1, 1, 1, 1, 0, 0, 1, 1, 0, 0, 1, 1, 0, 0] B_semigroupref04_spans)) :=
  tl3 S25_481 [false, false, false, true, false, false, false, false, false, false, false, false, true, false] [[1, 2, 3, 0, 5, 6, 7, 8, 9, 0, 10, 11, 12, 0, 14]] (@s_semigroupref04_spans_8 C) (by kernel_rfl) (ltok_of (bs := [.cond 112 (codeAt [1, 1, 1, 1, 0, 1, 0, 0, 1, 1, 0, 0, 1, 1, 1, 0, 1, 1, 1, 1, 1, 0, 0, 1, 1, 0, 0, 1, 1, 0, 0, 1, 0, 0, 1, 0, 1, 0] B_semigroupref04_spans) (codeAt [1, 1, 1, 1, 0, 1, 0, 0, 1, 1, 0, 0, 1, 1, 1, 0, 1, 1, 1, 1, 1, 0, 0, 1, 1, 0, 0, 1, 1, 0, 0, 1, 0, 0, 1, 0, 1, 1] B_semigroupref04_spans)]) (by kernel_rfl) (tells_cons (t_semigroupref04_spans_7 C) tells_nil)) (fun ds => by kernel_rfl) (fun i x => by kernel_rfl) (fun i x β k => by kernel_rfl) (fun β ds k => by kernel_rfl)
theorem t_semigroupref04_spans_9 (C : CallF) : TS_semigroupref04_spans C (.loop (codeAt [1, 1, 1, 1, 0, 1, 0, 0, 1, 1, 0, 0, 1, 1, 1, 0, 1, 1, 1, 1, 1, 0, 0] B_semigroupref04_spans)) :=
  tl3 S25_433 [false, false, false, false, false, false, true, false, false, false, true, false] [[1, 2, 3, 4, 5, 6, 0, 0, 8, 9, 10, 0, 12]] (@s_semigroupref04_spans_9 C) (by kernel_rfl) (ltok_of (bs := [.loop (codeAt [1, 1, 1, 1, 0, 1, 0, 0, 1, 1, 0, 0, 1, 1, 1, 0, 1, 1, 1, 1, 1, 0, 0, 1, 1, 0, 0, 1, 1, 0, 0] B_semigroupref04_spans)]) (by kernel_rfl) (tells_cons (t_semigroupref04_spans_8 C) tells_nil)) (fun ds => by kernel_rfl) (fun i x => by kernel_rfl) (fun i x β k => by kernel_rfl) (fun β ds k => by kernel_rfl)
theorem t_semigroupref04_spans_10 (C : CallF) : TS_semigroupref04_spans C (.loop (codeAt [1, 1, 1, 1, 0, 1, 0, 0] B_semigroupref04_spans)) :=
  tl3 S25_353 [false, false, false, false, true, false, false, false, true] [[1, 2, 3, 4, 0, 0, 6, 7, 8, 0]] (@s_semigroupref04_spans_10 C) (by kernel_rfl) (ltok_of (bs := [.loop (codeAt [1, 1, 1, 1, 0, 1, 0, 0, 1, 1, 0, 0, 1, 1, 1, 0, 1, 1, 1, 0, 1, 0, 0] B_semigroupref04_spans), .loop (codeAt [1, 1, 1, 1, 0, 1, 0, 0, 1, 1, 0, 0, 1, 1, 1, 0, 1, 1, 1, 1, 1, 0, 0] B_semigroupref04_spans)]) (by kernel_rfl) (tells_cons (t_semigroupref04_spans_6 C) (tells_cons (t_semigroupref04_spans_9 C) tells_nil))) (fun ds => by kernel_rfl) (fun i x => by kernel_rfl) (fun i x β k => by kernel_rfl) (fun β ds k => by kernel_rfl)
noncomputable def f_semigroupref04_spans (C : CallF) (e_0 e_1 : Int) (e_2 : List V) (w : List UInt8) : Option (List V) :=
  bif (decide (0 ≤ (IntKind.wrap .i64 ((w.length : Int) + 1)))) && ((decide ((IntKind.wrap .i64 ((w.length : Int) + 1)) ≤ (IntKind.wrap .i64 ((w.length : Int) + 1)))) && (Nat.ble (((IntKind.wrap .i64 ((w.length : Int) + 1) : Int).toNat) * 24) maxBytes)) then
   (Loop (s_semigroupref04_spans_3L C w (w.length : Int) ((List.replicate ((IntKind.wrap .i64 ((w.length : Int) + 1) : Int).toNat) (V.list T_bool ([] : List V))).length : Int) e_0 e_1 e_2) (0, List.replicate ((IntKind.wrap .i64 ((w.length : Int) + 1) : Int).toNat) (V.list T_bool ([] : List V)))).bind (un fun (t_36 : Int) => un fun (t_37 : Bool) (ms_38 : List V) =>
     (Loop (s_semigroupref04_spans_10L C w (w.length : Int) e_2 (e_2.length : Int) e_0 e_1 e_2) (0, ms_38)).bind (un fun (t_112 : Int) => un fun (t_113 : Bool) (ms_114 : List V) =>
       some [.list T_l_bool ms_114]))
  else none
theorem f_semigroupref04_spans_of {e_0 e_1 : Int} {e_2 : List V} {w : List UInt8} {r : Option (List V)} (h : f_semigroupref04_spans CC e_0 e_1 e_2 w = r) : CC F_semigroupref04_spans [.int .i64 e_0, .int .i64 e_1, .list T_api_Expr e_2, .str w] = r :=
  func_of (key := 25) (L := LT_semigroupref04_spans CC) (bs := [.loop (codeAt [1, 1, 1, 0, 1, 0, 0] B_semigroupref04_spans), .loop (codeAt [1, 1, 1, 1, 0, 1, 0, 0] B_semigroupref04_spans)]) (by kernel_rfl) (tells_cons (t_semigroupref04_spans_3 CC) (tells_cons (t_semigroupref04_spans_10 CC) tells_nil)) (Eq.trans (by kernel_rfl) h)
end Go.AM
set_option maxRecDepth 100000
namespace Go.AM
open Go.Proofs
noncomputable def f_semigroupref04_Match (C : CallF) (e_0 e_1 : Int) (e_2 : List V) (w : List UInt8) : Option (List V) :=
  (C F_semigroupref04_spans [.int .i64 e_0, .int .i64 e_1, .list T_api_Expr e_2, .str w]).bind fun r1 =>
  bif decide (0 < (((V.nth r1 0).toList).length : Int)) then
   (((V.nth r1 0).toList)[0]?).bind fun x2 =>
   (rowV Tryd.prog T_l_bool ((V.nth r1 0).toList) [(0, 0)]).bind fun x3 =>
   bif (decide (0 ≤ (w.length : Int))) && (decide ((w.length : Int) < (x3.toList.length : Int))) then
    (rowV Tryd.prog T_l_bool ((V.nth r1 0).toList) [(0, 0)]).bind fun x4 =>
    (x4.toList[((w.length : Int) : Int).toNat]?).bind fun x5 =>
    some [.bool x5.toBool]
   else none
  else none
theorem f_semigroupref04_Match_of {e_0 e_1 : Int} {e_2 : List V} {w : List UInt8} {r : Option (List V)} (h : f_semigroupref04_Match CC e_0 e_1 e_2 w = r) : CC F_semigroupref04_Match [.int .i64 e_0, .int .i64 e_1, .list T_api_Expr e_2, .str w] = r :=
  func_of (key := 11) (L := LT0) (bs := []) (by kernel_rfl) tells_nil (Eq.trans (by kernel_rfl) h)
end Go.AM
set_option maxRecDepth 100000
set_option linter.unusedSimpArgs false
namespace Go.AM
open Go.Proofs Ex
section
variable {N : Nat} {step : (Int × List V) → Option ((Int × List V) ⊕ (Int × Bool × List V))}
theorem row_loop {i j0 : Nat} (v : Nat → Bool → Bool)
    (h : ∀ (j : Nat) T r, j0 ≤ j → j < N → T i = some r → step ((j : Int), BT N T) = some (.inl (((j + 1 : Nat) : Int), BT N (updT T i (updB r j (v j (r j)))))))
    (he : ∀ T, step ((N : Int), BT N T) = some (.inr ((N : Int), false, BT N T))) (T : Nat → Option (Nat → Bool)) (r : Nat → Bool) (hj : j0 ≤ N) (hT : T i = some r) :
    Loop step ((j0 : Int), BT N T) = some ((N : Int), false, BT N (updT T i (fun t => if j0 ≤ t ∧ t < N then v t (r t) else r t))) := by
  have go : ∀ d j r1, j0 ≤ j → j + d = N → Loop step ((j : Int), BT N (updT T i r1)) = some ((N : Int), false, BT N (updT T i (fun t => if j ≤ t ∧ t < N then v t (r1 t) else r1 t))) := by
    intro d
    induction d with
    | zero =>
      intro j r1 _ hd
      have hd : j = N := by omega
      subst hd
      have e : (fun t => if j ≤ t ∧ t < j then v t (r1 t) else r1 t) = r1 := by funext t; rw [if_neg (by omega)]
      rw [e]
      exact Loop_end (he _)
    | succ d ih =>
      intro j r1 hj hd
      rw [Loop_norm (h j _ r1 hj (by omega) updT_same), updT_updT, ih (j + 1) _ (by omega) (by omega)]
      have e9 : (fun t => if j + 1 ≤ t ∧ t < N then v t (updB r1 j (v j (r1 j)) t) else updB r1 j (v j (r1 j)) t) = fun t => if j ≤ t ∧ t < N then v t (r1 t) else r1 t := by
        funext t
        unfold updB
        by_cases e : t = j
        · subst e; rw [if_neg (by omega), if_pos rfl, if_pos (by omega)]
        · by_cases e2 : j ≤ t ∧ t < N
          · rw [if_pos (by omega), if_neg e, if_pos e2]
          · rw [if_neg (by omega), if_neg e, if_neg e2]
      rw [e9]
  have e : updT T i r = T := by
    funext s; unfold updT; split
    · rename_i h; rw [h, hT]
    · rfl
  have := go (N - j0) j0 r (Nat.le_refl _) (by omega)
  rwa [e] at this
theorem col_loop (T0 : Nat → Option (Nat → Bool)) (F : Nat → Nat → Bool)
    (h : ∀ (i : Nat) T, i < N → T i = T0 i → step ((i : Int), BT N T) = some (.inl (((i + 1 : Nat) : Int), BT N (updT T i (F i)))))
    (he : ∀ T, step ((N : Int), BT N T) = some (.inr ((N : Int), false, BT N T))) : Loop step (0, BT N T0) = some ((N : Int), false, BF N F) := by
  have go : ∀ d i T, i + d = N → (∀ s, s < i → T s = some (F s)) → (∀ s, i ≤ s → T s = T0 s) → Loop step ((i : Int), BT N T) = some ((N : Int), false, BF N F) := by
    intro d
    induction d with
    | zero =>
      intro i T hd h1 _
      have hd : i = N := by omega
      subst hd
      have e : BT i T = BF i F := by
        unfold BF BT
        refine List.map_congr_left fun s hs => ?_
        rw [h1 s (List.mem_range.1 hs)]
      rw [← e]
      exact Loop_end (he _)
    | succ d ih =>
      intro i T hd h1 h2
      rw [Loop_norm (h i T (by omega) (h2 i (Nat.le_refl _)))]
      refine ih (i + 1) _ (by omega) (fun s hs => ?_) fun s hs => ?_
      · by_cases e : s = i
        · subst e; exact updT_same
        · rw [updT_ne e]; exact h1 s (by omega)
      · rw [updT_ne (by omega)]; exact h2 s (by omega)
  exact go N 0 T0 (by omega) (fun s hs => by omega) fun _ _ => rfl
end
def unitL : Lg := fun v => v = []
def L0 (o l : Int) : Lg := fun v => if o = 2 ∨ o = 7 ∨ o = 5 then v = [] else if o = 3 then ∃ c : UInt8, v = [c] ∧ (c.toNat : Int) - 97 = l else if o = 6 ∨ o = 8 then True else False
def ini (w : List UInt8) (o l : Int) (i j : Nat) (b : Bool) : Bool :=
  if o = 2 ∨ o = 7 ∨ o = 5 then decide (i = j) else if o = 3 then decide (j = i + 1 ∧ let_ w i = l) else if o = 6 ∨ o = 8 then true else b
theorem ini_bit {w : List UInt8} {o l : Int} {i j : Nat} (hij : i ≤ j) (hj : j ≤ w.length) : ini w o l i j false = true ↔ L0 o l (sl w i j) := by
  unfold ini L0
  have hl := sl_len hij hj
  by_cases h1 : o = 2 ∨ o = 7 ∨ o = 5
  · rw [if_pos h1, if_pos h1, decide_eq_true_eq]
    constructor
    · rintro rfl; exact sl_self
    · intro h; rw [h, List.length_nil] at hl; omega
  rw [if_neg h1, if_neg h1]
  by_cases h3 : o = 3
  · rw [if_pos h3, if_pos h3, decide_eq_true_eq]
    constructor
    · rintro ⟨rfl, h⟩
      refine ⟨_, ?_, h⟩
      unfold sl
      rw [show i + 1 - i = 1 by omega, List.drop_eq_getElem_cons (by omega), List.take_succ_cons, List.take_zero]
      simp [show i < w.length by omega]
    · rintro ⟨c, h1, h2⟩
      rw [h1] at hl
      simp at hl
      have e : j = i + 1 := by omega
      subst e
      refine ⟨rfl, ?_⟩
      have : sl w i (i + 1) = [w.getD i 0] := by
        unfold sl
        rw [show i + 1 - i = 1 by omega, List.drop_eq_getElem_cons (by omega), List.take_succ_cons, List.take_zero]
        simp [show i < w.length by omega]
      rw [this] at h1
      injection h1 with h1
      subst h1
      exact h2
  rw [if_neg h3, if_neg h3]
  by_cases h6 : o = 6 ∨ o = 8
  · rw [if_pos h6, if_pos h6]; simp
  · rw [if_neg h6, if_neg h6]; simp
section
variable {w : List UInt8} {o l : Int} {es : List V}
theorem ini_step (hw : w.length ≤ 2048) (hl : ∀ i, i < w.length → 0 ≤ let_ w i) (hol : o = 3 → 0 ≤ l ∧ l < 100) {i j : Nat} {t24 t25 : Int} (hi : i < w.length + 1) (hij : i ≤ j) (hj : j < w.length + 1) {T : Nat → Option (Nat → Bool)} {r : Nat → Bool} (hT : T i = some r) :
    s_semigroupref04_spans_2L CC w (w.length : Int) (i : Int) t24 t25 o l es ((j : Int), BT (w.length + 1) T) = some (.inl (((j + 1 : Nat) : Int), BT (w.length + 1) (updT T i (updB r j (ini w o l i j (r j)))))) := by
  have t1 : (j : Int) ≤ (w.length : Int) := by omega
  have t2 : (0 : Int) ≤ (i : Int) := by omega
  have t3 : (i : Int) < ((w.length + 1 : Nat) : Int) := by omega
  have t4 : (0 : Int) ≤ (j : Int) := by omega
  have t5 : (j : Int) < ((w.length + 1 : Nat) : Int) := by omega
  have t6 : IntKind.wrap .i64 ((j : Int) + 1) = ((j + 1 : Nat) : Int) := by rw [wrap64 (by omega) (by omega)]; rfl
  have t7 : IntKind.wrap .i64 ((i : Int) + 1) = ((i + 1 : Nat) : Int) := by rw [wrap64 (by omega) (by omega)]; rfl
  have e : ((i : Int) == (j : Int)) = decide (i = j) := by rw [Bool.eq_iff_iff, beq_iff_eq, decide_eq_true_eq]; omega
  simp only [s_semigroupref04_spans_2L, s_semigroupref04_spans_2, s_semigroupref04_spans_1, un]
  simp only [bif_and, bif_decide, bif_beq, Int.toNat_natCast, BT_len, BT_get hi, rowV_B hi hT, Option.bind_some, V.toList_list, rowB_len, rowB_get hj, t1, t2, t3, t4, t5, if_true, t6, t7, rowB_set, setRow_B hi hT, e]
  unfold ini
  by_cases h2 : o = 2
  · rw [if_pos h2, if_pos h2, if_pos (.inl h2)]
  rw [if_neg h2]
  by_cases h7 : o = 7
  · rw [if_pos h7, if_pos h7, if_pos (.inr (.inl h7))]
  rw [if_neg h7]
  by_cases h5 : o = 5
  · rw [if_pos h5, if_pos (.inr (.inr h5))]
  rw [if_neg h5, if_neg (show ¬ (o = 2 ∨ o = 7 ∨ o = 5) by omega)]
  by_cases h3 : o = 3
  · rw [if_pos h3, if_pos h3]
    by_cases hj1 : j = i + 1
    · have hj1' : (j : Int) = ((i + 1 : Nat) : Int) := by omega
      have hiw : i < w.length := by omega
      rw [if_pos hj1']
      have hby := byte_at hiw
      simp only [bif_decide, t2, if_true, Int.toNat_natCast] at hby
      rw [hby]
      simp only [Option.bind_some, V.toInt_int]
      have hb := byte_lt (w.getD i 0)
      obtain ⟨l1, l2⟩ := hol h3
      rw [wrap64 (by omega) (by omega), wrap64 (by omega) (by omega)]
      congr 8
      rw [Bool.eq_iff_iff]
      unfold let_
      simp only [beq_iff_eq, decide_eq_true_eq]
      omega
    · have hj1' : ¬ (j : Int) = ((i + 1 : Nat) : Int) := by omega
      rw [if_neg hj1']
      congr 8
      rw [eq_comm, decide_eq_false_iff_not]
      exact fun h => hj1 h.1
  · rw [if_neg h3, if_neg h3]
    by_cases h6 : o = 6
    · rw [if_pos h6, if_pos h6, if_pos (.inl h6)]
    rw [if_neg h6]
    by_cases h8 : o = 8
    · rw [if_pos h8, if_pos (.inr h8)]
    rw [if_neg h8, if_neg (by omega)]
    have e9 : updT T i (updB r j (r j)) = T := by
      have : updB r j (r j) = r := by funext t; unfold updB; split; (rename_i h; rw [h]); rfl
      rw [this]
      funext s; unfold updT; split
      · rename_i h; rw [h, hT]
      · rfl
    rw [e9]
theorem ini_loop (hw : w.length ≤ 2048) (hl : ∀ i, i < w.length → 0 ≤ let_ w i) (hol : o = 3 → 0 ≤ l ∧ l < 100) :
    ∃ M, Loop (s_semigroupref04_spans_3L CC w (w.length : Int) ((w.length + 1 : Nat) : Int) o l es) (0, BT (w.length + 1) fun _ => none) = some (((w.length + 1 : Nat) : Int), false, BF (w.length + 1) M) ∧ TabOk w M (L0 o l) := by
  refine ⟨fun i t => if i ≤ t ∧ t < w.length + 1 then ini w o l i t false else false, col_loop _ _ (fun i T hi hT => ?_) (fun T => ?_), fun i j hi hj => ?_⟩
  · simp only [s_semigroupref04_spans_3L, s_semigroupref04_spans_3, un]
    have t6 : IntKind.wrap .i64 ((w.length : Int) + 1) = ((w.length + 1 : Nat) : Int) := by rw [wrap64 (by omega) (by omega)]; rfl
    simp only [bif_and, bif_decide, bif_ble, Int.toNat_natCast, BT_len, BT_get hi, Option.bind_some, t6, rowB_false, BT_set]
    rw [if_pos (by omega), if_pos (by omega), if_pos (by omega), if_pos (by rw [maxB]; omega), if_pos (by omega), if_pos (by omega)]
    have := row_loop (N := w.length + 1) (step := s_semigroupref04_spans_2L CC w (w.length : Int) (i : Int) ((w.length + 1 : Nat) : Int) (i : Int) o l es) (i := i) (j0 := i) (fun j b => ini w o l i j b)
      (fun j T r h1 h2 h3 => ini_step hw hl hol hi h1 h2 h3)
      (fun T => by
        simp only [s_semigroupref04_spans_2L, s_semigroupref04_spans_2, un]
        rw [bif_decide, if_neg (by omega), decide_eq_false (by omega)]) (updT T i fun _ => false) (fun _ => false) (by omega) updT_same
    rw [updT_updT] at this
    rw [this]
    simp only [Option.bind_some, un]
    rw [wrap64 (by omega) (by omega)]
    rfl
  · simp only [s_semigroupref04_spans_3L, s_semigroupref04_spans_3, un]
    rw [bif_decide, if_neg (by omega), decide_eq_false (by omega)]
  · show (if i ≤ j ∧ j < w.length + 1 then _ else _) = true ↔ _
    unfold Pt
    by_cases h : i ≤ j
    · rw [if_pos ⟨h, by omega⟩, ini_bit h hj]
      exact ⟨fun h1 => ⟨h, hj, h1⟩, fun h1 => h1.2.2⟩
    · rw [if_neg (fun h1 => h h1.1)]
      simp [h]
def Pw (A : Lg) : Nat → Lg
  | 0 => unitL
  | r + 1 => fun v => Pw A r v ∨ L2 (Pw A r) A v
theorem Pw_mono {A : Lg} {v : List UInt8} {r : Nat} (h : Pw A r v) : ∀ d, Pw A (r + d) v
  | 0 => h
  | d + 1 => .inl (Pw_mono h d)
theorem Pw_star {A : Lg} : ∀ (r : Nat) (v : List UInt8), Pw A r v → StarL A v
  | 0, v, h => by have h : v = [] := h; subst h; exact .nil
  | r + 1, v, h => by
    rcases h with h | ⟨x, y, rfl, h1, h2⟩
    · exact Pw_star r v h
    · exact (Pw_star r x h1).append (.one h2)
theorem Pw_cons {A : Lg} {u : List UInt8} (hu : A u) : ∀ (r : Nat) (v : List UInt8), Pw A r v → Pw A (r + 1) (u ++ v)
  | 0, v, h => by
    have h : v = [] := h
    subst h
    exact .inr ⟨[], u ++ [], rfl, rfl, by simpa using hu⟩
  | r + 1, v, h => by
    rcases h with h | ⟨x, y, rfl, h1, h2⟩
    · exact .inl (Pw_cons hu r v h)
    · exact .inr ⟨u ++ x, y, by simp, Pw_cons hu r x h1, h2⟩
theorem star_Pw {A : Lg} : ∀ (n : Nat) (v : List UInt8), v.length ≤ n → StarL A v → Pw A n v
  | 0, v, h, _ => by
    have : v = [] := List.length_eq_zero_iff.1 (by omega)
    exact this
  | n + 1, v, h, hs => by
    rcases hs.first with rfl | ⟨x, y, h1, rfl, h2, h3⟩
    · exact Pw_mono (r := 0) (v := []) rfl (n + 1) |> fun h => by simpa using h
    · have : 0 < x.length := List.length_pos_iff.2 h1
      rw [List.length_append] at h
      exact Pw_cons h2 n y (star_Pw n y (by omega) h3)
theorem TabOk.of {w : List UInt8} {M : Nat → Nat → Bool} {L L' : Lg} (h : TabOk w M L) (e : ∀ v : List UInt8, v.length ≤ w.length → (L v ↔ L' v)) : TabOk w M L' := fun i j hi hj => by
  rw [h i j hi hj]
  unfold Pt
  constructor
  · rintro ⟨h1, h2, h3⟩; exact ⟨h1, h2, (e _ (by rw [sl_len h1 h2]; omega)).1 h3⟩
  · rintro ⟨h1, h2, h3⟩; exact ⟨h1, h2, (e _ (by rw [sl_len h1 h2]; omega)).2 h3⟩
theorem merge_loop (hw : w.length ≤ 2048) {rd : Int} {t88 : List V} {t89 t90 : Int} {xs : List V} {M X : Nat → Nat → Bool} :
    Loop (s_semigroupref04_spans_5L CC w (w.length : Int) rd t88 t89 t90 ((w.length + 1 : Nat) : Int) o l es xs (BF (w.length + 1) X)) (0, BF (w.length + 1) M) = some (((w.length + 1 : Nat) : Int), false, BF (w.length + 1) fun i t => if 0 ≤ t ∧ t < w.length + 1 then (M i t || X i t) else M i t) := by
  refine col_loop _ _ (fun i T hi hT => ?_) (fun T => ?_)
  · simp only [s_semigroupref04_spans_5L, s_semigroupref04_spans_5, un, BT_len]
    rw [bif_decide, if_pos (by omega)]
    have := row_loop (N := w.length + 1) (step := s_semigroupref04_spans_4L CC w (w.length : Int) rd (i : Int) t88 t89 t90 ((w.length + 1 : Nat) : Int) (i : Int) ((w.length + 1 : Nat) : Int) o l es xs (BF (w.length + 1) X)) (i := i) (j0 := 0) (fun j b => b || X i j)
      (fun j T r h1 hj hT => by
        have t2 : (0 : Int) ≤ (i : Int) := by omega
        have t3 : (i : Int) < ((w.length + 1 : Nat) : Int) := by omega
        have t4 : (0 : Int) ≤ (j : Int) := by omega
        have t5 : (j : Int) < ((w.length + 1 : Nat) : Int) := by omega
        have t6 : IntKind.wrap .i64 ((j : Int) + 1) = ((j + 1 : Nat) : Int) := by rw [wrap64 (by omega) (by omega)]; rfl
        simp only [s_semigroupref04_spans_4L, s_semigroupref04_spans_4, un]
        simp only [bif_and, bif_decide, Int.toNat_natCast, BT_len, BT_get hi, rowV_B hi hT, rowV_B hi (T := fun i => some (X i)) rfl, Option.bind_some, V.toList_list, rowB_len, rowB_get hj, V.toBool_bool, t2, t3, t4, t5, if_true, t6, rowB_set, setRow_B hi hT]
        cases r j <;> rfl)
      (fun T => by
        simp only [s_semigroupref04_spans_4L, s_semigroupref04_spans_4, un]
        rw [bif_decide, if_neg (by omega), decide_eq_false (by omega)]) T (M i) (by omega) hT
    refine (congrArg (fun o => Option.bind o _) this).trans ?_
    simp only [Option.bind_some, un]
    rw [wrap64 (by omega) (by omega)]
    rfl
  · simp only [s_semigroupref04_spans_5L, s_semigroupref04_spans_5, un]
    rw [bif_decide, if_neg (by omega), decide_eq_false (by omega)]
theorem rounds_loop (hw : w.length ≤ 2048) {t88 : List V} {t89 t90 : Int} {X : Nat → Nat → Bool} {A : Lg} (hX : TabOk w X A) :
    ∀ d r M, r + d = w.length → TabOk w M (Pw A r) →
    ∃ M', Loop (s_semigroupref04_spans_6L CC w (w.length : Int) t88 t89 t90 o l es (BF (w.length + 1) X)) ((r : Int), BF (w.length + 1) M) = some ((w.length : Int), false, BF (w.length + 1) M') ∧ TabOk w M' (Pw A w.length) := by
  intro d
  induction d with
  | zero =>
    intro r M hd hM
    have hd : r = w.length := by omega
    subst hd
    refine ⟨M, Loop_end ?_, hM⟩
    simp only [s_semigroupref04_spans_6L, s_semigroupref04_spans_6, un]
    rw [bif_decide, if_neg (by omega), decide_eq_false (by omega)]
  | succ d ih =>
    intro r M hd hM
    obtain ⟨Y, c1, hY⟩ := times_spec hw hM hX
    have c2 := merge_loop (o := o) (l := l) (es := es) hw (rd := (r : Int)) (t88 := t88) (t89 := t89) (t90 := t90) (xs := BF (w.length + 1) X) (M := M) (X := Y)
    obtain ⟨M', h1, h2⟩ := ih (r + 1) (fun i t => if 0 ≤ t ∧ t < w.length + 1 then (M i t || Y i t) else M i t) (by omega) (fun i j hi hj => by
      show (if 0 ≤ j ∧ j < w.length + 1 then _ else _) = true ↔ _
      rw [if_pos (by omega), Bool.or_eq_true, hM i j hi hj, hY i j hi hj]
      unfold Pt
      constructor
      · rintro (⟨h1, h2, h3⟩ | ⟨h1, h2, h3⟩)
        · exact ⟨h1, h2, .inl h3⟩
        · exact ⟨h1, h2, .inr h3⟩
      · rintro ⟨h1, h2, h3 | h3⟩
        · exact .inl ⟨h1, h2, h3⟩
        · exact .inr ⟨h1, h2, h3⟩)
    refine ⟨M', ?_, h2⟩
    rw [← h1]
    refine Loop_norm ?_
    simp only [s_semigroupref04_spans_6L, s_semigroupref04_spans_6, un, BT_len]
    rw [bif_decide, if_pos (by omega)]
    refine (congrArg (fun o => Option.bind o _) c1).trans ?_
    simp only [Option.bind_some, V.nth_zero, V.toList_list]
    refine (congrArg (fun o => Option.bind o _) c2).trans ?_
    simp only [Option.bind_some, un]
    rw [wrap64 (by omega) (by omega)]
    rfl
end
end Go.AM
set_option maxRecDepth 100000
set_option linter.unusedSimpArgs false
namespace Go.AM
open Go.Proofs Ex
def stepL (o : Int) (L A : Lg) : Lg :=
  if o = 5 then L2 L A else if o = 7 then StarL A else fun v => if o = 4 then L v ∨ A v else if o = 6 then L v ∧ A v else ¬ A v
def cv (o : Int) (x : Bool) (b : Bool) : Bool := if o = 4 then (b || x) else if o = 6 then (b && x) else !x
section
variable {w : List UInt8} {o l : Int} {es : List V}
theorem comb_loop (ho : o = 4 ∨ o = 6 ∨ o = 8) (hw : w.length ≤ 2048) {t88 : List V} {t89 t90 : Int} {M X : Nat → Nat → Bool} :
    Loop (s_semigroupref04_spans_9L CC w (w.length : Int) t88 t89 t90 ((w.length + 1 : Nat) : Int) o l es (BF (w.length + 1) X)) (0, BF (w.length + 1) M) = some (((w.length + 1 : Nat) : Int), false, BF (w.length + 1) fun i t => if i ≤ t ∧ t < w.length + 1 then cv o (X i t) (M i t) else M i t) := by
  refine col_loop _ _ (fun i T hi hT => ?_) (fun T => ?_)
  · simp only [s_semigroupref04_spans_9L, s_semigroupref04_spans_9, un, BT_len]
    rw [bif_decide, if_pos (by omega)]
    have := row_loop (N := w.length + 1) (step := s_semigroupref04_spans_8L CC w (w.length : Int) (i : Int) t88 t89 t90 ((w.length + 1 : Nat) : Int) (i : Int) o l es (BF (w.length + 1) X)) (i := i) (j0 := i) (fun j b => cv o (X i j) b)
      (fun j T r h1 hj hT => by
        have t1 : (j : Int) ≤ (w.length : Int) := by omega
        have t2 : (0 : Int) ≤ (i : Int) := by omega
        have t3 : (i : Int) < ((w.length + 1 : Nat) : Int) := by omega
        have t4 : (0 : Int) ≤ (j : Int) := by omega
        have t5 : (j : Int) < ((w.length + 1 : Nat) : Int) := by omega
        have t6 : IntKind.wrap .i64 ((j : Int) + 1) = ((j + 1 : Nat) : Int) := by rw [wrap64 (by omega) (by omega)]; rfl
        simp only [s_semigroupref04_spans_8L, s_semigroupref04_spans_8, s_semigroupref04_spans_7, un]
        simp only [bif_and, bif_decide, bif_beq, Int.toNat_natCast, BT_len, BT_get hi, rowV_B hi hT, rowV_B hi (T := fun i => some (X i)) rfl, Option.bind_some, V.toList_list, rowB_len, rowB_get hj, V.toBool_bool, t1, t2, t3, t4, t5, if_true, t6, rowB_set, setRow_B hi hT]
        unfold cv
        rcases ho with rfl | rfl | rfl
        · simp; cases r j <;> simp
        · simp; cases r j <;> simp
        · simp)
      (fun T => by
        simp only [s_semigroupref04_spans_8L, s_semigroupref04_spans_8, un]
        rw [bif_decide, if_neg (by omega), decide_eq_false (by omega)]) T (M i) (by omega) hT
    refine (congrArg (fun o => Option.bind o _) this).trans ?_
    simp only [Option.bind_some, un]
    rw [wrap64 (by omega) (by omega)]
    rfl
  · simp only [s_semigroupref04_spans_9L, s_semigroupref04_spans_9, un]
    rw [bif_decide, if_neg (by omega), decide_eq_false (by omega)]
def SpansOk (w : List UInt8) (k : Ex) : Prop := ∃ M, CC F_semigroupref04_spans (exA k [.str w]) = some [bV w M] ∧ TabOk w M k.lang
theorem kids_loop (hw : w.length ≤ 2048) {ks : List Ex} (hlen : ks.length ≤ maxLen) (hk : ∀ k ∈ ks, SpansOk w k) (ho : ks ≠ [] → 4 ≤ o ∧ o ≤ 8) :
    ∀ (suf pre : List Ex) (L : Lg) (M : Nat → Nat → Bool), ks = pre ++ suf → TabOk w M L → (o = 7 → (suf ≠ [] → L = unitL) ∧ suf.length ≤ 1) →
    ∃ M', Loop (s_semigroupref04_spans_10L CC w (w.length : Int) (ks.map enc) ((ks.map enc).length : Int) o l es) (((pre.length : Nat) : Int), BF (w.length + 1) M) = some (((ks.map enc).length : Int), false, BF (w.length + 1) M') ∧ TabOk w M' ((suf.map lang).foldl (stepL o) L) := by
  have hm := maxLen_le
  intro suf
  induction suf with
  | nil =>
    intro pre L M e hM _
    rw [List.append_nil] at e
    subst e
    refine ⟨M, Loop_end ?_, hM⟩
    simp only [s_semigroupref04_spans_10L, s_semigroupref04_spans_10, un, List.length_map]
    rw [bif_decide, if_neg (by omega), decide_eq_false (by omega)]
  | cons k suf ih =>
    intro pre L M e hM h7
    have hk1 : k ∈ ks := by rw [e]; simp
    have hlt : pre.length < ks.length := by rw [e]; simp
    have ho := ho (by intro h; rw [h] at hlt; simp at hlt)
    obtain ⟨X, c1, hX⟩ := hk k hk1
    have hi : idx (ks.map enc) ((pre.length : Nat) : Int) = some k.enc := by rw [e]; exact idx_kid pre suf k
    have step : ∃ M', s_semigroupref04_spans_10L CC w (w.length : Int) (ks.map enc) ((ks.map enc).length : Int) o l es (((pre.length : Nat) : Int), BF (w.length + 1) M) = some (.inl (((pre.length + 1 : Nat) : Int), BF (w.length + 1) M')) ∧ TabOk w M' (stepL o L k.lang) := by
      by_cases h5 : o = 5
      · obtain ⟨M', c2, hM'⟩ := times_spec hw hM hX
        refine ⟨M', ?_, by unfold stepL; rw [if_pos h5]; exact hM'⟩
        simp only [s_semigroupref04_spans_10L, s_semigroupref04_spans_10, un, List.length_map]
        rw [bif_decide, if_pos (by omega), hi]
        simp only [Option.bind_some, enc_0, enc_1, enc_2]
        refine (congrArg (fun o => Option.bind o _) c1).trans ?_
        simp only [Option.bind_some, V.nth_zero, V.toList_list, bif_beq]
        rw [if_pos h5]
        refine (congrArg (fun o => Option.bind o _) c2).trans ?_
        simp only [Option.bind_some, V.nth_zero, V.toList_list]
        rw [wrap64 (by omega) (by omega)]
        rfl
      by_cases h7' : o = 7
      · obtain ⟨M', c2, hM'⟩ := rounds_loop (o := o) (l := l) (es := es) hw (t88 := ks.map enc) (t89 := (ks.length : Int)) (t90 := (pre.length : Int)) hX w.length 0 M (by omega) (by
          have : L = unitL := (h7 h7').1 (by simp)
          rw [this] at hM; exact hM)
        refine ⟨M', ?_, by
          unfold stepL; rw [if_neg h5, if_pos h7']
          exact hM'.of fun v hv => ⟨Pw_star _ v, star_Pw _ v hv⟩⟩
        simp only [s_semigroupref04_spans_10L, s_semigroupref04_spans_10, un, List.length_map]
        rw [bif_decide, if_pos (by omega), hi]
        simp only [Option.bind_some, enc_0, enc_1, enc_2]
        refine (congrArg (fun o => Option.bind o _) c1).trans ?_
        simp only [Option.bind_some, V.nth_zero, V.toList_list, bif_beq]
        rw [if_neg h5, if_pos h7']
        refine (congrArg (fun o => Option.bind o _) c2).trans ?_
        simp only [Option.bind_some, un]
        rw [wrap64 (by omega) (by omega)]
        rfl
      · have h468 : o = 4 ∨ o = 6 ∨ o = 8 := by omega
        have c2 := comb_loop (l := l) (es := es) h468 hw (t88 := ks.map enc) (t89 := (ks.length : Int)) (t90 := (pre.length : Int)) (M := M) (X := X)
        refine ⟨fun i t => if i ≤ t ∧ t < w.length + 1 then cv o (X i t) (M i t) else M i t, ?_, ?_⟩
        rotate_left
        · intro i j hi hj
          show (if i ≤ j ∧ j < w.length + 1 then cv o (X i j) (M i j) else M i j) = true ↔ Pt w (stepL o L k.lang) i j
          have a1 := hM i j hi hj
          have a2 := hX i j hi hj
          unfold Pt at *
          by_cases hij : i ≤ j
          · rw [if_pos ⟨hij, by omega⟩]
            unfold stepL cv
            rw [if_neg h5, if_neg h7']
            rcases h468 with rfl | rfl | rfl
            · simp only [if_true, Bool.or_eq_true, a1, a2]
              constructor
              · rintro (⟨h1, h2, h3⟩ | ⟨h1, h2, h3⟩)
                · exact ⟨h1, h2, .inl h3⟩
                · exact ⟨h1, h2, .inr h3⟩
              · rintro ⟨h1, h2, h3 | h3⟩
                · exact .inl ⟨h1, h2, h3⟩
                · exact .inr ⟨h1, h2, h3⟩
            · simp only [show ¬ ((6 : Int) = 4) by omega, if_false, if_true, Bool.and_eq_true, a1, a2]
              constructor
              · rintro ⟨⟨h1, h2, h3⟩, ⟨_, _, h4⟩⟩
                exact ⟨h1, h2, h3, h4⟩
              · rintro ⟨h1, h2, h3, h4⟩
                exact ⟨⟨h1, h2, h3⟩, ⟨h1, h2, h4⟩⟩
            · simp only [show ¬ ((8 : Int) = 4) by omega, show ¬ ((8 : Int) = 6) by omega, if_false]
              constructor
              · intro h
                refine ⟨hij, hj, fun h2 => ?_⟩
                rw [a2.2 ⟨hij, hj, h2⟩] at h
                cases h
              · rintro ⟨_, _, h3⟩
                cases hc : X i j
                · rfl
                · exact absurd (a2.1 hc).2.2 h3
          · rw [if_neg (fun h => hij h.1), a1]
            simp [hij]
        · simp only [s_semigroupref04_spans_10L, s_semigroupref04_spans_10, un, List.length_map, BT_len]
          rw [bif_decide, if_pos (by omega), hi]
          simp only [Option.bind_some, enc_0, enc_1, enc_2]
          refine (congrArg (fun o => Option.bind o _) c1).trans ?_
          simp only [Option.bind_some, V.nth_zero, V.toList_list, bif_beq]
          rw [if_neg h5, if_neg h7']
          refine (congrArg (fun o => Option.bind o _) c2).trans ?_
          simp only [Option.bind_some, un]
          rw [wrap64 (by omega) (by omega)]
          rfl
    obtain ⟨M', hst, hM'⟩ := step
    obtain ⟨M'', h1, h2⟩ := ih (pre ++ [k]) (stepL o L k.lang) M' (by simp [e]) hM' (fun h => by
      have := (h7 h).2
      simp at this
      exact ⟨fun hs => absurd this (by simpa using hs), by simp [this]⟩)
    refine ⟨M'', ?_, h2⟩
    rw [Loop_norm hst]
    simpa using h1
end
theorem L2_unit {A : Lg} : L2 unitL A = A := by
  funext v
  refine propext ⟨?_, fun h => ⟨[], v, rfl, rfl, h⟩⟩
  rintro ⟨x, y, rfl, hx, hy⟩
  have hx : x = [] := hx
  subst hx
  exact hy
theorem fold4 {v : List UInt8} : ∀ (Ls : List Lg) (A : Lg), Ls.foldl (stepL 4) A v ↔ A v ∨ ∃ L ∈ Ls, L v
  | [], A => by simp
  | L :: Ls, A => by
    rw [List.foldl_cons, fold4 Ls]
    simp [stepL, or_assoc]
theorem fold6 {v : List UInt8} : ∀ (Ls : List Lg) (A : Lg), Ls.foldl (stepL 6) A v ↔ A v ∧ ∀ L ∈ Ls, L v
  | [], A => by simp
  | L :: Ls, A => by
    rw [List.foldl_cons, fold6 Ls]
    simp [stepL, and_assoc]
theorem fold5 : ∀ (Ls : List Lg) (A : Lg), Ls.foldl (stepL 5) A = Ls.foldl L2 A
  | [], A => rfl
  | L :: Ls, A => by
    rw [List.foldl_cons, List.foldl_cons, fold5 Ls]
    simp [stepL]
theorem shapes {o l : Int} {ks : List Ex} (hs : shapeOk o l ks.length 6 = true) : ((o = 1 ∨ o = 2) ∧ ks = []) ∨ (o = 3 ∧ ks = [] ∧ 0 ≤ l ∧ l < 6) ∨ ((o = 7 ∨ o = 8) ∧ ∃ k, ks = [k]) ∨ ((o = 4 ∨ o = 5 ∨ o = 6) ∧ ∃ k rest, ks = k :: rest) := by
  unfold shapeOk at hs
  by_cases h3 : o = 3
  · rw [if_pos h3] at hs
    obtain ⟨a, b, c⟩ := of_decide_eq_true hs
    exact .inr (.inl ⟨h3, List.length_eq_zero_iff.1 (by omega), b, c⟩)
  rw [if_neg h3] at hs
  simp only [Bool.and_eq_true] at hs
  obtain ⟨_, hs⟩ := hs
  by_cases h12 : o = 1 ∨ o = 2
  · rw [if_pos h12] at hs
    have := of_decide_eq_true hs
    exact .inl ⟨h12, List.length_eq_zero_iff.1 (by omega)⟩
  rw [if_neg h12] at hs
  by_cases h78 : o = 7 ∨ o = 8
  · rw [if_pos h78] at hs
    have hs := of_decide_eq_true hs
    refine .inr (.inr (.inl ⟨h78, ?_⟩))
    match ks, hs with
    | [k], _ => exact ⟨k, rfl⟩
    | [], h => simp at h
    | _ :: _ :: _, h => simp at h; omega
  · rw [if_neg h78] at hs
    obtain ⟨h4, h6, hn⟩ := of_decide_eq_true hs
    refine .inr (.inr (.inr ⟨by omega, ?_⟩))
    match ks, hn with
    | k :: rest, _ => exact ⟨k, rest, rfl⟩
theorem spans_spec {w : List UInt8} (hw : w.length ≤ 2048) (hl : ∀ i, i < w.length → 0 ≤ let_ w i) : ∀ e : Ex, e.Ok → e.wf 6 = true → SpansOk w e :=
  ind fun o l ks ih hok hwf => by
    obtain ⟨hs, hwk⟩ := wf_node hwf
    have hk : ∀ k ∈ ks, SpansOk w k := fun k hk => ih k hk (hok.kid k hk) (hwk k hk)
    have hlen := hok.len
    have sh := shapes hs
    obtain ⟨M0, c1, hM0⟩ := ini_loop (o := o) (l := l) (es := ks.map enc) hw hl (fun h3 => by
      rcases sh with h | h | h | h
      · omega
      · omega
      · omega
      · omega)
    obtain ⟨M, c2, hM⟩ := kids_loop (o := o) (l := l) (es := ks.map enc) hw hlen hk (fun hne => by
      rcases sh with h | h | h | h
      · exact absurd h.2 hne
      · exact absurd h.2.1 hne
      · omega
      · omega) ks [] (L0 o l) M0 rfl hM0 (fun h7 => by
      subst h7
      rcases sh with h | h | ⟨_, k, rfl⟩ | h
      · omega
      · omega
      · exact ⟨fun _ => by funext v; simp [L0, unitL], by simp⟩
      · omega)
    refine ⟨M, ?_, ?_⟩
    · show CC F_semigroupref04_spans [.int .i64 o, .int .i64 l, .list T_api_Expr (ks.map enc), .str w] = _
      refine f_semigroupref04_spans_of ?_
      unfold f_semigroupref04_spans
      have e1 : IntKind.wrap .i64 ((w.length : Int) + 1) = ((w.length + 1 : Nat) : Int) := by rw [wrap64 (by omega) (by omega)]; rfl
      rw [e1]
      simp only [Int.toNat_natCast, BT_none, BT_len, bif_and, bif_decide, bif_ble]
      rw [if_pos (by omega), if_pos (by omega), if_pos (by rw [maxB]; omega)]
      refine (congrArg (fun o => Option.bind o _) c1).trans ?_
      simp only [Option.bind_some, un]
      refine (congrArg (fun o => Option.bind o _) c2).trans ?_
      rfl
    · have : (ks.map lang).foldl (stepL o) (L0 o l) = (Ex.node o l ks).lang := by
        rw [lang_node]
        rcases sh with ⟨h, rfl⟩ | ⟨rfl, rfl, _⟩ | ⟨h, k, rfl⟩ | ⟨h, k, rest, rfl⟩
        · funext v
          rcases h with rfl | rfl <;> simp [L0, opL]
        · funext v
          simp [L0, opL]
        · funext v
          rcases h with rfl | rfl <;> simp [stepL, opL, headL]
        · rcases h with rfl | rfl | rfl
          · funext v; refine propext ?_; rw [fold4]; simp [L0, opL]
          · rw [fold5]
            have e0 : L0 5 l = unitL := by funext v; simp [L0, unitL]
            rw [List.map_cons, List.foldl_cons, e0, L2_unit]
            funext v; simp [opL, catL]
          · funext v; refine propext ?_; rw [fold6]; simp [L0, opL]
      rw [← this]; exact hM
theorem refMatch_spec {e : Ex} (h : e.Ok) (hv : e.val 6 = 0) {w : List UInt8} (hw : wOk w 6) : ∃ b, CC F_semigroupref04_Match (exA e [.str w]) = some [.bool b] ∧ (b = true ↔ e.lang w) := by
  have hn := hw.2.2.1
  obtain ⟨M, c, hM⟩ := spans_spec hn (fun i hi => (hw.2.2.2 i hi).1) e h (val0 hv).2.2
  refine ⟨M 0 w.length, f_semigroupref04_Match_of ?_, ?_⟩
  · unfold f_semigroupref04_Match
    refine (congrArg (fun o => Option.bind o _) c).trans ?_
    simp only [Option.bind_some, V.nth_zero, V.toList_list, BT_len, bif_and, bif_decide, Int.toNat_natCast, BT_get (show 0 < w.length + 1 by omega), rowV_B (show 0 < w.length + 1 by omega) (T := fun i => some (M i)) rfl, rowB_len, rowB_get (show w.length < w.length + 1 by omega), V.toBool_bool]
    rw [if_pos (by omega), if_pos (by omega), if_pos (by omega)]
  · rw [hM 0 w.length (by omega) (Nat.le_refl _)]
    unfold Pt
    rw [sl_all]
    exact ⟨fun h => h.2.2, fun h => ⟨by omega, Nat.le_refl _, h⟩⟩
end Go.AM
set_option maxRecDepth 100000
namespace Go.AM
open Go.Proofs
noncomputable def f_semigrouplaw04_ExprMatches (C : CallF) (e_0 e_1 : Int) (e_2 : List V) (w : List UInt8) : Option (List V) :=
  (C F_expr_Match [.int .i64 e_0, .int .i64 e_1, .list T_api_Expr e_2, .str w]).bind fun r1 =>
  (C F_semigroupref04_Valid [.int .i64 e_0, .int .i64 e_1, .list T_api_Expr e_2]).bind fun r2 =>
  bif !((V.nth r2 0).toBool) then
   bif !((V.nth r1 0).toBool) then
    (C F_semigrouplaw04_awake []).bind fun r3 =>
    some [.bool ((V.nth r3 0).toBool)]
   else
    some [.bool false]
  else
   (C F_semigroupref01_Valid [.str w, .int .i64 6]).bind fun r4 =>
   bif !((V.nth r4 0).toBool) then
    bif !((V.nth r1 0).toBool) then
     (C F_semigrouplaw04_awake []).bind fun r5 =>
     some [.bool ((V.nth r5 0).toBool)]
    else
     some [.bool false]
   else
    (C F_semigrouplaw04_little [.int .i64 e_0, .int .i64 e_1, .list T_api_Expr e_2, .int .i64 40]).bind fun r6 =>
    bif !((V.nth r6 0).toBool) then
     (C F_semigrouplaw04_awake []).bind fun r7 =>
     some [.bool ((V.nth r7 0).toBool)]
    else
     bif decide (((w.length : Int) : Int) > 8) then
      (C F_semigrouplaw04_awake []).bind fun r8 =>
      some [.bool ((V.nth r8 0).toBool)]
     else
      (C F_semigroupref04_Match [.int .i64 e_0, .int .i64 e_1, .list T_api_Expr e_2, .str w]).bind fun r9 =>
      bif ((V.nth r1 0).toBool) == ((V.nth r9 0).toBool) then
       (C F_semigrouplaw04_awake []).bind fun r10 =>
       some [.bool ((V.nth r10 0).toBool)]
      else
       some [.bool false]
theorem f_semigrouplaw04_ExprMatches_of {e_0 e_1 : Int} {e_2 : List V} {w : List UInt8} {r : Option (List V)} (h : f_semigrouplaw04_ExprMatches CC e_0 e_1 e_2 w = r) : CC F_semigrouplaw04_ExprMatches [.int .i64 e_0, .int .i64 e_1, .list T_api_Expr e_2, .str w] = r :=
  func_of (key := 3) (L := LT0) (bs := []) (by kernel_rfl) tells_nil (Eq.trans (by kernel_rfl) h)
end Go.AM
set_option maxRecDepth 100000
set_option linter.unusedSimpArgs false
namespace Go.AM
open Go.Proofs Ex
theorem exprMatches (e : Ex) (he : e.Ok) (w : List UInt8) : CC F_semigrouplaw04_ExprMatches (exA e [.str w]) = some [.bool true] := by
  refine f_semigrouplaw04_ExprMatches_of ?_
  unfold f_semigrouplaw04_ExprMatches
  rw [awake]
  refine (congrArg (fun o => Option.bind o _) (Match_spec e he w)).trans ?_
  simp only [Option.bind_some, V.nth_zero, V.toBool_bool]
  refine (congrArg (fun o => Option.bind o _) (exRefValid_spec e he)).trans ?_
  simp only [Option.bind_some, V.nth_zero, V.toBool_bool, bif_not, bif_decide]
  by_cases h1 : e.val 6 = 0
  case neg =>
    have : mat e w = false := by rw [← Bool.not_eq_true, mat_iff]; exact fun h => h1 h.1
    rw [if_neg h1, this]; rfl
  rw [if_pos h1, refValid_spec]
  simp only [Option.bind_some, V.nth_zero, V.toBool_bool, bif_not, bif_decide]
  by_cases h2 : wOk w 6
  case neg =>
    have : mat e w = false := by rw [← Bool.not_eq_true, mat_iff]; exact fun h => h2 h.2.1
    rw [if_neg h2, this]; rfl
  rw [if_pos h2]
  refine (congrArg (fun o => Option.bind o _) (little_spec e he 40)).trans ?_
  simp only [Option.bind_some, V.nth_zero, V.toBool_bool, bif_not, bif_decide]
  by_cases h3 : lit e 40
  case neg => rw [if_neg h3]
  rw [if_pos h3]
  by_cases h4 : (w.length : Int) > 8
  · rw [if_pos h4]
  rw [if_neg h4]
  obtain ⟨b, c, hb⟩ := refMatch_spec he h1 h2
  refine (congrArg (fun o => Option.bind o _) c).trans ?_
  simp only [Option.bind_some, V.nth_zero, V.toBool_bool]
  have : mat e w = b := by rw [Bool.eq_iff_iff, mat_lang h1 h2, hb]
  rw [this]
  simp
end Go.AM
