/-
  Functions of the program, lifted to plain data.
-/
import Derived.Test.YtffbfcncnleiaaaP3
set_option linter.unusedVariables false
set_option maxRecDepth 100000
namespace Go.AM
open Go.Proofs
/-! semigroup/starfree.evaluate -/
theorem s_starfree_evaluate_1d_eq (C : CallF) (n_Op : Int) (n_Letter : Int) (n_A : Int) (n_B : Int) (tables : List V) (w : List UInt8) {β : Type} (K : Out → St → Option β) :
    execL Try.prog ann C 24 166 0 (codesAt Try.prog 24 [[0], [1, 0], [1, 1, 0, 0]]) (mk [(0, .agg [.int .i64 n_Op, .int .i64 n_Letter, .int .i64 n_A, .int .i64 n_B]), (1, .list T_starfree_table tables), (2, .str w)] []) K =
      bif (decide (0 ≤ (IntKind.wrap .i64 ((w.length : Int) + 1)))) && ((decide ((IntKind.wrap .i64 ((w.length : Int) + 1)) ≤ (IntKind.wrap .i64 ((w.length : Int) + 1)))) && (Nat.ble (((IntKind.wrap .i64 ((w.length : Int) + 1) : Int).toNat) * 16) maxBytes)) then
        K .norm (mk [(1, .list T_starfree_table tables), (2, .str w), (3, .ptr 0 0 0), (7, .whole T_starfree_cuts 1), (15, .int .i64 ((List.replicate ((IntKind.wrap .i64 ((w.length : Int) + 1) : Int).toNat) (V.agg [.int .u64 0, .int .u64 0])).length : Int)), (16, .int .i64 0)] [.var [.int .i64 n_Op, .int .i64 n_Letter, .int .i64 n_A, .int .i64 n_B], .arr T_starfree_cuts (List.replicate ((IntKind.wrap .i64 ((w.length : Int) + 1) : Int).toNat) (V.agg [.int .u64 0, .int .u64 0])) false])
      else none := by kernel_rfl

theorem s_starfree_evaluate_2d_eq (C : CallF) (tables : List V) (w : List UInt8) (t15 : Int) (t16 : Int) (ns_0 : Int) (ns_1 : Int) (ns_2 : Int) (ns_3 : Int) (ts : List V) {β : Type} (K : Out → St → Option β) :
    execL Try.prog ann C 24 166 0 (codesAt Try.prog 24 [[1, 1, 0, 1, 0, 0, 0], [1, 1, 0, 1, 0, 0, 1, 0]]) (mk [(1, .list T_starfree_table tables), (2, .str w), (3, .ptr 0 0 0), (7, .whole T_starfree_cuts 1), (15, .int .i64 t15), (16, .int .i64 t16)] [.var [.int .i64 ns_0, .int .i64 ns_1, .int .i64 ns_2, .int .i64 ns_3], .arr T_starfree_cuts ts false]) K =
      bif decide ((t16 : Int) < t15) then
        K .norm (mk [(1, .list T_starfree_table tables), (2, .str w), (3, .ptr 0 0 0), (7, .whole T_starfree_cuts 1), (15, .int .i64 t15), (16, .int .i64 t16)] [.var [.int .i64 ns_0, .int .i64 ns_1, .int .i64 ns_2, .int .i64 ns_3], .arr T_starfree_cuts ts false])
      else
        K (.exit 0) (mk [(1, .list T_starfree_table tables), (2, .str w), (3, .ptr 0 0 0), (7, .whole T_starfree_cuts 1), (15, .int .i64 t15), (16, .int .i64 t16), (17, .bool (decide ((t16 : Int) < t15)))] [.var [.int .i64 ns_0, .int .i64 ns_1, .int .i64 ns_2, .int .i64 ns_3], .arr T_starfree_cuts ts false]) := by kernel_rfl

theorem s_starfree_evaluate_3d_eq (C : CallF) (tables : List V) (w : List UInt8) (t15 : Int) (t16 : Int) (ns_0 : Int) (ns_1 : Int) (ns_2 : Int) (ns_3 : Int) (ts : List V) {β : Type} (K : Out → St → Option β) :
    execL Try.prog ann C 24 166 0 (codesAt Try.prog 24 [[1, 1, 0, 1, 0, 0, 1, 1, 0, 0, 0], [1, 1, 0, 1, 0, 0, 1, 1, 0, 0, 1, 0]]) (mk [(1, .list T_starfree_table tables), (2, .str w), (3, .ptr 0 0 0), (7, .whole T_starfree_cuts 1), (15, .int .i64 t15), (16, .int .i64 t16)] [.var [.int .i64 ns_0, .int .i64 ns_1, .int .i64 ns_2, .int .i64 ns_3], .arr T_starfree_cuts ts false]) K =
      K .norm (mk [(1, .list T_starfree_table tables), (2, .str w), (3, .ptr 0 0 0), (7, .whole T_starfree_cuts 1), (8, .int .i64 t16), (15, .int .i64 t15), (16, .int .i64 t16), (20, .int .i64 ns_0)] [.var [.int .i64 ns_0, .int .i64 ns_1, .int .i64 ns_2, .int .i64 ns_3], .arr T_starfree_cuts ts false]) := by kernel_rfl

theorem s_starfree_evaluate_4d_eq (C : CallF) (tables : List V) (w : List UInt8) (i : Int) (t15 : Int) (t16 : Int) (t20 : Int) (ns_0 : Int) (ns_1 : Int) (ns_2 : Int) (ns_3 : Int) (ts : List V) {β : Type} (K : Out → St → Option β) :
    execL Try.prog ann C 24 166 0 (codesAt Try.prog 24 [[1, 1, 0, 1, 0, 0, 1, 1, 0, 0, 1, 1, 0, 0]]) (mk [(1, .list T_starfree_table tables), (2, .str w), (3, .ptr 0 0 0), (7, .whole T_starfree_cuts 1), (8, .int .i64 i), (15, .int .i64 t15), (16, .int .i64 t16), (20, .int .i64 t20)] [.var [.int .i64 ns_0, .int .i64 ns_1, .int .i64 ns_2, .int .i64 ns_3], .arr T_starfree_cuts ts false]) K =
      K .norm (mk [(1, .list T_starfree_table tables), (2, .str w), (3, .ptr 0 0 0), (7, .whole T_starfree_cuts 1), (8, .int .i64 i), (15, .int .i64 t15), (16, .int .i64 t16), (20, .int .i64 t20), (21, .bool ((t20 : Int) == 2))] [.var [.int .i64 ns_0, .int .i64 ns_1, .int .i64 ns_2, .int .i64 ns_3], .arr T_starfree_cuts ts false]) := by kernel_rfl

theorem s_starfree_evaluate_5d_eq (C : CallF) (tables : List V) (w : List UInt8) (i : Int) (t15 : Int) (t16 : Int) (t20 : Int) (t21 : Bool) (ns_0 : Int) (ns_1 : Int) (ns_2 : Int) (ns_3 : Int) (ts : List V) {β : Type} (K : Out → St → Option β) :
    execL Try.prog ann C 24 166 0 (codesAt Try.prog 24 [[1, 1, 0, 1, 0, 0, 1, 1, 0, 0, 1, 1, 0, 1, 0]]) (mk [(1, .list T_starfree_table tables), (2, .str w), (3, .ptr 0 0 0), (7, .whole T_starfree_cuts 1), (8, .int .i64 i), (15, .int .i64 t15), (16, .int .i64 t16), (20, .int .i64 t20), (21, .bool t21)] [.var [.int .i64 ns_0, .int .i64 ns_1, .int .i64 ns_2, .int .i64 ns_3], .arr T_starfree_cuts ts false]) K =
      bif (decide (0 ≤ i)) && (decide (i < (ts.length : Int))) then
        (ts[(i : Int).toNat]?).bind fun x1 =>
          (C F_starfree_cuts_with [.agg [.int .u64 ((x1.cell 0).toInt), .int .u64 ((x1.cell 1).toInt)], .int .i64 i] []).bind fun r2 =>
            bif (decide (0 ≤ i)) && (decide (i < (ts.length : Int))) then
              (ts[(i : Int).toNat]?).bind fun x3 =>
                K .norm (mk [(1, .list T_starfree_table tables), (2, .str w), (3, .ptr 0 0 0), (7, .whole T_starfree_cuts 1), (15, .int .i64 t15), (16, .int .i64 t16)] [.var [.int .i64 ns_0, .int .i64 ns_1, .int .i64 ns_2, .int .i64 ns_3], .arr T_starfree_cuts (ts.set ((i : Int).toNat) (.agg [.int .u64 ((r2.1.cell 0).toInt), .int .u64 ((r2.1.cell 1).toInt)])) false])
            else none
      else none := by kernel_rfl

theorem s_starfree_evaluate_6d_eq (C : CallF) (tables : List V) (w : List UInt8) (i : Int) (t15 : Int) (t16 : Int) (t20 : Int) (t21 : Bool) (ns_0 : Int) (ns_1 : Int) (ns_2 : Int) (ns_3 : Int) (ts : List V) {β : Type} (K : Out → St → Option β) :
    execL Try.prog ann C 24 166 0 (codesAt Try.prog 24 [[1, 1, 0, 1, 0, 0, 1, 1, 0, 0, 1, 1, 0, 1, 1, 0]]) (mk [(1, .list T_starfree_table tables), (2, .str w), (3, .ptr 0 0 0), (7, .whole T_starfree_cuts 1), (8, .int .i64 i), (15, .int .i64 t15), (16, .int .i64 t16), (20, .int .i64 t20), (21, .bool t21)] [.var [.int .i64 ns_0, .int .i64 ns_1, .int .i64 ns_2, .int .i64 ns_3], .arr T_starfree_cuts ts false]) K =
      K .norm (mk [(1, .list T_starfree_table tables), (2, .str w), (3, .ptr 0 0 0), (7, .whole T_starfree_cuts 1), (8, .int .i64 i), (15, .int .i64 t15), (16, .int .i64 t16), (20, .int .i64 t20), (32, .bool ((t20 : Int) == 3))] [.var [.int .i64 ns_0, .int .i64 ns_1, .int .i64 ns_2, .int .i64 ns_3], .arr T_starfree_cuts ts false]) := by kernel_rfl

noncomputable def s_starfree_evaluate_7 (C : CallF) (w : List UInt8) (i : Int) (ns_1 : Int) (ts : List V) {β : Type} (k0 : (List V) → Option β) : Option β :=
  bif decide ((i : Int) < (w.length : Int)) then
    (bif decide (0 ≤ i) then (w[(i : Int).toNat]?).map fun b => V.int .u8 b.toNat else none).bind fun x5 =>
      bif ((IntKind.wrap .i64 (IntKind.wrap .u8 (x5.toInt - 97))) : Int) == ns_1 then
        bif (decide (0 ≤ i)) && (decide (i < (ts.length : Int))) then
          (ts[(i : Int).toNat]?).bind fun x6 =>
            (C F_starfree_cuts_with [.agg [.int .u64 ((x6.cell 0).toInt), .int .u64 ((x6.cell 1).toInt)], .int .i64 (IntKind.wrap .i64 (i + 1))] []).bind fun r7 =>
              bif (decide (0 ≤ i)) && (decide (i < (ts.length : Int))) then
                (ts[(i : Int).toNat]?).bind fun x8 =>
                  k0 (ts.set ((i : Int).toNat) (.agg [.int .u64 ((r7.1.cell 0).toInt), .int .u64 ((r7.1.cell 1).toInt)]))
              else none
        else none
      else
        k0 ts
  else
    k0 ts

theorem s_starfree_evaluate_7_eq (C : CallF) (tables : List V) (w : List UInt8) (i : Int) (t15 : Int) (t16 : Int) (t20 : Int) (t32 : Bool) (ns_0 : Int) (ns_1 : Int) (ns_2 : Int) (ns_3 : Int) (ts : List V) {β : Type} (K : Out → St → Option β) :
    execL Try.prog ann C 24 166 0 (codesAt Try.prog 24 [[1, 1, 0, 1, 0, 0, 1, 1, 0, 0, 1, 1, 0, 1, 1, 1, 0, 0], [1, 1, 0, 1, 0, 0, 1, 1, 0, 0, 1, 1, 0, 1, 1, 1, 0, 1]]) (mk [(1, .list T_starfree_table tables), (2, .str w), (3, .ptr 0 0 0), (7, .whole T_starfree_cuts 1), (8, .int .i64 i), (15, .int .i64 t15), (16, .int .i64 t16), (20, .int .i64 t20), (32, .bool t32)] [.var [.int .i64 ns_0, .int .i64 ns_1, .int .i64 ns_2, .int .i64 ns_3], .arr T_starfree_cuts ts false]) K =
      s_starfree_evaluate_7 C w i ns_1 ts
        (fun (ts0 : List V) => K .norm (mk [(1, .list T_starfree_table tables), (2, .str w), (3, .ptr 0 0 0), (7, .whole T_starfree_cuts 1), (15, .int .i64 t15), (16, .int .i64 t16)] [.var [.int .i64 ns_0, .int .i64 ns_1, .int .i64 ns_2, .int .i64 ns_3], .arr T_starfree_cuts ts0 false])) := by kernel_rfl

theorem s_starfree_evaluate_8d_eq (C : CallF) (tables : List V) (w : List UInt8) (i : Int) (t15 : Int) (t16 : Int) (t20 : Int) (t32 : Bool) (ns_0 : Int) (ns_1 : Int) (ns_2 : Int) (ns_3 : Int) (ts : List V) {β : Type} (K : Out → St → Option β) :
    execL Try.prog ann C 24 166 0 (codesAt Try.prog 24 [[1, 1, 0, 1, 0, 0, 1, 1, 0, 0, 1, 1, 0, 1, 1, 1, 1, 0]]) (mk [(1, .list T_starfree_table tables), (2, .str w), (3, .ptr 0 0 0), (7, .whole T_starfree_cuts 1), (8, .int .i64 i), (15, .int .i64 t15), (16, .int .i64 t16), (20, .int .i64 t20), (32, .bool t32)] [.var [.int .i64 ns_0, .int .i64 ns_1, .int .i64 ns_2, .int .i64 ns_3], .arr T_starfree_cuts ts false]) K =
      K .norm (mk [(1, .list T_starfree_table tables), (2, .str w), (3, .ptr 0 0 0), (7, .whole T_starfree_cuts 1), (8, .int .i64 i), (15, .int .i64 t15), (16, .int .i64 t16), (20, .int .i64 t20), (58, .bool ((t20 : Int) == 4))] [.var [.int .i64 ns_0, .int .i64 ns_1, .int .i64 ns_2, .int .i64 ns_3], .arr T_starfree_cuts ts false]) := by kernel_rfl

theorem s_starfree_evaluate_9d_eq (C : CallF) (tables : List V) (w : List UInt8) (i : Int) (t15 : Int) (t16 : Int) (t20 : Int) (t58 : Bool) (ns_0 : Int) (ns_1 : Int) (ns_2 : Int) (ns_3 : Int) (ts : List V) {β : Type} (K : Out → St → Option β) :
    execL Try.prog ann C 24 166 0 (codesAt Try.prog 24 [[1, 1, 0, 1, 0, 0, 1, 1, 0, 0, 1, 1, 0, 1, 1, 1, 1, 1, 0]]) (mk [(1, .list T_starfree_table tables), (2, .str w), (3, .ptr 0 0 0), (7, .whole T_starfree_cuts 1), (8, .int .i64 i), (15, .int .i64 t15), (16, .int .i64 t16), (20, .int .i64 t20), (58, .bool t58)] [.var [.int .i64 ns_0, .int .i64 ns_1, .int .i64 ns_2, .int .i64 ns_3], .arr T_starfree_cuts ts false]) K =
      (C F_starfree_between [.int .i64 i, .int .i64 (w.length : Int)] []).bind fun r9 =>
        bif (decide (0 ≤ i)) && (decide (i < (ts.length : Int))) then
          (ts[(i : Int).toNat]?).bind fun x10 =>
            K .norm (mk [(1, .list T_starfree_table tables), (2, .str w), (3, .ptr 0 0 0), (7, .whole T_starfree_cuts 1), (15, .int .i64 t15), (16, .int .i64 t16)] [.var [.int .i64 ns_0, .int .i64 ns_1, .int .i64 ns_2, .int .i64 ns_3], .arr T_starfree_cuts (ts.set ((i : Int).toNat) (.agg [.int .u64 ((r9.1.cell 0).toInt), .int .u64 ((r9.1.cell 1).toInt)])) false])
        else none := by kernel_rfl

theorem s_starfree_evaluate_10d_eq (C : CallF) (tables : List V) (w : List UInt8) (i : Int) (t15 : Int) (t16 : Int) (t20 : Int) (t58 : Bool) (ns_0 : Int) (ns_1 : Int) (ns_2 : Int) (ns_3 : Int) (ts : List V) {β : Type} (K : Out → St → Option β) :
    execL Try.prog ann C 24 166 0 (codesAt Try.prog 24 [[1, 1, 0, 1, 0, 0, 1, 1, 0, 0, 1, 1, 0, 1, 1, 1, 1, 1, 1, 0]]) (mk [(1, .list T_starfree_table tables), (2, .str w), (3, .ptr 0 0 0), (7, .whole T_starfree_cuts 1), (8, .int .i64 i), (15, .int .i64 t15), (16, .int .i64 t16), (20, .int .i64 t20), (58, .bool t58)] [.var [.int .i64 ns_0, .int .i64 ns_1, .int .i64 ns_2, .int .i64 ns_3], .arr T_starfree_cuts ts false]) K =
      K .norm (mk [(1, .list T_starfree_table tables), (2, .str w), (3, .ptr 0 0 0), (7, .whole T_starfree_cuts 1), (8, .int .i64 i), (15, .int .i64 t15), (16, .int .i64 t16), (20, .int .i64 t20), (67, .bool ((t20 : Int) == 5))] [.var [.int .i64 ns_0, .int .i64 ns_1, .int .i64 ns_2, .int .i64 ns_3], .arr T_starfree_cuts ts false]) := by kernel_rfl

theorem s_starfree_evaluate_11d_eq (C : CallF) (tables : List V) (w : List UInt8) (i : Int) (t15 : Int) (t16 : Int) (t20 : Int) (t67 : Bool) (ns_0 : Int) (ns_1 : Int) (ns_2 : Int) (ns_3 : Int) (ts : List V) {β : Type} (K : Out → St → Option β) :
    execL Try.prog ann C 24 166 0 (codesAt Try.prog 24 [[1, 1, 0, 1, 0, 0, 1, 1, 0, 0, 1, 1, 0, 1, 1, 1, 1, 1, 1, 1, 0]]) (mk [(1, .list T_starfree_table tables), (2, .str w), (3, .ptr 0 0 0), (7, .whole T_starfree_cuts 1), (8, .int .i64 i), (15, .int .i64 t15), (16, .int .i64 t16), (20, .int .i64 t20), (67, .bool t67)] [.var [.int .i64 ns_0, .int .i64 ns_1, .int .i64 ns_2, .int .i64 ns_3], .arr T_starfree_cuts ts false]) K =
      (idx tables ns_2).bind fun x11 =>
        (idx x11.toList i).bind fun x12 =>
          (idx tables ns_3).bind fun x13 =>
            (idx x13.toList i).bind fun x14 =>
              (C F_starfree_cuts_union [.agg [.int .u64 ((x12.cell 0).toInt), .int .u64 ((x12.cell 1).toInt)], .agg [.int .u64 ((x14.cell 0).toInt), .int .u64 ((x14.cell 1).toInt)]] []).bind fun r15 =>
                bif (decide (0 ≤ i)) && (decide (i < (ts.length : Int))) then
                  (ts[(i : Int).toNat]?).bind fun x16 =>
                    K .norm (mk [(1, .list T_starfree_table tables), (2, .str w), (3, .ptr 0 0 0), (7, .whole T_starfree_cuts 1), (15, .int .i64 t15), (16, .int .i64 t16)] [.var [.int .i64 ns_0, .int .i64 ns_1, .int .i64 ns_2, .int .i64 ns_3], .arr T_starfree_cuts (ts.set ((i : Int).toNat) (.agg [.int .u64 ((r15.1.cell 0).toInt), .int .u64 ((r15.1.cell 1).toInt)])) false])
                else none := by kernel_rfl

theorem s_starfree_evaluate_12d_eq (C : CallF) (tables : List V) (w : List UInt8) (i : Int) (t15 : Int) (t16 : Int) (t20 : Int) (t67 : Bool) (ns_0 : Int) (ns_1 : Int) (ns_2 : Int) (ns_3 : Int) (ts : List V) {β : Type} (K : Out → St → Option β) :
    execL Try.prog ann C 24 166 0 (codesAt Try.prog 24 [[1, 1, 0, 1, 0, 0, 1, 1, 0, 0, 1, 1, 0, 1, 1, 1, 1, 1, 1, 1, 1, 0]]) (mk [(1, .list T_starfree_table tables), (2, .str w), (3, .ptr 0 0 0), (7, .whole T_starfree_cuts 1), (8, .int .i64 i), (15, .int .i64 t15), (16, .int .i64 t16), (20, .int .i64 t20), (67, .bool t67)] [.var [.int .i64 ns_0, .int .i64 ns_1, .int .i64 ns_2, .int .i64 ns_3], .arr T_starfree_cuts ts false]) K =
      K .norm (mk [(1, .list T_starfree_table tables), (2, .str w), (3, .ptr 0 0 0), (7, .whole T_starfree_cuts 1), (8, .int .i64 i), (15, .int .i64 t15), (16, .int .i64 t16), (20, .int .i64 t20), (89, .bool ((t20 : Int) == 6))] [.var [.int .i64 ns_0, .int .i64 ns_1, .int .i64 ns_2, .int .i64 ns_3], .arr T_starfree_cuts ts false]) := by kernel_rfl

theorem s_starfree_evaluate_13d_eq (C : CallF) (tables : List V) (w : List UInt8) (i : Int) (t15 : Int) (t16 : Int) (t20 : Int) (t89 : Bool) (ns_0 : Int) (ns_1 : Int) (ns_2 : Int) (ns_3 : Int) (ts : List V) {β : Type} (K : Out → St → Option β) :
    execL Try.prog ann C 24 166 0 (codesAt Try.prog 24 [[1, 1, 0, 1, 0, 0, 1, 1, 0, 0, 1, 1, 0, 1, 1, 1, 1, 1, 1, 1, 1, 1, 0]]) (mk [(1, .list T_starfree_table tables), (2, .str w), (3, .ptr 0 0 0), (7, .whole T_starfree_cuts 1), (8, .int .i64 i), (15, .int .i64 t15), (16, .int .i64 t16), (20, .int .i64 t20), (89, .bool t89)] [.var [.int .i64 ns_0, .int .i64 ns_1, .int .i64 ns_2, .int .i64 ns_3], .arr T_starfree_cuts ts false]) K =
      (idx tables ns_2).bind fun x17 =>
        (idx x17.toList i).bind fun x18 =>
          (idx tables ns_3).bind fun x19 =>
            (idx x19.toList i).bind fun x20 =>
              (C F_starfree_cuts_meet [.agg [.int .u64 ((x18.cell 0).toInt), .int .u64 ((x18.cell 1).toInt)], .agg [.int .u64 ((x20.cell 0).toInt), .int .u64 ((x20.cell 1).toInt)]] []).bind fun r21 =>
                bif (decide (0 ≤ i)) && (decide (i < (ts.length : Int))) then
                  (ts[(i : Int).toNat]?).bind fun x22 =>
                    K .norm (mk [(1, .list T_starfree_table tables), (2, .str w), (3, .ptr 0 0 0), (7, .whole T_starfree_cuts 1), (15, .int .i64 t15), (16, .int .i64 t16)] [.var [.int .i64 ns_0, .int .i64 ns_1, .int .i64 ns_2, .int .i64 ns_3], .arr T_starfree_cuts (ts.set ((i : Int).toNat) (.agg [.int .u64 ((r21.1.cell 0).toInt), .int .u64 ((r21.1.cell 1).toInt)])) false])
                else none := by kernel_rfl

theorem s_starfree_evaluate_14d_eq (C : CallF) (tables : List V) (w : List UInt8) (i : Int) (t15 : Int) (t16 : Int) (t20 : Int) (t89 : Bool) (ns_0 : Int) (ns_1 : Int) (ns_2 : Int) (ns_3 : Int) (ts : List V) {β : Type} (K : Out → St → Option β) :
    execL Try.prog ann C 24 166 0 (codesAt Try.prog 24 [[1, 1, 0, 1, 0, 0, 1, 1, 0, 0, 1, 1, 0, 1, 1, 1, 1, 1, 1, 1, 1, 1, 1, 0]]) (mk [(1, .list T_starfree_table tables), (2, .str w), (3, .ptr 0 0 0), (7, .whole T_starfree_cuts 1), (8, .int .i64 i), (15, .int .i64 t15), (16, .int .i64 t16), (20, .int .i64 t20), (89, .bool t89)] [.var [.int .i64 ns_0, .int .i64 ns_1, .int .i64 ns_2, .int .i64 ns_3], .arr T_starfree_cuts ts false]) K =
      K .norm (mk [(1, .list T_starfree_table tables), (2, .str w), (3, .ptr 0 0 0), (7, .whole T_starfree_cuts 1), (8, .int .i64 i), (15, .int .i64 t15), (16, .int .i64 t16), (20, .int .i64 t20), (111, .bool ((t20 : Int) == 7))] [.var [.int .i64 ns_0, .int .i64 ns_1, .int .i64 ns_2, .int .i64 ns_3], .arr T_starfree_cuts ts false]) := by kernel_rfl

theorem s_starfree_evaluate_15d_eq (C : CallF) (tables : List V) (w : List UInt8) (i : Int) (t15 : Int) (t16 : Int) (t20 : Int) (t111 : Bool) (ns_0 : Int) (ns_1 : Int) (ns_2 : Int) (ns_3 : Int) (ts : List V) {β : Type} (K : Out → St → Option β) :
    execL Try.prog ann C 24 166 0 (codesAt Try.prog 24 [[1, 1, 0, 1, 0, 0, 1, 1, 0, 0, 1, 1, 0, 1, 1, 1, 1, 1, 1, 1, 1, 1, 1, 1, 0, 0]]) (mk [(1, .list T_starfree_table tables), (2, .str w), (3, .ptr 0 0 0), (7, .whole T_starfree_cuts 1), (8, .int .i64 i), (15, .int .i64 t15), (16, .int .i64 t16), (20, .int .i64 t20), (111, .bool t111)] [.var [.int .i64 ns_0, .int .i64 ns_1, .int .i64 ns_2, .int .i64 ns_3], .arr T_starfree_cuts ts false]) K =
      K .norm (mk [(1, .list T_starfree_table tables), (2, .str w), (3, .ptr 0 0 0), (7, .whole T_starfree_cuts 1), (8, .int .i64 i), (9, .int .i64 i), (15, .int .i64 t15), (16, .int .i64 t16)] [.var [.int .i64 ns_0, .int .i64 ns_1, .int .i64 ns_2, .int .i64 ns_3], .arr T_starfree_cuts ts false]) := by kernel_rfl

noncomputable def s_starfree_evaluate_16 (C : CallF) (tables : List V) (w : List UInt8) (i : Int) (j : Int) (ns_2 : Int) (ns_3 : Int) (ts : List V) {β : Type} (k0 : (List V) → Option β) (k1 : Option β) : Option β :=
  bif decide ((j : Int) ≤ (w.length : Int)) then
    (idx tables ns_2).bind fun x31 =>
      (idx x31.toList i).bind fun x32 =>
        (C F_starfree_cuts_has [.agg [.int .u64 ((x32.cell 0).toInt), .int .u64 ((x32.cell 1).toInt)], .int .i64 j] []).bind fun r33 =>
          bif r33.1.toBool then
            bif (decide (0 ≤ i)) && (decide (i < (ts.length : Int))) then
              (ts[(i : Int).toNat]?).bind fun x34 =>
                (idx tables ns_3).bind fun x35 =>
                  (idx x35.toList j).bind fun x36 =>
                    (C F_starfree_cuts_union [.agg [.int .u64 ((x34.cell 0).toInt), .int .u64 ((x34.cell 1).toInt)], .agg [.int .u64 ((x36.cell 0).toInt), .int .u64 ((x36.cell 1).toInt)]] []).bind fun r37 =>
                      bif (decide (0 ≤ i)) && (decide (i < (ts.length : Int))) then
                        (ts[(i : Int).toNat]?).bind fun x38 =>
                          k0 (ts.set ((i : Int).toNat) (.agg [.int .u64 ((r37.1.cell 0).toInt), .int .u64 ((r37.1.cell 1).toInt)]))
                      else none
            else none
          else
            k0 ts
  else
    k1

theorem s_starfree_evaluate_16_eq (C : CallF) (tables : List V) (w : List UInt8) (i : Int) (j : Int) (t15 : Int) (t16 : Int) (ns_0 : Int) (ns_1 : Int) (ns_2 : Int) (ns_3 : Int) (ts : List V) {β : Type} (K : Out → St → Option β) :
    execL Try.prog ann C 24 166 0 (codesAt Try.prog 24 [[1, 1, 0, 1, 0, 0, 1, 1, 0, 0, 1, 1, 0, 1, 1, 1, 1, 1, 1, 1, 1, 1, 1, 1, 0, 1, 0, 0, 0, 0], [1, 1, 0, 1, 0, 0, 1, 1, 0, 0, 1, 1, 0, 1, 1, 1, 1, 1, 1, 1, 1, 1, 1, 1, 0, 1, 0, 0, 0, 1], [1, 1, 0, 1, 0, 0, 1, 1, 0, 0, 1, 1, 0, 1, 1, 1, 1, 1, 1, 1, 1, 1, 1, 1, 0, 1, 0, 0, 1, 0], [1, 1, 0, 1, 0, 0, 1, 1, 0, 0, 1, 1, 0, 1, 1, 1, 1, 1, 1, 1, 1, 1, 1, 1, 0, 1, 0, 0, 1, 1]]) (mk [(1, .list T_starfree_table tables), (2, .str w), (3, .ptr 0 0 0), (7, .whole T_starfree_cuts 1), (8, .int .i64 i), (9, .int .i64 j), (15, .int .i64 t15), (16, .int .i64 t16)] [.var [.int .i64 ns_0, .int .i64 ns_1, .int .i64 ns_2, .int .i64 ns_3], .arr T_starfree_cuts ts false]) K =
      s_starfree_evaluate_16 C tables w i j ns_2 ns_3 ts
        (fun (ts0 : List V) => K .norm (mk [(1, .list T_starfree_table tables), (2, .str w), (3, .ptr 0 0 0), (7, .whole T_starfree_cuts 1), (8, .int .i64 i), (9, .int .i64 (IntKind.wrap .i64 (j + 1))), (15, .int .i64 t15), (16, .int .i64 t16)] [.var [.int .i64 ns_0, .int .i64 ns_1, .int .i64 ns_2, .int .i64 ns_3], .arr T_starfree_cuts ts0 false]))
        (K (.exit 3) (mk [(1, .list T_starfree_table tables), (2, .str w), (3, .ptr 0 0 0), (7, .whole T_starfree_cuts 1), (8, .int .i64 i), (9, .int .i64 j), (15, .int .i64 t15), (16, .int .i64 t16), (117, .bool (decide ((j : Int) ≤ (w.length : Int))))] [.var [.int .i64 ns_0, .int .i64 ns_1, .int .i64 ns_2, .int .i64 ns_3], .arr T_starfree_cuts ts false])) := by kernel_rfl

noncomputable def s_starfree_evaluate_17L_step (C : CallF) (tables : List V) (w : List UInt8) (i : Int) (ns_2 : Int) (ns_3 : Int) : (Int × (List V)) → Option ((Int × (List V)) ⊕ ((Int × Bool × (List V)))) := fun (j, ts) =>
  s_starfree_evaluate_16 C tables w i j ns_2 ns_3 ts
    (fun (ts_39 : List V) =>
      some (.inl (IntKind.wrap .i64 (j + 1), ts_39)))
    (
      some (.inr (j, decide ((j : Int) ≤ (w.length : Int)), ts)))

noncomputable def s_starfree_evaluate_17L (C : CallF) (tables : List V) (w : List UInt8) (i : Int) (j : Int) (ns_2 : Int) (ns_3 : Int) (ts : List V) {β : Type} (k0 : Int → Bool → (List V) → Option β) : Option β :=
  (Loop (s_starfree_evaluate_17L_step C tables w i ns_2 ns_3) (j, ts)).bind fun (j0, t1170, ts0) => k0 j0 t1170 ts0

def s_starfree_evaluate_17L_dec : Out → St → Option ((Int × (List V)) ⊕ ((Int × Bool × (List V)))) := fun o st => match o with
    | .norm => some (.inl (V.toInt (st.sl 9), arrOf (st.hp 1)))
    | .exit q => bif Nat.beq q 3 then some (.inr (V.toInt (st.sl 9), V.toBool (st.sl 117), arrOf (st.hp 1))) else none
    | .ret => none

def s_starfree_evaluate_17L_hd (tables : List V) (w : List UInt8) (i : Int) (t15 : Int) (t16 : Int) (ns_0 : Int) (ns_1 : Int) (ns_2 : Int) (ns_3 : Int) : (Int × (List V)) → St := fun (j, ts) => mk [(1, .list T_starfree_table tables), (2, .str w), (3, .ptr 0 0 0), (7, .whole T_starfree_cuts 1), (8, .int .i64 i), (9, .int .i64 j), (15, .int .i64 t15), (16, .int .i64 t16)] [.var [.int .i64 ns_0, .int .i64 ns_1, .int .i64 ns_2, .int .i64 ns_3], .arr T_starfree_cuts ts false]

def s_starfree_evaluate_17L_enc (tables : List V) (w : List UInt8) (i : Int) (t15 : Int) (t16 : Int) (ns_0 : Int) (ns_1 : Int) (ns_2 : Int) (ns_3 : Int) : ((Int × Bool × (List V))) → Out × St := fun (j0, t1170, ts0) => (.exit 3, mk [(1, .list T_starfree_table tables), (2, .str w), (3, .ptr 0 0 0), (7, .whole T_starfree_cuts 1), (8, .int .i64 i), (9, .int .i64 j0), (15, .int .i64 t15), (16, .int .i64 t16), (117, .bool t1170)] [.var [.int .i64 ns_0, .int .i64 ns_1, .int .i64 ns_2, .int .i64 ns_3], .arr T_starfree_cuts ts0 false])

theorem s_starfree_evaluate_17L_eq (C : CallF) (tables : List V) (w : List UInt8) (i : Int) (j : Int) (t15 : Int) (t16 : Int) (ns_0 : Int) (ns_1 : Int) (ns_2 : Int) (ns_3 : Int) (ts : List V) {β : Type} (K : Out → St → Option β) :
    execL Try.prog ann C 24 166 0 (codesAt Try.prog 24 [[1, 1, 0, 1, 0, 0, 1, 1, 0, 0, 1, 1, 0, 1, 1, 1, 1, 1, 1, 1, 1, 1, 1, 1, 0, 1, 0]]) (mk [(1, .list T_starfree_table tables), (2, .str w), (3, .ptr 0 0 0), (7, .whole T_starfree_cuts 1), (8, .int .i64 i), (9, .int .i64 j), (15, .int .i64 t15), (16, .int .i64 t16)] [.var [.int .i64 ns_0, .int .i64 ns_1, .int .i64 ns_2, .int .i64 ns_3], .arr T_starfree_cuts ts false]) K =
      s_starfree_evaluate_17L C tables w i j ns_2 ns_3 ts
        (fun (j0 : Int) (t1170 : Bool) (ts0 : List V) => K (.exit 3) (mk [(1, .list T_starfree_table tables), (2, .str w), (3, .ptr 0 0 0), (7, .whole T_starfree_cuts 1), (8, .int .i64 i), (9, .int .i64 j0), (15, .int .i64 t15), (16, .int .i64 t16), (117, .bool t1170)] [.var [.int .i64 ns_0, .int .i64 ns_1, .int .i64 ns_2, .int .i64 ns_3], .arr T_starfree_cuts ts0 false])) := by
  have hitems : flatC (codeAt [1, 1, 0, 1, 0, 0, 1, 1, 0, 0, 1, 1, 0, 1, 1, 1, 1, 1, 1, 1, 1, 1, 1, 1, 0, 1, 0, 0] (bodyOf Try.prog 24)) = codesAt Try.prog 24 [[1, 1, 0, 1, 0, 0, 1, 1, 0, 0, 1, 1, 0, 1, 1, 1, 1, 1, 1, 1, 1, 1, 1, 1, 0, 1, 0, 0, 0, 0], [1, 1, 0, 1, 0, 0, 1, 1, 0, 0, 1, 1, 0, 1, 1, 1, 1, 1, 1, 1, 1, 1, 1, 1, 0, 1, 0, 0, 0, 1], [1, 1, 0, 1, 0, 0, 1, 1, 0, 0, 1, 1, 0, 1, 1, 1, 1, 1, 1, 1, 1, 1, 1, 1, 0, 1, 0, 0, 1, 0], [1, 1, 0, 1, 0, 0, 1, 1, 0, 0, 1, 1, 0, 1, 1, 1, 1, 1, 1, 1, 1, 1, 1, 1, 0, 1, 0, 0, 1, 1]] := by kernel_rfl
  have hloop : [codeAt [1, 1, 0, 1, 0, 0, 1, 1, 0, 0, 1, 1, 0, 1, 1, 1, 1, 1, 1, 1, 1, 1, 1, 1, 0, 1, 0] (bodyOf Try.prog 24)] = [Code.loop (codeAt [1, 1, 0, 1, 0, 0, 1, 1, 0, 0, 1, 1, 0, 1, 1, 1, 1, 1, 1, 1, 1, 1, 1, 1, 0, 1, 0, 0] (bodyOf Try.prog 24))] := by kernel_rfl
  have h := loopK_eq (P := Try.prog) (A := ann) (C := C) (f := 24) (n := 166) (m := 0) (c := codeAt [1, 1, 0, 1, 0, 0, 1, 1, 0, 0, 1, 1, 0, 1, 1, 1, 1, 1, 1, 1, 1, 1, 1, 1, 0, 1, 0, 0] (bodyOf Try.prog 24)) (s_starfree_evaluate_17L_hd tables w i t15 t16 ns_0 ns_1 ns_2 ns_3) (s_starfree_evaluate_17L_enc tables w i t15 t16 ns_0 ns_1 ns_2 ns_3) s_starfree_evaluate_17L_dec (s_starfree_evaluate_17L_step C tables w i ns_2 ns_3)
    (by rintro ⟨j, ts⟩; exact Eq.trans (execK_items hitems) (Eq.trans (s_starfree_evaluate_16_eq C tables w i j t15 t16 ns_0 ns_1 ns_2 ns_3 ts s_starfree_evaluate_17L_dec) (by kernel_rfl)))
    (by rintro ⟨j, ts⟩; exact Eq.trans (execK_items hitems) (Eq.trans (s_starfree_evaluate_16_eq C tables w i j t15 t16 ns_0 ns_1 ns_2 ns_3 ts (fun o st => some (o, st))) (Eq.trans (by kernel_rfl) (Eq.trans (s_starfree_evaluate_16_eq C tables w i j t15 t16 ns_0 ns_1 ns_2 ns_3 ts (fun o st => (s_starfree_evaluate_17L_dec o st).map (outS (s_starfree_evaluate_17L_hd tables w i t15 t16 ns_0 ns_1 ns_2 ns_3) (s_starfree_evaluate_17L_enc tables w i t15 t16 ns_0 ns_1 ns_2 ns_3)))).symm (execK_items hitems).symm))))
    (by intro r; intro h; cases h) (j, ts) K
  refine Eq.trans (congrArg (fun l => execL Try.prog ann C 24 166 0 l (mk [(1, .list T_starfree_table tables), (2, .str w), (3, .ptr 0 0 0), (7, .whole T_starfree_cuts 1), (8, .int .i64 i), (9, .int .i64 j), (15, .int .i64 t15), (16, .int .i64 t16)] [.var [.int .i64 ns_0, .int .i64 ns_1, .int .i64 ns_2, .int .i64 ns_3], .arr T_starfree_cuts ts false]) K) hloop) (Eq.trans h ?_)
  · refine congrArg _ (funext fun r => ?_)
    rfl

theorem s_starfree_evaluate_18b_eq (C : CallF) (tables : List V) (w : List UInt8) (i : Int) (j : Int) (t15 : Int) (t16 : Int) (ns_0 : Int) (ns_1 : Int) (ns_2 : Int) (ns_3 : Int) (ts : List V) {β : Type} (K : Out → St → Option β) :
    execL Try.prog ann C 24 166 0 (codesAt Try.prog 24 [[1, 1, 0, 1, 0, 0, 1, 1, 0, 0, 1, 1, 0, 1, 1, 1, 1, 1, 1, 1, 1, 1, 1, 1, 0, 1]]) (mk [(1, .list T_starfree_table tables), (2, .str w), (3, .ptr 0 0 0), (7, .whole T_starfree_cuts 1), (8, .int .i64 i), (9, .int .i64 j), (15, .int .i64 t15), (16, .int .i64 t16)] [.var [.int .i64 ns_0, .int .i64 ns_1, .int .i64 ns_2, .int .i64 ns_3], .arr T_starfree_cuts ts false]) K =
      s_starfree_evaluate_17L C tables w i j ns_2 ns_3 ts
        (fun (j_40 : Int) (t_41 : Bool) (ts_42 : List V) =>
          K .norm (mk [(1, .list T_starfree_table tables), (2, .str w), (3, .ptr 0 0 0), (7, .whole T_starfree_cuts 1), (15, .int .i64 t15), (16, .int .i64 t16)] [.var [.int .i64 ns_0, .int .i64 ns_1, .int .i64 ns_2, .int .i64 ns_3], .arr T_starfree_cuts ts_42 false])) := Eq.trans (execL_block (P := Try.prog) (A := ann) (C := C) (f := 24) (n := 166) (m := 0) (id := 3) (c := codeAt [1, 1, 0, 1, 0, 0, 1, 1, 0, 0, 1, 1, 0, 1, 1, 1, 1, 1, 1, 1, 1, 1, 1, 1, 0, 1] (bodyOf Try.prog 24)) (d := codeAt [1, 1, 0, 1, 0, 0, 1, 1, 0, 0, 1, 1, 0, 1, 1, 1, 1, 1, 1, 1, 1, 1, 1, 1, 0, 1, 0] (bodyOf Try.prog 24)) (l := codesAt Try.prog 24 [[1, 1, 0, 1, 0, 0, 1, 1, 0, 0, 1, 1, 0, 1, 1, 1, 1, 1, 1, 1, 1, 1, 1, 1, 0, 1, 0]]) (st := mk [(1, .list T_starfree_table tables), (2, .str w), (3, .ptr 0 0 0), (7, .whole T_starfree_cuts 1), (8, .int .i64 i), (9, .int .i64 j), (15, .int .i64 t15), (16, .int .i64 t16)] [.var [.int .i64 ns_0, .int .i64 ns_1, .int .i64 ns_2, .int .i64 ns_3], .arr T_starfree_cuts ts false]) (K := K) (by kernel_rfl) (by kernel_rfl)) (Eq.trans (s_starfree_evaluate_17L_eq C tables w i j t15 t16 ns_0 ns_1 ns_2 ns_3 ts (blockK ann 24 0 3 K)) (by kernel_rfl))

theorem s_starfree_evaluate_19c_eq (C : CallF) (tables : List V) (w : List UInt8) (i : Int) (t15 : Int) (t16 : Int) (t20 : Int) (t111 : Bool) (ns_0 : Int) (ns_1 : Int) (ns_2 : Int) (ns_3 : Int) (ts : List V) {β : Type} (K : Out → St → Option β) :
    execL Try.prog ann C 24 166 0 (codesAt Try.prog 24 [[1, 1, 0, 1, 0, 0, 1, 1, 0, 0, 1, 1, 0, 1, 1, 1, 1, 1, 1, 1, 1, 1, 1, 1, 0, 0], [1, 1, 0, 1, 0, 0, 1, 1, 0, 0, 1, 1, 0, 1, 1, 1, 1, 1, 1, 1, 1, 1, 1, 1, 0, 1]]) (mk [(1, .list T_starfree_table tables), (2, .str w), (3, .ptr 0 0 0), (7, .whole T_starfree_cuts 1), (8, .int .i64 i), (15, .int .i64 t15), (16, .int .i64 t16), (20, .int .i64 t20), (111, .bool t111)] [.var [.int .i64 ns_0, .int .i64 ns_1, .int .i64 ns_2, .int .i64 ns_3], .arr T_starfree_cuts ts false]) K =
      s_starfree_evaluate_17L C tables w i i ns_2 ns_3 ts
        (fun (j_40 : Int) (t_41 : Bool) (ts_42 : List V) =>
          K .norm (mk [(1, .list T_starfree_table tables), (2, .str w), (3, .ptr 0 0 0), (7, .whole T_starfree_cuts 1), (15, .int .i64 t15), (16, .int .i64 t16)] [.var [.int .i64 ns_0, .int .i64 ns_1, .int .i64 ns_2, .int .i64 ns_3], .arr T_starfree_cuts ts_42 false])) := by
  refine Eq.trans (execL_app (P := Try.prog) (A := ann) (C := C) (f := 24) (n := 166) (m := 0) (codesAt Try.prog 24 [[1, 1, 0, 1, 0, 0, 1, 1, 0, 0, 1, 1, 0, 1, 1, 1, 1, 1, 1, 1, 1, 1, 1, 1, 0, 0]]) (codesAt Try.prog 24 [[1, 1, 0, 1, 0, 0, 1, 1, 0, 0, 1, 1, 0, 1, 1, 1, 1, 1, 1, 1, 1, 1, 1, 1, 0, 1]]) (st := mk [(1, .list T_starfree_table tables), (2, .str w), (3, .ptr 0 0 0), (7, .whole T_starfree_cuts 1), (8, .int .i64 i), (15, .int .i64 t15), (16, .int .i64 t16), (20, .int .i64 t20), (111, .bool t111)] [.var [.int .i64 ns_0, .int .i64 ns_1, .int .i64 ns_2, .int .i64 ns_3], .arr T_starfree_cuts ts false]) (K := K)) (Eq.trans (s_starfree_evaluate_15d_eq C tables w i t15 t16 t20 t111 ns_0 ns_1 ns_2 ns_3 ts (seqK Try.prog ann C 24 166 0 (codesAt Try.prog 24 [[1, 1, 0, 1, 0, 0, 1, 1, 0, 0, 1, 1, 0, 1, 1, 1, 1, 1, 1, 1, 1, 1, 1, 1, 0, 1]]) K)) ?_)
  · exact Eq.trans (by kernel_rfl) (Eq.trans (congrArg (fun HOLE : Option β => (HOLE)) (s_starfree_evaluate_18b_eq C tables w i i t15 t16 ns_0 ns_1 ns_2 ns_3 ts K)) ((by kernel_rfl)))


noncomputable def s_starfree_evaluate_20 (C : CallF) (tables : List V) (w : List UInt8) (i : Int) (t20 : Int) (ns_2 : Int) (ts : List V) {β : Type} (k0 : (List V) → Option β) : Option β :=
  bif (t20 : Int) == 8 then
    (C F_starfree_between [.int .i64 i, .int .i64 (w.length : Int)] []).bind fun r43 =>
      (idx tables ns_2).bind fun x44 =>
        (idx x44.toList i).bind fun x45 =>
          (C F_starfree_cuts_without [.agg [.int .u64 ((r43.1.cell 0).toInt), .int .u64 ((r43.1.cell 1).toInt)], .agg [.int .u64 ((x45.cell 0).toInt), .int .u64 ((x45.cell 1).toInt)]] []).bind fun r46 =>
            bif (decide (0 ≤ i)) && (decide (i < (ts.length : Int))) then
              (ts[(i : Int).toNat]?).bind fun x47 =>
                k0 (ts.set ((i : Int).toNat) (.agg [.int .u64 ((r46.1.cell 0).toInt), .int .u64 ((r46.1.cell 1).toInt)]))
            else none
  else
    k0 ts

theorem s_starfree_evaluate_20_eq (C : CallF) (tables : List V) (w : List UInt8) (i : Int) (t15 : Int) (t16 : Int) (t20 : Int) (t111 : Bool) (ns_0 : Int) (ns_1 : Int) (ns_2 : Int) (ns_3 : Int) (ts : List V) {β : Type} (K : Out → St → Option β) :
    execL Try.prog ann C 24 166 0 (codesAt Try.prog 24 [[1, 1, 0, 1, 0, 0, 1, 1, 0, 0, 1, 1, 0, 1, 1, 1, 1, 1, 1, 1, 1, 1, 1, 1, 1, 0], [1, 1, 0, 1, 0, 0, 1, 1, 0, 0, 1, 1, 0, 1, 1, 1, 1, 1, 1, 1, 1, 1, 1, 1, 1, 1]]) (mk [(1, .list T_starfree_table tables), (2, .str w), (3, .ptr 0 0 0), (7, .whole T_starfree_cuts 1), (8, .int .i64 i), (15, .int .i64 t15), (16, .int .i64 t16), (20, .int .i64 t20), (111, .bool t111)] [.var [.int .i64 ns_0, .int .i64 ns_1, .int .i64 ns_2, .int .i64 ns_3], .arr T_starfree_cuts ts false]) K =
      s_starfree_evaluate_20 C tables w i t20 ns_2 ts
        (fun (ts0 : List V) => K .norm (mk [(1, .list T_starfree_table tables), (2, .str w), (3, .ptr 0 0 0), (7, .whole T_starfree_cuts 1), (15, .int .i64 t15), (16, .int .i64 t16)] [.var [.int .i64 ns_0, .int .i64 ns_1, .int .i64 ns_2, .int .i64 ns_3], .arr T_starfree_cuts ts0 false])) := by kernel_rfl

theorem s_starfree_evaluate_21i_eq (C : CallF) (tables : List V) (w : List UInt8) (i : Int) (t15 : Int) (t16 : Int) (t20 : Int) (t111 : Bool) (ns_0 : Int) (ns_1 : Int) (ns_2 : Int) (ns_3 : Int) (ts : List V) {β : Type} (K : Out → St → Option β) :
    execL Try.prog ann C 24 166 0 (codesAt Try.prog 24 [[1, 1, 0, 1, 0, 0, 1, 1, 0, 0, 1, 1, 0, 1, 1, 1, 1, 1, 1, 1, 1, 1, 1, 1]]) (mk [(1, .list T_starfree_table tables), (2, .str w), (3, .ptr 0 0 0), (7, .whole T_starfree_cuts 1), (8, .int .i64 i), (15, .int .i64 t15), (16, .int .i64 t16), (20, .int .i64 t20), (111, .bool t111)] [.var [.int .i64 ns_0, .int .i64 ns_1, .int .i64 ns_2, .int .i64 ns_3], .arr T_starfree_cuts ts false]) K =
      bif t111 then
        s_starfree_evaluate_17L C tables w i i ns_2 ns_3 ts
          (fun (j_40 : Int) (t_41 : Bool) (ts_42 : List V) =>
            K .norm (mk [(1, .list T_starfree_table tables), (2, .str w), (3, .ptr 0 0 0), (7, .whole T_starfree_cuts 1), (15, .int .i64 t15), (16, .int .i64 t16)] [.var [.int .i64 ns_0, .int .i64 ns_1, .int .i64 ns_2, .int .i64 ns_3], .arr T_starfree_cuts ts_42 false]))
      else
        s_starfree_evaluate_20 C tables w i t20 ns_2 ts
          (fun (ts_48 : List V) =>
            K .norm (mk [(1, .list T_starfree_table tables), (2, .str w), (3, .ptr 0 0 0), (7, .whole T_starfree_cuts 1), (15, .int .i64 t15), (16, .int .i64 t16)] [.var [.int .i64 ns_0, .int .i64 ns_1, .int .i64 ns_2, .int .i64 ns_3], .arr T_starfree_cuts ts_48 false])) := by
  cases t111 with
  | true => exact Eq.trans (execL_true (P := Try.prog) (A := ann) (C := C) (f := 24) (n := 166) (m := 0) (t := 111) (c := codeAt [1, 1, 0, 1, 0, 0, 1, 1, 0, 0, 1, 1, 0, 1, 1, 1, 1, 1, 1, 1, 1, 1, 1, 1] (bodyOf Try.prog 24)) (x := codeAt [1, 1, 0, 1, 0, 0, 1, 1, 0, 0, 1, 1, 0, 1, 1, 1, 1, 1, 1, 1, 1, 1, 1, 1, 0] (bodyOf Try.prog 24)) (y := codeAt [1, 1, 0, 1, 0, 0, 1, 1, 0, 0, 1, 1, 0, 1, 1, 1, 1, 1, 1, 1, 1, 1, 1, 1, 1] (bodyOf Try.prog 24)) (l := codesAt Try.prog 24 [[1, 1, 0, 1, 0, 0, 1, 1, 0, 0, 1, 1, 0, 1, 1, 1, 1, 1, 1, 1, 1, 1, 1, 1, 0, 0], [1, 1, 0, 1, 0, 0, 1, 1, 0, 0, 1, 1, 0, 1, 1, 1, 1, 1, 1, 1, 1, 1, 1, 1, 0, 1]]) (st := mk [(1, .list T_starfree_table tables), (2, .str w), (3, .ptr 0 0 0), (7, .whole T_starfree_cuts 1), (8, .int .i64 i), (15, .int .i64 t15), (16, .int .i64 t16), (20, .int .i64 t20), (111, .bool true)] [.var [.int .i64 ns_0, .int .i64 ns_1, .int .i64 ns_2, .int .i64 ns_3], .arr T_starfree_cuts ts false]) (K := K) (by kernel_rfl) (by kernel_rfl) (by kernel_rfl)) (Eq.trans (s_starfree_evaluate_19c_eq C tables w i t15 t16 t20 true ns_0 ns_1 ns_2 ns_3 ts (joinK ann 24 0 111 K)) (by kernel_rfl))
  | false => exact Eq.trans (execL_false (P := Try.prog) (A := ann) (C := C) (f := 24) (n := 166) (m := 0) (t := 111) (c := codeAt [1, 1, 0, 1, 0, 0, 1, 1, 0, 0, 1, 1, 0, 1, 1, 1, 1, 1, 1, 1, 1, 1, 1, 1] (bodyOf Try.prog 24)) (x := codeAt [1, 1, 0, 1, 0, 0, 1, 1, 0, 0, 1, 1, 0, 1, 1, 1, 1, 1, 1, 1, 1, 1, 1, 1, 0] (bodyOf Try.prog 24)) (y := codeAt [1, 1, 0, 1, 0, 0, 1, 1, 0, 0, 1, 1, 0, 1, 1, 1, 1, 1, 1, 1, 1, 1, 1, 1, 1] (bodyOf Try.prog 24)) (l := codesAt Try.prog 24 [[1, 1, 0, 1, 0, 0, 1, 1, 0, 0, 1, 1, 0, 1, 1, 1, 1, 1, 1, 1, 1, 1, 1, 1, 1, 0], [1, 1, 0, 1, 0, 0, 1, 1, 0, 0, 1, 1, 0, 1, 1, 1, 1, 1, 1, 1, 1, 1, 1, 1, 1, 1]]) (st := mk [(1, .list T_starfree_table tables), (2, .str w), (3, .ptr 0 0 0), (7, .whole T_starfree_cuts 1), (8, .int .i64 i), (15, .int .i64 t15), (16, .int .i64 t16), (20, .int .i64 t20), (111, .bool false)] [.var [.int .i64 ns_0, .int .i64 ns_1, .int .i64 ns_2, .int .i64 ns_3], .arr T_starfree_cuts ts false]) (K := K) (by kernel_rfl) (by kernel_rfl) (by kernel_rfl)) (Eq.trans (s_starfree_evaluate_20_eq C tables w i t15 t16 t20 false ns_0 ns_1 ns_2 ns_3 ts (joinK ann 24 0 111 K)) (by kernel_rfl))

theorem s_starfree_evaluate_22c_eq (C : CallF) (tables : List V) (w : List UInt8) (i : Int) (t15 : Int) (t16 : Int) (t20 : Int) (t89 : Bool) (ns_0 : Int) (ns_1 : Int) (ns_2 : Int) (ns_3 : Int) (ts : List V) {β : Type} (K : Out → St → Option β) :
    execL Try.prog ann C 24 166 0 (codesAt Try.prog 24 [[1, 1, 0, 1, 0, 0, 1, 1, 0, 0, 1, 1, 0, 1, 1, 1, 1, 1, 1, 1, 1, 1, 1, 0], [1, 1, 0, 1, 0, 0, 1, 1, 0, 0, 1, 1, 0, 1, 1, 1, 1, 1, 1, 1, 1, 1, 1, 1]]) (mk [(1, .list T_starfree_table tables), (2, .str w), (3, .ptr 0 0 0), (7, .whole T_starfree_cuts 1), (8, .int .i64 i), (15, .int .i64 t15), (16, .int .i64 t16), (20, .int .i64 t20), (89, .bool t89)] [.var [.int .i64 ns_0, .int .i64 ns_1, .int .i64 ns_2, .int .i64 ns_3], .arr T_starfree_cuts ts false]) K =
      bif ((t20 : Int) == 7) then
        s_starfree_evaluate_17L C tables w i i ns_2 ns_3 ts
          (fun (j_40 : Int) (t_41 : Bool) (ts_42 : List V) =>
            K .norm (mk [(1, .list T_starfree_table tables), (2, .str w), (3, .ptr 0 0 0), (7, .whole T_starfree_cuts 1), (15, .int .i64 t15), (16, .int .i64 t16)] [.var [.int .i64 ns_0, .int .i64 ns_1, .int .i64 ns_2, .int .i64 ns_3], .arr T_starfree_cuts ts_42 false]))
      else
        s_starfree_evaluate_20 C tables w i t20 ns_2 ts
          (fun (ts_48 : List V) =>
            K .norm (mk [(1, .list T_starfree_table tables), (2, .str w), (3, .ptr 0 0 0), (7, .whole T_starfree_cuts 1), (15, .int .i64 t15), (16, .int .i64 t16)] [.var [.int .i64 ns_0, .int .i64 ns_1, .int .i64 ns_2, .int .i64 ns_3], .arr T_starfree_cuts ts_48 false])) := by
  refine Eq.trans (execL_app (P := Try.prog) (A := ann) (C := C) (f := 24) (n := 166) (m := 0) (codesAt Try.prog 24 [[1, 1, 0, 1, 0, 0, 1, 1, 0, 0, 1, 1, 0, 1, 1, 1, 1, 1, 1, 1, 1, 1, 1, 0]]) (codesAt Try.prog 24 [[1, 1, 0, 1, 0, 0, 1, 1, 0, 0, 1, 1, 0, 1, 1, 1, 1, 1, 1, 1, 1, 1, 1, 1]]) (st := mk [(1, .list T_starfree_table tables), (2, .str w), (3, .ptr 0 0 0), (7, .whole T_starfree_cuts 1), (8, .int .i64 i), (15, .int .i64 t15), (16, .int .i64 t16), (20, .int .i64 t20), (89, .bool t89)] [.var [.int .i64 ns_0, .int .i64 ns_1, .int .i64 ns_2, .int .i64 ns_3], .arr T_starfree_cuts ts false]) (K := K)) (Eq.trans (s_starfree_evaluate_14d_eq C tables w i t15 t16 t20 t89 ns_0 ns_1 ns_2 ns_3 ts (seqK Try.prog ann C 24 166 0 (codesAt Try.prog 24 [[1, 1, 0, 1, 0, 0, 1, 1, 0, 0, 1, 1, 0, 1, 1, 1, 1, 1, 1, 1, 1, 1, 1, 1]]) K)) ?_)
  · exact Eq.trans (by kernel_rfl) (Eq.trans (congrArg (fun HOLE : Option β => (HOLE)) (s_starfree_evaluate_21i_eq C tables w i t15 t16 t20 ((t20 : Int) == 7) ns_0 ns_1 ns_2 ns_3 ts K)) ((by kernel_rfl)))


theorem s_starfree_evaluate_23i_eq (C : CallF) (tables : List V) (w : List UInt8) (i : Int) (t15 : Int) (t16 : Int) (t20 : Int) (t89 : Bool) (ns_0 : Int) (ns_1 : Int) (ns_2 : Int) (ns_3 : Int) (ts : List V) {β : Type} (K : Out → St → Option β) :
    execL Try.prog ann C 24 166 0 (codesAt Try.prog 24 [[1, 1, 0, 1, 0, 0, 1, 1, 0, 0, 1, 1, 0, 1, 1, 1, 1, 1, 1, 1, 1, 1]]) (mk [(1, .list T_starfree_table tables), (2, .str w), (3, .ptr 0 0 0), (7, .whole T_starfree_cuts 1), (8, .int .i64 i), (15, .int .i64 t15), (16, .int .i64 t16), (20, .int .i64 t20), (89, .bool t89)] [.var [.int .i64 ns_0, .int .i64 ns_1, .int .i64 ns_2, .int .i64 ns_3], .arr T_starfree_cuts ts false]) K =
      bif t89 then
        (idx tables ns_2).bind fun x17 =>
          (idx x17.toList i).bind fun x18 =>
            (idx tables ns_3).bind fun x19 =>
              (idx x19.toList i).bind fun x20 =>
                (C F_starfree_cuts_meet [.agg [.int .u64 ((x18.cell 0).toInt), .int .u64 ((x18.cell 1).toInt)], .agg [.int .u64 ((x20.cell 0).toInt), .int .u64 ((x20.cell 1).toInt)]] []).bind fun r21 =>
                  bif (decide (0 ≤ i)) && (decide (i < (ts.length : Int))) then
                    (ts[(i : Int).toNat]?).bind fun x22 =>
                      K .norm (mk [(1, .list T_starfree_table tables), (2, .str w), (3, .ptr 0 0 0), (7, .whole T_starfree_cuts 1), (15, .int .i64 t15), (16, .int .i64 t16)] [.var [.int .i64 ns_0, .int .i64 ns_1, .int .i64 ns_2, .int .i64 ns_3], .arr T_starfree_cuts (ts.set ((i : Int).toNat) (.agg [.int .u64 ((r21.1.cell 0).toInt), .int .u64 ((r21.1.cell 1).toInt)])) false])
                  else none
      else
        bif ((t20 : Int) == 7) then
          s_starfree_evaluate_17L C tables w i i ns_2 ns_3 ts
            (fun (j_40 : Int) (t_41 : Bool) (ts_42 : List V) =>
              K .norm (mk [(1, .list T_starfree_table tables), (2, .str w), (3, .ptr 0 0 0), (7, .whole T_starfree_cuts 1), (15, .int .i64 t15), (16, .int .i64 t16)] [.var [.int .i64 ns_0, .int .i64 ns_1, .int .i64 ns_2, .int .i64 ns_3], .arr T_starfree_cuts ts_42 false]))
        else
          s_starfree_evaluate_20 C tables w i t20 ns_2 ts
            (fun (ts_48 : List V) =>
              K .norm (mk [(1, .list T_starfree_table tables), (2, .str w), (3, .ptr 0 0 0), (7, .whole T_starfree_cuts 1), (15, .int .i64 t15), (16, .int .i64 t16)] [.var [.int .i64 ns_0, .int .i64 ns_1, .int .i64 ns_2, .int .i64 ns_3], .arr T_starfree_cuts ts_48 false])) := by
  cases t89 with
  | true => exact Eq.trans (execL_true (P := Try.prog) (A := ann) (C := C) (f := 24) (n := 166) (m := 0) (t := 89) (c := codeAt [1, 1, 0, 1, 0, 0, 1, 1, 0, 0, 1, 1, 0, 1, 1, 1, 1, 1, 1, 1, 1, 1] (bodyOf Try.prog 24)) (x := codeAt [1, 1, 0, 1, 0, 0, 1, 1, 0, 0, 1, 1, 0, 1, 1, 1, 1, 1, 1, 1, 1, 1, 0] (bodyOf Try.prog 24)) (y := codeAt [1, 1, 0, 1, 0, 0, 1, 1, 0, 0, 1, 1, 0, 1, 1, 1, 1, 1, 1, 1, 1, 1, 1] (bodyOf Try.prog 24)) (l := codesAt Try.prog 24 [[1, 1, 0, 1, 0, 0, 1, 1, 0, 0, 1, 1, 0, 1, 1, 1, 1, 1, 1, 1, 1, 1, 0]]) (st := mk [(1, .list T_starfree_table tables), (2, .str w), (3, .ptr 0 0 0), (7, .whole T_starfree_cuts 1), (8, .int .i64 i), (15, .int .i64 t15), (16, .int .i64 t16), (20, .int .i64 t20), (89, .bool true)] [.var [.int .i64 ns_0, .int .i64 ns_1, .int .i64 ns_2, .int .i64 ns_3], .arr T_starfree_cuts ts false]) (K := K) (by kernel_rfl) (by kernel_rfl) (by kernel_rfl)) (Eq.trans (s_starfree_evaluate_13d_eq C tables w i t15 t16 t20 true ns_0 ns_1 ns_2 ns_3 ts (joinK ann 24 0 89 K)) (by kernel_rfl))
  | false => exact Eq.trans (execL_false (P := Try.prog) (A := ann) (C := C) (f := 24) (n := 166) (m := 0) (t := 89) (c := codeAt [1, 1, 0, 1, 0, 0, 1, 1, 0, 0, 1, 1, 0, 1, 1, 1, 1, 1, 1, 1, 1, 1] (bodyOf Try.prog 24)) (x := codeAt [1, 1, 0, 1, 0, 0, 1, 1, 0, 0, 1, 1, 0, 1, 1, 1, 1, 1, 1, 1, 1, 1, 0] (bodyOf Try.prog 24)) (y := codeAt [1, 1, 0, 1, 0, 0, 1, 1, 0, 0, 1, 1, 0, 1, 1, 1, 1, 1, 1, 1, 1, 1, 1] (bodyOf Try.prog 24)) (l := codesAt Try.prog 24 [[1, 1, 0, 1, 0, 0, 1, 1, 0, 0, 1, 1, 0, 1, 1, 1, 1, 1, 1, 1, 1, 1, 1, 0], [1, 1, 0, 1, 0, 0, 1, 1, 0, 0, 1, 1, 0, 1, 1, 1, 1, 1, 1, 1, 1, 1, 1, 1]]) (st := mk [(1, .list T_starfree_table tables), (2, .str w), (3, .ptr 0 0 0), (7, .whole T_starfree_cuts 1), (8, .int .i64 i), (15, .int .i64 t15), (16, .int .i64 t16), (20, .int .i64 t20), (89, .bool false)] [.var [.int .i64 ns_0, .int .i64 ns_1, .int .i64 ns_2, .int .i64 ns_3], .arr T_starfree_cuts ts false]) (K := K) (by kernel_rfl) (by kernel_rfl) (by kernel_rfl)) (Eq.trans (s_starfree_evaluate_22c_eq C tables w i t15 t16 t20 false ns_0 ns_1 ns_2 ns_3 ts (joinK ann 24 0 89 K)) (by kernel_rfl))

theorem s_starfree_evaluate_24c_eq (C : CallF) (tables : List V) (w : List UInt8) (i : Int) (t15 : Int) (t16 : Int) (t20 : Int) (t67 : Bool) (ns_0 : Int) (ns_1 : Int) (ns_2 : Int) (ns_3 : Int) (ts : List V) {β : Type} (K : Out → St → Option β) :
    execL Try.prog ann C 24 166 0 (codesAt Try.prog 24 [[1, 1, 0, 1, 0, 0, 1, 1, 0, 0, 1, 1, 0, 1, 1, 1, 1, 1, 1, 1, 1, 0], [1, 1, 0, 1, 0, 0, 1, 1, 0, 0, 1, 1, 0, 1, 1, 1, 1, 1, 1, 1, 1, 1]]) (mk [(1, .list T_starfree_table tables), (2, .str w), (3, .ptr 0 0 0), (7, .whole T_starfree_cuts 1), (8, .int .i64 i), (15, .int .i64 t15), (16, .int .i64 t16), (20, .int .i64 t20), (67, .bool t67)] [.var [.int .i64 ns_0, .int .i64 ns_1, .int .i64 ns_2, .int .i64 ns_3], .arr T_starfree_cuts ts false]) K =
      bif ((t20 : Int) == 6) then
        (idx tables ns_2).bind fun x17 =>
          (idx x17.toList i).bind fun x18 =>
            (idx tables ns_3).bind fun x19 =>
              (idx x19.toList i).bind fun x20 =>
                (C F_starfree_cuts_meet [.agg [.int .u64 ((x18.cell 0).toInt), .int .u64 ((x18.cell 1).toInt)], .agg [.int .u64 ((x20.cell 0).toInt), .int .u64 ((x20.cell 1).toInt)]] []).bind fun r21 =>
                  bif (decide (0 ≤ i)) && (decide (i < (ts.length : Int))) then
                    (ts[(i : Int).toNat]?).bind fun x22 =>
                      K .norm (mk [(1, .list T_starfree_table tables), (2, .str w), (3, .ptr 0 0 0), (7, .whole T_starfree_cuts 1), (15, .int .i64 t15), (16, .int .i64 t16)] [.var [.int .i64 ns_0, .int .i64 ns_1, .int .i64 ns_2, .int .i64 ns_3], .arr T_starfree_cuts (ts.set ((i : Int).toNat) (.agg [.int .u64 ((r21.1.cell 0).toInt), .int .u64 ((r21.1.cell 1).toInt)])) false])
                  else none
      else
        bif ((t20 : Int) == 7) then
          s_starfree_evaluate_17L C tables w i i ns_2 ns_3 ts
            (fun (j_40 : Int) (t_41 : Bool) (ts_42 : List V) =>
              K .norm (mk [(1, .list T_starfree_table tables), (2, .str w), (3, .ptr 0 0 0), (7, .whole T_starfree_cuts 1), (15, .int .i64 t15), (16, .int .i64 t16)] [.var [.int .i64 ns_0, .int .i64 ns_1, .int .i64 ns_2, .int .i64 ns_3], .arr T_starfree_cuts ts_42 false]))
        else
          s_starfree_evaluate_20 C tables w i t20 ns_2 ts
            (fun (ts_48 : List V) =>
              K .norm (mk [(1, .list T_starfree_table tables), (2, .str w), (3, .ptr 0 0 0), (7, .whole T_starfree_cuts 1), (15, .int .i64 t15), (16, .int .i64 t16)] [.var [.int .i64 ns_0, .int .i64 ns_1, .int .i64 ns_2, .int .i64 ns_3], .arr T_starfree_cuts ts_48 false])) := by
  refine Eq.trans (execL_app (P := Try.prog) (A := ann) (C := C) (f := 24) (n := 166) (m := 0) (codesAt Try.prog 24 [[1, 1, 0, 1, 0, 0, 1, 1, 0, 0, 1, 1, 0, 1, 1, 1, 1, 1, 1, 1, 1, 0]]) (codesAt Try.prog 24 [[1, 1, 0, 1, 0, 0, 1, 1, 0, 0, 1, 1, 0, 1, 1, 1, 1, 1, 1, 1, 1, 1]]) (st := mk [(1, .list T_starfree_table tables), (2, .str w), (3, .ptr 0 0 0), (7, .whole T_starfree_cuts 1), (8, .int .i64 i), (15, .int .i64 t15), (16, .int .i64 t16), (20, .int .i64 t20), (67, .bool t67)] [.var [.int .i64 ns_0, .int .i64 ns_1, .int .i64 ns_2, .int .i64 ns_3], .arr T_starfree_cuts ts false]) (K := K)) (Eq.trans (s_starfree_evaluate_12d_eq C tables w i t15 t16 t20 t67 ns_0 ns_1 ns_2 ns_3 ts (seqK Try.prog ann C 24 166 0 (codesAt Try.prog 24 [[1, 1, 0, 1, 0, 0, 1, 1, 0, 0, 1, 1, 0, 1, 1, 1, 1, 1, 1, 1, 1, 1]]) K)) ?_)
  · exact Eq.trans (by kernel_rfl) (Eq.trans (congrArg (fun HOLE : Option β => (HOLE)) (s_starfree_evaluate_23i_eq C tables w i t15 t16 t20 ((t20 : Int) == 6) ns_0 ns_1 ns_2 ns_3 ts K)) ((by kernel_rfl)))


theorem s_starfree_evaluate_25i_eq (C : CallF) (tables : List V) (w : List UInt8) (i : Int) (t15 : Int) (t16 : Int) (t20 : Int) (t67 : Bool) (ns_0 : Int) (ns_1 : Int) (ns_2 : Int) (ns_3 : Int) (ts : List V) {β : Type} (K : Out → St → Option β) :
    execL Try.prog ann C 24 166 0 (codesAt Try.prog 24 [[1, 1, 0, 1, 0, 0, 1, 1, 0, 0, 1, 1, 0, 1, 1, 1, 1, 1, 1, 1]]) (mk [(1, .list T_starfree_table tables), (2, .str w), (3, .ptr 0 0 0), (7, .whole T_starfree_cuts 1), (8, .int .i64 i), (15, .int .i64 t15), (16, .int .i64 t16), (20, .int .i64 t20), (67, .bool t67)] [.var [.int .i64 ns_0, .int .i64 ns_1, .int .i64 ns_2, .int .i64 ns_3], .arr T_starfree_cuts ts false]) K =
      bif t67 then
        (idx tables ns_2).bind fun x11 =>
          (idx x11.toList i).bind fun x12 =>
            (idx tables ns_3).bind fun x13 =>
              (idx x13.toList i).bind fun x14 =>
                (C F_starfree_cuts_union [.agg [.int .u64 ((x12.cell 0).toInt), .int .u64 ((x12.cell 1).toInt)], .agg [.int .u64 ((x14.cell 0).toInt), .int .u64 ((x14.cell 1).toInt)]] []).bind fun r15 =>
                  bif (decide (0 ≤ i)) && (decide (i < (ts.length : Int))) then
                    (ts[(i : Int).toNat]?).bind fun x16 =>
                      K .norm (mk [(1, .list T_starfree_table tables), (2, .str w), (3, .ptr 0 0 0), (7, .whole T_starfree_cuts 1), (15, .int .i64 t15), (16, .int .i64 t16)] [.var [.int .i64 ns_0, .int .i64 ns_1, .int .i64 ns_2, .int .i64 ns_3], .arr T_starfree_cuts (ts.set ((i : Int).toNat) (.agg [.int .u64 ((r15.1.cell 0).toInt), .int .u64 ((r15.1.cell 1).toInt)])) false])
                  else none
      else
        bif ((t20 : Int) == 6) then
          (idx tables ns_2).bind fun x17 =>
            (idx x17.toList i).bind fun x18 =>
              (idx tables ns_3).bind fun x19 =>
                (idx x19.toList i).bind fun x20 =>
                  (C F_starfree_cuts_meet [.agg [.int .u64 ((x18.cell 0).toInt), .int .u64 ((x18.cell 1).toInt)], .agg [.int .u64 ((x20.cell 0).toInt), .int .u64 ((x20.cell 1).toInt)]] []).bind fun r21 =>
                    bif (decide (0 ≤ i)) && (decide (i < (ts.length : Int))) then
                      (ts[(i : Int).toNat]?).bind fun x22 =>
                        K .norm (mk [(1, .list T_starfree_table tables), (2, .str w), (3, .ptr 0 0 0), (7, .whole T_starfree_cuts 1), (15, .int .i64 t15), (16, .int .i64 t16)] [.var [.int .i64 ns_0, .int .i64 ns_1, .int .i64 ns_2, .int .i64 ns_3], .arr T_starfree_cuts (ts.set ((i : Int).toNat) (.agg [.int .u64 ((r21.1.cell 0).toInt), .int .u64 ((r21.1.cell 1).toInt)])) false])
                    else none
        else
          bif ((t20 : Int) == 7) then
            s_starfree_evaluate_17L C tables w i i ns_2 ns_3 ts
              (fun (j_40 : Int) (t_41 : Bool) (ts_42 : List V) =>
                K .norm (mk [(1, .list T_starfree_table tables), (2, .str w), (3, .ptr 0 0 0), (7, .whole T_starfree_cuts 1), (15, .int .i64 t15), (16, .int .i64 t16)] [.var [.int .i64 ns_0, .int .i64 ns_1, .int .i64 ns_2, .int .i64 ns_3], .arr T_starfree_cuts ts_42 false]))
          else
            s_starfree_evaluate_20 C tables w i t20 ns_2 ts
              (fun (ts_48 : List V) =>
                K .norm (mk [(1, .list T_starfree_table tables), (2, .str w), (3, .ptr 0 0 0), (7, .whole T_starfree_cuts 1), (15, .int .i64 t15), (16, .int .i64 t16)] [.var [.int .i64 ns_0, .int .i64 ns_1, .int .i64 ns_2, .int .i64 ns_3], .arr T_starfree_cuts ts_48 false])) := by
  cases t67 with
  | true => exact Eq.trans (execL_true (P := Try.prog) (A := ann) (C := C) (f := 24) (n := 166) (m := 0) (t := 67) (c := codeAt [1, 1, 0, 1, 0, 0, 1, 1, 0, 0, 1, 1, 0, 1, 1, 1, 1, 1, 1, 1] (bodyOf Try.prog 24)) (x := codeAt [1, 1, 0, 1, 0, 0, 1, 1, 0, 0, 1, 1, 0, 1, 1, 1, 1, 1, 1, 1, 0] (bodyOf Try.prog 24)) (y := codeAt [1, 1, 0, 1, 0, 0, 1, 1, 0, 0, 1, 1, 0, 1, 1, 1, 1, 1, 1, 1, 1] (bodyOf Try.prog 24)) (l := codesAt Try.prog 24 [[1, 1, 0, 1, 0, 0, 1, 1, 0, 0, 1, 1, 0, 1, 1, 1, 1, 1, 1, 1, 0]]) (st := mk [(1, .list T_starfree_table tables), (2, .str w), (3, .ptr 0 0 0), (7, .whole T_starfree_cuts 1), (8, .int .i64 i), (15, .int .i64 t15), (16, .int .i64 t16), (20, .int .i64 t20), (67, .bool true)] [.var [.int .i64 ns_0, .int .i64 ns_1, .int .i64 ns_2, .int .i64 ns_3], .arr T_starfree_cuts ts false]) (K := K) (by kernel_rfl) (by kernel_rfl) (by kernel_rfl)) (Eq.trans (s_starfree_evaluate_11d_eq C tables w i t15 t16 t20 true ns_0 ns_1 ns_2 ns_3 ts (joinK ann 24 0 67 K)) (by kernel_rfl))
  | false => exact Eq.trans (execL_false (P := Try.prog) (A := ann) (C := C) (f := 24) (n := 166) (m := 0) (t := 67) (c := codeAt [1, 1, 0, 1, 0, 0, 1, 1, 0, 0, 1, 1, 0, 1, 1, 1, 1, 1, 1, 1] (bodyOf Try.prog 24)) (x := codeAt [1, 1, 0, 1, 0, 0, 1, 1, 0, 0, 1, 1, 0, 1, 1, 1, 1, 1, 1, 1, 0] (bodyOf Try.prog 24)) (y := codeAt [1, 1, 0, 1, 0, 0, 1, 1, 0, 0, 1, 1, 0, 1, 1, 1, 1, 1, 1, 1, 1] (bodyOf Try.prog 24)) (l := codesAt Try.prog 24 [[1, 1, 0, 1, 0, 0, 1, 1, 0, 0, 1, 1, 0, 1, 1, 1, 1, 1, 1, 1, 1, 0], [1, 1, 0, 1, 0, 0, 1, 1, 0, 0, 1, 1, 0, 1, 1, 1, 1, 1, 1, 1, 1, 1]]) (st := mk [(1, .list T_starfree_table tables), (2, .str w), (3, .ptr 0 0 0), (7, .whole T_starfree_cuts 1), (8, .int .i64 i), (15, .int .i64 t15), (16, .int .i64 t16), (20, .int .i64 t20), (67, .bool false)] [.var [.int .i64 ns_0, .int .i64 ns_1, .int .i64 ns_2, .int .i64 ns_3], .arr T_starfree_cuts ts false]) (K := K) (by kernel_rfl) (by kernel_rfl) (by kernel_rfl)) (Eq.trans (s_starfree_evaluate_24c_eq C tables w i t15 t16 t20 false ns_0 ns_1 ns_2 ns_3 ts (joinK ann 24 0 67 K)) (by kernel_rfl))

theorem s_starfree_evaluate_26c_eq (C : CallF) (tables : List V) (w : List UInt8) (i : Int) (t15 : Int) (t16 : Int) (t20 : Int) (t58 : Bool) (ns_0 : Int) (ns_1 : Int) (ns_2 : Int) (ns_3 : Int) (ts : List V) {β : Type} (K : Out → St → Option β) :
    execL Try.prog ann C 24 166 0 (codesAt Try.prog 24 [[1, 1, 0, 1, 0, 0, 1, 1, 0, 0, 1, 1, 0, 1, 1, 1, 1, 1, 1, 0], [1, 1, 0, 1, 0, 0, 1, 1, 0, 0, 1, 1, 0, 1, 1, 1, 1, 1, 1, 1]]) (mk [(1, .list T_starfree_table tables), (2, .str w), (3, .ptr 0 0 0), (7, .whole T_starfree_cuts 1), (8, .int .i64 i), (15, .int .i64 t15), (16, .int .i64 t16), (20, .int .i64 t20), (58, .bool t58)] [.var [.int .i64 ns_0, .int .i64 ns_1, .int .i64 ns_2, .int .i64 ns_3], .arr T_starfree_cuts ts false]) K =
      bif ((t20 : Int) == 5) then
        (idx tables ns_2).bind fun x11 =>
          (idx x11.toList i).bind fun x12 =>
            (idx tables ns_3).bind fun x13 =>
              (idx x13.toList i).bind fun x14 =>
                (C F_starfree_cuts_union [.agg [.int .u64 ((x12.cell 0).toInt), .int .u64 ((x12.cell 1).toInt)], .agg [.int .u64 ((x14.cell 0).toInt), .int .u64 ((x14.cell 1).toInt)]] []).bind fun r15 =>
                  bif (decide (0 ≤ i)) && (decide (i < (ts.length : Int))) then
                    (ts[(i : Int).toNat]?).bind fun x16 =>
                      K .norm (mk [(1, .list T_starfree_table tables), (2, .str w), (3, .ptr 0 0 0), (7, .whole T_starfree_cuts 1), (15, .int .i64 t15), (16, .int .i64 t16)] [.var [.int .i64 ns_0, .int .i64 ns_1, .int .i64 ns_2, .int .i64 ns_3], .arr T_starfree_cuts (ts.set ((i : Int).toNat) (.agg [.int .u64 ((r15.1.cell 0).toInt), .int .u64 ((r15.1.cell 1).toInt)])) false])
                  else none
      else
        bif ((t20 : Int) == 6) then
          (idx tables ns_2).bind fun x17 =>
            (idx x17.toList i).bind fun x18 =>
              (idx tables ns_3).bind fun x19 =>
                (idx x19.toList i).bind fun x20 =>
                  (C F_starfree_cuts_meet [.agg [.int .u64 ((x18.cell 0).toInt), .int .u64 ((x18.cell 1).toInt)], .agg [.int .u64 ((x20.cell 0).toInt), .int .u64 ((x20.cell 1).toInt)]] []).bind fun r21 =>
                    bif (decide (0 ≤ i)) && (decide (i < (ts.length : Int))) then
                      (ts[(i : Int).toNat]?).bind fun x22 =>
                        K .norm (mk [(1, .list T_starfree_table tables), (2, .str w), (3, .ptr 0 0 0), (7, .whole T_starfree_cuts 1), (15, .int .i64 t15), (16, .int .i64 t16)] [.var [.int .i64 ns_0, .int .i64 ns_1, .int .i64 ns_2, .int .i64 ns_3], .arr T_starfree_cuts (ts.set ((i : Int).toNat) (.agg [.int .u64 ((r21.1.cell 0).toInt), .int .u64 ((r21.1.cell 1).toInt)])) false])
                    else none
        else
          bif ((t20 : Int) == 7) then
            s_starfree_evaluate_17L C tables w i i ns_2 ns_3 ts
              (fun (j_40 : Int) (t_41 : Bool) (ts_42 : List V) =>
                K .norm (mk [(1, .list T_starfree_table tables), (2, .str w), (3, .ptr 0 0 0), (7, .whole T_starfree_cuts 1), (15, .int .i64 t15), (16, .int .i64 t16)] [.var [.int .i64 ns_0, .int .i64 ns_1, .int .i64 ns_2, .int .i64 ns_3], .arr T_starfree_cuts ts_42 false]))
          else
            s_starfree_evaluate_20 C tables w i t20 ns_2 ts
              (fun (ts_48 : List V) =>
                K .norm (mk [(1, .list T_starfree_table tables), (2, .str w), (3, .ptr 0 0 0), (7, .whole T_starfree_cuts 1), (15, .int .i64 t15), (16, .int .i64 t16)] [.var [.int .i64 ns_0, .int .i64 ns_1, .int .i64 ns_2, .int .i64 ns_3], .arr T_starfree_cuts ts_48 false])) := by
  refine Eq.trans (execL_app (P := Try.prog) (A := ann) (C := C) (f := 24) (n := 166) (m := 0) (codesAt Try.prog 24 [[1, 1, 0, 1, 0, 0, 1, 1, 0, 0, 1, 1, 0, 1, 1, 1, 1, 1, 1, 0]]) (codesAt Try.prog 24 [[1, 1, 0, 1, 0, 0, 1, 1, 0, 0, 1, 1, 0, 1, 1, 1, 1, 1, 1, 1]]) (st := mk [(1, .list T_starfree_table tables), (2, .str w), (3, .ptr 0 0 0), (7, .whole T_starfree_cuts 1), (8, .int .i64 i), (15, .int .i64 t15), (16, .int .i64 t16), (20, .int .i64 t20), (58, .bool t58)] [.var [.int .i64 ns_0, .int .i64 ns_1, .int .i64 ns_2, .int .i64 ns_3], .arr T_starfree_cuts ts false]) (K := K)) (Eq.trans (s_starfree_evaluate_10d_eq C tables w i t15 t16 t20 t58 ns_0 ns_1 ns_2 ns_3 ts (seqK Try.prog ann C 24 166 0 (codesAt Try.prog 24 [[1, 1, 0, 1, 0, 0, 1, 1, 0, 0, 1, 1, 0, 1, 1, 1, 1, 1, 1, 1]]) K)) ?_)
  · exact Eq.trans (by kernel_rfl) (Eq.trans (congrArg (fun HOLE : Option β => (HOLE)) (s_starfree_evaluate_25i_eq C tables w i t15 t16 t20 ((t20 : Int) == 5) ns_0 ns_1 ns_2 ns_3 ts K)) ((by kernel_rfl)))


theorem s_starfree_evaluate_27i_eq (C : CallF) (tables : List V) (w : List UInt8) (i : Int) (t15 : Int) (t16 : Int) (t20 : Int) (t58 : Bool) (ns_0 : Int) (ns_1 : Int) (ns_2 : Int) (ns_3 : Int) (ts : List V) {β : Type} (K : Out → St → Option β) :
    execL Try.prog ann C 24 166 0 (codesAt Try.prog 24 [[1, 1, 0, 1, 0, 0, 1, 1, 0, 0, 1, 1, 0, 1, 1, 1, 1, 1]]) (mk [(1, .list T_starfree_table tables), (2, .str w), (3, .ptr 0 0 0), (7, .whole T_starfree_cuts 1), (8, .int .i64 i), (15, .int .i64 t15), (16, .int .i64 t16), (20, .int .i64 t20), (58, .bool t58)] [.var [.int .i64 ns_0, .int .i64 ns_1, .int .i64 ns_2, .int .i64 ns_3], .arr T_starfree_cuts ts false]) K =
      bif t58 then
        (C F_starfree_between [.int .i64 i, .int .i64 (w.length : Int)] []).bind fun r9 =>
          bif (decide (0 ≤ i)) && (decide (i < (ts.length : Int))) then
            (ts[(i : Int).toNat]?).bind fun x10 =>
              K .norm (mk [(1, .list T_starfree_table tables), (2, .str w), (3, .ptr 0 0 0), (7, .whole T_starfree_cuts 1), (15, .int .i64 t15), (16, .int .i64 t16)] [.var [.int .i64 ns_0, .int .i64 ns_1, .int .i64 ns_2, .int .i64 ns_3], .arr T_starfree_cuts (ts.set ((i : Int).toNat) (.agg [.int .u64 ((r9.1.cell 0).toInt), .int .u64 ((r9.1.cell 1).toInt)])) false])
          else none
      else
        bif ((t20 : Int) == 5) then
          (idx tables ns_2).bind fun x11 =>
            (idx x11.toList i).bind fun x12 =>
              (idx tables ns_3).bind fun x13 =>
                (idx x13.toList i).bind fun x14 =>
                  (C F_starfree_cuts_union [.agg [.int .u64 ((x12.cell 0).toInt), .int .u64 ((x12.cell 1).toInt)], .agg [.int .u64 ((x14.cell 0).toInt), .int .u64 ((x14.cell 1).toInt)]] []).bind fun r15 =>
                    bif (decide (0 ≤ i)) && (decide (i < (ts.length : Int))) then
                      (ts[(i : Int).toNat]?).bind fun x16 =>
                        K .norm (mk [(1, .list T_starfree_table tables), (2, .str w), (3, .ptr 0 0 0), (7, .whole T_starfree_cuts 1), (15, .int .i64 t15), (16, .int .i64 t16)] [.var [.int .i64 ns_0, .int .i64 ns_1, .int .i64 ns_2, .int .i64 ns_3], .arr T_starfree_cuts (ts.set ((i : Int).toNat) (.agg [.int .u64 ((r15.1.cell 0).toInt), .int .u64 ((r15.1.cell 1).toInt)])) false])
                    else none
        else
          bif ((t20 : Int) == 6) then
            (idx tables ns_2).bind fun x17 =>
              (idx x17.toList i).bind fun x18 =>
                (idx tables ns_3).bind fun x19 =>
                  (idx x19.toList i).bind fun x20 =>
                    (C F_starfree_cuts_meet [.agg [.int .u64 ((x18.cell 0).toInt), .int .u64 ((x18.cell 1).toInt)], .agg [.int .u64 ((x20.cell 0).toInt), .int .u64 ((x20.cell 1).toInt)]] []).bind fun r21 =>
                      bif (decide (0 ≤ i)) && (decide (i < (ts.length : Int))) then
                        (ts[(i : Int).toNat]?).bind fun x22 =>
                          K .norm (mk [(1, .list T_starfree_table tables), (2, .str w), (3, .ptr 0 0 0), (7, .whole T_starfree_cuts 1), (15, .int .i64 t15), (16, .int .i64 t16)] [.var [.int .i64 ns_0, .int .i64 ns_1, .int .i64 ns_2, .int .i64 ns_3], .arr T_starfree_cuts (ts.set ((i : Int).toNat) (.agg [.int .u64 ((r21.1.cell 0).toInt), .int .u64 ((r21.1.cell 1).toInt)])) false])
                      else none
          else
            bif ((t20 : Int) == 7) then
              s_starfree_evaluate_17L C tables w i i ns_2 ns_3 ts
                (fun (j_40 : Int) (t_41 : Bool) (ts_42 : List V) =>
                  K .norm (mk [(1, .list T_starfree_table tables), (2, .str w), (3, .ptr 0 0 0), (7, .whole T_starfree_cuts 1), (15, .int .i64 t15), (16, .int .i64 t16)] [.var [.int .i64 ns_0, .int .i64 ns_1, .int .i64 ns_2, .int .i64 ns_3], .arr T_starfree_cuts ts_42 false]))
            else
              s_starfree_evaluate_20 C tables w i t20 ns_2 ts
                (fun (ts_48 : List V) =>
                  K .norm (mk [(1, .list T_starfree_table tables), (2, .str w), (3, .ptr 0 0 0), (7, .whole T_starfree_cuts 1), (15, .int .i64 t15), (16, .int .i64 t16)] [.var [.int .i64 ns_0, .int .i64 ns_1, .int .i64 ns_2, .int .i64 ns_3], .arr T_starfree_cuts ts_48 false])) := by
  cases t58 with
  | true => exact Eq.trans (execL_true (P := Try.prog) (A := ann) (C := C) (f := 24) (n := 166) (m := 0) (t := 58) (c := codeAt [1, 1, 0, 1, 0, 0, 1, 1, 0, 0, 1, 1, 0, 1, 1, 1, 1, 1] (bodyOf Try.prog 24)) (x := codeAt [1, 1, 0, 1, 0, 0, 1, 1, 0, 0, 1, 1, 0, 1, 1, 1, 1, 1, 0] (bodyOf Try.prog 24)) (y := codeAt [1, 1, 0, 1, 0, 0, 1, 1, 0, 0, 1, 1, 0, 1, 1, 1, 1, 1, 1] (bodyOf Try.prog 24)) (l := codesAt Try.prog 24 [[1, 1, 0, 1, 0, 0, 1, 1, 0, 0, 1, 1, 0, 1, 1, 1, 1, 1, 0]]) (st := mk [(1, .list T_starfree_table tables), (2, .str w), (3, .ptr 0 0 0), (7, .whole T_starfree_cuts 1), (8, .int .i64 i), (15, .int .i64 t15), (16, .int .i64 t16), (20, .int .i64 t20), (58, .bool true)] [.var [.int .i64 ns_0, .int .i64 ns_1, .int .i64 ns_2, .int .i64 ns_3], .arr T_starfree_cuts ts false]) (K := K) (by kernel_rfl) (by kernel_rfl) (by kernel_rfl)) (Eq.trans (s_starfree_evaluate_9d_eq C tables w i t15 t16 t20 true ns_0 ns_1 ns_2 ns_3 ts (joinK ann 24 0 58 K)) (by kernel_rfl))
  | false => exact Eq.trans (execL_false (P := Try.prog) (A := ann) (C := C) (f := 24) (n := 166) (m := 0) (t := 58) (c := codeAt [1, 1, 0, 1, 0, 0, 1, 1, 0, 0, 1, 1, 0, 1, 1, 1, 1, 1] (bodyOf Try.prog 24)) (x := codeAt [1, 1, 0, 1, 0, 0, 1, 1, 0, 0, 1, 1, 0, 1, 1, 1, 1, 1, 0] (bodyOf Try.prog 24)) (y := codeAt [1, 1, 0, 1, 0, 0, 1, 1, 0, 0, 1, 1, 0, 1, 1, 1, 1, 1, 1] (bodyOf Try.prog 24)) (l := codesAt Try.prog 24 [[1, 1, 0, 1, 0, 0, 1, 1, 0, 0, 1, 1, 0, 1, 1, 1, 1, 1, 1, 0], [1, 1, 0, 1, 0, 0, 1, 1, 0, 0, 1, 1, 0, 1, 1, 1, 1, 1, 1, 1]]) (st := mk [(1, .list T_starfree_table tables), (2, .str w), (3, .ptr 0 0 0), (7, .whole T_starfree_cuts 1), (8, .int .i64 i), (15, .int .i64 t15), (16, .int .i64 t16), (20, .int .i64 t20), (58, .bool false)] [.var [.int .i64 ns_0, .int .i64 ns_1, .int .i64 ns_2, .int .i64 ns_3], .arr T_starfree_cuts ts false]) (K := K) (by kernel_rfl) (by kernel_rfl) (by kernel_rfl)) (Eq.trans (s_starfree_evaluate_26c_eq C tables w i t15 t16 t20 false ns_0 ns_1 ns_2 ns_3 ts (joinK ann 24 0 58 K)) (by kernel_rfl))

theorem s_starfree_evaluate_28c_eq (C : CallF) (tables : List V) (w : List UInt8) (i : Int) (t15 : Int) (t16 : Int) (t20 : Int) (t32 : Bool) (ns_0 : Int) (ns_1 : Int) (ns_2 : Int) (ns_3 : Int) (ts : List V) {β : Type} (K : Out → St → Option β) :
    execL Try.prog ann C 24 166 0 (codesAt Try.prog 24 [[1, 1, 0, 1, 0, 0, 1, 1, 0, 0, 1, 1, 0, 1, 1, 1, 1, 0], [1, 1, 0, 1, 0, 0, 1, 1, 0, 0, 1, 1, 0, 1, 1, 1, 1, 1]]) (mk [(1, .list T_starfree_table tables), (2, .str w), (3, .ptr 0 0 0), (7, .whole T_starfree_cuts 1), (8, .int .i64 i), (15, .int .i64 t15), (16, .int .i64 t16), (20, .int .i64 t20), (32, .bool t32)] [.var [.int .i64 ns_0, .int .i64 ns_1, .int .i64 ns_2, .int .i64 ns_3], .arr T_starfree_cuts ts false]) K =
      bif ((t20 : Int) == 4) then
        (C F_starfree_between [.int .i64 i, .int .i64 (w.length : Int)] []).bind fun r9 =>
          bif (decide (0 ≤ i)) && (decide (i < (ts.length : Int))) then
            (ts[(i : Int).toNat]?).bind fun x10 =>
              K .norm (mk [(1, .list T_starfree_table tables), (2, .str w), (3, .ptr 0 0 0), (7, .whole T_starfree_cuts 1), (15, .int .i64 t15), (16, .int .i64 t16)] [.var [.int .i64 ns_0, .int .i64 ns_1, .int .i64 ns_2, .int .i64 ns_3], .arr T_starfree_cuts (ts.set ((i : Int).toNat) (.agg [.int .u64 ((r9.1.cell 0).toInt), .int .u64 ((r9.1.cell 1).toInt)])) false])
          else none
      else
        bif ((t20 : Int) == 5) then
          (idx tables ns_2).bind fun x11 =>
            (idx x11.toList i).bind fun x12 =>
              (idx tables ns_3).bind fun x13 =>
                (idx x13.toList i).bind fun x14 =>
                  (C F_starfree_cuts_union [.agg [.int .u64 ((x12.cell 0).toInt), .int .u64 ((x12.cell 1).toInt)], .agg [.int .u64 ((x14.cell 0).toInt), .int .u64 ((x14.cell 1).toInt)]] []).bind fun r15 =>
                    bif (decide (0 ≤ i)) && (decide (i < (ts.length : Int))) then
                      (ts[(i : Int).toNat]?).bind fun x16 =>
                        K .norm (mk [(1, .list T_starfree_table tables), (2, .str w), (3, .ptr 0 0 0), (7, .whole T_starfree_cuts 1), (15, .int .i64 t15), (16, .int .i64 t16)] [.var [.int .i64 ns_0, .int .i64 ns_1, .int .i64 ns_2, .int .i64 ns_3], .arr T_starfree_cuts (ts.set ((i : Int).toNat) (.agg [.int .u64 ((r15.1.cell 0).toInt), .int .u64 ((r15.1.cell 1).toInt)])) false])
                    else none
        else
          bif ((t20 : Int) == 6) then
            (idx tables ns_2).bind fun x17 =>
              (idx x17.toList i).bind fun x18 =>
                (idx tables ns_3).bind fun x19 =>
                  (idx x19.toList i).bind fun x20 =>
                    (C F_starfree_cuts_meet [.agg [.int .u64 ((x18.cell 0).toInt), .int .u64 ((x18.cell 1).toInt)], .agg [.int .u64 ((x20.cell 0).toInt), .int .u64 ((x20.cell 1).toInt)]] []).bind fun r21 =>
                      bif (decide (0 ≤ i)) && (decide (i < (ts.length : Int))) then
                        (ts[(i : Int).toNat]?).bind fun x22 =>
                          K .norm (mk [(1, .list T_starfree_table tables), (2, .str w), (3, .ptr 0 0 0), (7, .whole T_starfree_cuts 1), (15, .int .i64 t15), (16, .int .i64 t16)] [.var [.int .i64 ns_0, .int .i64 ns_1, .int .i64 ns_2, .int .i64 ns_3], .arr T_starfree_cuts (ts.set ((i : Int).toNat) (.agg [.int .u64 ((r21.1.cell 0).toInt), .int .u64 ((r21.1.cell 1).toInt)])) false])
                      else none
          else
            bif ((t20 : Int) == 7) then
              s_starfree_evaluate_17L C tables w i i ns_2 ns_3 ts
                (fun (j_40 : Int) (t_41 : Bool) (ts_42 : List V) =>
                  K .norm (mk [(1, .list T_starfree_table tables), (2, .str w), (3, .ptr 0 0 0), (7, .whole T_starfree_cuts 1), (15, .int .i64 t15), (16, .int .i64 t16)] [.var [.int .i64 ns_0, .int .i64 ns_1, .int .i64 ns_2, .int .i64 ns_3], .arr T_starfree_cuts ts_42 false]))
            else
              s_starfree_evaluate_20 C tables w i t20 ns_2 ts
                (fun (ts_48 : List V) =>
                  K .norm (mk [(1, .list T_starfree_table tables), (2, .str w), (3, .ptr 0 0 0), (7, .whole T_starfree_cuts 1), (15, .int .i64 t15), (16, .int .i64 t16)] [.var [.int .i64 ns_0, .int .i64 ns_1, .int .i64 ns_2, .int .i64 ns_3], .arr T_starfree_cuts ts_48 false])) := by
  refine Eq.trans (execL_app (P := Try.prog) (A := ann) (C := C) (f := 24) (n := 166) (m := 0) (codesAt Try.prog 24 [[1, 1, 0, 1, 0, 0, 1, 1, 0, 0, 1, 1, 0, 1, 1, 1, 1, 0]]) (codesAt Try.prog 24 [[1, 1, 0, 1, 0, 0, 1, 1, 0, 0, 1, 1, 0, 1, 1, 1, 1, 1]]) (st := mk [(1, .list T_starfree_table tables), (2, .str w), (3, .ptr 0 0 0), (7, .whole T_starfree_cuts 1), (8, .int .i64 i), (15, .int .i64 t15), (16, .int .i64 t16), (20, .int .i64 t20), (32, .bool t32)] [.var [.int .i64 ns_0, .int .i64 ns_1, .int .i64 ns_2, .int .i64 ns_3], .arr T_starfree_cuts ts false]) (K := K)) (Eq.trans (s_starfree_evaluate_8d_eq C tables w i t15 t16 t20 t32 ns_0 ns_1 ns_2 ns_3 ts (seqK Try.prog ann C 24 166 0 (codesAt Try.prog 24 [[1, 1, 0, 1, 0, 0, 1, 1, 0, 0, 1, 1, 0, 1, 1, 1, 1, 1]]) K)) ?_)
  · exact Eq.trans (by kernel_rfl) (Eq.trans (congrArg (fun HOLE : Option β => (HOLE)) (s_starfree_evaluate_27i_eq C tables w i t15 t16 t20 ((t20 : Int) == 4) ns_0 ns_1 ns_2 ns_3 ts K)) ((by kernel_rfl)))


theorem s_starfree_evaluate_29i_eq (C : CallF) (tables : List V) (w : List UInt8) (i : Int) (t15 : Int) (t16 : Int) (t20 : Int) (t32 : Bool) (ns_0 : Int) (ns_1 : Int) (ns_2 : Int) (ns_3 : Int) (ts : List V) {β : Type} (K : Out → St → Option β) :
    execL Try.prog ann C 24 166 0 (codesAt Try.prog 24 [[1, 1, 0, 1, 0, 0, 1, 1, 0, 0, 1, 1, 0, 1, 1, 1]]) (mk [(1, .list T_starfree_table tables), (2, .str w), (3, .ptr 0 0 0), (7, .whole T_starfree_cuts 1), (8, .int .i64 i), (15, .int .i64 t15), (16, .int .i64 t16), (20, .int .i64 t20), (32, .bool t32)] [.var [.int .i64 ns_0, .int .i64 ns_1, .int .i64 ns_2, .int .i64 ns_3], .arr T_starfree_cuts ts false]) K =
      bif t32 then
        s_starfree_evaluate_7 C w i ns_1 ts
          (fun (ts_49 : List V) =>
            K .norm (mk [(1, .list T_starfree_table tables), (2, .str w), (3, .ptr 0 0 0), (7, .whole T_starfree_cuts 1), (15, .int .i64 t15), (16, .int .i64 t16)] [.var [.int .i64 ns_0, .int .i64 ns_1, .int .i64 ns_2, .int .i64 ns_3], .arr T_starfree_cuts ts_49 false]))
      else
        bif ((t20 : Int) == 4) then
          (C F_starfree_between [.int .i64 i, .int .i64 (w.length : Int)] []).bind fun r9 =>
            bif (decide (0 ≤ i)) && (decide (i < (ts.length : Int))) then
              (ts[(i : Int).toNat]?).bind fun x10 =>
                K .norm (mk [(1, .list T_starfree_table tables), (2, .str w), (3, .ptr 0 0 0), (7, .whole T_starfree_cuts 1), (15, .int .i64 t15), (16, .int .i64 t16)] [.var [.int .i64 ns_0, .int .i64 ns_1, .int .i64 ns_2, .int .i64 ns_3], .arr T_starfree_cuts (ts.set ((i : Int).toNat) (.agg [.int .u64 ((r9.1.cell 0).toInt), .int .u64 ((r9.1.cell 1).toInt)])) false])
            else none
        else
          bif ((t20 : Int) == 5) then
            (idx tables ns_2).bind fun x11 =>
              (idx x11.toList i).bind fun x12 =>
                (idx tables ns_3).bind fun x13 =>
                  (idx x13.toList i).bind fun x14 =>
                    (C F_starfree_cuts_union [.agg [.int .u64 ((x12.cell 0).toInt), .int .u64 ((x12.cell 1).toInt)], .agg [.int .u64 ((x14.cell 0).toInt), .int .u64 ((x14.cell 1).toInt)]] []).bind fun r15 =>
                      bif (decide (0 ≤ i)) && (decide (i < (ts.length : Int))) then
                        (ts[(i : Int).toNat]?).bind fun x16 =>
                          K .norm (mk [(1, .list T_starfree_table tables), (2, .str w), (3, .ptr 0 0 0), (7, .whole T_starfree_cuts 1), (15, .int .i64 t15), (16, .int .i64 t16)] [.var [.int .i64 ns_0, .int .i64 ns_1, .int .i64 ns_2, .int .i64 ns_3], .arr T_starfree_cuts (ts.set ((i : Int).toNat) (.agg [.int .u64 ((r15.1.cell 0).toInt), .int .u64 ((r15.1.cell 1).toInt)])) false])
                      else none
          else
            bif ((t20 : Int) == 6) then
              (idx tables ns_2).bind fun x17 =>
                (idx x17.toList i).bind fun x18 =>
                  (idx tables ns_3).bind fun x19 =>
                    (idx x19.toList i).bind fun x20 =>
                      (C F_starfree_cuts_meet [.agg [.int .u64 ((x18.cell 0).toInt), .int .u64 ((x18.cell 1).toInt)], .agg [.int .u64 ((x20.cell 0).toInt), .int .u64 ((x20.cell 1).toInt)]] []).bind fun r21 =>
                        bif (decide (0 ≤ i)) && (decide (i < (ts.length : Int))) then
                          (ts[(i : Int).toNat]?).bind fun x22 =>
                            K .norm (mk [(1, .list T_starfree_table tables), (2, .str w), (3, .ptr 0 0 0), (7, .whole T_starfree_cuts 1), (15, .int .i64 t15), (16, .int .i64 t16)] [.var [.int .i64 ns_0, .int .i64 ns_1, .int .i64 ns_2, .int .i64 ns_3], .arr T_starfree_cuts (ts.set ((i : Int).toNat) (.agg [.int .u64 ((r21.1.cell 0).toInt), .int .u64 ((r21.1.cell 1).toInt)])) false])
                        else none
            else
              bif ((t20 : Int) == 7) then
                s_starfree_evaluate_17L C tables w i i ns_2 ns_3 ts
                  (fun (j_40 : Int) (t_41 : Bool) (ts_42 : List V) =>
                    K .norm (mk [(1, .list T_starfree_table tables), (2, .str w), (3, .ptr 0 0 0), (7, .whole T_starfree_cuts 1), (15, .int .i64 t15), (16, .int .i64 t16)] [.var [.int .i64 ns_0, .int .i64 ns_1, .int .i64 ns_2, .int .i64 ns_3], .arr T_starfree_cuts ts_42 false]))
              else
                s_starfree_evaluate_20 C tables w i t20 ns_2 ts
                  (fun (ts_48 : List V) =>
                    K .norm (mk [(1, .list T_starfree_table tables), (2, .str w), (3, .ptr 0 0 0), (7, .whole T_starfree_cuts 1), (15, .int .i64 t15), (16, .int .i64 t16)] [.var [.int .i64 ns_0, .int .i64 ns_1, .int .i64 ns_2, .int .i64 ns_3], .arr T_starfree_cuts ts_48 false])) := by
  cases t32 with
  | true => exact Eq.trans (execL_true (P := Try.prog) (A := ann) (C := C) (f := 24) (n := 166) (m := 0) (t := 32) (c := codeAt [1, 1, 0, 1, 0, 0, 1, 1, 0, 0, 1, 1, 0, 1, 1, 1] (bodyOf Try.prog 24)) (x := codeAt [1, 1, 0, 1, 0, 0, 1, 1, 0, 0, 1, 1, 0, 1, 1, 1, 0] (bodyOf Try.prog 24)) (y := codeAt [1, 1, 0, 1, 0, 0, 1, 1, 0, 0, 1, 1, 0, 1, 1, 1, 1] (bodyOf Try.prog 24)) (l := codesAt Try.prog 24 [[1, 1, 0, 1, 0, 0, 1, 1, 0, 0, 1, 1, 0, 1, 1, 1, 0, 0], [1, 1, 0, 1, 0, 0, 1, 1, 0, 0, 1, 1, 0, 1, 1, 1, 0, 1]]) (st := mk [(1, .list T_starfree_table tables), (2, .str w), (3, .ptr 0 0 0), (7, .whole T_starfree_cuts 1), (8, .int .i64 i), (15, .int .i64 t15), (16, .int .i64 t16), (20, .int .i64 t20), (32, .bool true)] [.var [.int .i64 ns_0, .int .i64 ns_1, .int .i64 ns_2, .int .i64 ns_3], .arr T_starfree_cuts ts false]) (K := K) (by kernel_rfl) (by kernel_rfl) (by kernel_rfl)) (Eq.trans (s_starfree_evaluate_7_eq C tables w i t15 t16 t20 true ns_0 ns_1 ns_2 ns_3 ts (joinK ann 24 0 32 K)) (by kernel_rfl))
  | false => exact Eq.trans (execL_false (P := Try.prog) (A := ann) (C := C) (f := 24) (n := 166) (m := 0) (t := 32) (c := codeAt [1, 1, 0, 1, 0, 0, 1, 1, 0, 0, 1, 1, 0, 1, 1, 1] (bodyOf Try.prog 24)) (x := codeAt [1, 1, 0, 1, 0, 0, 1, 1, 0, 0, 1, 1, 0, 1, 1, 1, 0] (bodyOf Try.prog 24)) (y := codeAt [1, 1, 0, 1, 0, 0, 1, 1, 0, 0, 1, 1, 0, 1, 1, 1, 1] (bodyOf Try.prog 24)) (l := codesAt Try.prog 24 [[1, 1, 0, 1, 0, 0, 1, 1, 0, 0, 1, 1, 0, 1, 1, 1, 1, 0], [1, 1, 0, 1, 0, 0, 1, 1, 0, 0, 1, 1, 0, 1, 1, 1, 1, 1]]) (st := mk [(1, .list T_starfree_table tables), (2, .str w), (3, .ptr 0 0 0), (7, .whole T_starfree_cuts 1), (8, .int .i64 i), (15, .int .i64 t15), (16, .int .i64 t16), (20, .int .i64 t20), (32, .bool false)] [.var [.int .i64 ns_0, .int .i64 ns_1, .int .i64 ns_2, .int .i64 ns_3], .arr T_starfree_cuts ts false]) (K := K) (by kernel_rfl) (by kernel_rfl) (by kernel_rfl)) (Eq.trans (s_starfree_evaluate_28c_eq C tables w i t15 t16 t20 false ns_0 ns_1 ns_2 ns_3 ts (joinK ann 24 0 32 K)) (by kernel_rfl))

theorem s_starfree_evaluate_30c_eq (C : CallF) (tables : List V) (w : List UInt8) (i : Int) (t15 : Int) (t16 : Int) (t20 : Int) (t21 : Bool) (ns_0 : Int) (ns_1 : Int) (ns_2 : Int) (ns_3 : Int) (ts : List V) {β : Type} (K : Out → St → Option β) :
    execL Try.prog ann C 24 166 0 (codesAt Try.prog 24 [[1, 1, 0, 1, 0, 0, 1, 1, 0, 0, 1, 1, 0, 1, 1, 0], [1, 1, 0, 1, 0, 0, 1, 1, 0, 0, 1, 1, 0, 1, 1, 1]]) (mk [(1, .list T_starfree_table tables), (2, .str w), (3, .ptr 0 0 0), (7, .whole T_starfree_cuts 1), (8, .int .i64 i), (15, .int .i64 t15), (16, .int .i64 t16), (20, .int .i64 t20), (21, .bool t21)] [.var [.int .i64 ns_0, .int .i64 ns_1, .int .i64 ns_2, .int .i64 ns_3], .arr T_starfree_cuts ts false]) K =
      bif ((t20 : Int) == 3) then
        s_starfree_evaluate_7 C w i ns_1 ts
          (fun (ts_49 : List V) =>
            K .norm (mk [(1, .list T_starfree_table tables), (2, .str w), (3, .ptr 0 0 0), (7, .whole T_starfree_cuts 1), (15, .int .i64 t15), (16, .int .i64 t16)] [.var [.int .i64 ns_0, .int .i64 ns_1, .int .i64 ns_2, .int .i64 ns_3], .arr T_starfree_cuts ts_49 false]))
      else
        bif ((t20 : Int) == 4) then
          (C F_starfree_between [.int .i64 i, .int .i64 (w.length : Int)] []).bind fun r9 =>
            bif (decide (0 ≤ i)) && (decide (i < (ts.length : Int))) then
              (ts[(i : Int).toNat]?).bind fun x10 =>
                K .norm (mk [(1, .list T_starfree_table tables), (2, .str w), (3, .ptr 0 0 0), (7, .whole T_starfree_cuts 1), (15, .int .i64 t15), (16, .int .i64 t16)] [.var [.int .i64 ns_0, .int .i64 ns_1, .int .i64 ns_2, .int .i64 ns_3], .arr T_starfree_cuts (ts.set ((i : Int).toNat) (.agg [.int .u64 ((r9.1.cell 0).toInt), .int .u64 ((r9.1.cell 1).toInt)])) false])
            else none
        else
          bif ((t20 : Int) == 5) then
            (idx tables ns_2).bind fun x11 =>
              (idx x11.toList i).bind fun x12 =>
                (idx tables ns_3).bind fun x13 =>
                  (idx x13.toList i).bind fun x14 =>
                    (C F_starfree_cuts_union [.agg [.int .u64 ((x12.cell 0).toInt), .int .u64 ((x12.cell 1).toInt)], .agg [.int .u64 ((x14.cell 0).toInt), .int .u64 ((x14.cell 1).toInt)]] []).bind fun r15 =>
                      bif (decide (0 ≤ i)) && (decide (i < (ts.length : Int))) then
                        (ts[(i : Int).toNat]?).bind fun x16 =>
                          K .norm (mk [(1, .list T_starfree_table tables), (2, .str w), (3, .ptr 0 0 0), (7, .whole T_starfree_cuts 1), (15, .int .i64 t15), (16, .int .i64 t16)] [.var [.int .i64 ns_0, .int .i64 ns_1, .int .i64 ns_2, .int .i64 ns_3], .arr T_starfree_cuts (ts.set ((i : Int).toNat) (.agg [.int .u64 ((r15.1.cell 0).toInt), .int .u64 ((r15.1.cell 1).toInt)])) false])
                      else none
          else
            bif ((t20 : Int) == 6) then
              (idx tables ns_2).bind fun x17 =>
                (idx x17.toList i).bind fun x18 =>
                  (idx tables ns_3).bind fun x19 =>
                    (idx x19.toList i).bind fun x20 =>
                      (C F_starfree_cuts_meet [.agg [.int .u64 ((x18.cell 0).toInt), .int .u64 ((x18.cell 1).toInt)], .agg [.int .u64 ((x20.cell 0).toInt), .int .u64 ((x20.cell 1).toInt)]] []).bind fun r21 =>
                        bif (decide (0 ≤ i)) && (decide (i < (ts.length : Int))) then
                          (ts[(i : Int).toNat]?).bind fun x22 =>
                            K .norm (mk [(1, .list T_starfree_table tables), (2, .str w), (3, .ptr 0 0 0), (7, .whole T_starfree_cuts 1), (15, .int .i64 t15), (16, .int .i64 t16)] [.var [.int .i64 ns_0, .int .i64 ns_1, .int .i64 ns_2, .int .i64 ns_3], .arr T_starfree_cuts (ts.set ((i : Int).toNat) (.agg [.int .u64 ((r21.1.cell 0).toInt), .int .u64 ((r21.1.cell 1).toInt)])) false])
                        else none
            else
              bif ((t20 : Int) == 7) then
                s_starfree_evaluate_17L C tables w i i ns_2 ns_3 ts
                  (fun (j_40 : Int) (t_41 : Bool) (ts_42 : List V) =>
                    K .norm (mk [(1, .list T_starfree_table tables), (2, .str w), (3, .ptr 0 0 0), (7, .whole T_starfree_cuts 1), (15, .int .i64 t15), (16, .int .i64 t16)] [.var [.int .i64 ns_0, .int .i64 ns_1, .int .i64 ns_2, .int .i64 ns_3], .arr T_starfree_cuts ts_42 false]))
              else
                s_starfree_evaluate_20 C tables w i t20 ns_2 ts
                  (fun (ts_48 : List V) =>
                    K .norm (mk [(1, .list T_starfree_table tables), (2, .str w), (3, .ptr 0 0 0), (7, .whole T_starfree_cuts 1), (15, .int .i64 t15), (16, .int .i64 t16)] [.var [.int .i64 ns_0, .int .i64 ns_1, .int .i64 ns_2, .int .i64 ns_3], .arr T_starfree_cuts ts_48 false])) := by
  refine Eq.trans (execL_app (P := Try.prog) (A := ann) (C := C) (f := 24) (n := 166) (m := 0) (codesAt Try.prog 24 [[1, 1, 0, 1, 0, 0, 1, 1, 0, 0, 1, 1, 0, 1, 1, 0]]) (codesAt Try.prog 24 [[1, 1, 0, 1, 0, 0, 1, 1, 0, 0, 1, 1, 0, 1, 1, 1]]) (st := mk [(1, .list T_starfree_table tables), (2, .str w), (3, .ptr 0 0 0), (7, .whole T_starfree_cuts 1), (8, .int .i64 i), (15, .int .i64 t15), (16, .int .i64 t16), (20, .int .i64 t20), (21, .bool t21)] [.var [.int .i64 ns_0, .int .i64 ns_1, .int .i64 ns_2, .int .i64 ns_3], .arr T_starfree_cuts ts false]) (K := K)) (Eq.trans (s_starfree_evaluate_6d_eq C tables w i t15 t16 t20 t21 ns_0 ns_1 ns_2 ns_3 ts (seqK Try.prog ann C 24 166 0 (codesAt Try.prog 24 [[1, 1, 0, 1, 0, 0, 1, 1, 0, 0, 1, 1, 0, 1, 1, 1]]) K)) ?_)
  · exact Eq.trans (by kernel_rfl) (Eq.trans (congrArg (fun HOLE : Option β => (HOLE)) (s_starfree_evaluate_29i_eq C tables w i t15 t16 t20 ((t20 : Int) == 3) ns_0 ns_1 ns_2 ns_3 ts K)) ((by kernel_rfl)))


theorem s_starfree_evaluate_31i_eq (C : CallF) (tables : List V) (w : List UInt8) (i : Int) (t15 : Int) (t16 : Int) (t20 : Int) (t21 : Bool) (ns_0 : Int) (ns_1 : Int) (ns_2 : Int) (ns_3 : Int) (ts : List V) {β : Type} (K : Out → St → Option β) :
    execL Try.prog ann C 24 166 0 (codesAt Try.prog 24 [[1, 1, 0, 1, 0, 0, 1, 1, 0, 0, 1, 1, 0, 1]]) (mk [(1, .list T_starfree_table tables), (2, .str w), (3, .ptr 0 0 0), (7, .whole T_starfree_cuts 1), (8, .int .i64 i), (15, .int .i64 t15), (16, .int .i64 t16), (20, .int .i64 t20), (21, .bool t21)] [.var [.int .i64 ns_0, .int .i64 ns_1, .int .i64 ns_2, .int .i64 ns_3], .arr T_starfree_cuts ts false]) K =
      bif t21 then
        bif (decide (0 ≤ i)) && (decide (i < (ts.length : Int))) then
          (ts[(i : Int).toNat]?).bind fun x1 =>
            (C F_starfree_cuts_with [.agg [.int .u64 ((x1.cell 0).toInt), .int .u64 ((x1.cell 1).toInt)], .int .i64 i] []).bind fun r2 =>
              bif (decide (0 ≤ i)) && (decide (i < (ts.length : Int))) then
                (ts[(i : Int).toNat]?).bind fun x3 =>
                  K .norm (mk [(1, .list T_starfree_table tables), (2, .str w), (3, .ptr 0 0 0), (7, .whole T_starfree_cuts 1), (15, .int .i64 t15), (16, .int .i64 t16)] [.var [.int .i64 ns_0, .int .i64 ns_1, .int .i64 ns_2, .int .i64 ns_3], .arr T_starfree_cuts (ts.set ((i : Int).toNat) (.agg [.int .u64 ((r2.1.cell 0).toInt), .int .u64 ((r2.1.cell 1).toInt)])) false])
              else none
        else none
      else
        bif ((t20 : Int) == 3) then
          s_starfree_evaluate_7 C w i ns_1 ts
            (fun (ts_49 : List V) =>
              K .norm (mk [(1, .list T_starfree_table tables), (2, .str w), (3, .ptr 0 0 0), (7, .whole T_starfree_cuts 1), (15, .int .i64 t15), (16, .int .i64 t16)] [.var [.int .i64 ns_0, .int .i64 ns_1, .int .i64 ns_2, .int .i64 ns_3], .arr T_starfree_cuts ts_49 false]))
        else
          bif ((t20 : Int) == 4) then
            (C F_starfree_between [.int .i64 i, .int .i64 (w.length : Int)] []).bind fun r9 =>
              bif (decide (0 ≤ i)) && (decide (i < (ts.length : Int))) then
                (ts[(i : Int).toNat]?).bind fun x10 =>
                  K .norm (mk [(1, .list T_starfree_table tables), (2, .str w), (3, .ptr 0 0 0), (7, .whole T_starfree_cuts 1), (15, .int .i64 t15), (16, .int .i64 t16)] [.var [.int .i64 ns_0, .int .i64 ns_1, .int .i64 ns_2, .int .i64 ns_3], .arr T_starfree_cuts (ts.set ((i : Int).toNat) (.agg [.int .u64 ((r9.1.cell 0).toInt), .int .u64 ((r9.1.cell 1).toInt)])) false])
              else none
          else
            bif ((t20 : Int) == 5) then
              (idx tables ns_2).bind fun x11 =>
                (idx x11.toList i).bind fun x12 =>
                  (idx tables ns_3).bind fun x13 =>
                    (idx x13.toList i).bind fun x14 =>
                      (C F_starfree_cuts_union [.agg [.int .u64 ((x12.cell 0).toInt), .int .u64 ((x12.cell 1).toInt)], .agg [.int .u64 ((x14.cell 0).toInt), .int .u64 ((x14.cell 1).toInt)]] []).bind fun r15 =>
                        bif (decide (0 ≤ i)) && (decide (i < (ts.length : Int))) then
                          (ts[(i : Int).toNat]?).bind fun x16 =>
                            K .norm (mk [(1, .list T_starfree_table tables), (2, .str w), (3, .ptr 0 0 0), (7, .whole T_starfree_cuts 1), (15, .int .i64 t15), (16, .int .i64 t16)] [.var [.int .i64 ns_0, .int .i64 ns_1, .int .i64 ns_2, .int .i64 ns_3], .arr T_starfree_cuts (ts.set ((i : Int).toNat) (.agg [.int .u64 ((r15.1.cell 0).toInt), .int .u64 ((r15.1.cell 1).toInt)])) false])
                        else none
            else
              bif ((t20 : Int) == 6) then
                (idx tables ns_2).bind fun x17 =>
                  (idx x17.toList i).bind fun x18 =>
                    (idx tables ns_3).bind fun x19 =>
                      (idx x19.toList i).bind fun x20 =>
                        (C F_starfree_cuts_meet [.agg [.int .u64 ((x18.cell 0).toInt), .int .u64 ((x18.cell 1).toInt)], .agg [.int .u64 ((x20.cell 0).toInt), .int .u64 ((x20.cell 1).toInt)]] []).bind fun r21 =>
                          bif (decide (0 ≤ i)) && (decide (i < (ts.length : Int))) then
                            (ts[(i : Int).toNat]?).bind fun x22 =>
                              K .norm (mk [(1, .list T_starfree_table tables), (2, .str w), (3, .ptr 0 0 0), (7, .whole T_starfree_cuts 1), (15, .int .i64 t15), (16, .int .i64 t16)] [.var [.int .i64 ns_0, .int .i64 ns_1, .int .i64 ns_2, .int .i64 ns_3], .arr T_starfree_cuts (ts.set ((i : Int).toNat) (.agg [.int .u64 ((r21.1.cell 0).toInt), .int .u64 ((r21.1.cell 1).toInt)])) false])
                          else none
              else
                bif ((t20 : Int) == 7) then
                  s_starfree_evaluate_17L C tables w i i ns_2 ns_3 ts
                    (fun (j_40 : Int) (t_41 : Bool) (ts_42 : List V) =>
                      K .norm (mk [(1, .list T_starfree_table tables), (2, .str w), (3, .ptr 0 0 0), (7, .whole T_starfree_cuts 1), (15, .int .i64 t15), (16, .int .i64 t16)] [.var [.int .i64 ns_0, .int .i64 ns_1, .int .i64 ns_2, .int .i64 ns_3], .arr T_starfree_cuts ts_42 false]))
                else
                  s_starfree_evaluate_20 C tables w i t20 ns_2 ts
                    (fun (ts_48 : List V) =>
                      K .norm (mk [(1, .list T_starfree_table tables), (2, .str w), (3, .ptr 0 0 0), (7, .whole T_starfree_cuts 1), (15, .int .i64 t15), (16, .int .i64 t16)] [.var [.int .i64 ns_0, .int .i64 ns_1, .int .i64 ns_2, .int .i64 ns_3], .arr T_starfree_cuts ts_48 false])) := by
  cases t21 with
  | true => exact Eq.trans (execL_true (P := Try.prog) (A := ann) (C := C) (f := 24) (n := 166) (m := 0) (t := 21) (c := codeAt [1, 1, 0, 1, 0, 0, 1, 1, 0, 0, 1, 1, 0, 1] (bodyOf Try.prog 24)) (x := codeAt [1, 1, 0, 1, 0, 0, 1, 1, 0, 0, 1, 1, 0, 1, 0] (bodyOf Try.prog 24)) (y := codeAt [1, 1, 0, 1, 0, 0, 1, 1, 0, 0, 1, 1, 0, 1, 1] (bodyOf Try.prog 24)) (l := codesAt Try.prog 24 [[1, 1, 0, 1, 0, 0, 1, 1, 0, 0, 1, 1, 0, 1, 0]]) (st := mk [(1, .list T_starfree_table tables), (2, .str w), (3, .ptr 0 0 0), (7, .whole T_starfree_cuts 1), (8, .int .i64 i), (15, .int .i64 t15), (16, .int .i64 t16), (20, .int .i64 t20), (21, .bool true)] [.var [.int .i64 ns_0, .int .i64 ns_1, .int .i64 ns_2, .int .i64 ns_3], .arr T_starfree_cuts ts false]) (K := K) (by kernel_rfl) (by kernel_rfl) (by kernel_rfl)) (Eq.trans (s_starfree_evaluate_5d_eq C tables w i t15 t16 t20 true ns_0 ns_1 ns_2 ns_3 ts (joinK ann 24 0 21 K)) (by kernel_rfl))
  | false => exact Eq.trans (execL_false (P := Try.prog) (A := ann) (C := C) (f := 24) (n := 166) (m := 0) (t := 21) (c := codeAt [1, 1, 0, 1, 0, 0, 1, 1, 0, 0, 1, 1, 0, 1] (bodyOf Try.prog 24)) (x := codeAt [1, 1, 0, 1, 0, 0, 1, 1, 0, 0, 1, 1, 0, 1, 0] (bodyOf Try.prog 24)) (y := codeAt [1, 1, 0, 1, 0, 0, 1, 1, 0, 0, 1, 1, 0, 1, 1] (bodyOf Try.prog 24)) (l := codesAt Try.prog 24 [[1, 1, 0, 1, 0, 0, 1, 1, 0, 0, 1, 1, 0, 1, 1, 0], [1, 1, 0, 1, 0, 0, 1, 1, 0, 0, 1, 1, 0, 1, 1, 1]]) (st := mk [(1, .list T_starfree_table tables), (2, .str w), (3, .ptr 0 0 0), (7, .whole T_starfree_cuts 1), (8, .int .i64 i), (15, .int .i64 t15), (16, .int .i64 t16), (20, .int .i64 t20), (21, .bool false)] [.var [.int .i64 ns_0, .int .i64 ns_1, .int .i64 ns_2, .int .i64 ns_3], .arr T_starfree_cuts ts false]) (K := K) (by kernel_rfl) (by kernel_rfl) (by kernel_rfl)) (Eq.trans (s_starfree_evaluate_30c_eq C tables w i t15 t16 t20 false ns_0 ns_1 ns_2 ns_3 ts (joinK ann 24 0 21 K)) (by kernel_rfl))

theorem s_starfree_evaluate_32c_eq (C : CallF) (tables : List V) (w : List UInt8) (i : Int) (t15 : Int) (t16 : Int) (t20 : Int) (ns_0 : Int) (ns_1 : Int) (ns_2 : Int) (ns_3 : Int) (ts : List V) {β : Type} (K : Out → St → Option β) :
    execL Try.prog ann C 24 166 0 (codesAt Try.prog 24 [[1, 1, 0, 1, 0, 0, 1, 1, 0, 0, 1, 1, 0, 0], [1, 1, 0, 1, 0, 0, 1, 1, 0, 0, 1, 1, 0, 1]]) (mk [(1, .list T_starfree_table tables), (2, .str w), (3, .ptr 0 0 0), (7, .whole T_starfree_cuts 1), (8, .int .i64 i), (15, .int .i64 t15), (16, .int .i64 t16), (20, .int .i64 t20)] [.var [.int .i64 ns_0, .int .i64 ns_1, .int .i64 ns_2, .int .i64 ns_3], .arr T_starfree_cuts ts false]) K =
      bif ((t20 : Int) == 2) then
        bif (decide (0 ≤ i)) && (decide (i < (ts.length : Int))) then
          (ts[(i : Int).toNat]?).bind fun x1 =>
            (C F_starfree_cuts_with [.agg [.int .u64 ((x1.cell 0).toInt), .int .u64 ((x1.cell 1).toInt)], .int .i64 i] []).bind fun r2 =>
              bif (decide (0 ≤ i)) && (decide (i < (ts.length : Int))) then
                (ts[(i : Int).toNat]?).bind fun x3 =>
                  K .norm (mk [(1, .list T_starfree_table tables), (2, .str w), (3, .ptr 0 0 0), (7, .whole T_starfree_cuts 1), (15, .int .i64 t15), (16, .int .i64 t16)] [.var [.int .i64 ns_0, .int .i64 ns_1, .int .i64 ns_2, .int .i64 ns_3], .arr T_starfree_cuts (ts.set ((i : Int).toNat) (.agg [.int .u64 ((r2.1.cell 0).toInt), .int .u64 ((r2.1.cell 1).toInt)])) false])
              else none
        else none
      else
        bif ((t20 : Int) == 3) then
          s_starfree_evaluate_7 C w i ns_1 ts
            (fun (ts_49 : List V) =>
              K .norm (mk [(1, .list T_starfree_table tables), (2, .str w), (3, .ptr 0 0 0), (7, .whole T_starfree_cuts 1), (15, .int .i64 t15), (16, .int .i64 t16)] [.var [.int .i64 ns_0, .int .i64 ns_1, .int .i64 ns_2, .int .i64 ns_3], .arr T_starfree_cuts ts_49 false]))
        else
          bif ((t20 : Int) == 4) then
            (C F_starfree_between [.int .i64 i, .int .i64 (w.length : Int)] []).bind fun r9 =>
              bif (decide (0 ≤ i)) && (decide (i < (ts.length : Int))) then
                (ts[(i : Int).toNat]?).bind fun x10 =>
                  K .norm (mk [(1, .list T_starfree_table tables), (2, .str w), (3, .ptr 0 0 0), (7, .whole T_starfree_cuts 1), (15, .int .i64 t15), (16, .int .i64 t16)] [.var [.int .i64 ns_0, .int .i64 ns_1, .int .i64 ns_2, .int .i64 ns_3], .arr T_starfree_cuts (ts.set ((i : Int).toNat) (.agg [.int .u64 ((r9.1.cell 0).toInt), .int .u64 ((r9.1.cell 1).toInt)])) false])
              else none
          else
            bif ((t20 : Int) == 5) then
              (idx tables ns_2).bind fun x11 =>
                (idx x11.toList i).bind fun x12 =>
                  (idx tables ns_3).bind fun x13 =>
                    (idx x13.toList i).bind fun x14 =>
                      (C F_starfree_cuts_union [.agg [.int .u64 ((x12.cell 0).toInt), .int .u64 ((x12.cell 1).toInt)], .agg [.int .u64 ((x14.cell 0).toInt), .int .u64 ((x14.cell 1).toInt)]] []).bind fun r15 =>
                        bif (decide (0 ≤ i)) && (decide (i < (ts.length : Int))) then
                          (ts[(i : Int).toNat]?).bind fun x16 =>
                            K .norm (mk [(1, .list T_starfree_table tables), (2, .str w), (3, .ptr 0 0 0), (7, .whole T_starfree_cuts 1), (15, .int .i64 t15), (16, .int .i64 t16)] [.var [.int .i64 ns_0, .int .i64 ns_1, .int .i64 ns_2, .int .i64 ns_3], .arr T_starfree_cuts (ts.set ((i : Int).toNat) (.agg [.int .u64 ((r15.1.cell 0).toInt), .int .u64 ((r15.1.cell 1).toInt)])) false])
                        else none
            else
              bif ((t20 : Int) == 6) then
                (idx tables ns_2).bind fun x17 =>
                  (idx x17.toList i).bind fun x18 =>
                    (idx tables ns_3).bind fun x19 =>
                      (idx x19.toList i).bind fun x20 =>
                        (C F_starfree_cuts_meet [.agg [.int .u64 ((x18.cell 0).toInt), .int .u64 ((x18.cell 1).toInt)], .agg [.int .u64 ((x20.cell 0).toInt), .int .u64 ((x20.cell 1).toInt)]] []).bind fun r21 =>
                          bif (decide (0 ≤ i)) && (decide (i < (ts.length : Int))) then
                            (ts[(i : Int).toNat]?).bind fun x22 =>
                              K .norm (mk [(1, .list T_starfree_table tables), (2, .str w), (3, .ptr 0 0 0), (7, .whole T_starfree_cuts 1), (15, .int .i64 t15), (16, .int .i64 t16)] [.var [.int .i64 ns_0, .int .i64 ns_1, .int .i64 ns_2, .int .i64 ns_3], .arr T_starfree_cuts (ts.set ((i : Int).toNat) (.agg [.int .u64 ((r21.1.cell 0).toInt), .int .u64 ((r21.1.cell 1).toInt)])) false])
                          else none
              else
                bif ((t20 : Int) == 7) then
                  s_starfree_evaluate_17L C tables w i i ns_2 ns_3 ts
                    (fun (j_40 : Int) (t_41 : Bool) (ts_42 : List V) =>
                      K .norm (mk [(1, .list T_starfree_table tables), (2, .str w), (3, .ptr 0 0 0), (7, .whole T_starfree_cuts 1), (15, .int .i64 t15), (16, .int .i64 t16)] [.var [.int .i64 ns_0, .int .i64 ns_1, .int .i64 ns_2, .int .i64 ns_3], .arr T_starfree_cuts ts_42 false]))
                else
                  s_starfree_evaluate_20 C tables w i t20 ns_2 ts
                    (fun (ts_48 : List V) =>
                      K .norm (mk [(1, .list T_starfree_table tables), (2, .str w), (3, .ptr 0 0 0), (7, .whole T_starfree_cuts 1), (15, .int .i64 t15), (16, .int .i64 t16)] [.var [.int .i64 ns_0, .int .i64 ns_1, .int .i64 ns_2, .int .i64 ns_3], .arr T_starfree_cuts ts_48 false])) := by
  refine Eq.trans (execL_app (P := Try.prog) (A := ann) (C := C) (f := 24) (n := 166) (m := 0) (codesAt Try.prog 24 [[1, 1, 0, 1, 0, 0, 1, 1, 0, 0, 1, 1, 0, 0]]) (codesAt Try.prog 24 [[1, 1, 0, 1, 0, 0, 1, 1, 0, 0, 1, 1, 0, 1]]) (st := mk [(1, .list T_starfree_table tables), (2, .str w), (3, .ptr 0 0 0), (7, .whole T_starfree_cuts 1), (8, .int .i64 i), (15, .int .i64 t15), (16, .int .i64 t16), (20, .int .i64 t20)] [.var [.int .i64 ns_0, .int .i64 ns_1, .int .i64 ns_2, .int .i64 ns_3], .arr T_starfree_cuts ts false]) (K := K)) (Eq.trans (s_starfree_evaluate_4d_eq C tables w i t15 t16 t20 ns_0 ns_1 ns_2 ns_3 ts (seqK Try.prog ann C 24 166 0 (codesAt Try.prog 24 [[1, 1, 0, 1, 0, 0, 1, 1, 0, 0, 1, 1, 0, 1]]) K)) ?_)
  · exact Eq.trans (by kernel_rfl) (Eq.trans (congrArg (fun HOLE : Option β => (HOLE)) (s_starfree_evaluate_31i_eq C tables w i t15 t16 t20 ((t20 : Int) == 2) ns_0 ns_1 ns_2 ns_3 ts K)) ((by kernel_rfl)))


theorem s_starfree_evaluate_33b_eq (C : CallF) (tables : List V) (w : List UInt8) (i : Int) (t15 : Int) (t16 : Int) (t20 : Int) (ns_0 : Int) (ns_1 : Int) (ns_2 : Int) (ns_3 : Int) (ts : List V) {β : Type} (K : Out → St → Option β) :
    execL Try.prog ann C 24 166 0 (codesAt Try.prog 24 [[1, 1, 0, 1, 0, 0, 1, 1, 0, 0, 1, 1]]) (mk [(1, .list T_starfree_table tables), (2, .str w), (3, .ptr 0 0 0), (7, .whole T_starfree_cuts 1), (8, .int .i64 i), (15, .int .i64 t15), (16, .int .i64 t16), (20, .int .i64 t20)] [.var [.int .i64 ns_0, .int .i64 ns_1, .int .i64 ns_2, .int .i64 ns_3], .arr T_starfree_cuts ts false]) K =
      bif ((t20 : Int) == 2) then
        bif (decide (0 ≤ i)) && (decide (i < (ts.length : Int))) then
          (ts[(i : Int).toNat]?).bind fun x1 =>
            (C F_starfree_cuts_with [.agg [.int .u64 ((x1.cell 0).toInt), .int .u64 ((x1.cell 1).toInt)], .int .i64 i] []).bind fun r2 =>
              bif (decide (0 ≤ i)) && (decide (i < (ts.length : Int))) then
                (ts[(i : Int).toNat]?).bind fun x3 =>
                  K .norm (mk [(1, .list T_starfree_table tables), (2, .str w), (3, .ptr 0 0 0), (7, .whole T_starfree_cuts 1), (15, .int .i64 t15), (16, .int .i64 t16)] [.var [.int .i64 ns_0, .int .i64 ns_1, .int .i64 ns_2, .int .i64 ns_3], .arr T_starfree_cuts (ts.set ((i : Int).toNat) (.agg [.int .u64 ((r2.1.cell 0).toInt), .int .u64 ((r2.1.cell 1).toInt)])) false])
              else none
        else none
      else
        bif ((t20 : Int) == 3) then
          s_starfree_evaluate_7 C w i ns_1 ts
            (fun (ts_49 : List V) =>
              K .norm (mk [(1, .list T_starfree_table tables), (2, .str w), (3, .ptr 0 0 0), (7, .whole T_starfree_cuts 1), (15, .int .i64 t15), (16, .int .i64 t16)] [.var [.int .i64 ns_0, .int .i64 ns_1, .int .i64 ns_2, .int .i64 ns_3], .arr T_starfree_cuts ts_49 false]))
        else
          bif ((t20 : Int) == 4) then
            (C F_starfree_between [.int .i64 i, .int .i64 (w.length : Int)] []).bind fun r9 =>
              bif (decide (0 ≤ i)) && (decide (i < (ts.length : Int))) then
                (ts[(i : Int).toNat]?).bind fun x10 =>
                  K .norm (mk [(1, .list T_starfree_table tables), (2, .str w), (3, .ptr 0 0 0), (7, .whole T_starfree_cuts 1), (15, .int .i64 t15), (16, .int .i64 t16)] [.var [.int .i64 ns_0, .int .i64 ns_1, .int .i64 ns_2, .int .i64 ns_3], .arr T_starfree_cuts (ts.set ((i : Int).toNat) (.agg [.int .u64 ((r9.1.cell 0).toInt), .int .u64 ((r9.1.cell 1).toInt)])) false])
              else none
          else
            bif ((t20 : Int) == 5) then
              (idx tables ns_2).bind fun x11 =>
                (idx x11.toList i).bind fun x12 =>
                  (idx tables ns_3).bind fun x13 =>
                    (idx x13.toList i).bind fun x14 =>
                      (C F_starfree_cuts_union [.agg [.int .u64 ((x12.cell 0).toInt), .int .u64 ((x12.cell 1).toInt)], .agg [.int .u64 ((x14.cell 0).toInt), .int .u64 ((x14.cell 1).toInt)]] []).bind fun r15 =>
                        bif (decide (0 ≤ i)) && (decide (i < (ts.length : Int))) then
                          (ts[(i : Int).toNat]?).bind fun x16 =>
                            K .norm (mk [(1, .list T_starfree_table tables), (2, .str w), (3, .ptr 0 0 0), (7, .whole T_starfree_cuts 1), (15, .int .i64 t15), (16, .int .i64 t16)] [.var [.int .i64 ns_0, .int .i64 ns_1, .int .i64 ns_2, .int .i64 ns_3], .arr T_starfree_cuts (ts.set ((i : Int).toNat) (.agg [.int .u64 ((r15.1.cell 0).toInt), .int .u64 ((r15.1.cell 1).toInt)])) false])
                        else none
            else
              bif ((t20 : Int) == 6) then
                (idx tables ns_2).bind fun x17 =>
                  (idx x17.toList i).bind fun x18 =>
                    (idx tables ns_3).bind fun x19 =>
                      (idx x19.toList i).bind fun x20 =>
                        (C F_starfree_cuts_meet [.agg [.int .u64 ((x18.cell 0).toInt), .int .u64 ((x18.cell 1).toInt)], .agg [.int .u64 ((x20.cell 0).toInt), .int .u64 ((x20.cell 1).toInt)]] []).bind fun r21 =>
                          bif (decide (0 ≤ i)) && (decide (i < (ts.length : Int))) then
                            (ts[(i : Int).toNat]?).bind fun x22 =>
                              K .norm (mk [(1, .list T_starfree_table tables), (2, .str w), (3, .ptr 0 0 0), (7, .whole T_starfree_cuts 1), (15, .int .i64 t15), (16, .int .i64 t16)] [.var [.int .i64 ns_0, .int .i64 ns_1, .int .i64 ns_2, .int .i64 ns_3], .arr T_starfree_cuts (ts.set ((i : Int).toNat) (.agg [.int .u64 ((r21.1.cell 0).toInt), .int .u64 ((r21.1.cell 1).toInt)])) false])
                          else none
              else
                bif ((t20 : Int) == 7) then
                  s_starfree_evaluate_17L C tables w i i ns_2 ns_3 ts
                    (fun (j_40 : Int) (t_41 : Bool) (ts_42 : List V) =>
                      K .norm (mk [(1, .list T_starfree_table tables), (2, .str w), (3, .ptr 0 0 0), (7, .whole T_starfree_cuts 1), (15, .int .i64 t15), (16, .int .i64 t16)] [.var [.int .i64 ns_0, .int .i64 ns_1, .int .i64 ns_2, .int .i64 ns_3], .arr T_starfree_cuts ts_42 false]))
                else
                  s_starfree_evaluate_20 C tables w i t20 ns_2 ts
                    (fun (ts_48 : List V) =>
                      K .norm (mk [(1, .list T_starfree_table tables), (2, .str w), (3, .ptr 0 0 0), (7, .whole T_starfree_cuts 1), (15, .int .i64 t15), (16, .int .i64 t16)] [.var [.int .i64 ns_0, .int .i64 ns_1, .int .i64 ns_2, .int .i64 ns_3], .arr T_starfree_cuts ts_48 false])) := Eq.trans (execL_block (P := Try.prog) (A := ann) (C := C) (f := 24) (n := 166) (m := 0) (id := 2) (c := codeAt [1, 1, 0, 1, 0, 0, 1, 1, 0, 0, 1, 1] (bodyOf Try.prog 24)) (d := codeAt [1, 1, 0, 1, 0, 0, 1, 1, 0, 0, 1, 1, 0] (bodyOf Try.prog 24)) (l := codesAt Try.prog 24 [[1, 1, 0, 1, 0, 0, 1, 1, 0, 0, 1, 1, 0, 0], [1, 1, 0, 1, 0, 0, 1, 1, 0, 0, 1, 1, 0, 1]]) (st := mk [(1, .list T_starfree_table tables), (2, .str w), (3, .ptr 0 0 0), (7, .whole T_starfree_cuts 1), (8, .int .i64 i), (15, .int .i64 t15), (16, .int .i64 t16), (20, .int .i64 t20)] [.var [.int .i64 ns_0, .int .i64 ns_1, .int .i64 ns_2, .int .i64 ns_3], .arr T_starfree_cuts ts false]) (K := K) (by kernel_rfl) (by kernel_rfl)) (Eq.trans (s_starfree_evaluate_32c_eq C tables w i t15 t16 t20 ns_0 ns_1 ns_2 ns_3 ts (blockK ann 24 0 2 K)) (by kernel_rfl))

theorem s_starfree_evaluate_34c_eq (C : CallF) (tables : List V) (w : List UInt8) (t15 : Int) (t16 : Int) (ns_0 : Int) (ns_1 : Int) (ns_2 : Int) (ns_3 : Int) (ts : List V) {β : Type} (K : Out → St → Option β) :
    execL Try.prog ann C 24 166 0 (codesAt Try.prog 24 [[1, 1, 0, 1, 0, 0, 1, 1, 0, 0, 0], [1, 1, 0, 1, 0, 0, 1, 1, 0, 0, 1, 0], [1, 1, 0, 1, 0, 0, 1, 1, 0, 0, 1, 1]]) (mk [(1, .list T_starfree_table tables), (2, .str w), (3, .ptr 0 0 0), (7, .whole T_starfree_cuts 1), (15, .int .i64 t15), (16, .int .i64 t16)] [.var [.int .i64 ns_0, .int .i64 ns_1, .int .i64 ns_2, .int .i64 ns_3], .arr T_starfree_cuts ts false]) K =
      bif ((ns_0 : Int) == 2) then
        bif (decide (0 ≤ t16)) && (decide (t16 < (ts.length : Int))) then
          (ts[(t16 : Int).toNat]?).bind fun x1 =>
            (C F_starfree_cuts_with [.agg [.int .u64 ((x1.cell 0).toInt), .int .u64 ((x1.cell 1).toInt)], .int .i64 t16] []).bind fun r2 =>
              bif (decide (0 ≤ t16)) && (decide (t16 < (ts.length : Int))) then
                (ts[(t16 : Int).toNat]?).bind fun x3 =>
                  K .norm (mk [(1, .list T_starfree_table tables), (2, .str w), (3, .ptr 0 0 0), (7, .whole T_starfree_cuts 1), (15, .int .i64 t15), (16, .int .i64 t16)] [.var [.int .i64 ns_0, .int .i64 ns_1, .int .i64 ns_2, .int .i64 ns_3], .arr T_starfree_cuts (ts.set ((t16 : Int).toNat) (.agg [.int .u64 ((r2.1.cell 0).toInt), .int .u64 ((r2.1.cell 1).toInt)])) false])
              else none
        else none
      else
        bif ((ns_0 : Int) == 3) then
          s_starfree_evaluate_7 C w t16 ns_1 ts
            (fun (ts_49 : List V) =>
              K .norm (mk [(1, .list T_starfree_table tables), (2, .str w), (3, .ptr 0 0 0), (7, .whole T_starfree_cuts 1), (15, .int .i64 t15), (16, .int .i64 t16)] [.var [.int .i64 ns_0, .int .i64 ns_1, .int .i64 ns_2, .int .i64 ns_3], .arr T_starfree_cuts ts_49 false]))
        else
          bif ((ns_0 : Int) == 4) then
            (C F_starfree_between [.int .i64 t16, .int .i64 (w.length : Int)] []).bind fun r9 =>
              bif (decide (0 ≤ t16)) && (decide (t16 < (ts.length : Int))) then
                (ts[(t16 : Int).toNat]?).bind fun x10 =>
                  K .norm (mk [(1, .list T_starfree_table tables), (2, .str w), (3, .ptr 0 0 0), (7, .whole T_starfree_cuts 1), (15, .int .i64 t15), (16, .int .i64 t16)] [.var [.int .i64 ns_0, .int .i64 ns_1, .int .i64 ns_2, .int .i64 ns_3], .arr T_starfree_cuts (ts.set ((t16 : Int).toNat) (.agg [.int .u64 ((r9.1.cell 0).toInt), .int .u64 ((r9.1.cell 1).toInt)])) false])
              else none
          else
            bif ((ns_0 : Int) == 5) then
              (idx tables ns_2).bind fun x11 =>
                (idx x11.toList t16).bind fun x12 =>
                  (idx tables ns_3).bind fun x13 =>
                    (idx x13.toList t16).bind fun x14 =>
                      (C F_starfree_cuts_union [.agg [.int .u64 ((x12.cell 0).toInt), .int .u64 ((x12.cell 1).toInt)], .agg [.int .u64 ((x14.cell 0).toInt), .int .u64 ((x14.cell 1).toInt)]] []).bind fun r15 =>
                        bif (decide (0 ≤ t16)) && (decide (t16 < (ts.length : Int))) then
                          (ts[(t16 : Int).toNat]?).bind fun x16 =>
                            K .norm (mk [(1, .list T_starfree_table tables), (2, .str w), (3, .ptr 0 0 0), (7, .whole T_starfree_cuts 1), (15, .int .i64 t15), (16, .int .i64 t16)] [.var [.int .i64 ns_0, .int .i64 ns_1, .int .i64 ns_2, .int .i64 ns_3], .arr T_starfree_cuts (ts.set ((t16 : Int).toNat) (.agg [.int .u64 ((r15.1.cell 0).toInt), .int .u64 ((r15.1.cell 1).toInt)])) false])
                        else none
            else
              bif ((ns_0 : Int) == 6) then
                (idx tables ns_2).bind fun x17 =>
                  (idx x17.toList t16).bind fun x18 =>
                    (idx tables ns_3).bind fun x19 =>
                      (idx x19.toList t16).bind fun x20 =>
                        (C F_starfree_cuts_meet [.agg [.int .u64 ((x18.cell 0).toInt), .int .u64 ((x18.cell 1).toInt)], .agg [.int .u64 ((x20.cell 0).toInt), .int .u64 ((x20.cell 1).toInt)]] []).bind fun r21 =>
                          bif (decide (0 ≤ t16)) && (decide (t16 < (ts.length : Int))) then
                            (ts[(t16 : Int).toNat]?).bind fun x22 =>
                              K .norm (mk [(1, .list T_starfree_table tables), (2, .str w), (3, .ptr 0 0 0), (7, .whole T_starfree_cuts 1), (15, .int .i64 t15), (16, .int .i64 t16)] [.var [.int .i64 ns_0, .int .i64 ns_1, .int .i64 ns_2, .int .i64 ns_3], .arr T_starfree_cuts (ts.set ((t16 : Int).toNat) (.agg [.int .u64 ((r21.1.cell 0).toInt), .int .u64 ((r21.1.cell 1).toInt)])) false])
                          else none
              else
                bif ((ns_0 : Int) == 7) then
                  s_starfree_evaluate_17L C tables w t16 t16 ns_2 ns_3 ts
                    (fun (j_40 : Int) (t_41 : Bool) (ts_42 : List V) =>
                      K .norm (mk [(1, .list T_starfree_table tables), (2, .str w), (3, .ptr 0 0 0), (7, .whole T_starfree_cuts 1), (15, .int .i64 t15), (16, .int .i64 t16)] [.var [.int .i64 ns_0, .int .i64 ns_1, .int .i64 ns_2, .int .i64 ns_3], .arr T_starfree_cuts ts_42 false]))
                else
                  s_starfree_evaluate_20 C tables w t16 ns_0 ns_2 ts
                    (fun (ts_48 : List V) =>
                      K .norm (mk [(1, .list T_starfree_table tables), (2, .str w), (3, .ptr 0 0 0), (7, .whole T_starfree_cuts 1), (15, .int .i64 t15), (16, .int .i64 t16)] [.var [.int .i64 ns_0, .int .i64 ns_1, .int .i64 ns_2, .int .i64 ns_3], .arr T_starfree_cuts ts_48 false])) := by
  refine Eq.trans (execL_app (P := Try.prog) (A := ann) (C := C) (f := 24) (n := 166) (m := 0) (codesAt Try.prog 24 [[1, 1, 0, 1, 0, 0, 1, 1, 0, 0, 0], [1, 1, 0, 1, 0, 0, 1, 1, 0, 0, 1, 0]]) (codesAt Try.prog 24 [[1, 1, 0, 1, 0, 0, 1, 1, 0, 0, 1, 1]]) (st := mk [(1, .list T_starfree_table tables), (2, .str w), (3, .ptr 0 0 0), (7, .whole T_starfree_cuts 1), (15, .int .i64 t15), (16, .int .i64 t16)] [.var [.int .i64 ns_0, .int .i64 ns_1, .int .i64 ns_2, .int .i64 ns_3], .arr T_starfree_cuts ts false]) (K := K)) (Eq.trans (s_starfree_evaluate_3d_eq C tables w t15 t16 ns_0 ns_1 ns_2 ns_3 ts (seqK Try.prog ann C 24 166 0 (codesAt Try.prog 24 [[1, 1, 0, 1, 0, 0, 1, 1, 0, 0, 1, 1]]) K)) ?_)
  · exact Eq.trans (by kernel_rfl) (Eq.trans (congrArg (fun HOLE : Option β => (HOLE)) (s_starfree_evaluate_33b_eq C tables w t16 t15 t16 ns_0 ns_0 ns_1 ns_2 ns_3 ts K)) ((by kernel_rfl)))


theorem s_starfree_evaluate_35b_eq (C : CallF) (tables : List V) (w : List UInt8) (t15 : Int) (t16 : Int) (ns_0 : Int) (ns_1 : Int) (ns_2 : Int) (ns_3 : Int) (ts : List V) {β : Type} (K : Out → St → Option β) :
    execL Try.prog ann C 24 166 0 (codesAt Try.prog 24 [[1, 1, 0, 1, 0, 0, 1, 1, 0]]) (mk [(1, .list T_starfree_table tables), (2, .str w), (3, .ptr 0 0 0), (7, .whole T_starfree_cuts 1), (15, .int .i64 t15), (16, .int .i64 t16)] [.var [.int .i64 ns_0, .int .i64 ns_1, .int .i64 ns_2, .int .i64 ns_3], .arr T_starfree_cuts ts false]) K =
      bif ((ns_0 : Int) == 2) then
        bif (decide (0 ≤ t16)) && (decide (t16 < (ts.length : Int))) then
          (ts[(t16 : Int).toNat]?).bind fun x1 =>
            (C F_starfree_cuts_with [.agg [.int .u64 ((x1.cell 0).toInt), .int .u64 ((x1.cell 1).toInt)], .int .i64 t16] []).bind fun r2 =>
              bif (decide (0 ≤ t16)) && (decide (t16 < (ts.length : Int))) then
                (ts[(t16 : Int).toNat]?).bind fun x3 =>
                  K .norm (mk [(1, .list T_starfree_table tables), (2, .str w), (3, .ptr 0 0 0), (7, .whole T_starfree_cuts 1), (15, .int .i64 t15), (16, .int .i64 t16)] [.var [.int .i64 ns_0, .int .i64 ns_1, .int .i64 ns_2, .int .i64 ns_3], .arr T_starfree_cuts (ts.set ((t16 : Int).toNat) (.agg [.int .u64 ((r2.1.cell 0).toInt), .int .u64 ((r2.1.cell 1).toInt)])) false])
              else none
        else none
      else
        bif ((ns_0 : Int) == 3) then
          s_starfree_evaluate_7 C w t16 ns_1 ts
            (fun (ts_49 : List V) =>
              K .norm (mk [(1, .list T_starfree_table tables), (2, .str w), (3, .ptr 0 0 0), (7, .whole T_starfree_cuts 1), (15, .int .i64 t15), (16, .int .i64 t16)] [.var [.int .i64 ns_0, .int .i64 ns_1, .int .i64 ns_2, .int .i64 ns_3], .arr T_starfree_cuts ts_49 false]))
        else
          bif ((ns_0 : Int) == 4) then
            (C F_starfree_between [.int .i64 t16, .int .i64 (w.length : Int)] []).bind fun r9 =>
              bif (decide (0 ≤ t16)) && (decide (t16 < (ts.length : Int))) then
                (ts[(t16 : Int).toNat]?).bind fun x10 =>
                  K .norm (mk [(1, .list T_starfree_table tables), (2, .str w), (3, .ptr 0 0 0), (7, .whole T_starfree_cuts 1), (15, .int .i64 t15), (16, .int .i64 t16)] [.var [.int .i64 ns_0, .int .i64 ns_1, .int .i64 ns_2, .int .i64 ns_3], .arr T_starfree_cuts (ts.set ((t16 : Int).toNat) (.agg [.int .u64 ((r9.1.cell 0).toInt), .int .u64 ((r9.1.cell 1).toInt)])) false])
              else none
          else
            bif ((ns_0 : Int) == 5) then
              (idx tables ns_2).bind fun x11 =>
                (idx x11.toList t16).bind fun x12 =>
                  (idx tables ns_3).bind fun x13 =>
                    (idx x13.toList t16).bind fun x14 =>
                      (C F_starfree_cuts_union [.agg [.int .u64 ((x12.cell 0).toInt), .int .u64 ((x12.cell 1).toInt)], .agg [.int .u64 ((x14.cell 0).toInt), .int .u64 ((x14.cell 1).toInt)]] []).bind fun r15 =>
                        bif (decide (0 ≤ t16)) && (decide (t16 < (ts.length : Int))) then
                          (ts[(t16 : Int).toNat]?).bind fun x16 =>
                            K .norm (mk [(1, .list T_starfree_table tables), (2, .str w), (3, .ptr 0 0 0), (7, .whole T_starfree_cuts 1), (15, .int .i64 t15), (16, .int .i64 t16)] [.var [.int .i64 ns_0, .int .i64 ns_1, .int .i64 ns_2, .int .i64 ns_3], .arr T_starfree_cuts (ts.set ((t16 : Int).toNat) (.agg [.int .u64 ((r15.1.cell 0).toInt), .int .u64 ((r15.1.cell 1).toInt)])) false])
                        else none
            else
              bif ((ns_0 : Int) == 6) then
                (idx tables ns_2).bind fun x17 =>
                  (idx x17.toList t16).bind fun x18 =>
                    (idx tables ns_3).bind fun x19 =>
                      (idx x19.toList t16).bind fun x20 =>
                        (C F_starfree_cuts_meet [.agg [.int .u64 ((x18.cell 0).toInt), .int .u64 ((x18.cell 1).toInt)], .agg [.int .u64 ((x20.cell 0).toInt), .int .u64 ((x20.cell 1).toInt)]] []).bind fun r21 =>
                          bif (decide (0 ≤ t16)) && (decide (t16 < (ts.length : Int))) then
                            (ts[(t16 : Int).toNat]?).bind fun x22 =>
                              K .norm (mk [(1, .list T_starfree_table tables), (2, .str w), (3, .ptr 0 0 0), (7, .whole T_starfree_cuts 1), (15, .int .i64 t15), (16, .int .i64 t16)] [.var [.int .i64 ns_0, .int .i64 ns_1, .int .i64 ns_2, .int .i64 ns_3], .arr T_starfree_cuts (ts.set ((t16 : Int).toNat) (.agg [.int .u64 ((r21.1.cell 0).toInt), .int .u64 ((r21.1.cell 1).toInt)])) false])
                          else none
              else
                bif ((ns_0 : Int) == 7) then
                  s_starfree_evaluate_17L C tables w t16 t16 ns_2 ns_3 ts
                    (fun (j_40 : Int) (t_41 : Bool) (ts_42 : List V) =>
                      K .norm (mk [(1, .list T_starfree_table tables), (2, .str w), (3, .ptr 0 0 0), (7, .whole T_starfree_cuts 1), (15, .int .i64 t15), (16, .int .i64 t16)] [.var [.int .i64 ns_0, .int .i64 ns_1, .int .i64 ns_2, .int .i64 ns_3], .arr T_starfree_cuts ts_42 false]))
                else
                  s_starfree_evaluate_20 C tables w t16 ns_0 ns_2 ts
                    (fun (ts_48 : List V) =>
                      K .norm (mk [(1, .list T_starfree_table tables), (2, .str w), (3, .ptr 0 0 0), (7, .whole T_starfree_cuts 1), (15, .int .i64 t15), (16, .int .i64 t16)] [.var [.int .i64 ns_0, .int .i64 ns_1, .int .i64 ns_2, .int .i64 ns_3], .arr T_starfree_cuts ts_48 false])) := Eq.trans (execL_block (P := Try.prog) (A := ann) (C := C) (f := 24) (n := 166) (m := 0) (id := 1) (c := codeAt [1, 1, 0, 1, 0, 0, 1, 1, 0] (bodyOf Try.prog 24)) (d := codeAt [1, 1, 0, 1, 0, 0, 1, 1, 0, 0] (bodyOf Try.prog 24)) (l := codesAt Try.prog 24 [[1, 1, 0, 1, 0, 0, 1, 1, 0, 0, 0], [1, 1, 0, 1, 0, 0, 1, 1, 0, 0, 1, 0], [1, 1, 0, 1, 0, 0, 1, 1, 0, 0, 1, 1]]) (st := mk [(1, .list T_starfree_table tables), (2, .str w), (3, .ptr 0 0 0), (7, .whole T_starfree_cuts 1), (15, .int .i64 t15), (16, .int .i64 t16)] [.var [.int .i64 ns_0, .int .i64 ns_1, .int .i64 ns_2, .int .i64 ns_3], .arr T_starfree_cuts ts false]) (K := K) (by kernel_rfl) (by kernel_rfl)) (Eq.trans (s_starfree_evaluate_34c_eq C tables w t15 t16 ns_0 ns_1 ns_2 ns_3 ts (blockK ann 24 0 1 K)) (by kernel_rfl))

theorem s_starfree_evaluate_36d_eq (C : CallF) (tables : List V) (w : List UInt8) (t15 : Int) (t16 : Int) (ns_0 : Int) (ns_1 : Int) (ns_2 : Int) (ns_3 : Int) (ts : List V) {β : Type} (K : Out → St → Option β) :
    execL Try.prog ann C 24 166 0 (codesAt Try.prog 24 [[1, 1, 0, 1, 0, 0, 1, 1, 1]]) (mk [(1, .list T_starfree_table tables), (2, .str w), (3, .ptr 0 0 0), (7, .whole T_starfree_cuts 1), (15, .int .i64 t15), (16, .int .i64 t16)] [.var [.int .i64 ns_0, .int .i64 ns_1, .int .i64 ns_2, .int .i64 ns_3], .arr T_starfree_cuts ts false]) K =
      K .norm (mk [(1, .list T_starfree_table tables), (2, .str w), (3, .ptr 0 0 0), (7, .whole T_starfree_cuts 1), (15, .int .i64 t15), (16, .int .i64 (IntKind.wrap .i64 (t16 + 1)))] [.var [.int .i64 ns_0, .int .i64 ns_1, .int .i64 ns_2, .int .i64 ns_3], .arr T_starfree_cuts ts false]) := by kernel_rfl

theorem s_starfree_evaluate_37c_eq (C : CallF) (tables : List V) (w : List UInt8) (t15 : Int) (t16 : Int) (ns_0 : Int) (ns_1 : Int) (ns_2 : Int) (ns_3 : Int) (ts : List V) {β : Type} (K : Out → St → Option β) :
    execL Try.prog ann C 24 166 0 (codesAt Try.prog 24 [[1, 1, 0, 1, 0, 0, 1, 1, 0], [1, 1, 0, 1, 0, 0, 1, 1, 1]]) (mk [(1, .list T_starfree_table tables), (2, .str w), (3, .ptr 0 0 0), (7, .whole T_starfree_cuts 1), (15, .int .i64 t15), (16, .int .i64 t16)] [.var [.int .i64 ns_0, .int .i64 ns_1, .int .i64 ns_2, .int .i64 ns_3], .arr T_starfree_cuts ts false]) K =
      bif ((ns_0 : Int) == 2) then
        bif (decide (0 ≤ t16)) && (decide (t16 < (ts.length : Int))) then
          (ts[(t16 : Int).toNat]?).bind fun x1 =>
            (C F_starfree_cuts_with [.agg [.int .u64 ((x1.cell 0).toInt), .int .u64 ((x1.cell 1).toInt)], .int .i64 t16] []).bind fun r2 =>
              bif (decide (0 ≤ t16)) && (decide (t16 < (ts.length : Int))) then
                (ts[(t16 : Int).toNat]?).bind fun x3 =>
                  K .norm (mk [(1, .list T_starfree_table tables), (2, .str w), (3, .ptr 0 0 0), (7, .whole T_starfree_cuts 1), (15, .int .i64 t15), (16, .int .i64 (IntKind.wrap .i64 (t16 + 1)))] [.var [.int .i64 ns_0, .int .i64 ns_1, .int .i64 ns_2, .int .i64 ns_3], .arr T_starfree_cuts (ts.set ((t16 : Int).toNat) (.agg [.int .u64 ((r2.1.cell 0).toInt), .int .u64 ((r2.1.cell 1).toInt)])) false])
              else none
        else none
      else
        bif ((ns_0 : Int) == 3) then
          s_starfree_evaluate_7 C w t16 ns_1 ts
            (fun (ts_49 : List V) =>
              K .norm (mk [(1, .list T_starfree_table tables), (2, .str w), (3, .ptr 0 0 0), (7, .whole T_starfree_cuts 1), (15, .int .i64 t15), (16, .int .i64 (IntKind.wrap .i64 (t16 + 1)))] [.var [.int .i64 ns_0, .int .i64 ns_1, .int .i64 ns_2, .int .i64 ns_3], .arr T_starfree_cuts ts_49 false]))
        else
          bif ((ns_0 : Int) == 4) then
            (C F_starfree_between [.int .i64 t16, .int .i64 (w.length : Int)] []).bind fun r9 =>
              bif (decide (0 ≤ t16)) && (decide (t16 < (ts.length : Int))) then
                (ts[(t16 : Int).toNat]?).bind fun x10 =>
                  K .norm (mk [(1, .list T_starfree_table tables), (2, .str w), (3, .ptr 0 0 0), (7, .whole T_starfree_cuts 1), (15, .int .i64 t15), (16, .int .i64 (IntKind.wrap .i64 (t16 + 1)))] [.var [.int .i64 ns_0, .int .i64 ns_1, .int .i64 ns_2, .int .i64 ns_3], .arr T_starfree_cuts (ts.set ((t16 : Int).toNat) (.agg [.int .u64 ((r9.1.cell 0).toInt), .int .u64 ((r9.1.cell 1).toInt)])) false])
              else none
          else
            bif ((ns_0 : Int) == 5) then
              (idx tables ns_2).bind fun x11 =>
                (idx x11.toList t16).bind fun x12 =>
                  (idx tables ns_3).bind fun x13 =>
                    (idx x13.toList t16).bind fun x14 =>
                      (C F_starfree_cuts_union [.agg [.int .u64 ((x12.cell 0).toInt), .int .u64 ((x12.cell 1).toInt)], .agg [.int .u64 ((x14.cell 0).toInt), .int .u64 ((x14.cell 1).toInt)]] []).bind fun r15 =>
                        bif (decide (0 ≤ t16)) && (decide (t16 < (ts.length : Int))) then
                          (ts[(t16 : Int).toNat]?).bind fun x16 =>
                            K .norm (mk [(1, .list T_starfree_table tables), (2, .str w), (3, .ptr 0 0 0), (7, .whole T_starfree_cuts 1), (15, .int .i64 t15), (16, .int .i64 (IntKind.wrap .i64 (t16 + 1)))] [.var [.int .i64 ns_0, .int .i64 ns_1, .int .i64 ns_2, .int .i64 ns_3], .arr T_starfree_cuts (ts.set ((t16 : Int).toNat) (.agg [.int .u64 ((r15.1.cell 0).toInt), .int .u64 ((r15.1.cell 1).toInt)])) false])
                        else none
            else
              bif ((ns_0 : Int) == 6) then
                (idx tables ns_2).bind fun x17 =>
                  (idx x17.toList t16).bind fun x18 =>
                    (idx tables ns_3).bind fun x19 =>
                      (idx x19.toList t16).bind fun x20 =>
                        (C F_starfree_cuts_meet [.agg [.int .u64 ((x18.cell 0).toInt), .int .u64 ((x18.cell 1).toInt)], .agg [.int .u64 ((x20.cell 0).toInt), .int .u64 ((x20.cell 1).toInt)]] []).bind fun r21 =>
                          bif (decide (0 ≤ t16)) && (decide (t16 < (ts.length : Int))) then
                            (ts[(t16 : Int).toNat]?).bind fun x22 =>
                              K .norm (mk [(1, .list T_starfree_table tables), (2, .str w), (3, .ptr 0 0 0), (7, .whole T_starfree_cuts 1), (15, .int .i64 t15), (16, .int .i64 (IntKind.wrap .i64 (t16 + 1)))] [.var [.int .i64 ns_0, .int .i64 ns_1, .int .i64 ns_2, .int .i64 ns_3], .arr T_starfree_cuts (ts.set ((t16 : Int).toNat) (.agg [.int .u64 ((r21.1.cell 0).toInt), .int .u64 ((r21.1.cell 1).toInt)])) false])
                          else none
              else
                bif ((ns_0 : Int) == 7) then
                  s_starfree_evaluate_17L C tables w t16 t16 ns_2 ns_3 ts
                    (fun (j_40 : Int) (t_41 : Bool) (ts_42 : List V) =>
                      K .norm (mk [(1, .list T_starfree_table tables), (2, .str w), (3, .ptr 0 0 0), (7, .whole T_starfree_cuts 1), (15, .int .i64 t15), (16, .int .i64 (IntKind.wrap .i64 (t16 + 1)))] [.var [.int .i64 ns_0, .int .i64 ns_1, .int .i64 ns_2, .int .i64 ns_3], .arr T_starfree_cuts ts_42 false]))
                else
                  s_starfree_evaluate_20 C tables w t16 ns_0 ns_2 ts
                    (fun (ts_48 : List V) =>
                      K .norm (mk [(1, .list T_starfree_table tables), (2, .str w), (3, .ptr 0 0 0), (7, .whole T_starfree_cuts 1), (15, .int .i64 t15), (16, .int .i64 (IntKind.wrap .i64 (t16 + 1)))] [.var [.int .i64 ns_0, .int .i64 ns_1, .int .i64 ns_2, .int .i64 ns_3], .arr T_starfree_cuts ts_48 false])) := by
  refine Eq.trans (execL_app (P := Try.prog) (A := ann) (C := C) (f := 24) (n := 166) (m := 0) (codesAt Try.prog 24 [[1, 1, 0, 1, 0, 0, 1, 1, 0]]) (codesAt Try.prog 24 [[1, 1, 0, 1, 0, 0, 1, 1, 1]]) (st := mk [(1, .list T_starfree_table tables), (2, .str w), (3, .ptr 0 0 0), (7, .whole T_starfree_cuts 1), (15, .int .i64 t15), (16, .int .i64 t16)] [.var [.int .i64 ns_0, .int .i64 ns_1, .int .i64 ns_2, .int .i64 ns_3], .arr T_starfree_cuts ts false]) (K := K)) (Eq.trans (s_starfree_evaluate_35b_eq C tables w t15 t16 ns_0 ns_1 ns_2 ns_3 ts (seqK Try.prog ann C 24 166 0 (codesAt Try.prog 24 [[1, 1, 0, 1, 0, 0, 1, 1, 1]]) K)) ?_)
  · exact Eq.trans (by kernel_rfl) (Eq.trans (congrArg (fun HOLE : (List V) → Option β => (bif ((ns_0 : Int) == 2) then
        bif (decide (0 ≤ t16)) && (decide (t16 < (ts.length : Int))) then
          (ts[(t16 : Int).toNat]?).bind fun x1 =>
            (C F_starfree_cuts_with [.agg [.int .u64 ((x1.cell 0).toInt), .int .u64 ((x1.cell 1).toInt)], .int .i64 t16] []).bind fun r2 =>
              bif (decide (0 ≤ t16)) && (decide (t16 < (ts.length : Int))) then
                (ts[(t16 : Int).toNat]?).bind fun x3 =>
                  HOLE (ts.set ((t16 : Int).toNat) (.agg [.int .u64 ((r2.1.cell 0).toInt), .int .u64 ((r2.1.cell 1).toInt)]))
              else none
        else none
      else
        bif ((ns_0 : Int) == 3) then
          s_starfree_evaluate_7 C w t16 ns_1 ts
            (fun (ts_49 : List V) =>
              HOLE ts_49)
        else
          bif ((ns_0 : Int) == 4) then
            (C F_starfree_between [.int .i64 t16, .int .i64 (w.length : Int)] []).bind fun r9 =>
              bif (decide (0 ≤ t16)) && (decide (t16 < (ts.length : Int))) then
                (ts[(t16 : Int).toNat]?).bind fun x10 =>
                  HOLE (ts.set ((t16 : Int).toNat) (.agg [.int .u64 ((r9.1.cell 0).toInt), .int .u64 ((r9.1.cell 1).toInt)]))
              else none
          else
            bif ((ns_0 : Int) == 5) then
              (idx tables ns_2).bind fun x11 =>
                (idx x11.toList t16).bind fun x12 =>
                  (idx tables ns_3).bind fun x13 =>
                    (idx x13.toList t16).bind fun x14 =>
                      (C F_starfree_cuts_union [.agg [.int .u64 ((x12.cell 0).toInt), .int .u64 ((x12.cell 1).toInt)], .agg [.int .u64 ((x14.cell 0).toInt), .int .u64 ((x14.cell 1).toInt)]] []).bind fun r15 =>
                        bif (decide (0 ≤ t16)) && (decide (t16 < (ts.length : Int))) then
                          (ts[(t16 : Int).toNat]?).bind fun x16 =>
                            HOLE (ts.set ((t16 : Int).toNat) (.agg [.int .u64 ((r15.1.cell 0).toInt), .int .u64 ((r15.1.cell 1).toInt)]))
                        else none
            else
              bif ((ns_0 : Int) == 6) then
                (idx tables ns_2).bind fun x17 =>
                  (idx x17.toList t16).bind fun x18 =>
                    (idx tables ns_3).bind fun x19 =>
                      (idx x19.toList t16).bind fun x20 =>
                        (C F_starfree_cuts_meet [.agg [.int .u64 ((x18.cell 0).toInt), .int .u64 ((x18.cell 1).toInt)], .agg [.int .u64 ((x20.cell 0).toInt), .int .u64 ((x20.cell 1).toInt)]] []).bind fun r21 =>
                          bif (decide (0 ≤ t16)) && (decide (t16 < (ts.length : Int))) then
                            (ts[(t16 : Int).toNat]?).bind fun x22 =>
                              HOLE (ts.set ((t16 : Int).toNat) (.agg [.int .u64 ((r21.1.cell 0).toInt), .int .u64 ((r21.1.cell 1).toInt)]))
                          else none
              else
                bif ((ns_0 : Int) == 7) then
                  s_starfree_evaluate_17L C tables w t16 t16 ns_2 ns_3 ts
                    (fun (j_40 : Int) (t_41 : Bool) (ts_42 : List V) =>
                      HOLE ts_42)
                else
                  s_starfree_evaluate_20 C tables w t16 ns_0 ns_2 ts
                    (fun (ts_48 : List V) =>
                      HOLE ts_48))) (funext fun (ts0 : List V) => s_starfree_evaluate_36d_eq C tables w t15 t16 ns_0 ns_1 ns_2 ns_3 ts0 K)) ((by kernel_rfl)))


theorem s_starfree_evaluate_38c_eq (C : CallF) (tables : List V) (w : List UInt8) (t15 : Int) (t16 : Int) (ns_0 : Int) (ns_1 : Int) (ns_2 : Int) (ns_3 : Int) (ts : List V) {β : Type} (K : Out → St → Option β) :
    execL Try.prog ann C 24 166 0 (codesAt Try.prog 24 [[1, 1, 0, 1, 0, 0, 0], [1, 1, 0, 1, 0, 0, 1, 0], [1, 1, 0, 1, 0, 0, 1, 1, 0], [1, 1, 0, 1, 0, 0, 1, 1, 1]]) (mk [(1, .list T_starfree_table tables), (2, .str w), (3, .ptr 0 0 0), (7, .whole T_starfree_cuts 1), (15, .int .i64 t15), (16, .int .i64 t16)] [.var [.int .i64 ns_0, .int .i64 ns_1, .int .i64 ns_2, .int .i64 ns_3], .arr T_starfree_cuts ts false]) K =
      bif decide ((t16 : Int) < t15) then
        bif ((ns_0 : Int) == 2) then
          bif (decide (0 ≤ t16)) && (decide (t16 < (ts.length : Int))) then
            (ts[(t16 : Int).toNat]?).bind fun x1 =>
              (C F_starfree_cuts_with [.agg [.int .u64 ((x1.cell 0).toInt), .int .u64 ((x1.cell 1).toInt)], .int .i64 t16] []).bind fun r2 =>
                bif (decide (0 ≤ t16)) && (decide (t16 < (ts.length : Int))) then
                  (ts[(t16 : Int).toNat]?).bind fun x3 =>
                    K .norm (mk [(1, .list T_starfree_table tables), (2, .str w), (3, .ptr 0 0 0), (7, .whole T_starfree_cuts 1), (15, .int .i64 t15), (16, .int .i64 (IntKind.wrap .i64 (t16 + 1)))] [.var [.int .i64 ns_0, .int .i64 ns_1, .int .i64 ns_2, .int .i64 ns_3], .arr T_starfree_cuts (ts.set ((t16 : Int).toNat) (.agg [.int .u64 ((r2.1.cell 0).toInt), .int .u64 ((r2.1.cell 1).toInt)])) false])
                else none
          else none
        else
          bif ((ns_0 : Int) == 3) then
            s_starfree_evaluate_7 C w t16 ns_1 ts
              (fun (ts_49 : List V) =>
                K .norm (mk [(1, .list T_starfree_table tables), (2, .str w), (3, .ptr 0 0 0), (7, .whole T_starfree_cuts 1), (15, .int .i64 t15), (16, .int .i64 (IntKind.wrap .i64 (t16 + 1)))] [.var [.int .i64 ns_0, .int .i64 ns_1, .int .i64 ns_2, .int .i64 ns_3], .arr T_starfree_cuts ts_49 false]))
          else
            bif ((ns_0 : Int) == 4) then
              (C F_starfree_between [.int .i64 t16, .int .i64 (w.length : Int)] []).bind fun r9 =>
                bif (decide (0 ≤ t16)) && (decide (t16 < (ts.length : Int))) then
                  (ts[(t16 : Int).toNat]?).bind fun x10 =>
                    K .norm (mk [(1, .list T_starfree_table tables), (2, .str w), (3, .ptr 0 0 0), (7, .whole T_starfree_cuts 1), (15, .int .i64 t15), (16, .int .i64 (IntKind.wrap .i64 (t16 + 1)))] [.var [.int .i64 ns_0, .int .i64 ns_1, .int .i64 ns_2, .int .i64 ns_3], .arr T_starfree_cuts (ts.set ((t16 : Int).toNat) (.agg [.int .u64 ((r9.1.cell 0).toInt), .int .u64 ((r9.1.cell 1).toInt)])) false])
                else none
            else
              bif ((ns_0 : Int) == 5) then
                (idx tables ns_2).bind fun x11 =>
                  (idx x11.toList t16).bind fun x12 =>
                    (idx tables ns_3).bind fun x13 =>
                      (idx x13.toList t16).bind fun x14 =>
                        (C F_starfree_cuts_union [.agg [.int .u64 ((x12.cell 0).toInt), .int .u64 ((x12.cell 1).toInt)], .agg [.int .u64 ((x14.cell 0).toInt), .int .u64 ((x14.cell 1).toInt)]] []).bind fun r15 =>
                          bif (decide (0 ≤ t16)) && (decide (t16 < (ts.length : Int))) then
                            (ts[(t16 : Int).toNat]?).bind fun x16 =>
                              K .norm (mk [(1, .list T_starfree_table tables), (2, .str w), (3, .ptr 0 0 0), (7, .whole T_starfree_cuts 1), (15, .int .i64 t15), (16, .int .i64 (IntKind.wrap .i64 (t16 + 1)))] [.var [.int .i64 ns_0, .int .i64 ns_1, .int .i64 ns_2, .int .i64 ns_3], .arr T_starfree_cuts (ts.set ((t16 : Int).toNat) (.agg [.int .u64 ((r15.1.cell 0).toInt), .int .u64 ((r15.1.cell 1).toInt)])) false])
                          else none
              else
                bif ((ns_0 : Int) == 6) then
                  (idx tables ns_2).bind fun x17 =>
                    (idx x17.toList t16).bind fun x18 =>
                      (idx tables ns_3).bind fun x19 =>
                        (idx x19.toList t16).bind fun x20 =>
                          (C F_starfree_cuts_meet [.agg [.int .u64 ((x18.cell 0).toInt), .int .u64 ((x18.cell 1).toInt)], .agg [.int .u64 ((x20.cell 0).toInt), .int .u64 ((x20.cell 1).toInt)]] []).bind fun r21 =>
                            bif (decide (0 ≤ t16)) && (decide (t16 < (ts.length : Int))) then
                              (ts[(t16 : Int).toNat]?).bind fun x22 =>
                                K .norm (mk [(1, .list T_starfree_table tables), (2, .str w), (3, .ptr 0 0 0), (7, .whole T_starfree_cuts 1), (15, .int .i64 t15), (16, .int .i64 (IntKind.wrap .i64 (t16 + 1)))] [.var [.int .i64 ns_0, .int .i64 ns_1, .int .i64 ns_2, .int .i64 ns_3], .arr T_starfree_cuts (ts.set ((t16 : Int).toNat) (.agg [.int .u64 ((r21.1.cell 0).toInt), .int .u64 ((r21.1.cell 1).toInt)])) false])
                            else none
                else
                  bif ((ns_0 : Int) == 7) then
                    s_starfree_evaluate_17L C tables w t16 t16 ns_2 ns_3 ts
                      (fun (j_40 : Int) (t_41 : Bool) (ts_42 : List V) =>
                        K .norm (mk [(1, .list T_starfree_table tables), (2, .str w), (3, .ptr 0 0 0), (7, .whole T_starfree_cuts 1), (15, .int .i64 t15), (16, .int .i64 (IntKind.wrap .i64 (t16 + 1)))] [.var [.int .i64 ns_0, .int .i64 ns_1, .int .i64 ns_2, .int .i64 ns_3], .arr T_starfree_cuts ts_42 false]))
                  else
                    s_starfree_evaluate_20 C tables w t16 ns_0 ns_2 ts
                      (fun (ts_48 : List V) =>
                        K .norm (mk [(1, .list T_starfree_table tables), (2, .str w), (3, .ptr 0 0 0), (7, .whole T_starfree_cuts 1), (15, .int .i64 t15), (16, .int .i64 (IntKind.wrap .i64 (t16 + 1)))] [.var [.int .i64 ns_0, .int .i64 ns_1, .int .i64 ns_2, .int .i64 ns_3], .arr T_starfree_cuts ts_48 false]))
      else
        K (.exit 0) (mk [(1, .list T_starfree_table tables), (2, .str w), (3, .ptr 0 0 0), (7, .whole T_starfree_cuts 1), (15, .int .i64 t15), (16, .int .i64 t16), (17, .bool (decide ((t16 : Int) < t15)))] [.var [.int .i64 ns_0, .int .i64 ns_1, .int .i64 ns_2, .int .i64 ns_3], .arr T_starfree_cuts ts false]) := by
  refine Eq.trans (execL_app (P := Try.prog) (A := ann) (C := C) (f := 24) (n := 166) (m := 0) (codesAt Try.prog 24 [[1, 1, 0, 1, 0, 0, 0], [1, 1, 0, 1, 0, 0, 1, 0]]) (codesAt Try.prog 24 [[1, 1, 0, 1, 0, 0, 1, 1, 0], [1, 1, 0, 1, 0, 0, 1, 1, 1]]) (st := mk [(1, .list T_starfree_table tables), (2, .str w), (3, .ptr 0 0 0), (7, .whole T_starfree_cuts 1), (15, .int .i64 t15), (16, .int .i64 t16)] [.var [.int .i64 ns_0, .int .i64 ns_1, .int .i64 ns_2, .int .i64 ns_3], .arr T_starfree_cuts ts false]) (K := K)) (Eq.trans (s_starfree_evaluate_2d_eq C tables w t15 t16 ns_0 ns_1 ns_2 ns_3 ts (seqK Try.prog ann C 24 166 0 (codesAt Try.prog 24 [[1, 1, 0, 1, 0, 0, 1, 1, 0], [1, 1, 0, 1, 0, 0, 1, 1, 1]]) K)) ?_)
  · exact Eq.trans (by kernel_rfl) (Eq.trans (congrArg (fun HOLE : Option β => (bif decide ((t16 : Int) < t15) then
        HOLE
      else
        (K (.exit 0) (mk [(1, .list T_starfree_table tables), (2, .str w), (3, .ptr 0 0 0), (7, .whole T_starfree_cuts 1), (15, .int .i64 t15), (16, .int .i64 t16), (17, .bool (decide ((t16 : Int) < t15)))] [.var [.int .i64 ns_0, .int .i64 ns_1, .int .i64 ns_2, .int .i64 ns_3], .arr T_starfree_cuts ts false])))) (s_starfree_evaluate_37c_eq C tables w t15 t16 ns_0 ns_1 ns_2 ns_3 ts K)) ((by kernel_rfl)))


noncomputable def s_starfree_evaluate_39L_step (C : CallF) (tables : List V) (w : List UInt8) (t15 : Int) (ns_0 : Int) (ns_1 : Int) (ns_2 : Int) (ns_3 : Int) : (Int × (List V)) → Option ((Int × (List V)) ⊕ ((Int × Bool × (List V)))) := fun (t16, ts) =>
  bif decide ((t16 : Int) < t15) then
    bif ((ns_0 : Int) == 2) then
      bif (decide (0 ≤ t16)) && (decide (t16 < (ts.length : Int))) then
        (ts[(t16 : Int).toNat]?).bind fun x1 =>
          (C F_starfree_cuts_with [.agg [.int .u64 ((x1.cell 0).toInt), .int .u64 ((x1.cell 1).toInt)], .int .i64 t16] []).bind fun r2 =>
            bif (decide (0 ≤ t16)) && (decide (t16 < (ts.length : Int))) then
              (ts[(t16 : Int).toNat]?).bind fun x3 =>
                some (.inl (IntKind.wrap .i64 (t16 + 1), (ts.set ((t16 : Int).toNat) (.agg [.int .u64 ((r2.1.cell 0).toInt), .int .u64 ((r2.1.cell 1).toInt)]))))
            else none
      else none
    else
      bif ((ns_0 : Int) == 3) then
        s_starfree_evaluate_7 C w t16 ns_1 ts
          (fun (ts_49 : List V) =>
            some (.inl (IntKind.wrap .i64 (t16 + 1), ts_49)))
      else
        bif ((ns_0 : Int) == 4) then
          (C F_starfree_between [.int .i64 t16, .int .i64 (w.length : Int)] []).bind fun r9 =>
            bif (decide (0 ≤ t16)) && (decide (t16 < (ts.length : Int))) then
              (ts[(t16 : Int).toNat]?).bind fun x10 =>
                some (.inl (IntKind.wrap .i64 (t16 + 1), (ts.set ((t16 : Int).toNat) (.agg [.int .u64 ((r9.1.cell 0).toInt), .int .u64 ((r9.1.cell 1).toInt)]))))
            else none
        else
          bif ((ns_0 : Int) == 5) then
            (idx tables ns_2).bind fun x11 =>
              (idx x11.toList t16).bind fun x12 =>
                (idx tables ns_3).bind fun x13 =>
                  (idx x13.toList t16).bind fun x14 =>
                    (C F_starfree_cuts_union [.agg [.int .u64 ((x12.cell 0).toInt), .int .u64 ((x12.cell 1).toInt)], .agg [.int .u64 ((x14.cell 0).toInt), .int .u64 ((x14.cell 1).toInt)]] []).bind fun r15 =>
                      bif (decide (0 ≤ t16)) && (decide (t16 < (ts.length : Int))) then
                        (ts[(t16 : Int).toNat]?).bind fun x16 =>
                          some (.inl (IntKind.wrap .i64 (t16 + 1), (ts.set ((t16 : Int).toNat) (.agg [.int .u64 ((r15.1.cell 0).toInt), .int .u64 ((r15.1.cell 1).toInt)]))))
                      else none
          else
            bif ((ns_0 : Int) == 6) then
              (idx tables ns_2).bind fun x17 =>
                (idx x17.toList t16).bind fun x18 =>
                  (idx tables ns_3).bind fun x19 =>
                    (idx x19.toList t16).bind fun x20 =>
                      (C F_starfree_cuts_meet [.agg [.int .u64 ((x18.cell 0).toInt), .int .u64 ((x18.cell 1).toInt)], .agg [.int .u64 ((x20.cell 0).toInt), .int .u64 ((x20.cell 1).toInt)]] []).bind fun r21 =>
                        bif (decide (0 ≤ t16)) && (decide (t16 < (ts.length : Int))) then
                          (ts[(t16 : Int).toNat]?).bind fun x22 =>
                            some (.inl (IntKind.wrap .i64 (t16 + 1), (ts.set ((t16 : Int).toNat) (.agg [.int .u64 ((r21.1.cell 0).toInt), .int .u64 ((r21.1.cell 1).toInt)]))))
                        else none
            else
              bif ((ns_0 : Int) == 7) then
                s_starfree_evaluate_17L C tables w t16 t16 ns_2 ns_3 ts
                  (fun (j_40 : Int) (t_41 : Bool) (ts_42 : List V) =>
                    some (.inl (IntKind.wrap .i64 (t16 + 1), ts_42)))
              else
                s_starfree_evaluate_20 C tables w t16 ns_0 ns_2 ts
                  (fun (ts_48 : List V) =>
                    some (.inl (IntKind.wrap .i64 (t16 + 1), ts_48)))
  else
    some (.inr (t16, decide ((t16 : Int) < t15), ts))

noncomputable def s_starfree_evaluate_39L (C : CallF) (tables : List V) (w : List UInt8) (t15 : Int) (t16 : Int) (ns_0 : Int) (ns_1 : Int) (ns_2 : Int) (ns_3 : Int) (ts : List V) {β : Type} (k0 : Int → Bool → (List V) → Option β) : Option β :=
  (Loop (s_starfree_evaluate_39L_step C tables w t15 ns_0 ns_1 ns_2 ns_3) (t16, ts)).bind fun (t160, t170, ts0) => k0 t160 t170 ts0

def s_starfree_evaluate_39L_dec : Out → St → Option ((Int × (List V)) ⊕ ((Int × Bool × (List V)))) := fun o st => match o with
    | .norm => some (.inl (V.toInt (st.sl 16), arrOf (st.hp 1)))
    | .exit q => bif Nat.beq q 0 then some (.inr (V.toInt (st.sl 16), V.toBool (st.sl 17), arrOf (st.hp 1))) else none
    | .ret => none

def s_starfree_evaluate_39L_hd (tables : List V) (w : List UInt8) (t15 : Int) (ns_0 : Int) (ns_1 : Int) (ns_2 : Int) (ns_3 : Int) : (Int × (List V)) → St := fun (t16, ts) => mk [(1, .list T_starfree_table tables), (2, .str w), (3, .ptr 0 0 0), (7, .whole T_starfree_cuts 1), (15, .int .i64 t15), (16, .int .i64 t16)] [.var [.int .i64 ns_0, .int .i64 ns_1, .int .i64 ns_2, .int .i64 ns_3], .arr T_starfree_cuts ts false]

def s_starfree_evaluate_39L_enc (tables : List V) (w : List UInt8) (t15 : Int) (ns_0 : Int) (ns_1 : Int) (ns_2 : Int) (ns_3 : Int) : ((Int × Bool × (List V))) → Out × St := fun (t160, t170, ts0) => (.exit 0, mk [(1, .list T_starfree_table tables), (2, .str w), (3, .ptr 0 0 0), (7, .whole T_starfree_cuts 1), (15, .int .i64 t15), (16, .int .i64 t160), (17, .bool t170)] [.var [.int .i64 ns_0, .int .i64 ns_1, .int .i64 ns_2, .int .i64 ns_3], .arr T_starfree_cuts ts0 false])

theorem s_starfree_evaluate_39L_eq (C : CallF) (tables : List V) (w : List UInt8) (t15 : Int) (t16 : Int) (ns_0 : Int) (ns_1 : Int) (ns_2 : Int) (ns_3 : Int) (ts : List V) {β : Type} (K : Out → St → Option β) :
    execL Try.prog ann C 24 166 0 (codesAt Try.prog 24 [[1, 1, 0, 1, 0]]) (mk [(1, .list T_starfree_table tables), (2, .str w), (3, .ptr 0 0 0), (7, .whole T_starfree_cuts 1), (15, .int .i64 t15), (16, .int .i64 t16)] [.var [.int .i64 ns_0, .int .i64 ns_1, .int .i64 ns_2, .int .i64 ns_3], .arr T_starfree_cuts ts false]) K =
      s_starfree_evaluate_39L C tables w t15 t16 ns_0 ns_1 ns_2 ns_3 ts
        (fun (t160 : Int) (t170 : Bool) (ts0 : List V) => K (.exit 0) (mk [(1, .list T_starfree_table tables), (2, .str w), (3, .ptr 0 0 0), (7, .whole T_starfree_cuts 1), (15, .int .i64 t15), (16, .int .i64 t160), (17, .bool t170)] [.var [.int .i64 ns_0, .int .i64 ns_1, .int .i64 ns_2, .int .i64 ns_3], .arr T_starfree_cuts ts0 false])) := by
  have hitems : flatC (codeAt [1, 1, 0, 1, 0, 0] (bodyOf Try.prog 24)) = codesAt Try.prog 24 [[1, 1, 0, 1, 0, 0, 0], [1, 1, 0, 1, 0, 0, 1, 0], [1, 1, 0, 1, 0, 0, 1, 1, 0], [1, 1, 0, 1, 0, 0, 1, 1, 1]] := by kernel_rfl
  have hloop : [codeAt [1, 1, 0, 1, 0] (bodyOf Try.prog 24)] = [Code.loop (codeAt [1, 1, 0, 1, 0, 0] (bodyOf Try.prog 24))] := by kernel_rfl
  have h := loopK_eq (P := Try.prog) (A := ann) (C := C) (f := 24) (n := 166) (m := 0) (c := codeAt [1, 1, 0, 1, 0, 0] (bodyOf Try.prog 24)) (s_starfree_evaluate_39L_hd tables w t15 ns_0 ns_1 ns_2 ns_3) (s_starfree_evaluate_39L_enc tables w t15 ns_0 ns_1 ns_2 ns_3) s_starfree_evaluate_39L_dec (s_starfree_evaluate_39L_step C tables w t15 ns_0 ns_1 ns_2 ns_3)
    (by rintro ⟨t16, ts⟩; exact Eq.trans (execK_items hitems) (Eq.trans (s_starfree_evaluate_38c_eq C tables w t15 t16 ns_0 ns_1 ns_2 ns_3 ts s_starfree_evaluate_39L_dec) (by kernel_rfl)))
    (by rintro ⟨t16, ts⟩; exact Eq.trans (execK_items hitems) (Eq.trans (s_starfree_evaluate_38c_eq C tables w t15 t16 ns_0 ns_1 ns_2 ns_3 ts (fun o st => some (o, st))) (Eq.trans (by kernel_rfl) (Eq.trans (s_starfree_evaluate_38c_eq C tables w t15 t16 ns_0 ns_1 ns_2 ns_3 ts (fun o st => (s_starfree_evaluate_39L_dec o st).map (outS (s_starfree_evaluate_39L_hd tables w t15 ns_0 ns_1 ns_2 ns_3) (s_starfree_evaluate_39L_enc tables w t15 ns_0 ns_1 ns_2 ns_3)))).symm (execK_items hitems).symm))))
    (by intro r; intro h; cases h) (t16, ts) K
  refine Eq.trans (congrArg (fun l => execL Try.prog ann C 24 166 0 l (mk [(1, .list T_starfree_table tables), (2, .str w), (3, .ptr 0 0 0), (7, .whole T_starfree_cuts 1), (15, .int .i64 t15), (16, .int .i64 t16)] [.var [.int .i64 ns_0, .int .i64 ns_1, .int .i64 ns_2, .int .i64 ns_3], .arr T_starfree_cuts ts false]) K) hloop) (Eq.trans h ?_)
  · refine congrArg _ (funext fun r => ?_)
    rfl

theorem s_starfree_evaluate_40b_eq (C : CallF) (tables : List V) (w : List UInt8) (t15 : Int) (t16 : Int) (ns_0 : Int) (ns_1 : Int) (ns_2 : Int) (ns_3 : Int) (ts : List V) {β : Type} (K : Out → St → Option β) :
    execL Try.prog ann C 24 166 0 (codesAt Try.prog 24 [[1, 1, 0, 1]]) (mk [(1, .list T_starfree_table tables), (2, .str w), (3, .ptr 0 0 0), (7, .whole T_starfree_cuts 1), (15, .int .i64 t15), (16, .int .i64 t16)] [.var [.int .i64 ns_0, .int .i64 ns_1, .int .i64 ns_2, .int .i64 ns_3], .arr T_starfree_cuts ts false]) K =
      s_starfree_evaluate_39L C tables w t15 t16 ns_0 ns_1 ns_2 ns_3 ts
        (fun (t_50 : Int) (t_51 : Bool) (ts_52 : List V) =>
          K .norm (mk [(7, .whole T_starfree_cuts 0)] [.arr T_starfree_cuts ts_52 false])) := Eq.trans (execL_block (P := Try.prog) (A := ann) (C := C) (f := 24) (n := 166) (m := 0) (id := 0) (c := codeAt [1, 1, 0, 1] (bodyOf Try.prog 24)) (d := codeAt [1, 1, 0, 1, 0] (bodyOf Try.prog 24)) (l := codesAt Try.prog 24 [[1, 1, 0, 1, 0]]) (st := mk [(1, .list T_starfree_table tables), (2, .str w), (3, .ptr 0 0 0), (7, .whole T_starfree_cuts 1), (15, .int .i64 t15), (16, .int .i64 t16)] [.var [.int .i64 ns_0, .int .i64 ns_1, .int .i64 ns_2, .int .i64 ns_3], .arr T_starfree_cuts ts false]) (K := K) (by kernel_rfl) (by kernel_rfl)) (Eq.trans (s_starfree_evaluate_39L_eq C tables w t15 t16 ns_0 ns_1 ns_2 ns_3 ts (blockK ann 24 0 0 K)) (by kernel_rfl))

theorem s_starfree_evaluate_41d_eq (C : CallF) (ts : List V) {β : Type} (K : Out → St → Option β) :
    execL Try.prog ann C 24 166 0 (codesAt Try.prog 24 [[1, 1, 1, 0], [1, 1, 1, 1]]) (mk [(7, .whole T_starfree_cuts 0)] [.arr T_starfree_cuts ts false]) K =
      K .ret (mk [(6, .whole T_starfree_cuts 0)] [.arr T_starfree_cuts ts false]) := by kernel_rfl

theorem s_starfree_evaluate_42c_eq (C : CallF) (tables : List V) (w : List UInt8) (t15 : Int) (t16 : Int) (ns_0 : Int) (ns_1 : Int) (ns_2 : Int) (ns_3 : Int) (ts : List V) {β : Type} (K : Out → St → Option β) :
    execL Try.prog ann C 24 166 0 (codesAt Try.prog 24 [[1, 1, 0, 1], [1, 1, 1, 0], [1, 1, 1, 1]]) (mk [(1, .list T_starfree_table tables), (2, .str w), (3, .ptr 0 0 0), (7, .whole T_starfree_cuts 1), (15, .int .i64 t15), (16, .int .i64 t16)] [.var [.int .i64 ns_0, .int .i64 ns_1, .int .i64 ns_2, .int .i64 ns_3], .arr T_starfree_cuts ts false]) K =
      s_starfree_evaluate_39L C tables w t15 t16 ns_0 ns_1 ns_2 ns_3 ts
        (fun (t_50 : Int) (t_51 : Bool) (ts_52 : List V) =>
          K .ret (mk [(6, .whole T_starfree_cuts 0)] [.arr T_starfree_cuts ts_52 false])) := by
  refine Eq.trans (execL_app (P := Try.prog) (A := ann) (C := C) (f := 24) (n := 166) (m := 0) (codesAt Try.prog 24 [[1, 1, 0, 1]]) (codesAt Try.prog 24 [[1, 1, 1, 0], [1, 1, 1, 1]]) (st := mk [(1, .list T_starfree_table tables), (2, .str w), (3, .ptr 0 0 0), (7, .whole T_starfree_cuts 1), (15, .int .i64 t15), (16, .int .i64 t16)] [.var [.int .i64 ns_0, .int .i64 ns_1, .int .i64 ns_2, .int .i64 ns_3], .arr T_starfree_cuts ts false]) (K := K)) (Eq.trans (s_starfree_evaluate_40b_eq C tables w t15 t16 ns_0 ns_1 ns_2 ns_3 ts (seqK Try.prog ann C 24 166 0 (codesAt Try.prog 24 [[1, 1, 1, 0], [1, 1, 1, 1]]) K)) ?_)
  · exact Eq.trans (by kernel_rfl) (Eq.trans (congrArg (fun HOLE : (List V) → Option β => (s_starfree_evaluate_39L C tables w t15 t16 ns_0 ns_1 ns_2 ns_3 ts
        (fun (t_50 : Int) (t_51 : Bool) (ts_52 : List V) =>
          HOLE ts_52))) (funext fun (ts0 : List V) => s_starfree_evaluate_41d_eq C ts0 K)) ((by kernel_rfl)))


theorem s_starfree_evaluate_43c_eq (C : CallF) (n_Op : Int) (n_Letter : Int) (n_A : Int) (n_B : Int) (tables : List V) (w : List UInt8) {β : Type} (K : Out → St → Option β) :
    execL Try.prog ann C 24 166 0 (codesAt Try.prog 24 [[0], [1, 0], [1, 1, 0, 0], [1, 1, 0, 1], [1, 1, 1, 0], [1, 1, 1, 1]]) (mk [(0, .agg [.int .i64 n_Op, .int .i64 n_Letter, .int .i64 n_A, .int .i64 n_B]), (1, .list T_starfree_table tables), (2, .str w)] []) K =
      bif (decide (0 ≤ (IntKind.wrap .i64 ((w.length : Int) + 1)))) && ((decide ((IntKind.wrap .i64 ((w.length : Int) + 1)) ≤ (IntKind.wrap .i64 ((w.length : Int) + 1)))) && (Nat.ble (((IntKind.wrap .i64 ((w.length : Int) + 1) : Int).toNat) * 16) maxBytes)) then
        s_starfree_evaluate_39L C tables w ((List.replicate ((IntKind.wrap .i64 ((w.length : Int) + 1) : Int).toNat) (V.agg [.int .u64 0, .int .u64 0])).length : Int) 0 n_Op n_Letter n_A n_B (List.replicate ((IntKind.wrap .i64 ((w.length : Int) + 1) : Int).toNat) (V.agg [.int .u64 0, .int .u64 0]))
          (fun (t_50 : Int) (t_51 : Bool) (ts_52 : List V) =>
            K .ret (mk [(6, .whole T_starfree_cuts 0)] [.arr T_starfree_cuts ts_52 false]))
      else none := by
  refine Eq.trans (execL_app (P := Try.prog) (A := ann) (C := C) (f := 24) (n := 166) (m := 0) (codesAt Try.prog 24 [[0], [1, 0], [1, 1, 0, 0]]) (codesAt Try.prog 24 [[1, 1, 0, 1], [1, 1, 1, 0], [1, 1, 1, 1]]) (st := mk [(0, .agg [.int .i64 n_Op, .int .i64 n_Letter, .int .i64 n_A, .int .i64 n_B]), (1, .list T_starfree_table tables), (2, .str w)] []) (K := K)) (Eq.trans (s_starfree_evaluate_1d_eq C n_Op n_Letter n_A n_B tables w (seqK Try.prog ann C 24 166 0 (codesAt Try.prog 24 [[1, 1, 0, 1], [1, 1, 1, 0], [1, 1, 1, 1]]) K)) ?_)
  · exact Eq.trans (by kernel_rfl) (Eq.trans (congrArg (fun HOLE : Option β => (bif (decide (0 ≤ (IntKind.wrap .i64 ((w.length : Int) + 1)))) && ((decide ((IntKind.wrap .i64 ((w.length : Int) + 1)) ≤ (IntKind.wrap .i64 ((w.length : Int) + 1)))) && (Nat.ble (((IntKind.wrap .i64 ((w.length : Int) + 1) : Int).toNat) * 16) maxBytes)) then
        HOLE
      else none)) (s_starfree_evaluate_42c_eq C tables w ((List.replicate ((IntKind.wrap .i64 ((w.length : Int) + 1) : Int).toNat) (V.agg [.int .u64 0, .int .u64 0])).length : Int) 0 n_Op n_Letter n_A n_B (List.replicate ((IntKind.wrap .i64 ((w.length : Int) + 1) : Int).toNat) (V.agg [.int .u64 0, .int .u64 0])) K)) ((by kernel_rfl)))


theorem f_starfree_evaluate_all (C : CallF) (n_Op : Int) (n_Letter : Int) (n_A : Int) (n_B : Int) (tables : List V) (w : List UInt8) {β : Type} (K : Out → St → Option β) : execK Try.prog ann C 24 (ntmpsOf Try.prog 24) ([] : List V).length (bodyOf Try.prog 24) (enter [.agg [.int .i64 n_Op, .int .i64 n_Letter, .int .i64 n_A, .int .i64 n_B], .list T_starfree_table tables, .str w] []) K =
      bif (decide (0 ≤ (IntKind.wrap .i64 ((w.length : Int) + 1)))) && ((decide ((IntKind.wrap .i64 ((w.length : Int) + 1)) ≤ (IntKind.wrap .i64 ((w.length : Int) + 1)))) && (Nat.ble (((IntKind.wrap .i64 ((w.length : Int) + 1) : Int).toNat) * 16) maxBytes)) then
        s_starfree_evaluate_39L C tables w ((List.replicate ((IntKind.wrap .i64 ((w.length : Int) + 1) : Int).toNat) (V.agg [.int .u64 0, .int .u64 0])).length : Int) 0 n_Op n_Letter n_A n_B (List.replicate ((IntKind.wrap .i64 ((w.length : Int) + 1) : Int).toNat) (V.agg [.int .u64 0, .int .u64 0]))
          (fun (t_50 : Int) (t_51 : Bool) (ts_52 : List V) =>
            K .ret (mk [(6, .whole T_starfree_cuts 0)] [.arr T_starfree_cuts ts_52 false]))
      else none :=
  Eq.trans (execK_items (by kernel_rfl)) (s_starfree_evaluate_43c_eq C n_Op n_Letter n_A n_B tables w K)

noncomputable def f_starfree_evaluate (C : CallF) (n_Op : Int) (n_Letter : Int) (n_A : Int) (n_B : Int) (tables : List V) (w : List UInt8) : Option (V × List V) :=
  bif (decide (0 ≤ (IntKind.wrap .i64 ((w.length : Int) + 1)))) && ((decide ((IntKind.wrap .i64 ((w.length : Int) + 1)) ≤ (IntKind.wrap .i64 ((w.length : Int) + 1)))) && (Nat.ble (((IntKind.wrap .i64 ((w.length : Int) + 1) : Int).toNat) * 16) maxBytes)) then
    s_starfree_evaluate_39L C tables w ((List.replicate ((IntKind.wrap .i64 ((w.length : Int) + 1) : Int).toNat) (V.agg [.int .u64 0, .int .u64 0])).length : Int) 0 n_Op n_Letter n_A n_B (List.replicate ((IntKind.wrap .i64 ((w.length : Int) + 1) : Int).toNat) (V.agg [.int .u64 0, .int .u64 0]))
      (fun (t_50 : Int) (t_51 : Bool) (ts_52 : List V) =>
        some (.own T_starfree_cuts ts_52, []))
  else none

theorem f_starfree_evaluate_eq (C : CallF) (n_Op : Int) (n_Letter : Int) (n_A : Int) (n_B : Int) (tables : List V) (w : List UInt8) : bodyK Try.prog ann C 24 [.agg [.int .i64 n_Op, .int .i64 n_Letter, .int .i64 n_A, .int .i64 n_B], .list T_starfree_table tables, .str w] [] = f_starfree_evaluate C n_Op n_Letter n_A n_B tables w :=
  Eq.trans (bodyK_fin (by kernel_rfl)) (Eq.trans (f_starfree_evaluate_all C n_Op n_Letter n_A n_B tables w (finK Try.prog ann C 24 [])) (by kernel_rfl))

theorem f_starfree_evaluate_of {n_Op : Int} {n_Letter : Int} {n_A : Int} {n_B : Int} {tables : List V} {w : List UInt8} {r : V × List V} (h : f_starfree_evaluate CC n_Op n_Letter n_A n_B tables w = some r) : CC F_starfree_evaluate [.agg [.int .i64 n_Op, .int .i64 n_Letter, .int .i64 n_A, .int .i64 n_B], .list T_starfree_table tables, .str w] [] = some r :=
  Call_of_body ((bodyK_eq ..).trans ((f_starfree_evaluate_eq ..).trans h))

end Go.AM

/-
  The languages of a star-free graph's nodes, and the tables that evaluate makes.
-/
namespace Go.AM
open Go.Proofs

/-- The letter that a byte is. -/
def isLetter (n : Node) (u : List UInt8) : Bool := match u with
  | [c] => decide ((c.toNat : Int) - 97 = n.letter)
  | _ => false

def langF (l : List Node) : Nat → Nat → List UInt8 → Bool
  | 0, _, _ => false
  | n + 1, i, u =>
    match l[i]? with
    | none => false
    | some x =>
      if x.op = 2 then u.isEmpty else if x.op = 3 then isLetter x u else if x.op = 4 then true
      else if x.op = 5 then langF l n x.a.toNat u || langF l n x.b.toNat u
      else if x.op = 6 then langF l n x.a.toNat u && langF l n x.b.toNat u
      else if x.op = 7 then (List.range (u.length + 1)).any fun k => langF l n x.a.toNat (u.take k) && langF l n x.b.toNat (u.drop k)
      else if x.op = 8 then !(langF l n x.a.toNat u) else false
def lang (l : List Node) (i : Nat) (u : List UInt8) : Bool := langF l (i + 1) i u

/-- The nodes refer to nodes before them. -/
def Valid (letters : Int) (l : List Node) : Prop := validFrom letters 0 l = true

theorem Valid.node {letters : Int} {l : List Node} (h : Valid letters l) {i : Nat} {x : Node} (hx : l[i]? = some x) : validNodeB x i letters = true := by
  have := validFrom_iff.1 h i x hx
  simpa using this

theorem partsN_one {op : Int} (h : 1 ≤ op ∧ op ≤ 8) : (1 ≤ partsN op ↔ 5 ≤ op) := by unfold partsN; split <;> (try split) <;> omega
theorem partsN_two {op : Int} (h : 1 ≤ op ∧ op ≤ 8) : (partsN op = 2 ↔ 5 ≤ op ∧ op ≠ 8) := by unfold partsN; split <;> (try split) <;> omega

structure NodeOk (x : Node) (i : Nat) (letters : Int) : Prop where
  op : 1 ≤ x.op ∧ x.op ≤ 8
  letter : x.op = 3 → 0 ≤ x.letter ∧ x.letter < letters
  noLetter : x.op ≠ 3 → x.letter = 0
  a : 5 ≤ x.op → 0 ≤ x.a ∧ x.a < i
  b : 5 ≤ x.op → x.op ≠ 8 → 0 ≤ x.b ∧ x.b < i
  noA : x.op < 5 → x.a = 0
  noB : (x.op < 5 ∨ x.op = 8) → x.b = 0

theorem nodeOk_iff {x : Node} {i : Nat} {letters : Int} : validNodeB x i letters = true ↔ NodeOk x i letters := by
  unfold validNodeB validPartB
  simp only [Bool.and_eq_true, decide_eq_true_eq]
  constructor
  · rintro ⟨h1, h2, h3, h4⟩
    simp only [partsN_one h1] at h3
    simp only [partsN_two h1] at h4
    refine ⟨h1, fun h => ?_, fun h => ?_, fun h => ?_, fun h h' => ?_, fun h => ?_, fun h => ?_⟩
    · rw [if_pos h] at h2; simpa using h2
    · rw [if_neg h] at h2; simpa using h2
    · rw [if_pos h] at h3; simpa using h3
    · rw [if_pos ⟨h, h'⟩] at h4; simpa using h4
    · rw [if_neg (by omega)] at h3; simpa using h3
    · rw [if_neg (by omega)] at h4; simpa using h4
  · rintro ⟨h1, h2, h3, h4, h5, h6, h7⟩
    simp only [partsN_one h1, partsN_two h1]
    refine ⟨h1, ?_, ?_, ?_⟩
    · split
      · rename_i h; simpa using h2 h
      · rename_i h; simpa using h3 h
    · split
      · rename_i h; simpa using h4 h
      · rename_i h; simpa using h6 (by omega)
    · split
      · rename_i h; simpa using h5 h.1 h.2
      · rename_i h; simpa using h7 (by omega)

theorem langF_stable {letters : Int} {l : List Node} (hl : Valid letters l) : ∀ (n m i : Nat) (u : List UInt8), i < n → i < m → langF l n i u = langF l m i u := by
  intro n
  induction n with
  | zero => intro m i u h; omega
  | succ n ih =>
    intro m i u h1 h2
    obtain ⟨m, rfl⟩ : ∃ k, m = k + 1 := ⟨m - 1, by omega⟩
    unfold langF
    cases hx : l[i]? with
    | none => rfl
    | some x =>
      have ok := nodeOk_iff.1 (hl.node hx)
      have ha : 5 ≤ x.op → ∀ u, langF l n x.a.toNat u = langF l m x.a.toNat u := fun h u => by
        have := ok.a h
        exact ih m _ u (by omega) (by omega)
      have hb : 5 ≤ x.op → x.op ≠ 8 → ∀ u, langF l n x.b.toNat u = langF l m x.b.toNat u := fun h h' u => by
        have := ok.b h h'
        exact ih m _ u (by omega) (by omega)
      simp only
      by_cases h5 : x.op = 5
      · simp [h5, ha (by omega), hb (by omega) (by omega)]
      by_cases h6 : x.op = 6
      · simp [h6, ha (by omega), hb (by omega) (by omega)]
      by_cases h7 : x.op = 7
      · simp [h7, ha (by omega), hb (by omega) (by omega)]
      by_cases h8 : x.op = 8
      · simp [h8, ha (by omega)]
      simp [h5, h6, h7, h8]

/-- The language of a node by those of its parts. -/
theorem lang_eq {letters : Int} {l : List Node} (hl : Valid letters l) {i : Nat} {x : Node} (hx : l[i]? = some x) (u : List UInt8) :
    lang l i u = if x.op = 2 then u.isEmpty else if x.op = 3 then isLetter x u else if x.op = 4 then true
      else if x.op = 5 then lang l x.a.toNat u || lang l x.b.toNat u
      else if x.op = 6 then lang l x.a.toNat u && lang l x.b.toNat u
      else if x.op = 7 then (List.range (u.length + 1)).any fun k => lang l x.a.toNat (u.take k) && lang l x.b.toNat (u.drop k)
      else if x.op = 8 then !(lang l x.a.toNat u) else false := by
  have ok := nodeOk_iff.1 (hl.node hx)
  have ha : 5 ≤ x.op → ∀ u, langF l i x.a.toNat u = lang l x.a.toNat u := fun h u => by
    have := ok.a h
    exact langF_stable hl _ _ _ u (by omega) (by omega)
  have hb : 5 ≤ x.op → x.op ≠ 8 → ∀ u, langF l i x.b.toNat u = lang l x.b.toNat u := fun h h' u => by
    have := ok.b h h'
    exact langF_stable hl _ _ _ u (by omega) (by omega)
  conv => lhs; unfold lang langF
  rw [hx]
  simp only
  by_cases h5 : x.op = 5
  · simp [h5, ha (by omega), hb (by omega) (by omega)]
  by_cases h6 : x.op = 6
  · simp [h6, ha (by omega), hb (by omega) (by omega)]
  by_cases h7 : x.op = 7
  · simp [h7, ha (by omega), hb (by omega) (by omega)]
  by_cases h8 : x.op = 8
  · simp [h8, ha (by omega)]
  simp [h5, h6, h7, h8]

/-- What is appended behind does not matter. -/
theorem langF_append (l m : List Node) : ∀ (n i : Nat) (u : List UInt8), (∀ (j : Nat) (x : Node), l[j]? = some x → 5 ≤ x.op → 0 ≤ x.a ∧ x.a < j) → (∀ (j : Nat) (x : Node), l[j]? = some x → 5 ≤ x.op → x.op ≠ 8 → 0 ≤ x.b ∧ x.b < j) → i < l.length → langF (l ++ m) n i u = langF l n i u := by
  intro n
  induction n with
  | zero => intros; rfl
  | succ n ih =>
    intro i u h1 h2 hi
    unfold langF
    rw [List.getElem?_append_left hi]
    cases hx : l[i]? with
    | none => rfl
    | some x =>
      have ha : 5 ≤ x.op → ∀ u, langF (l ++ m) n x.a.toNat u = langF l n x.a.toNat u := fun h u => by
        have := h1 i x hx h
        exact ih _ u h1 h2 (by omega)
      have hb : 5 ≤ x.op → x.op ≠ 8 → ∀ u, langF (l ++ m) n x.b.toNat u = langF l n x.b.toNat u := fun h h' u => by
        have := h2 i x hx h h'
        exact ih _ u h1 h2 (by omega)
      simp only
      by_cases h5 : x.op = 5
      · simp [h5, ha (by omega), hb (by omega) (by omega)]
      by_cases h6 : x.op = 6
      · simp [h6, ha (by omega), hb (by omega) (by omega)]
      by_cases h7 : x.op = 7
      · simp [h7, ha (by omega), hb (by omega) (by omega)]
      by_cases h8 : x.op = 8
      · simp [h8, ha (by omega)]
      simp [h5, h6, h7, h8]

/-! Tables. -/
def sub (w : List UInt8) (p q : Nat) : List UInt8 := (w.drop p).take (q - p)
theorem sub_length {w : List UInt8} {p q : Nat} (h : p ≤ q) (hq : q ≤ w.length) : (sub w p q).length = q - p := by simp [sub]; omega
theorem sub_take {w : List UInt8} {p q k : Nat} (hk : k ≤ q - p) : (sub w p q).take k = sub w p (p + k) := by
  unfold sub; rw [List.take_take]; congr 1; omega
theorem sub_drop {w : List UInt8} {p q k : Nat} (hk : k ≤ q - p) : (sub w p q).drop k = sub w (p + k) q := by
  unfold sub; rw [List.drop_take, List.drop_drop]; congr 1; omega

/-- What the table of a node says at p. -/
def cell (l : List Node) (i : Nat) (w : List UInt8) (p q : Nat) : Bool := decide (p ≤ q ∧ q ≤ w.length) && lang l i (sub w p q)
def IsTable (l : List Node) (i : Nat) (w : List UInt8) (t : List V) : Prop :=
  t.length = w.length + 1 ∧ ∀ p v, t[p]? = some v → IsCut v (cell l i w p)

theorem IsCut.norm {v : V} {f : Nat → Bool} (h : IsCut v f) : V.agg [.int .u64 ((v.cell 0).toInt), .int .u64 ((v.cell 1).toInt)] = v := by
  obtain ⟨A, B, _, _, rfl, _⟩ := h
  simp

/-- The inner loop of a concatenation. -/
theorem cat_loop {l : List Node} {i ia ib : Nat} {w : List UInt8} {x : Node} {T ta tb ts : List V} {p : Nat} (hn : w.length ≤ 64) (hp : p ≤ w.length)
    (hA : idx T x.a = some (.list T_starfree_cuts ta)) (hB : idx T x.b = some (.list T_starfree_cuts tb)) (hta : IsTable l ia w ta) (htb : IsTable l ib w tb)
    (hc : ∀ q, p ≤ q → q ≤ w.length → lang l i (sub w p q) = (List.range (q - p + 1)).any fun k => lang l ia (sub w p (p + k)) && lang l ib (sub w (p + k) q))
    (hts : ts.length = w.length + 1) (h0 : ∀ v, ts[p]? = some v → IsCut v fun _ => false) :
    ∃ (j : Int) (b : Bool) (v : V), IsCut v (cell l i w p) ∧ Loop (s_starfree_evaluate_17L_step CC T w p x.a x.b) ((p : Int), ts) = some (j, b, ts.set p v) := by
  have hp0 : p < ts.length := by omega
  have key := Loop_inv (step := s_starfree_evaluate_17L_step CC T w p x.a x.b)
    (fun s => ∃ (j : Nat) (v : V), p ≤ j ∧ j ≤ w.length + 1 ∧ IsCut v (fun q => decide (p ≤ q ∧ q ≤ w.length) && (List.range (j - p)).any fun k => decide (p + k ≤ q) && (lang l ia (sub w p (p + k)) && lang l ib (sub w (p + k) q))) ∧ s = ((j : Int), ts.set p v))
    (fun s => ((w.length + 1 : Int) - s.1).toNat)
    (fun r => ∃ (j : Int) (b : Bool) (v : V), IsCut v (cell l i w p) ∧ r = (j, b, ts.set p v)) (by
      rintro s ⟨j, v, h1, h2, h3, rfl⟩
      unfold s_starfree_evaluate_17L_step s_starfree_evaluate_16
      simp only [bif_and, bif_decide, List.length_set]
      by_cases hj : j ≤ w.length
      · left
        rw [if_pos (by omega), hA, hB]
        have hga : ta[p]? = some (ta[p]'(by rw [hta.1]; omega)) := List.getElem?_eq_getElem _
        have hgb : tb[j]? = some (tb[j]'(by rw [htb.1]; omega)) := List.getElem?_eq_getElem _
        have ca := hta.2 p _ hga
        have cb := htb.2 j _ hgb
        have hset : (ts.set p v)[p]? = some v := by simp [hp0]
        simp only [Option.bind_some, V.toList_list, idx_nat, hga, hgb, ca.norm, has_spec ca (show j < 128 by omega), V.toBool_bool, Int.toNat_natCast, hset]
        -- the new value's set
        have grow : ∀ q, q < 128 → (decide (p ≤ q ∧ q ≤ w.length) && (List.range (j + 1 - p)).any fun k => decide (p + k ≤ q) && (lang l ia (sub w p (p + k)) && lang l ib (sub w (p + k) q))) =
            ((decide (p ≤ q ∧ q ≤ w.length) && (List.range (j - p)).any fun k => decide (p + k ≤ q) && (lang l ia (sub w p (p + k)) && lang l ib (sub w (p + k) q))) ||
              (cell l ia w p j && cell l ib w j q)) := by
          intro q _
          rw [show j + 1 - p = (j - p) + 1 by omega, List.range_succ, List.any_append]
          have e : p + (j - p) = j := by omega
          simp only [List.any_cons, List.any_nil, Bool.or_false, e, cell]
          have e1 : decide (p ≤ j ∧ j ≤ w.length) = true := by simp; omega
          rw [e1, Bool.true_and]
          by_cases hq : p ≤ q ∧ q ≤ w.length
          · by_cases hjq : j ≤ q
            · simp [hq, hjq]
            · simp [hq, hjq]
          · have : ¬ (j ≤ q ∧ q ≤ w.length) := by omega
            rw [decide_eq_false hq, decide_eq_false this]; simp
        cases hcell : cell l ia w p j with
        | true =>
          obtain ⟨v', hv', hu⟩ := union_spec h3 cb
          refine ⟨((j + 1 : Nat), ts.set p v'), ?_, ⟨j + 1, v', by omega, by omega, hv'.congr fun q hq => ?_, rfl⟩, by simp; omega⟩
          · rw [if_pos (by omega), if_pos (by omega)]
            simp (disch := omega) only [cond_true, h3.norm, cb.norm, hu, Option.bind_some, hv'.norm, wrap64, List.set_set]
            rw [if_pos (by omega), if_pos (by omega)]
            rfl
          · have := grow q hq
            rw [hcell, Bool.true_and] at this
            exact this.symm
        | false =>
          refine ⟨((j + 1 : Nat), ts.set p v), ?_, ⟨j + 1, v, by omega, by omega, h3.congr fun q hq => ?_, rfl⟩, by simp; omega⟩
          · simp (disch := omega) only [cond_false, wrap64]
            rfl
          · have := grow q hq
            rw [hcell, Bool.false_and, Bool.or_false] at this
            exact this.symm
      · right
        rw [if_neg (by omega)]
        refine ⟨_, rfl, _, _, v, h3.congr fun q _ => ?_, rfl⟩
        unfold cell
        by_cases hq : p ≤ q ∧ q ≤ w.length
        · rw [decide_eq_true hq, Bool.true_and, Bool.true_and, hc q hq.1 hq.2]
          have hjw : j = w.length + 1 := by omega
          rw [Bool.eq_iff_iff, List.any_eq_true, List.any_eq_true]
          constructor
          · rintro ⟨k, hk, h⟩
            simp only [Bool.and_eq_true, decide_eq_true_eq] at h
            exact ⟨k, by simp; omega, by simp [h.2]⟩
          · rintro ⟨k, hk, h⟩
            simp only [List.mem_range] at hk
            simp only [Bool.and_eq_true] at h
            exact ⟨k, by simp; omega, by simp [h]; omega⟩
        · rw [decide_eq_false hq]; rfl)
  have hv0 : ts[p]? = some ts[p] := List.getElem?_eq_getElem hp0
  obtain ⟨r, hr, j, b, v, hv, rfl⟩ := key ((p : Int), ts) ⟨p, ts[p], Nat.le_refl _, by omega, (h0 _ hv0).congr fun q _ => by simp, by simp⟩
  exact ⟨j, b, v, hv, hr⟩
end Go.AM

/-
  evaluate: the table of a node.
-/
namespace Go.AM
open Go.Proofs

theorem isLetter_iff {x : Node} {u : List UInt8} : isLetter x u = true ↔ ∃ c, u = [c] ∧ (c.toNat : Int) - 97 = x.letter := by
  unfold isLetter
  split
  · simp
  · rename_i h
    constructor
    · intro h; cases h
    · rintro ⟨c, rfl, _⟩; exact absurd rfl (h c)

theorem sub_one {w : List UInt8} {p : Nat} (h : p < w.length) : sub w p (p + 1) = [w[p]] := by
  unfold sub
  rw [List.drop_eq_getElem_cons h, show p + 1 - p = 1 by omega]
  rfl

/-- One round of evaluate. -/
def RoundOk (C : CallF) (T ts : List V) (w : List UInt8) (x : Node) (p : Nat) (g : Nat → Bool) : Prop :=
  ∃ v', IsCut v' g ∧ s_starfree_evaluate_39L_step C T w (ts.length : Int) x.op x.letter x.a x.b ((p : Int), ts) = some (.inl (((p + 1 : Nat) : Int), ts.set p v'))

/-- The tables at hand: those of the nodes that node x refers to. -/
def HasTables (l : List Node) (T : List V) (w : List UInt8) (x : Node) : Prop :=
  (5 ≤ x.op → ∃ t, idx T x.a = some (.list T_starfree_cuts t) ∧ IsTable l x.a.toNat w t) ∧
  (5 ≤ x.op → x.op ≠ 8 → ∃ t, idx T x.b = some (.list T_starfree_cuts t) ∧ IsTable l x.b.toNat w t)

theorem round_ok {letters : Int} {l : List Node} (hl : Valid letters l) {i : Nat} {x : Node} (hx : l[i]? = some x) {T ts : List V} {w : List UInt8} (hT : HasTables l T w x) (hw : wordB 6 w = true)
    (hn : w.length ≤ 64) {p : Nat} (hp : p ≤ w.length) (hts : ts.length = w.length + 1) (h0 : ∀ v, ts[p]? = some v → IsCut v fun _ => false) : RoundOk CC T ts w x p (cell l i w p) := by
  have ok := nodeOk_iff.1 (hl.node hx)
  have hlt : p < ts.length := by omega
  have hv0 : ts[p]? = some ts[p] := List.getElem?_eq_getElem hlt
  have c0 := h0 _ hv0
  have hle := lang_eq hl hx
  unfold RoundOk s_starfree_evaluate_39L_step
  simp only [bif_and, bif_decide, bif_beq]
  by_cases h1 : x.op = 1
  · refine ⟨ts[p], c0.congr fun q _ => ?_, ?_⟩
    · unfold cell; rw [hle]; simp [h1]
    · unfold s_starfree_evaluate_20
      simp only [bif_beq]
      rw [if_pos (by omega), if_neg (by omega), if_neg (by omega), if_neg (by omega), if_neg (by omega), if_neg (by omega), if_neg (by omega), if_neg (by omega)]
      simp (disch := omega) only [wrap64]
      simp
  by_cases h2 : x.op = 2
  · obtain ⟨v', hv', hc⟩ := with_spec c0 (show p < 128 by omega)
    refine ⟨v', hv'.congr fun q _ => ?_, ?_⟩
    · unfold cell; rw [hle, if_pos h2, Bool.false_or]
      by_cases hq : p ≤ q ∧ q ≤ w.length
      · rw [decide_eq_true hq, Bool.true_and, Bool.eq_iff_iff]
        have := sub_length hq.1 hq.2
        constructor
        · intro h
          simp only [decide_eq_true_eq] at h
          subst h
          simp [sub]
        · intro h
          rw [List.isEmpty_iff] at h
          rw [h] at this
          simp only [List.length_nil] at this
          simp; omega
      · rw [decide_eq_false hq, Bool.false_and, decide_eq_false (by omega)]
    · rw [if_pos (by omega), if_pos h2, if_pos (by omega), if_pos (by omega), Int.toNat_natCast, hv0]
      simp (disch := omega) only [Option.bind_some, c0.norm, hc, hv'.norm, wrap64]
      rw [if_pos (by omega), if_pos (by omega)]
      rfl
  by_cases h3 : x.op = 3
  · rw [if_pos (by omega), if_neg h2, if_pos h3]
    unfold s_starfree_evaluate_7
    simp only [bif_and, bif_decide, bif_beq]
    by_cases hpw : p < w.length
    · have hb : 97 ≤ w[p].toNat := by
        have := List.all_eq_true.1 hw w[p] (List.getElem_mem hpw)
        simp only [decide_eq_true_eq] at this
        exact this.1
      have hb2 := w[p].toNat_lt
      rw [if_pos (by omega), if_pos (by omega), Int.toNat_natCast, List.getElem?_eq_getElem hpw]
      simp (disch := omega) only [Option.map_some, Option.bind_some, V.toInt_int, wrap8, wrap64, hv0]
      have hsub : ∀ q, p ≤ q → q ≤ w.length → (isLetter x (sub w p q) = true ↔ q = p + 1 ∧ (w[p].toNat : Int) - 97 = x.letter) := by
        intro q hq1 hq2
        rw [isLetter_iff]
        constructor
        · rintro ⟨c, hc1, hc2⟩
          have := sub_length hq1 hq2
          rw [hc1] at this
          simp only [List.length_singleton] at this
          have hq : q = p + 1 := by omega
          subst hq
          rw [sub_one hpw] at hc1
          cases hc1
          exact ⟨rfl, hc2⟩
        · rintro ⟨rfl, h⟩
          exact ⟨_, sub_one hpw, h⟩
      by_cases he : (w[p].toNat : Int) - 97 = x.letter
      · obtain ⟨v', hv', hc⟩ := with_spec c0 (show p + 1 < 128 by omega)
        refine ⟨v', hv'.congr fun q _ => ?_, ?_⟩
        · unfold cell; rw [hle, if_neg h2, if_pos h3, Bool.false_or]
          by_cases hq : p ≤ q ∧ q ≤ w.length
          · rw [decide_eq_true hq, Bool.true_and, Bool.eq_iff_iff, hsub q hq.1 hq.2]
            simp [he]
          · rw [decide_eq_false hq, Bool.false_and, decide_eq_false (by omega)]
        · rw [if_pos he, if_pos (by omega), if_pos (by omega)]
          rw [show (p : Int) + 1 = ((p + 1 : Nat) : Int) by omega]
          simp only [c0.norm, hc, Option.bind_some, hv'.norm]
          rw [if_pos (by omega), if_pos (by omega)]
      · refine ⟨ts[p], c0.congr fun q _ => ?_, ?_⟩
        · unfold cell; rw [hle, if_neg h2, if_pos h3]
          by_cases hq : p ≤ q ∧ q ≤ w.length
          · rw [decide_eq_true hq, Bool.true_and]
            cases hs : isLetter x (sub w p q) with
            | false => rfl
            | true => exact absurd ((hsub q hq.1 hq.2).1 hs).2 he
          · rw [decide_eq_false hq, Bool.false_and]
        · rw [if_neg he]; simp
    · refine ⟨ts[p], c0.congr fun q _ => ?_, ?_⟩
      · unfold cell; rw [hle, if_neg h2, if_pos h3]
        by_cases hq : p ≤ q ∧ q ≤ w.length
        · rw [decide_eq_true hq, Bool.true_and]
          have : sub w p q = [] := List.eq_nil_of_length_eq_zero (by rw [sub_length hq.1 hq.2]; omega)
          rw [this]; rfl
        · rw [decide_eq_false hq, Bool.false_and]
      · rw [if_neg (by omega)]
        simp (disch := omega) only [wrap64]
        simp
  by_cases h4 : x.op = 4
  · obtain ⟨v', hv', hc⟩ := between_spec (i := p) (n := w.length) (by omega) (by omega)
    refine ⟨v', hv'.congr fun q _ => ?_, ?_⟩
    · unfold cell; rw [hle, if_neg h2, if_neg h3, if_pos h4, Bool.and_true]
    · rw [if_pos (by omega), if_neg h2, if_neg h3, if_pos h4, hc]
      simp (disch := omega) only [Option.bind_some, Int.toNat_natCast, hv0, hv'.norm, wrap64]
      rw [if_pos (by omega), if_pos (by omega)]
      rfl
  have h5' : 5 ≤ x.op := by have := ok.op; omega
  obtain ⟨ta, hA, hta⟩ := hT.1 h5'
  have hga : ta[p]? = some (ta[p]'(by rw [hta.1]; omega)) := List.getElem?_eq_getElem _
  have ca := hta.2 p _ hga
  by_cases h8 : x.op = 8
  · obtain ⟨vb, hvb, hcb⟩ := between_spec (i := p) (n := w.length) (by omega) (by omega)
    obtain ⟨v', hv', hc⟩ := without_spec hvb ca
    refine ⟨v', hv'.congr fun q _ => ?_, ?_⟩
    · unfold cell; rw [hle, if_neg h2, if_neg h3, if_neg h4, if_neg (by omega), if_neg (by omega), if_neg (by omega), if_pos h8]
      cases decide (p ≤ q ∧ q ≤ w.length) <;> simp
    · rw [if_pos (by omega), if_neg h2, if_neg h3, if_neg h4, if_neg (by omega), if_neg (by omega), if_neg (by omega)]
      unfold s_starfree_evaluate_20
      simp only [bif_and, bif_decide, bif_beq]
      rw [if_pos h8, hcb, hA]
      simp (disch := omega) only [Option.bind_some, Int.toNat_natCast, hv0, hvb.norm, V.toList_list, idx_nat, hga, ca.norm, hc, hv'.norm, wrap64]
      rw [if_pos (by omega), if_pos (by omega)]
      rfl
  obtain ⟨tb, hB, htb⟩ := hT.2 h5' h8
  have hgb : tb[p]? = some (tb[p]'(by rw [htb.1]; omega)) := List.getElem?_eq_getElem _
  have cb := htb.2 p _ hgb
  by_cases h5 : x.op = 5
  · obtain ⟨v', hv', hc⟩ := union_spec ca cb
    refine ⟨v', hv'.congr fun q _ => ?_, ?_⟩
    · unfold cell; rw [hle, if_neg h2, if_neg h3, if_neg h4, if_pos h5]
      cases decide (p ≤ q ∧ q ≤ w.length) <;> simp
    · rw [if_pos (by omega), if_neg h2, if_neg h3, if_neg h4, if_pos h5, hA, hB]
      simp (disch := omega) only [Option.bind_some, Int.toNat_natCast, hv0, V.toList_list, idx_nat, hga, hgb, ca.norm, cb.norm, hc, hv'.norm, wrap64]
      rw [if_pos (by omega), if_pos (by omega)]
      rfl
  by_cases h6 : x.op = 6
  · obtain ⟨v', hv', hc⟩ := meet_spec ca cb
    refine ⟨v', hv'.congr fun q _ => ?_, ?_⟩
    · unfold cell; rw [hle, if_neg h2, if_neg h3, if_neg h4, if_neg h5, if_pos h6]
      cases decide (p ≤ q ∧ q ≤ w.length) <;> simp
    · rw [if_pos (by omega), if_neg h2, if_neg h3, if_neg h4, if_neg h5, if_pos h6, hA, hB]
      simp (disch := omega) only [Option.bind_some, Int.toNat_natCast, hv0, V.toList_list, idx_nat, hga, hgb, ca.norm, cb.norm, hc, hv'.norm, wrap64]
      rw [if_pos (by omega), if_pos (by omega)]
      rfl
  have h7 : x.op = 7 := by have := ok.op; omega
  obtain ⟨j, b, v', hv', hlp⟩ := cat_loop (l := l) (i := i) (ts := ts) hn hp hA hB hta htb (fun q hq1 hq2 => by
    rw [hle, if_neg h2, if_neg h3, if_neg h4, if_neg h5, if_neg h6, if_pos h7, sub_length hq1 hq2]
    rw [Bool.eq_iff_iff, List.any_eq_true, List.any_eq_true]
    have : ∀ k, k ∈ List.range (q - p + 1) → ((lang l x.a.toNat ((sub w p q).take k) && lang l x.b.toNat ((sub w p q).drop k)) = (lang l x.a.toNat (sub w p (p + k)) && lang l x.b.toNat (sub w (p + k) q))) := by
      intro k hk
      simp only [List.mem_range] at hk
      rw [sub_take (by omega), sub_drop (by omega)]
    constructor
    · rintro ⟨k, hk, h⟩; exact ⟨k, hk, by rw [← this k hk]; exact h⟩
    · rintro ⟨k, hk, h⟩; exact ⟨k, hk, by rw [this k hk]; exact h⟩) hts h0
  refine ⟨v', hv', ?_⟩
  rw [if_pos (by omega), if_neg h2, if_neg h3, if_neg h4, if_neg h5, if_neg h6, if_pos h7]
  unfold s_starfree_evaluate_17L
  rw [hlp]
  simp (disch := omega) only [Option.bind_some, wrap64]
  rfl

theorem evaluate_spec {letters : Int} {l : List Node} (hl : Valid letters l) {i : Nat} {x : Node} (hx : l[i]? = some x) {T : List V} {w : List UInt8} (hT : HasTables l T w x) (hw : wordB 6 w = true)
    (hn : w.length ≤ 64) : ∃ t, IsTable l i w t ∧ CC F_starfree_evaluate [x.v, .list T_starfree_table T, .str w] [] = some (.own T_starfree_cuts t, []) := by
  have key := Loop_inv (step := s_starfree_evaluate_39L_step CC T w ((w.length + 1 : Nat) : Int) x.op x.letter x.a x.b)
    (fun s => ∃ (p : Nat) (ts : List V), p ≤ w.length + 1 ∧ ts.length = w.length + 1 ∧ (∀ q v, q < p → ts[q]? = some v → IsCut v (cell l i w q)) ∧ (∀ q v, p ≤ q → ts[q]? = some v → IsCut v fun _ => false) ∧ s = ((p : Int), ts))
    (fun s => ((w.length + 1 : Int) - s.1).toNat)
    (fun r => ∃ (j : Int) (b : Bool) (t : List V), IsTable l i w t ∧ r = (j, b, t)) (by
      rintro s ⟨p, ts, h1, h2, h3, h4, rfl⟩
      by_cases hp : p ≤ w.length
      · left
        obtain ⟨v', hv', hs⟩ := round_ok hl hx hT hw hn hp h2 (fun v hv => h4 p v (Nat.le_refl _) hv)
        rw [h2] at hs
        refine ⟨_, hs, ⟨p + 1, ts.set p v', by omega, by simp [h2], fun q v hq hv => ?_, fun q v hq hv => ?_, rfl⟩, by simp; omega⟩
        · by_cases hqp : q = p
          · subst hqp
            rw [List.getElem?_set_self (by omega)] at hv
            cases hv
            exact hv'
          · rw [List.getElem?_set_ne (by omega)] at hv
            exact h3 q v (by omega) hv
        · rw [List.getElem?_set_ne (by omega)] at hv
          exact h4 q v (by omega) hv
      · right
        unfold s_starfree_evaluate_39L_step
        simp only [bif_decide]
        rw [if_neg (by omega)]
        exact ⟨_, rfl, _, _, ts, ⟨h2, fun q v hv => h3 q v (by have := (List.getElem?_eq_some_iff.1 hv).1; omega) hv⟩, rfl⟩)
  have hz : ∀ (q : Nat) (v : V), (List.replicate (w.length + 1) (V.agg [.int .u64 0, .int .u64 0]))[q]? = some v → IsCut v fun _ => false := by
    intro q v hv
    rw [List.getElem?_replicate] at hv
    split at hv
    · cases hv; exact isCut_zero
    · cases hv
  obtain ⟨r, hr, j, b, t, ht, rfl⟩ := key ((0 : Int), List.replicate (w.length + 1) (.agg [.int .u64 0, .int .u64 0])) ⟨0, _, by omega, by simp, fun q v hq => by omega, fun q v _ hv => hz q v hv, rfl⟩
  refine ⟨t, ht, f_starfree_evaluate_of ?_⟩
  unfold f_starfree_evaluate s_starfree_evaluate_39L
  have e : IntKind.wrap .i64 ((w.length : Int) + 1) = ((w.length + 1 : Nat) : Int) := by rw [wrap64 (by omega) (by omega)]; rfl
  simp only [e, bif_and, bif_decide, bif_ble, Int.toNat_natCast, List.length_replicate, hr]
  rw [if_pos (by omega), if_pos (by omega), if_pos (by unfold maxBytes; omega)]
  rfl
end Go.AM

set_option maxRecDepth 100000
namespace Go.AM
open Go.Proofs
/-! semigroup/starfree.reached -/
theorem s_starfree_reached_1d_eq (C : CallF) (g_Nodes : List V) (g_Root : Int) {β : Type} (K : Out → St → Option β) :
    execL Try.prog ann C 21 47 0 (codesAt Try.prog 21 [[0], [1, 0], [1, 1, 0], [1, 1, 1, 0, 0]]) (mk [(0, .agg [.list T_api_SfNode g_Nodes, .int .i64 g_Root])] []) K =
      bif (decide (0 ≤ (g_Nodes.length : Int))) && ((decide ((g_Nodes.length : Int) ≤ (g_Nodes.length : Int))) && (Nat.ble ((((g_Nodes.length : Int) : Int).toNat) * 1) maxBytes)) then
        bif (decide (0 ≤ g_Root)) && (decide (g_Root < ((List.replicate (((g_Nodes.length : Int) : Int).toNat) (V.bool false)).length : Int))) then
          ((List.replicate (((g_Nodes.length : Int) : Int).toNat) (V.bool false))[(g_Root : Int).toNat]?).bind fun x2 =>
            K .norm (mk [(1, .ptr 0 0 0), (3, .whole T_bool 1), (4, .int .i64 g_Root)] [.var [.list T_api_SfNode g_Nodes, .int .i64 g_Root], .arr T_bool ((List.replicate (((g_Nodes.length : Int) : Int).toNat) (V.bool false)).set ((g_Root : Int).toNat) (.bool true)) false])
        else none
      else none := by kernel_rfl

noncomputable def s_starfree_reached_2 (C : CallF) (i : Int) (gs_0 : List V) (markss : List V) {β : Type} (k0 : (List V) → Option β) (k1 : Option β) : Option β :=
  bif decide ((i : Int) ≥ 0) then
    bif (decide (0 ≤ i)) && (decide (i < (markss.length : Int))) then
      (markss[(i : Int).toNat]?).bind fun x3 =>
        bif !x3.toBool then
          k0 markss
        else
          (idx gs_0 i).bind fun x4 =>
            (C F_starfree_parts [.int .i64 ((x4.cell 0).toInt)] []).bind fun r5 =>
              bif decide ((r5.1.toInt : Int) ≥ 1) then
                bif (decide (0 ≤ ((x4.cell 2).toInt))) && (decide (((x4.cell 2).toInt) < (markss.length : Int))) then
                  (markss[((x4.cell 2).toInt : Int).toNat]?).bind fun x6 =>
                    (C F_starfree_parts [.int .i64 ((x4.cell 0).toInt)] []).bind fun r7 =>
                      bif (r7.1.toInt : Int) == 2 then
                        bif (decide (0 ≤ ((x4.cell 3).toInt))) && (decide (((x4.cell 3).toInt) < ((markss.set (((x4.cell 2).toInt : Int).toNat) (.bool true)).length : Int))) then
                          ((markss.set (((x4.cell 2).toInt : Int).toNat) (.bool true))[((x4.cell 3).toInt : Int).toNat]?).bind fun x8 =>
                            k0 ((markss.set (((x4.cell 2).toInt : Int).toNat) (.bool true)).set (((x4.cell 3).toInt : Int).toNat) (.bool true))
                        else none
                      else
                        k0 (markss.set (((x4.cell 2).toInt : Int).toNat) (.bool true))
                else none
              else
                (C F_starfree_parts [.int .i64 ((x4.cell 0).toInt)] []).bind fun r9 =>
                  bif (r9.1.toInt : Int) == 2 then
                    bif (decide (0 ≤ ((x4.cell 3).toInt))) && (decide (((x4.cell 3).toInt) < (markss.length : Int))) then
                      (markss[((x4.cell 3).toInt : Int).toNat]?).bind fun x10 =>
                        k0 (markss.set (((x4.cell 3).toInt : Int).toNat) (.bool true))
                    else none
                  else
                    k0 markss
    else none
  else
    k1

theorem s_starfree_reached_2_eq (C : CallF) (i : Int) (gs_0 : List V) (gs_1 : Int) (markss : List V) {β : Type} (K : Out → St → Option β) :
    execL Try.prog ann C 21 47 0 (codesAt Try.prog 21 [[1, 1, 1, 0, 1, 0, 0, 0, 0], [1, 1, 1, 0, 1, 0, 0, 0, 1], [1, 1, 1, 0, 1, 0, 0, 1, 0]]) (mk [(1, .ptr 0 0 0), (3, .whole T_bool 1), (4, .int .i64 i)] [.var [.list T_api_SfNode gs_0, .int .i64 gs_1], .arr T_bool markss false]) K =
      s_starfree_reached_2 C i gs_0 markss
        (fun (markss0 : List V) => K .norm (mk [(1, .ptr 0 0 0), (3, .whole T_bool 1), (4, .int .i64 i)] [.var [.list T_api_SfNode gs_0, .int .i64 gs_1], .arr T_bool markss0 false]))
        (K (.exit 0) (mk [(1, .ptr 0 0 0), (3, .whole T_bool 1), (4, .int .i64 i), (17, .bool (decide ((i : Int) ≥ 0)))] [.var [.list T_api_SfNode gs_0, .int .i64 gs_1], .arr T_bool markss false])) := by kernel_rfl

theorem s_starfree_reached_3d_eq (C : CallF) (i : Int) (gs_0 : List V) (gs_1 : Int) (markss : List V) {β : Type} (K : Out → St → Option β) :
    execL Try.prog ann C 21 47 0 (codesAt Try.prog 21 [[1, 1, 1, 0, 1, 0, 0, 1, 1]]) (mk [(1, .ptr 0 0 0), (3, .whole T_bool 1), (4, .int .i64 i)] [.var [.list T_api_SfNode gs_0, .int .i64 gs_1], .arr T_bool markss false]) K =
      K .norm (mk [(1, .ptr 0 0 0), (3, .whole T_bool 1), (4, .int .i64 (IntKind.wrap .i64 (i - 1)))] [.var [.list T_api_SfNode gs_0, .int .i64 gs_1], .arr T_bool markss false]) := by kernel_rfl

theorem s_starfree_reached_4c_eq (C : CallF) (i : Int) (gs_0 : List V) (gs_1 : Int) (markss : List V) {β : Type} (K : Out → St → Option β) :
    execL Try.prog ann C 21 47 0 (codesAt Try.prog 21 [[1, 1, 1, 0, 1, 0, 0, 0, 0], [1, 1, 1, 0, 1, 0, 0, 0, 1], [1, 1, 1, 0, 1, 0, 0, 1, 0], [1, 1, 1, 0, 1, 0, 0, 1, 1]]) (mk [(1, .ptr 0 0 0), (3, .whole T_bool 1), (4, .int .i64 i)] [.var [.list T_api_SfNode gs_0, .int .i64 gs_1], .arr T_bool markss false]) K =
      s_starfree_reached_2 C i gs_0 markss
        (fun (markss_19 : List V) =>
          K .norm (mk [(1, .ptr 0 0 0), (3, .whole T_bool 1), (4, .int .i64 (IntKind.wrap .i64 (i - 1)))] [.var [.list T_api_SfNode gs_0, .int .i64 gs_1], .arr T_bool markss_19 false]))
        (
          K (.exit 0) (mk [(1, .ptr 0 0 0), (3, .whole T_bool 1), (4, .int .i64 i), (17, .bool (decide ((i : Int) ≥ 0)))] [.var [.list T_api_SfNode gs_0, .int .i64 gs_1], .arr T_bool markss false])) := by
  refine Eq.trans (execL_app (P := Try.prog) (A := ann) (C := C) (f := 21) (n := 47) (m := 0) (codesAt Try.prog 21 [[1, 1, 1, 0, 1, 0, 0, 0, 0], [1, 1, 1, 0, 1, 0, 0, 0, 1], [1, 1, 1, 0, 1, 0, 0, 1, 0]]) (codesAt Try.prog 21 [[1, 1, 1, 0, 1, 0, 0, 1, 1]]) (st := mk [(1, .ptr 0 0 0), (3, .whole T_bool 1), (4, .int .i64 i)] [.var [.list T_api_SfNode gs_0, .int .i64 gs_1], .arr T_bool markss false]) (K := K)) (Eq.trans (s_starfree_reached_2_eq C i gs_0 gs_1 markss (seqK Try.prog ann C 21 47 0 (codesAt Try.prog 21 [[1, 1, 1, 0, 1, 0, 0, 1, 1]]) K)) ?_)
  · exact Eq.trans (by kernel_rfl) (Eq.trans (congrArg (fun HOLE : (List V) → Option β => s_starfree_reached_2 C i gs_0 markss HOLE (K (.exit 0) (mk [(1, .ptr 0 0 0), (3, .whole T_bool 1), (4, .int .i64 i), (17, .bool (decide ((i : Int) ≥ 0)))] [.var [.list T_api_SfNode gs_0, .int .i64 gs_1], .arr T_bool markss false]))) (funext fun (markss0 : List V) => s_starfree_reached_3d_eq C i gs_0 gs_1 markss0 K)) ((by kernel_rfl)))


noncomputable def s_starfree_reached_5L_step (C : CallF) (gs_0 : List V) : (Int × (List V)) → Option ((Int × (List V)) ⊕ ((Int × Bool × (List V)))) := fun (i, markss) =>
  s_starfree_reached_2 C i gs_0 markss
    (fun (markss_19 : List V) =>
      some (.inl (IntKind.wrap .i64 (i - 1), markss_19)))
    (
      some (.inr (i, decide ((i : Int) ≥ 0), markss)))

noncomputable def s_starfree_reached_5L (C : CallF) (i : Int) (gs_0 : List V) (markss : List V) {β : Type} (k0 : Int → Bool → (List V) → Option β) : Option β :=
  (Loop (s_starfree_reached_5L_step C gs_0) (i, markss)).bind fun (i0, t170, markss0) => k0 i0 t170 markss0

def s_starfree_reached_5L_dec : Out → St → Option ((Int × (List V)) ⊕ ((Int × Bool × (List V)))) := fun o st => match o with
    | .norm => some (.inl (V.toInt (st.sl 4), arrOf (st.hp 1)))
    | .exit q => bif Nat.beq q 0 then some (.inr (V.toInt (st.sl 4), V.toBool (st.sl 17), arrOf (st.hp 1))) else none
    | .ret => none

def s_starfree_reached_5L_hd (gs_0 : List V) (gs_1 : Int) : (Int × (List V)) → St := fun (i, markss) => mk [(1, .ptr 0 0 0), (3, .whole T_bool 1), (4, .int .i64 i)] [.var [.list T_api_SfNode gs_0, .int .i64 gs_1], .arr T_bool markss false]

def s_starfree_reached_5L_enc (gs_0 : List V) (gs_1 : Int) : ((Int × Bool × (List V))) → Out × St := fun (i0, t170, markss0) => (.exit 0, mk [(1, .ptr 0 0 0), (3, .whole T_bool 1), (4, .int .i64 i0), (17, .bool t170)] [.var [.list T_api_SfNode gs_0, .int .i64 gs_1], .arr T_bool markss0 false])

theorem s_starfree_reached_5L_eq (C : CallF) (i : Int) (gs_0 : List V) (gs_1 : Int) (markss : List V) {β : Type} (K : Out → St → Option β) :
    execL Try.prog ann C 21 47 0 (codesAt Try.prog 21 [[1, 1, 1, 0, 1, 0]]) (mk [(1, .ptr 0 0 0), (3, .whole T_bool 1), (4, .int .i64 i)] [.var [.list T_api_SfNode gs_0, .int .i64 gs_1], .arr T_bool markss false]) K =
      s_starfree_reached_5L C i gs_0 markss
        (fun (i0 : Int) (t170 : Bool) (markss0 : List V) => K (.exit 0) (mk [(1, .ptr 0 0 0), (3, .whole T_bool 1), (4, .int .i64 i0), (17, .bool t170)] [.var [.list T_api_SfNode gs_0, .int .i64 gs_1], .arr T_bool markss0 false])) := by
  have hitems : flatC (codeAt [1, 1, 1, 0, 1, 0, 0] (bodyOf Try.prog 21)) = codesAt Try.prog 21 [[1, 1, 1, 0, 1, 0, 0, 0, 0], [1, 1, 1, 0, 1, 0, 0, 0, 1], [1, 1, 1, 0, 1, 0, 0, 1, 0], [1, 1, 1, 0, 1, 0, 0, 1, 1]] := by kernel_rfl
  have hloop : [codeAt [1, 1, 1, 0, 1, 0] (bodyOf Try.prog 21)] = [Code.loop (codeAt [1, 1, 1, 0, 1, 0, 0] (bodyOf Try.prog 21))] := by kernel_rfl
  have h := loopK_eq (P := Try.prog) (A := ann) (C := C) (f := 21) (n := 47) (m := 0) (c := codeAt [1, 1, 1, 0, 1, 0, 0] (bodyOf Try.prog 21)) (s_starfree_reached_5L_hd gs_0 gs_1) (s_starfree_reached_5L_enc gs_0 gs_1) s_starfree_reached_5L_dec (s_starfree_reached_5L_step C gs_0)
    (by rintro ⟨i, markss⟩; exact Eq.trans (execK_items hitems) (Eq.trans (s_starfree_reached_4c_eq C i gs_0 gs_1 markss s_starfree_reached_5L_dec) (by kernel_rfl)))
    (by rintro ⟨i, markss⟩; exact Eq.trans (execK_items hitems) (Eq.trans (s_starfree_reached_4c_eq C i gs_0 gs_1 markss (fun o st => some (o, st))) (Eq.trans (by kernel_rfl) (Eq.trans (s_starfree_reached_4c_eq C i gs_0 gs_1 markss (fun o st => (s_starfree_reached_5L_dec o st).map (outS (s_starfree_reached_5L_hd gs_0 gs_1) (s_starfree_reached_5L_enc gs_0 gs_1)))).symm (execK_items hitems).symm))))
    (by intro r; intro h; cases h) (i, markss) K
  refine Eq.trans (congrArg (fun l => execL Try.prog ann C 21 47 0 l (mk [(1, .ptr 0 0 0), (3, .whole T_bool 1), (4, .int .i64 i)] [.var [.list T_api_SfNode gs_0, .int .i64 gs_1], .arr T_bool markss false]) K) hloop) (Eq.trans h ?_)
  · refine congrArg _ (funext fun r => ?_)
    rfl

theorem s_starfree_reached_6b_eq (C : CallF) (i : Int) (gs_0 : List V) (gs_1 : Int) (markss : List V) {β : Type} (K : Out → St → Option β) :
    execL Try.prog ann C 21 47 0 (codesAt Try.prog 21 [[1, 1, 1, 0, 1]]) (mk [(1, .ptr 0 0 0), (3, .whole T_bool 1), (4, .int .i64 i)] [.var [.list T_api_SfNode gs_0, .int .i64 gs_1], .arr T_bool markss false]) K =
      s_starfree_reached_5L C i gs_0 markss
        (fun (i_20 : Int) (t_21 : Bool) (markss_22 : List V) =>
          K .norm (mk [(3, .whole T_bool 0)] [.arr T_bool markss_22 false])) := Eq.trans (execL_block (P := Try.prog) (A := ann) (C := C) (f := 21) (n := 47) (m := 0) (id := 0) (c := codeAt [1, 1, 1, 0, 1] (bodyOf Try.prog 21)) (d := codeAt [1, 1, 1, 0, 1, 0] (bodyOf Try.prog 21)) (l := codesAt Try.prog 21 [[1, 1, 1, 0, 1, 0]]) (st := mk [(1, .ptr 0 0 0), (3, .whole T_bool 1), (4, .int .i64 i)] [.var [.list T_api_SfNode gs_0, .int .i64 gs_1], .arr T_bool markss false]) (K := K) (by kernel_rfl) (by kernel_rfl)) (Eq.trans (s_starfree_reached_5L_eq C i gs_0 gs_1 markss (blockK ann 21 0 0 K)) (by kernel_rfl))

theorem s_starfree_reached_7d_eq (C : CallF) (markss : List V) {β : Type} (K : Out → St → Option β) :
    execL Try.prog ann C 21 47 0 (codesAt Try.prog 21 [[1, 1, 1, 1, 0], [1, 1, 1, 1, 1]]) (mk [(3, .whole T_bool 0)] [.arr T_bool markss false]) K =
      K .ret (mk [(2, .whole T_bool 0)] [.arr T_bool markss false]) := by kernel_rfl

theorem s_starfree_reached_8c_eq (C : CallF) (i : Int) (gs_0 : List V) (gs_1 : Int) (markss : List V) {β : Type} (K : Out → St → Option β) :
    execL Try.prog ann C 21 47 0 (codesAt Try.prog 21 [[1, 1, 1, 0, 1], [1, 1, 1, 1, 0], [1, 1, 1, 1, 1]]) (mk [(1, .ptr 0 0 0), (3, .whole T_bool 1), (4, .int .i64 i)] [.var [.list T_api_SfNode gs_0, .int .i64 gs_1], .arr T_bool markss false]) K =
      s_starfree_reached_5L C i gs_0 markss
        (fun (i_20 : Int) (t_21 : Bool) (markss_22 : List V) =>
          K .ret (mk [(2, .whole T_bool 0)] [.arr T_bool markss_22 false])) := by
  refine Eq.trans (execL_app (P := Try.prog) (A := ann) (C := C) (f := 21) (n := 47) (m := 0) (codesAt Try.prog 21 [[1, 1, 1, 0, 1]]) (codesAt Try.prog 21 [[1, 1, 1, 1, 0], [1, 1, 1, 1, 1]]) (st := mk [(1, .ptr 0 0 0), (3, .whole T_bool 1), (4, .int .i64 i)] [.var [.list T_api_SfNode gs_0, .int .i64 gs_1], .arr T_bool markss false]) (K := K)) (Eq.trans (s_starfree_reached_6b_eq C i gs_0 gs_1 markss (seqK Try.prog ann C 21 47 0 (codesAt Try.prog 21 [[1, 1, 1, 1, 0], [1, 1, 1, 1, 1]]) K)) ?_)
  · exact Eq.trans (by kernel_rfl) (Eq.trans (congrArg (fun HOLE : (List V) → Option β => (s_starfree_reached_5L C i gs_0 markss
        (fun (i_20 : Int) (t_21 : Bool) (markss_22 : List V) =>
          HOLE markss_22))) (funext fun (markss0 : List V) => s_starfree_reached_7d_eq C markss0 K)) ((by kernel_rfl)))


theorem s_starfree_reached_9c_eq (C : CallF) (g_Nodes : List V) (g_Root : Int) {β : Type} (K : Out → St → Option β) :
    execL Try.prog ann C 21 47 0 (codesAt Try.prog 21 [[0], [1, 0], [1, 1, 0], [1, 1, 1, 0, 0], [1, 1, 1, 0, 1], [1, 1, 1, 1, 0], [1, 1, 1, 1, 1]]) (mk [(0, .agg [.list T_api_SfNode g_Nodes, .int .i64 g_Root])] []) K =
      bif (decide (0 ≤ (g_Nodes.length : Int))) && ((decide ((g_Nodes.length : Int) ≤ (g_Nodes.length : Int))) && (Nat.ble ((((g_Nodes.length : Int) : Int).toNat) * 1) maxBytes)) then
        bif (decide (0 ≤ g_Root)) && (decide (g_Root < ((List.replicate (((g_Nodes.length : Int) : Int).toNat) (V.bool false)).length : Int))) then
          ((List.replicate (((g_Nodes.length : Int) : Int).toNat) (V.bool false))[(g_Root : Int).toNat]?).bind fun x2 =>
            s_starfree_reached_5L C g_Root g_Nodes ((List.replicate (((g_Nodes.length : Int) : Int).toNat) (V.bool false)).set ((g_Root : Int).toNat) (.bool true))
              (fun (i_20 : Int) (t_21 : Bool) (markss_22 : List V) =>
                K .ret (mk [(2, .whole T_bool 0)] [.arr T_bool markss_22 false]))
        else none
      else none := by
  refine Eq.trans (execL_app (P := Try.prog) (A := ann) (C := C) (f := 21) (n := 47) (m := 0) (codesAt Try.prog 21 [[0], [1, 0], [1, 1, 0], [1, 1, 1, 0, 0]]) (codesAt Try.prog 21 [[1, 1, 1, 0, 1], [1, 1, 1, 1, 0], [1, 1, 1, 1, 1]]) (st := mk [(0, .agg [.list T_api_SfNode g_Nodes, .int .i64 g_Root])] []) (K := K)) (Eq.trans (s_starfree_reached_1d_eq C g_Nodes g_Root (seqK Try.prog ann C 21 47 0 (codesAt Try.prog 21 [[1, 1, 1, 0, 1], [1, 1, 1, 1, 0], [1, 1, 1, 1, 1]]) K)) ?_)
  · exact Eq.trans (by kernel_rfl) (Eq.trans (congrArg (fun HOLE : Option β => (bif (decide (0 ≤ (g_Nodes.length : Int))) && ((decide ((g_Nodes.length : Int) ≤ (g_Nodes.length : Int))) && (Nat.ble ((((g_Nodes.length : Int) : Int).toNat) * 1) maxBytes)) then
        bif (decide (0 ≤ g_Root)) && (decide (g_Root < ((List.replicate (((g_Nodes.length : Int) : Int).toNat) (V.bool false)).length : Int))) then
          ((List.replicate (((g_Nodes.length : Int) : Int).toNat) (V.bool false))[(g_Root : Int).toNat]?).bind fun x2 =>
            HOLE
        else none
      else none)) (s_starfree_reached_8c_eq C g_Root g_Nodes g_Root ((List.replicate (((g_Nodes.length : Int) : Int).toNat) (V.bool false)).set ((g_Root : Int).toNat) (.bool true)) K)) ((by kernel_rfl)))


theorem f_starfree_reached_all (C : CallF) (g_Nodes : List V) (g_Root : Int) {β : Type} (K : Out → St → Option β) : execK Try.prog ann C 21 (ntmpsOf Try.prog 21) ([] : List V).length (bodyOf Try.prog 21) (enter [.agg [.list T_api_SfNode g_Nodes, .int .i64 g_Root]] []) K =
      bif (decide (0 ≤ (g_Nodes.length : Int))) && ((decide ((g_Nodes.length : Int) ≤ (g_Nodes.length : Int))) && (Nat.ble ((((g_Nodes.length : Int) : Int).toNat) * 1) maxBytes)) then
        bif (decide (0 ≤ g_Root)) && (decide (g_Root < ((List.replicate (((g_Nodes.length : Int) : Int).toNat) (V.bool false)).length : Int))) then
          ((List.replicate (((g_Nodes.length : Int) : Int).toNat) (V.bool false))[(g_Root : Int).toNat]?).bind fun x2 =>
            s_starfree_reached_5L C g_Root g_Nodes ((List.replicate (((g_Nodes.length : Int) : Int).toNat) (V.bool false)).set ((g_Root : Int).toNat) (.bool true))
              (fun (i_20 : Int) (t_21 : Bool) (markss_22 : List V) =>
                K .ret (mk [(2, .whole T_bool 0)] [.arr T_bool markss_22 false]))
        else none
      else none :=
  Eq.trans (execK_items (by kernel_rfl)) (s_starfree_reached_9c_eq C g_Nodes g_Root K)

noncomputable def f_starfree_reached (C : CallF) (g_Nodes : List V) (g_Root : Int) : Option (V × List V) :=
  bif (decide (0 ≤ (g_Nodes.length : Int))) && ((decide ((g_Nodes.length : Int) ≤ (g_Nodes.length : Int))) && (Nat.ble ((((g_Nodes.length : Int) : Int).toNat) * 1) maxBytes)) then
    bif (decide (0 ≤ g_Root)) && (decide (g_Root < ((List.replicate (((g_Nodes.length : Int) : Int).toNat) (V.bool false)).length : Int))) then
      ((List.replicate (((g_Nodes.length : Int) : Int).toNat) (V.bool false))[(g_Root : Int).toNat]?).bind fun x2 =>
        s_starfree_reached_5L C g_Root g_Nodes ((List.replicate (((g_Nodes.length : Int) : Int).toNat) (V.bool false)).set ((g_Root : Int).toNat) (.bool true))
          (fun (i_20 : Int) (t_21 : Bool) (markss_22 : List V) =>
            some (.own T_bool markss_22, []))
    else none
  else none

theorem f_starfree_reached_eq (C : CallF) (g_Nodes : List V) (g_Root : Int) : bodyK Try.prog ann C 21 [.agg [.list T_api_SfNode g_Nodes, .int .i64 g_Root]] [] = f_starfree_reached C g_Nodes g_Root :=
  Eq.trans (bodyK_fin (by kernel_rfl)) (Eq.trans (f_starfree_reached_all C g_Nodes g_Root (finK Try.prog ann C 21 [])) (by kernel_rfl))

theorem f_starfree_reached_of {g_Nodes : List V} {g_Root : Int} {r : V × List V} (h : f_starfree_reached CC g_Nodes g_Root = some r) : CC F_starfree_reached [.agg [.list T_api_SfNode g_Nodes, .int .i64 g_Root]] [] = some r :=
  Call_of_body ((bodyK_eq ..).trans ((f_starfree_reached_eq ..).trans h))

end Go.AM

/-
  reached: which nodes a path of references leads to.
-/
namespace Go.AM
open Go.Proofs

inductive Reach (l : List Node) (root : Nat) : Nat → Prop
  | root : Reach l root root
  | a {i : Nat} {x : Node} : Reach l root i → l[i]? = some x → 5 ≤ x.op → Reach l root x.a.toNat
  | b {i : Nat} {x : Node} : Reach l root i → l[i]? = some x → 5 ≤ x.op → x.op ≠ 8 → Reach l root x.b.toNat

theorem Reach.le {letters : Int} {l : List Node} (hl : Valid letters l) {root i : Nat} (h : Reach l root i) : i ≤ root := by
  induction h with
  | root => exact Nat.le_refl _
  | a _ hx h5 ih => have := (nodeOk_iff.1 (hl.node hx)).a h5; omega
  | b _ hx h5 h8 ih => have := (nodeOk_iff.1 (hl.node hx)).b h5 h8; omega

abbrev boolsV (l : List Bool) : List V := l.map .bool

theorem boolsV_get {m : List Bool} {i : Nat} (h : i < m.length) : (boolsV m)[i]? = some (.bool m[i]) := by simp [h]

def MarksOk (l : List Node) (m : List Bool) (i : Nat) : Prop :=
  ∀ (j : Nat) x, i ≤ j → l[j]? = some x → m[j]? = some true → (5 ≤ x.op → m[x.a.toNat]? = some true) ∧ (5 ≤ x.op → x.op ≠ 8 → m[x.b.toNat]? = some true)

theorem reached_spec {letters : Int} {l : List Node} (hl : Valid letters l) {root : Nat} (hr : root < l.length) (hn : l.length ≤ 20000) :
    ∃ m : List Bool, m.length = l.length ∧ (∀ i, m[i]? = some true ↔ Reach l root i) ∧ CC F_starfree_reached [graphV l (root : Int)] [] = some (.own T_bool (boolsV m), []) := by
  have key := Loop_inv (step := s_starfree_reached_5L_step CC (nodesV l))
    (fun s => ∃ (i : Nat) (m : List Bool), i ≤ root + 1 ∧ m.length = l.length ∧ (∀ j, m[j]? = some true → Reach l root j) ∧ m[root]? = some true ∧ MarksOk l m i ∧ s = ((i : Int) - 1, boolsV m))
    (fun s => (s.1 + 1).toNat)
    (fun r => ∃ (j : Int) (b : Bool) (m : List Bool), m.length = l.length ∧ (∀ j, m[j]? = some true → Reach l root j) ∧ m[root]? = some true ∧ MarksOk l m 0 ∧ r = (j, b, boolsV m)) (by
      rintro s ⟨i, m, h1, h2, h3, h4, h5, rfl⟩
      unfold s_starfree_reached_5L_step s_starfree_reached_2
      simp only [bif_and, bif_decide, bif_not, List.length_map, List.length_set]
      cases i with
      | zero =>
        right
        rw [if_neg (by omega)]
        exact ⟨_, rfl, _, _, m, h2, h3, h4, h5, rfl⟩
      | succ i =>
        left
        have ei : ((i + 1 : Nat) : Int) - 1 = (i : Int) := by omega
        have hil : i < l.length := by omega
        have him : i < m.length := by omega
        rw [ei, if_pos (by omega), if_pos (by omega), if_pos (by omega)]
        simp only [Int.toNat_natCast, boolsV_get him, Option.bind_some, V.toBool_bool]
        have hx : l[i]? = some l[i] := List.getElem?_eq_getElem hil
        have ok := nodeOk_iff.1 (hl.node hx)
        have hw : IntKind.wrap .i64 ((i : Int) - 1) = (i : Int) - 1 := wrap64 (by omega) (by omega)
        cases hmi : m[i] with
        | false =>
          refine ⟨((i : Int) - 1, boolsV m), by simp only [cond_false, hw], ⟨i, m, by omega, h2, h3, h4, fun j x hj hxj hmj => ?_, rfl⟩, by simp⟩
          by_cases hji : j = i
          · subst hji
            rw [List.getElem?_eq_getElem him, hmi] at hmj
            cases hmj
          · exact h5 j x (by omega) hxj hmj
        | true =>
          have hri : Reach l root i := h3 i (by rw [List.getElem?_eq_getElem him, hmi])
          simp only [cond_true]
          rw [idx_map (n := i) rfl hil]
          simp only [Option.bind_some, Node.v, V.cell_agg, V.nth_zero, V.nth_two, V.nth_three, V.toInt_int, parts_spec]
          -- marks that are set
          have set_sound : ∀ (m' : List Bool) (k : Nat), Reach l root k → (∀ j, m'[j]? = some true → Reach l root j) → ∀ j, (m'.set k true)[j]? = some true → Reach l root j := by
            intro m' k hk hm j hj
            by_cases hjk : j = k
            · subst hjk; exact hk
            · rw [List.getElem?_set_ne (by omega)] at hj; exact hm j hj
          have set_keep : ∀ (m' : List Bool) (k j : Nat), m'[j]? = some true → (m'.set k true)[j]? = some true := by
            intro m' k j hj
            have hjl := (List.getElem?_eq_some_iff.1 hj).1
            by_cases hjk : j = k
            · subst hjk; rw [List.getElem?_set_self hjl]
            · rw [List.getElem?_set_ne (by omega)]; exact hj
          have set_self : ∀ (m' : List Bool) (k : Nat), k < m'.length → (m'.set k true)[k]? = some true := fun m' k h => List.getElem?_set_self h
          have set_old : ∀ (m' : List Bool) (k j : Nat), k < j → (m'.set k true)[j]? = some true → m'[j]? = some true := by
            intro m' k j hk hj
            rw [List.getElem?_set_ne (by omega)] at hj; exact hj
          have boolsV_set : ∀ (m' : List Bool) (k : Nat), (boolsV m').set k (.bool true) = boolsV (m'.set k true) := by
            intro m' k; simp [List.map_set]
          by_cases g5 : 5 ≤ l[i].op
          · have oa := ok.a g5
            have hla : l[i].a.toNat < m.length := by omega
            have ea : (l[i].a.toNat : Int) = l[i].a := Int.toNat_of_nonneg oa.1
            rw [if_pos (by rw [ge_iff_le, partsN_one ok.op]; exact g5), if_pos oa.1, if_pos (by omega), boolsV_get hla]
            simp only [Option.bind_some, bif_beq]
            by_cases g8 : l[i].op = 8
            · rw [if_neg (by rw [partsN_two ok.op]; omega), boolsV_set]
              refine ⟨((i : Int) - 1, boolsV (m.set l[i].a.toNat true)), by rw [hw], ⟨i, _, by omega, by simp [h2], set_sound m _ (.a hri hx g5) h3, set_keep _ _ _ h4, fun j x hj hxj hmj => ?_, rfl⟩, by simp⟩
              by_cases hji : j = i
              · subst hji
                rw [hx] at hxj
                cases hxj
                exact ⟨fun _ => set_self _ _ hla, fun _ h => absurd g8 h⟩
              · have := h5 j x (by omega) hxj (set_old _ _ _ (by omega) hmj)
                exact ⟨fun h => set_keep _ _ _ (this.1 h), fun h h' => set_keep _ _ _ (this.2 h h')⟩
            · have ob := ok.b g5 g8
              have hlb : l[i].b.toNat < m.length := by omega
              rw [if_pos (by rw [partsN_two ok.op]; exact ⟨g5, g8⟩), boolsV_set, if_pos ob.1, if_pos (by omega), boolsV_get (by simp; omega)]
              simp only [Option.bind_some]
              rw [boolsV_set]
              refine ⟨((i : Int) - 1, boolsV ((m.set l[i].a.toNat true).set l[i].b.toNat true)), by rw [hw], ⟨i, _, by omega, by simp [h2], set_sound _ _ (.b hri hx g5 g8) (set_sound m _ (.a hri hx g5) h3), set_keep _ _ _ (set_keep _ _ _ h4), fun j x hj hxj hmj => ?_, rfl⟩, by simp⟩
              by_cases hji : j = i
              · subst hji
                rw [hx] at hxj
                cases hxj
                exact ⟨fun _ => set_keep _ _ _ (set_self _ _ hla), fun _ _ => set_self _ _ (by simp; omega)⟩
              · have := h5 j x (by omega) hxj (set_old _ _ _ (by omega) (set_old _ _ _ (by omega) hmj))
                exact ⟨fun h => set_keep _ _ _ (set_keep _ _ _ (this.1 h)), fun h h' => set_keep _ _ _ (set_keep _ _ _ (this.2 h h'))⟩
          · rw [if_neg (by rw [ge_iff_le, partsN_one ok.op]; exact g5)]
            simp only [bif_beq]
            rw [if_neg (by rw [partsN_two ok.op]; omega)]
            refine ⟨((i : Int) - 1, boolsV m), by rw [hw], ⟨i, m, by omega, h2, h3, h4, fun j x hj hxj hmj => ?_, rfl⟩, by simp⟩
            by_cases hji : j = i
            · subst hji
              rw [hx] at hxj
              cases hxj
              exact ⟨fun h => absurd h g5, fun h => absurd h g5⟩
            · exact h5 j x (by omega) hxj hmj)
  have hm0 : ∀ j, ((List.replicate l.length false).set root true)[j]? = some true → j = root := by
    intro j hj
    by_cases h : j = root
    · exact h
    · rw [List.getElem?_set_ne (by omega), List.getElem?_replicate] at hj
      split at hj <;> cases hj
  obtain ⟨r, hrr, j, b, m, m1, m2, m3, m4, rfl⟩ := key ((root : Int), boolsV ((List.replicate l.length false).set root true)) ⟨root + 1, (List.replicate l.length false).set root true, Nat.le_refl _, by simp, fun j hj => by rw [hm0 j hj]; exact .root,
    List.getElem?_set_self (by simpa using hr), fun j x hj hx hmj => by have := hm0 j hmj; omega, by simp⟩
  refine ⟨m, m1, fun i => ⟨m2 i, fun h => ?_⟩, f_starfree_reached_of ?_⟩
  · induction h with
    | root => exact m3
    | a _ hx h5 ih => exact (m4 _ _ (Nat.zero_le _) hx ih).1 h5
    | b _ hx h5 h8 ih => exact (m4 _ _ (Nat.zero_le _) hx ih).2 h5 h8
  · unfold f_starfree_reached s_starfree_reached_5L
    simp only [bif_and, bif_decide, bif_ble, Int.toNat_natCast, List.length_map, List.length_replicate]
    rw [if_pos (by omega), if_pos (by omega), if_pos (by unfold maxBytes; omega), if_pos (by omega), if_pos (by omega)]
    have e1 : (List.replicate l.length (V.bool false))[root]? = some (.bool false) := by rw [List.getElem?_replicate, if_pos hr]
    have e2 : (List.replicate l.length (V.bool false)).set root (.bool true) = boolsV ((List.replicate l.length false).set root true) := by simp [List.map_set]
    rw [e1, e2, Option.bind_some, hrr]
    rfl
end Go.AM

set_option maxRecDepth 100000
namespace Go.AM
open Go.Proofs
/-! semigroup/starfree.Accepts -/
noncomputable def s_starfree_Accepts_1 (C : CallF) (g_Nodes : List V) (g_Root : Int) (w : List UInt8) {β : Type} (k0 : Bool → Option β) : Option β :=
  (C F_starfree_Validate [.agg [.list T_api_SfNode g_Nodes, .int .i64 g_Root], .int .i64 6] []).bind fun r1 =>
    bif (r1.1.toInt : Int) != 0 then
      k0 true
    else
      (C F_word_Valid [.str w, .int .i64 6] []).bind fun r2 =>
        bif !r2.1.toBool then
          k0 true
        else
          k0 (decide (((w.length : Int) : Int) > 64))

theorem s_starfree_Accepts_1_eq (C : CallF) (g_Nodes : List V) (g_Root : Int) (w : List UInt8) {β : Type} (K : Out → St → Option β) :
    execL Try.prog ann C 16 56 0 (codesAt Try.prog 16 [[0], [1, 0, 0]]) (mk [(0, .agg [.list T_api_SfNode g_Nodes, .int .i64 g_Root]), (1, .str w)] []) K =
      s_starfree_Accepts_1 C g_Nodes g_Root w
        (fun (t200 : Bool) => K .norm (mk [(1, .str w), (2, .ptr 0 0 0), (20, .bool t200)] [.var [.list T_api_SfNode g_Nodes, .int .i64 g_Root]])) := by kernel_rfl

theorem s_starfree_Accepts_2d_eq (C : CallF) (w : List UInt8) (t20 : Bool) (gs_0 : List V) (gs_1 : Int) {β : Type} (K : Out → St → Option β) :
    execL Try.prog ann C 16 56 0 (codesAt Try.prog 16 [[1, 0, 1], [1, 1, 0], [1, 1, 1, 0, 0]]) (mk [(1, .str w), (2, .ptr 0 0 0), (20, .bool t20)] [.var [.list T_api_SfNode gs_0, .int .i64 gs_1]]) K =
      bif t20 then
        K .ret (mk [(4, .bool false)] [])
      else
        bif (decide (0 ≤ (gs_0.length : Int))) && ((decide ((gs_0.length : Int) ≤ (gs_0.length : Int))) && (Nat.ble ((((gs_0.length : Int) : Int).toNat) * 24) maxBytes)) then
          (C F_starfree_reached [.agg [.list T_api_SfNode gs_0, .int .i64 gs_1]] []).bind fun r3 =>
            K .norm (mk [(1, .str w), (2, .ptr 0 0 0), (5, .whole T_starfree_table 1), (26, .whole T_bool 2), (27, .int .i64 (r3.1.toList.length : Int)), (28, .int .i64 0)] [.var [.list T_api_SfNode gs_0, .int .i64 gs_1], .arr T_starfree_table (List.replicate (((gs_0.length : Int) : Int).toNat) (V.list T_starfree_cuts ([] : List V))) false, .arr T_bool r3.1.toList false])
        else none := by kernel_rfl

noncomputable def s_starfree_Accepts_3 (C : CallF) (w : List UInt8) (t27 : Int) (t28 : Int) (gs_0 : List V) (tabless : List V) (t26s : List V) {β : Type} (k0 : (List V) → Option β) (k1 : Option β) : Option β :=
  bif decide ((t28 : Int) < t27) then
    bif (decide (0 ≤ t28)) && (decide (t28 < (t26s.length : Int))) then
      (t26s[(t28 : Int).toNat]?).bind fun x8 =>
        bif x8.toBool then
          (idx gs_0 t28).bind fun x9 =>
            (C F_starfree_evaluate [.agg [.int .i64 ((x9.cell 0).toInt), .int .i64 ((x9.cell 1).toInt), .int .i64 ((x9.cell 2).toInt), .int .i64 ((x9.cell 3).toInt)], .list T_starfree_table tabless, .str w] []).bind fun r10 =>
              bif (decide (0 ≤ t28)) && (decide (t28 < (tabless.length : Int))) then
                (tabless[(t28 : Int).toNat]?).bind fun x11 =>
                  k0 (tabless.set ((t28 : Int).toNat) (.list T_starfree_cuts r10.1.toList))
              else none
        else
          k0 tabless
    else none
  else
    k1

theorem s_starfree_Accepts_3_eq (C : CallF) (w : List UInt8) (t27 : Int) (t28 : Int) (gs_0 : List V) (gs_1 : Int) (tabless : List V) (t26s : List V) {β : Type} (K : Out → St → Option β) :
    execL Try.prog ann C 16 56 0 (codesAt Try.prog 16 [[1, 1, 1, 0, 1, 0, 0, 0], [1, 1, 1, 0, 1, 0, 0, 1, 0], [1, 1, 1, 0, 1, 0, 0, 1, 1, 0], [1, 1, 1, 0, 1, 0, 0, 1, 1, 1]]) (mk [(1, .str w), (2, .ptr 0 0 0), (5, .whole T_starfree_table 1), (26, .whole T_bool 2), (27, .int .i64 t27), (28, .int .i64 t28)] [.var [.list T_api_SfNode gs_0, .int .i64 gs_1], .arr T_starfree_table tabless false, .arr T_bool t26s false]) K =
      s_starfree_Accepts_3 C w t27 t28 gs_0 tabless t26s
        (fun (tabless0 : List V) => K .norm (mk [(1, .str w), (2, .ptr 0 0 0), (5, .whole T_starfree_table 1), (26, .whole T_bool 2), (27, .int .i64 t27), (28, .int .i64 (IntKind.wrap .i64 (t28 + 1)))] [.var [.list T_api_SfNode gs_0, .int .i64 gs_1], .arr T_starfree_table tabless0 false, .arr T_bool t26s false]))
        (K (.exit 0) (mk [(1, .str w), (2, .ptr 0 0 0), (5, .whole T_starfree_table 1), (26, .whole T_bool 2), (27, .int .i64 t27), (28, .int .i64 t28), (29, .bool (decide ((t28 : Int) < t27)))] [.var [.list T_api_SfNode gs_0, .int .i64 gs_1], .arr T_starfree_table tabless false, .arr T_bool t26s false])) := by kernel_rfl

noncomputable def s_starfree_Accepts_4L_step (C : CallF) (w : List UInt8) (t27 : Int) (gs_0 : List V) (t26s : List V) : (Int × (List V)) → Option ((Int × (List V)) ⊕ ((Int × Bool × (List V)))) := fun (t28, tabless) =>
  s_starfree_Accepts_3 C w t27 t28 gs_0 tabless t26s
    (fun (tabless_12 : List V) =>
      some (.inl (IntKind.wrap .i64 (t28 + 1), tabless_12)))
    (
      some (.inr (t28, decide ((t28 : Int) < t27), tabless)))

noncomputable def s_starfree_Accepts_4L (C : CallF) (w : List UInt8) (t27 : Int) (t28 : Int) (gs_0 : List V) (tabless : List V) (t26s : List V) {β : Type} (k0 : Int → Bool → (List V) → Option β) : Option β :=
  (Loop (s_starfree_Accepts_4L_step C w t27 gs_0 t26s) (t28, tabless)).bind fun (t280, t290, tabless0) => k0 t280 t290 tabless0

def s_starfree_Accepts_4L_dec : Out → St → Option ((Int × (List V)) ⊕ ((Int × Bool × (List V)))) := fun o st => match o with
    | .norm => some (.inl (V.toInt (st.sl 28), arrOf (st.hp 1)))
    | .exit q => bif Nat.beq q 0 then some (.inr (V.toInt (st.sl 28), V.toBool (st.sl 29), arrOf (st.hp 1))) else none
    | .ret => none

def s_starfree_Accepts_4L_hd (w : List UInt8) (t27 : Int) (gs_0 : List V) (gs_1 : Int) (t26s : List V) : (Int × (List V)) → St := fun (t28, tabless) => mk [(1, .str w), (2, .ptr 0 0 0), (5, .whole T_starfree_table 1), (26, .whole T_bool 2), (27, .int .i64 t27), (28, .int .i64 t28)] [.var [.list T_api_SfNode gs_0, .int .i64 gs_1], .arr T_starfree_table tabless false, .arr T_bool t26s false]

def s_starfree_Accepts_4L_enc (w : List UInt8) (t27 : Int) (gs_0 : List V) (gs_1 : Int) (t26s : List V) : ((Int × Bool × (List V))) → Out × St := fun (t280, t290, tabless0) => (.exit 0, mk [(1, .str w), (2, .ptr 0 0 0), (5, .whole T_starfree_table 1), (26, .whole T_bool 2), (27, .int .i64 t27), (28, .int .i64 t280), (29, .bool t290)] [.var [.list T_api_SfNode gs_0, .int .i64 gs_1], .arr T_starfree_table tabless0 false, .arr T_bool t26s false])

theorem s_starfree_Accepts_4L_eq (C : CallF) (w : List UInt8) (t27 : Int) (t28 : Int) (gs_0 : List V) (gs_1 : Int) (tabless : List V) (t26s : List V) {β : Type} (K : Out → St → Option β) :
    execL Try.prog ann C 16 56 0 (codesAt Try.prog 16 [[1, 1, 1, 0, 1, 0]]) (mk [(1, .str w), (2, .ptr 0 0 0), (5, .whole T_starfree_table 1), (26, .whole T_bool 2), (27, .int .i64 t27), (28, .int .i64 t28)] [.var [.list T_api_SfNode gs_0, .int .i64 gs_1], .arr T_starfree_table tabless false, .arr T_bool t26s false]) K =
      s_starfree_Accepts_4L C w t27 t28 gs_0 tabless t26s
        (fun (t280 : Int) (t290 : Bool) (tabless0 : List V) => K (.exit 0) (mk [(1, .str w), (2, .ptr 0 0 0), (5, .whole T_starfree_table 1), (26, .whole T_bool 2), (27, .int .i64 t27), (28, .int .i64 t280), (29, .bool t290)] [.var [.list T_api_SfNode gs_0, .int .i64 gs_1], .arr T_starfree_table tabless0 false, .arr T_bool t26s false])) := by
  have hitems : flatC (codeAt [1, 1, 1, 0, 1, 0, 0] (bodyOf Try.prog 16)) = codesAt Try.prog 16 [[1, 1, 1, 0, 1, 0, 0, 0], [1, 1, 1, 0, 1, 0, 0, 1, 0], [1, 1, 1, 0, 1, 0, 0, 1, 1, 0], [1, 1, 1, 0, 1, 0, 0, 1, 1, 1]] := by kernel_rfl
  have hloop : [codeAt [1, 1, 1, 0, 1, 0] (bodyOf Try.prog 16)] = [Code.loop (codeAt [1, 1, 1, 0, 1, 0, 0] (bodyOf Try.prog 16))] := by kernel_rfl
  have h := loopK_eq (P := Try.prog) (A := ann) (C := C) (f := 16) (n := 56) (m := 0) (c := codeAt [1, 1, 1, 0, 1, 0, 0] (bodyOf Try.prog 16)) (s_starfree_Accepts_4L_hd w t27 gs_0 gs_1 t26s) (s_starfree_Accepts_4L_enc w t27 gs_0 gs_1 t26s) s_starfree_Accepts_4L_dec (s_starfree_Accepts_4L_step C w t27 gs_0 t26s)
    (by rintro ⟨t28, tabless⟩; exact Eq.trans (execK_items hitems) (Eq.trans (s_starfree_Accepts_3_eq C w t27 t28 gs_0 gs_1 tabless t26s s_starfree_Accepts_4L_dec) (by kernel_rfl)))
    (by rintro ⟨t28, tabless⟩; exact Eq.trans (execK_items hitems) (Eq.trans (s_starfree_Accepts_3_eq C w t27 t28 gs_0 gs_1 tabless t26s (fun o st => some (o, st))) (Eq.trans (by kernel_rfl) (Eq.trans (s_starfree_Accepts_3_eq C w t27 t28 gs_0 gs_1 tabless t26s (fun o st => (s_starfree_Accepts_4L_dec o st).map (outS (s_starfree_Accepts_4L_hd w t27 gs_0 gs_1 t26s) (s_starfree_Accepts_4L_enc w t27 gs_0 gs_1 t26s)))).symm (execK_items hitems).symm))))
    (by intro r; intro h; cases h) (t28, tabless) K
  refine Eq.trans (congrArg (fun l => execL Try.prog ann C 16 56 0 l (mk [(1, .str w), (2, .ptr 0 0 0), (5, .whole T_starfree_table 1), (26, .whole T_bool 2), (27, .int .i64 t27), (28, .int .i64 t28)] [.var [.list T_api_SfNode gs_0, .int .i64 gs_1], .arr T_starfree_table tabless false, .arr T_bool t26s false]) K) hloop) (Eq.trans h ?_)
  · refine congrArg _ (funext fun r => ?_)
    rfl

theorem s_starfree_Accepts_5b_eq (C : CallF) (w : List UInt8) (t27 : Int) (t28 : Int) (gs_0 : List V) (gs_1 : Int) (tabless : List V) (t26s : List V) {β : Type} (K : Out → St → Option β) :
    execL Try.prog ann C 16 56 0 (codesAt Try.prog 16 [[1, 1, 1, 0, 1]]) (mk [(1, .str w), (2, .ptr 0 0 0), (5, .whole T_starfree_table 1), (26, .whole T_bool 2), (27, .int .i64 t27), (28, .int .i64 t28)] [.var [.list T_api_SfNode gs_0, .int .i64 gs_1], .arr T_starfree_table tabless false, .arr T_bool t26s false]) K =
      s_starfree_Accepts_4L C w t27 t28 gs_0 tabless t26s
        (fun (t_13 : Int) (t_14 : Bool) (tabless_15 : List V) =>
          K .norm (mk [(1, .str w), (2, .ptr 0 0 0), (5, .whole T_starfree_table 1)] [.var [.list T_api_SfNode gs_0, .int .i64 gs_1], .arr T_starfree_table tabless_15 false])) := Eq.trans (execL_block (P := Try.prog) (A := ann) (C := C) (f := 16) (n := 56) (m := 0) (id := 0) (c := codeAt [1, 1, 1, 0, 1] (bodyOf Try.prog 16)) (d := codeAt [1, 1, 1, 0, 1, 0] (bodyOf Try.prog 16)) (l := codesAt Try.prog 16 [[1, 1, 1, 0, 1, 0]]) (st := mk [(1, .str w), (2, .ptr 0 0 0), (5, .whole T_starfree_table 1), (26, .whole T_bool 2), (27, .int .i64 t27), (28, .int .i64 t28)] [.var [.list T_api_SfNode gs_0, .int .i64 gs_1], .arr T_starfree_table tabless false, .arr T_bool t26s false]) (K := K) (by kernel_rfl) (by kernel_rfl)) (Eq.trans (s_starfree_Accepts_4L_eq C w t27 t28 gs_0 gs_1 tabless t26s (blockK ann 16 0 0 K)) (by kernel_rfl))

theorem s_starfree_Accepts_6d_eq (C : CallF) (w : List UInt8) (gs_0 : List V) (gs_1 : Int) (tabless : List V) {β : Type} (K : Out → St → Option β) :
    execL Try.prog ann C 16 56 0 (codesAt Try.prog 16 [[1, 1, 1, 1, 0], [1, 1, 1, 1, 1]]) (mk [(1, .str w), (2, .ptr 0 0 0), (5, .whole T_starfree_table 1)] [.var [.list T_api_SfNode gs_0, .int .i64 gs_1], .arr T_starfree_table tabless false]) K =
      bif (decide (0 ≤ gs_1)) && (decide (gs_1 < (tabless.length : Int))) then
        (tabless[(gs_1 : Int).toNat]?).bind fun x19 =>
          (x19.toList[0]?).bind fun x20 =>
            (C F_starfree_cuts_has [.agg [.int .u64 ((x20.cell 0).toInt), .int .u64 ((x20.cell 1).toInt)], .int .i64 (w.length : Int)] []).bind fun r21 =>
              K .ret (mk [(4, .bool r21.1.toBool)] [])
      else none := by kernel_rfl

theorem s_starfree_Accepts_7c_eq (C : CallF) (w : List UInt8) (t27 : Int) (t28 : Int) (gs_0 : List V) (gs_1 : Int) (tabless : List V) (t26s : List V) {β : Type} (K : Out → St → Option β) :
    execL Try.prog ann C 16 56 0 (codesAt Try.prog 16 [[1, 1, 1, 0, 1], [1, 1, 1, 1, 0], [1, 1, 1, 1, 1]]) (mk [(1, .str w), (2, .ptr 0 0 0), (5, .whole T_starfree_table 1), (26, .whole T_bool 2), (27, .int .i64 t27), (28, .int .i64 t28)] [.var [.list T_api_SfNode gs_0, .int .i64 gs_1], .arr T_starfree_table tabless false, .arr T_bool t26s false]) K =
      s_starfree_Accepts_4L C w t27 t28 gs_0 tabless t26s
        (fun (t_13 : Int) (t_14 : Bool) (tabless_15 : List V) =>
          bif (decide (0 ≤ gs_1)) && (decide (gs_1 < (tabless_15.length : Int))) then
            (tabless_15[(gs_1 : Int).toNat]?).bind fun x19 =>
              (x19.toList[0]?).bind fun x20 =>
                (C F_starfree_cuts_has [.agg [.int .u64 ((x20.cell 0).toInt), .int .u64 ((x20.cell 1).toInt)], .int .i64 (w.length : Int)] []).bind fun r21 =>
                  K .ret (mk [(4, .bool r21.1.toBool)] [])
          else none) := by
  refine Eq.trans (execL_app (P := Try.prog) (A := ann) (C := C) (f := 16) (n := 56) (m := 0) (codesAt Try.prog 16 [[1, 1, 1, 0, 1]]) (codesAt Try.prog 16 [[1, 1, 1, 1, 0], [1, 1, 1, 1, 1]]) (st := mk [(1, .str w), (2, .ptr 0 0 0), (5, .whole T_starfree_table 1), (26, .whole T_bool 2), (27, .int .i64 t27), (28, .int .i64 t28)] [.var [.list T_api_SfNode gs_0, .int .i64 gs_1], .arr T_starfree_table tabless false, .arr T_bool t26s false]) (K := K)) (Eq.trans (s_starfree_Accepts_5b_eq C w t27 t28 gs_0 gs_1 tabless t26s (seqK Try.prog ann C 16 56 0 (codesAt Try.prog 16 [[1, 1, 1, 1, 0], [1, 1, 1, 1, 1]]) K)) ?_)
  · exact Eq.trans (by kernel_rfl) (Eq.trans (congrArg (fun HOLE : (List V) → Option β => (s_starfree_Accepts_4L C w t27 t28 gs_0 tabless t26s
        (fun (t_13 : Int) (t_14 : Bool) (tabless_15 : List V) =>
          HOLE tabless_15))) (funext fun (tabless0 : List V) => s_starfree_Accepts_6d_eq C w gs_0 gs_1 tabless0 K)) ((by kernel_rfl)))


theorem s_starfree_Accepts_8c_eq (C : CallF) (w : List UInt8) (t20 : Bool) (gs_0 : List V) (gs_1 : Int) {β : Type} (K : Out → St → Option β) :
    execL Try.prog ann C 16 56 0 (codesAt Try.prog 16 [[1, 0, 1], [1, 1, 0], [1, 1, 1, 0, 0], [1, 1, 1, 0, 1], [1, 1, 1, 1, 0], [1, 1, 1, 1, 1]]) (mk [(1, .str w), (2, .ptr 0 0 0), (20, .bool t20)] [.var [.list T_api_SfNode gs_0, .int .i64 gs_1]]) K =
      bif t20 then
        K .ret (mk [(4, .bool false)] [])
      else
        bif (decide (0 ≤ (gs_0.length : Int))) && ((decide ((gs_0.length : Int) ≤ (gs_0.length : Int))) && (Nat.ble ((((gs_0.length : Int) : Int).toNat) * 24) maxBytes)) then
          (C F_starfree_reached [.agg [.list T_api_SfNode gs_0, .int .i64 gs_1]] []).bind fun r3 =>
            s_starfree_Accepts_4L C w (r3.1.toList.length : Int) 0 gs_0 (List.replicate (((gs_0.length : Int) : Int).toNat) (V.list T_starfree_cuts ([] : List V))) r3.1.toList
              (fun (t_13 : Int) (t_14 : Bool) (tabless_15 : List V) =>
                bif (decide (0 ≤ gs_1)) && (decide (gs_1 < (tabless_15.length : Int))) then
                  (tabless_15[(gs_1 : Int).toNat]?).bind fun x19 =>
                    (x19.toList[0]?).bind fun x20 =>
                      (C F_starfree_cuts_has [.agg [.int .u64 ((x20.cell 0).toInt), .int .u64 ((x20.cell 1).toInt)], .int .i64 (w.length : Int)] []).bind fun r21 =>
                        K .ret (mk [(4, .bool r21.1.toBool)] [])
                else none)
        else none := by
  refine Eq.trans (execL_app (P := Try.prog) (A := ann) (C := C) (f := 16) (n := 56) (m := 0) (codesAt Try.prog 16 [[1, 0, 1], [1, 1, 0], [1, 1, 1, 0, 0]]) (codesAt Try.prog 16 [[1, 1, 1, 0, 1], [1, 1, 1, 1, 0], [1, 1, 1, 1, 1]]) (st := mk [(1, .str w), (2, .ptr 0 0 0), (20, .bool t20)] [.var [.list T_api_SfNode gs_0, .int .i64 gs_1]]) (K := K)) (Eq.trans (s_starfree_Accepts_2d_eq C w t20 gs_0 gs_1 (seqK Try.prog ann C 16 56 0 (codesAt Try.prog 16 [[1, 1, 1, 0, 1], [1, 1, 1, 1, 0], [1, 1, 1, 1, 1]]) K)) ?_)
  · exact Eq.trans (by kernel_rfl) (Eq.trans (congrArg (fun HOLE : Int → (List V) → (List V) → Option β => (bif t20 then
        (fun (t40 : Bool) => K .ret (mk [(4, .bool t40)] [])) false
      else
        bif (decide (0 ≤ (gs_0.length : Int))) && ((decide ((gs_0.length : Int) ≤ (gs_0.length : Int))) && (Nat.ble ((((gs_0.length : Int) : Int).toNat) * 24) maxBytes)) then
          (C F_starfree_reached [.agg [.list T_api_SfNode gs_0, .int .i64 gs_1]] []).bind fun r3 =>
            HOLE (r3.1.toList.length : Int) (List.replicate (((gs_0.length : Int) : Int).toNat) (V.list T_starfree_cuts ([] : List V))) r3.1.toList
        else none)) (funext fun (t271 : Int) => funext fun (tabless1 : List V) => funext fun (t26s1 : List V) => s_starfree_Accepts_7c_eq C w t271 0 gs_0 gs_1 tabless1 t26s1 K)) ((by kernel_rfl)))


theorem s_starfree_Accepts_9c_eq (C : CallF) (g_Nodes : List V) (g_Root : Int) (w : List UInt8) {β : Type} (K : Out → St → Option β) :
    execL Try.prog ann C 16 56 0 (codesAt Try.prog 16 [[0], [1, 0, 0], [1, 0, 1], [1, 1, 0], [1, 1, 1, 0, 0], [1, 1, 1, 0, 1], [1, 1, 1, 1, 0], [1, 1, 1, 1, 1]]) (mk [(0, .agg [.list T_api_SfNode g_Nodes, .int .i64 g_Root]), (1, .str w)] []) K =
      s_starfree_Accepts_1 C g_Nodes g_Root w
        (fun (t_22 : Bool) =>
          bif t_22 then
            K .ret (mk [(4, .bool false)] [])
          else
            bif (decide (0 ≤ (g_Nodes.length : Int))) && ((decide ((g_Nodes.length : Int) ≤ (g_Nodes.length : Int))) && (Nat.ble ((((g_Nodes.length : Int) : Int).toNat) * 24) maxBytes)) then
              (C F_starfree_reached [.agg [.list T_api_SfNode g_Nodes, .int .i64 g_Root]] []).bind fun r3 =>
                s_starfree_Accepts_4L C w (r3.1.toList.length : Int) 0 g_Nodes (List.replicate (((g_Nodes.length : Int) : Int).toNat) (V.list T_starfree_cuts ([] : List V))) r3.1.toList
                  (fun (t_13 : Int) (t_14 : Bool) (tabless_15 : List V) =>
                    bif (decide (0 ≤ g_Root)) && (decide (g_Root < (tabless_15.length : Int))) then
                      (tabless_15[(g_Root : Int).toNat]?).bind fun x19 =>
                        (x19.toList[0]?).bind fun x20 =>
                          (C F_starfree_cuts_has [.agg [.int .u64 ((x20.cell 0).toInt), .int .u64 ((x20.cell 1).toInt)], .int .i64 (w.length : Int)] []).bind fun r21 =>
                            K .ret (mk [(4, .bool r21.1.toBool)] [])
                    else none)
            else none) := by
  refine Eq.trans (execL_app (P := Try.prog) (A := ann) (C := C) (f := 16) (n := 56) (m := 0) (codesAt Try.prog 16 [[0], [1, 0, 0]]) (codesAt Try.prog 16 [[1, 0, 1], [1, 1, 0], [1, 1, 1, 0, 0], [1, 1, 1, 0, 1], [1, 1, 1, 1, 0], [1, 1, 1, 1, 1]]) (st := mk [(0, .agg [.list T_api_SfNode g_Nodes, .int .i64 g_Root]), (1, .str w)] []) (K := K)) (Eq.trans (s_starfree_Accepts_1_eq C g_Nodes g_Root w (seqK Try.prog ann C 16 56 0 (codesAt Try.prog 16 [[1, 0, 1], [1, 1, 0], [1, 1, 1, 0, 0], [1, 1, 1, 0, 1], [1, 1, 1, 1, 0], [1, 1, 1, 1, 1]]) K)) ?_)
  · exact Eq.trans (by kernel_rfl) (Eq.trans (congrArg (fun HOLE : Bool → Option β => s_starfree_Accepts_1 C g_Nodes g_Root w HOLE) (funext fun (t200 : Bool) => s_starfree_Accepts_8c_eq C w t200 g_Nodes g_Root K)) ((by kernel_rfl)))


theorem f_starfree_Accepts_all (C : CallF) (g_Nodes : List V) (g_Root : Int) (w : List UInt8) {β : Type} (K : Out → St → Option β) : execK Try.prog ann C 16 (ntmpsOf Try.prog 16) ([] : List V).length (bodyOf Try.prog 16) (enter [.agg [.list T_api_SfNode g_Nodes, .int .i64 g_Root], .str w] []) K =
      s_starfree_Accepts_1 C g_Nodes g_Root w
        (fun (t_22 : Bool) =>
          bif t_22 then
            K .ret (mk [(4, .bool false)] [])
          else
            bif (decide (0 ≤ (g_Nodes.length : Int))) && ((decide ((g_Nodes.length : Int) ≤ (g_Nodes.length : Int))) && (Nat.ble ((((g_Nodes.length : Int) : Int).toNat) * 24) maxBytes)) then
              (C F_starfree_reached [.agg [.list T_api_SfNode g_Nodes, .int .i64 g_Root]] []).bind fun r3 =>
                s_starfree_Accepts_4L C w (r3.1.toList.length : Int) 0 g_Nodes (List.replicate (((g_Nodes.length : Int) : Int).toNat) (V.list T_starfree_cuts ([] : List V))) r3.1.toList
                  (fun (t_13 : Int) (t_14 : Bool) (tabless_15 : List V) =>
                    bif (decide (0 ≤ g_Root)) && (decide (g_Root < (tabless_15.length : Int))) then
                      (tabless_15[(g_Root : Int).toNat]?).bind fun x19 =>
                        (x19.toList[0]?).bind fun x20 =>
                          (C F_starfree_cuts_has [.agg [.int .u64 ((x20.cell 0).toInt), .int .u64 ((x20.cell 1).toInt)], .int .i64 (w.length : Int)] []).bind fun r21 =>
                            K .ret (mk [(4, .bool r21.1.toBool)] [])
                    else none)
            else none) :=
  Eq.trans (execK_items (by kernel_rfl)) (s_starfree_Accepts_9c_eq C g_Nodes g_Root w K)

noncomputable def f_starfree_Accepts (C : CallF) (g_Nodes : List V) (g_Root : Int) (w : List UInt8) : Option (V × List V) :=
  s_starfree_Accepts_1 C g_Nodes g_Root w
    (fun (t_22 : Bool) =>
      bif t_22 then
        some (.bool false, [])
      else
        bif (decide (0 ≤ (g_Nodes.length : Int))) && ((decide ((g_Nodes.length : Int) ≤ (g_Nodes.length : Int))) && (Nat.ble ((((g_Nodes.length : Int) : Int).toNat) * 24) maxBytes)) then
          (C F_starfree_reached [.agg [.list T_api_SfNode g_Nodes, .int .i64 g_Root]] []).bind fun r3 =>
            s_starfree_Accepts_4L C w (r3.1.toList.length : Int) 0 g_Nodes (List.replicate (((g_Nodes.length : Int) : Int).toNat) (V.list T_starfree_cuts ([] : List V))) r3.1.toList
              (fun (t_13 : Int) (t_14 : Bool) (tabless_15 : List V) =>
                bif (decide (0 ≤ g_Root)) && (decide (g_Root < (tabless_15.length : Int))) then
                  (tabless_15[(g_Root : Int).toNat]?).bind fun x19 =>
                    (x19.toList[0]?).bind fun x20 =>
                      (C F_starfree_cuts_has [.agg [.int .u64 ((x20.cell 0).toInt), .int .u64 ((x20.cell 1).toInt)], .int .i64 (w.length : Int)] []).bind fun r21 =>
                        some (.bool r21.1.toBool, [])
                else none)
        else none)

theorem f_starfree_Accepts_eq (C : CallF) (g_Nodes : List V) (g_Root : Int) (w : List UInt8) : bodyK Try.prog ann C 16 [.agg [.list T_api_SfNode g_Nodes, .int .i64 g_Root], .str w] [] = f_starfree_Accepts C g_Nodes g_Root w :=
  Eq.trans (bodyK_fin (by kernel_rfl)) (Eq.trans (f_starfree_Accepts_all C g_Nodes g_Root w (finK Try.prog ann C 16 [])) (by kernel_rfl))

theorem f_starfree_Accepts_of {g_Nodes : List V} {g_Root : Int} {w : List UInt8} {r : V × List V} (h : f_starfree_Accepts CC g_Nodes g_Root w = some r) : CC F_starfree_Accepts [.agg [.list T_api_SfNode g_Nodes, .int .i64 g_Root], .str w] [] = some r :=
  Call_of_body ((bodyK_eq ..).trans ((f_starfree_Accepts_eq ..).trans h))

end Go.AM

/-
  Accepts: whether a word belongs to the language of the root.
-/
namespace Go.AM
open Go.Proofs

def acceptsB (l : List Node) (root : Int) (w : List UInt8) : Bool :=
  decide (validateN l root 6 = 0) && (wordValidB w 6 && (decide (w.length ≤ 64) && lang l root.toNat w))

theorem validateN_zero {l : List Node} {root letters : Int} : validateN l root letters = 0 ↔ (1 ≤ letters ∧ letters ≤ 6) ∧ l.length ≤ 20000 ∧ Valid letters l ∧ 0 ≤ root ∧ root < l.length := by
  unfold validateN Valid
  split
  · constructor
    · intro h; omega
    · intro h; omega
  · split
    · constructor
      · intro h; omega
      · intro h; omega
    · split
      · rename_i h
        simp only [Bool.and_eq_true, decide_eq_true_eq] at h
        constructor
        · intro _; exact ⟨by omega, by omega, h.1, h.2⟩
        · intro _; rfl
      · rename_i h
        simp only [Bool.and_eq_true, decide_eq_true_eq] at h
        constructor
        · intro h'; omega
        · rintro ⟨_, _, h1, h2⟩; exact absurd ⟨h1, h2⟩ h

theorem sub_all (w : List UInt8) : sub w 0 w.length = w := by simp [sub]

theorem accepts_spec (l : List Node) (root : Int) (w : List UInt8) (hlen : l.length < 9223372036854775807) :
    CC F_starfree_Accepts [graphV l root, .str w] [] = some (.bool (acceptsB l root w), []) := by
  refine f_starfree_Accepts_of ?_
  unfold f_starfree_Accepts s_starfree_Accepts_1 s_starfree_Accepts_4L acceptsB
  simp only [validate_spec l root 6 hlen, wordValid_spec, Option.bind_some, V.toInt_int, V.toBool_bool, bif_bne, bif_not, bif_decide, bif_and, bif_ble]
  by_cases hv : ¬ validateN l root 6 = 0
  · rw [if_neg hv]; simp [hv]
  replace hv : validateN l root 6 = 0 := by omega
  rw [if_pos hv]
  simp only [hv, decide_true, Bool.true_and]
  cases hw : wordValidB w 6 with
  | false => simp
  | true =>
    simp only [cond_true, Bool.true_and]
    by_cases hn : (w.length : Int) > 64
    · have : ¬ w.length ≤ 64 := by omega
      rw [if_pos hn]; simp [this]
    have hn' : w.length ≤ 64 := by omega
    rw [if_neg hn]
    simp only [hn', decide_true, Bool.true_and]
    obtain ⟨_, hl20, hval, hr0, hr1⟩ := validateN_zero.1 hv
    obtain ⟨r, rfl⟩ : ∃ r : Nat, root = r := ⟨root.toNat, by omega⟩
    have hr : r < l.length := by omega
    have hwb : wordB 6 w = true := by
      unfold wordValidB at hw
      simp only [Bool.and_eq_true] at hw
      exact hw.2
    obtain ⟨m, hm1, hm2, hm3⟩ := reached_spec hval hr hl20
    simp only [List.length_map, Int.toNat_natCast, hm3, Option.bind_some, V.toList_own, hm1]
    rw [if_pos (by omega), if_pos (by omega), if_pos (by unfold maxBytes; omega)]
    have key := Loop_inv (step := s_starfree_Accepts_4L_step CC w (l.length : Int) (nodesV l) (boolsV m))
      (fun s => ∃ (i : Nat) (T : List V), i ≤ l.length ∧ T.length = l.length ∧ (∀ j, j < i → m[j]? = some true → ∃ t, T[j]? = some (.list T_starfree_cuts t) ∧ IsTable l j w t) ∧ s = ((i : Int), T))
      (fun s => ((l.length : Int) - s.1).toNat)
      (fun s => ∃ (j : Int) (b : Bool) (T : List V), T.length = l.length ∧ (∀ j, m[j]? = some true → ∃ t, T[j]? = some (.list T_starfree_cuts t) ∧ IsTable l j w t) ∧ s = (j, b, T)) (by
        rintro s ⟨i, T, h1, h2, h3, rfl⟩
        unfold s_starfree_Accepts_4L_step s_starfree_Accepts_3
        simp only [bif_and, bif_decide, List.length_map]
        by_cases hi : i < l.length
        · left
          have him : i < m.length := by omega
          rw [if_pos (by omega), if_pos (by omega), if_pos (by omega), Int.toNat_natCast, boolsV_get him]
          simp (disch := omega) only [Option.bind_some, V.toBool_bool, wrap64]
          cases hmi : m[i] with
          | false =>
            refine ⟨(((i + 1 : Nat) : Int), T), by simp only [cond_false]; rfl, ⟨i + 1, T, by omega, h2, fun j hj hmj => ?_, rfl⟩, by simp; omega⟩
            by_cases hji : j = i
            · subst hji; rw [List.getElem?_eq_getElem him, hmi] at hmj; cases hmj
            · exact h3 j (by omega) hmj
          | true =>
            simp only [cond_true]
            have hx : l[i]? = some l[i] := List.getElem?_eq_getElem hi
            have ok := nodeOk_iff.1 (hval.node hx)
            have hri := (hm2 i).1 (by rw [List.getElem?_eq_getElem him, hmi])
            have hT : HasTables l T w l[i] := by
              refine ⟨fun h5 => ?_, fun h5 h8 => ?_⟩
              · have oa := ok.a h5
                obtain ⟨t, ht1, ht2⟩ := h3 l[i].a.toNat (by omega) ((hm2 _).2 (.a hri hx h5))
                exact ⟨t, by rw [idx_some (Int.toNat_of_nonneg oa.1).symm]; exact ht1, ht2⟩
              · have ob := ok.b h5 h8
                obtain ⟨t, ht1, ht2⟩ := h3 l[i].b.toNat (by omega) ((hm2 _).2 (.b hri hx h5 h8))
                exact ⟨t, by rw [idx_some (Int.toNat_of_nonneg ob.1).symm]; exact ht1, ht2⟩
            obtain ⟨t, ht, hc⟩ := evaluate_spec hval hx hT hwb hn'
            rw [idx_map (n := i) rfl hi]
            rw [Node.v] at hc
            simp only [Option.bind_some, Node.v, V.cell_agg, V.nth_zero, V.nth_one, V.nth_two, V.nth_three, V.toInt_int, hc]
            rw [if_pos (by omega), if_pos (by omega), List.getElem?_eq_getElem (show i < T.length by omega)]
            refine ⟨(((i + 1 : Nat) : Int), T.set i (.list T_starfree_cuts t)), by simp, ⟨i + 1, T.set i (.list T_starfree_cuts t), by omega, by simp [h2], fun j hj hmj => ?_, rfl⟩, by simp; omega⟩
            by_cases hji : j = i
            · subst hji; exact ⟨t, List.getElem?_set_self (by omega), ht⟩
            · rw [List.getElem?_set_ne (by omega)]; exact h3 j (by omega) hmj
        · right
          rw [if_neg (by omega)]
          exact ⟨_, rfl, _, _, T, h2, fun j hmj => h3 j (by have := (List.getElem?_eq_some_iff.1 hmj).1; omega) hmj, rfl⟩)
    obtain ⟨s, hs, j, b, T, hT1, hT2, rfl⟩ := key ((0 : Int), List.replicate l.length (.list T_starfree_cuts [])) ⟨0, List.replicate l.length (.list T_starfree_cuts []), by omega, by simp, fun j hj => by omega, rfl⟩
    have hlb : (boolsV m).length = l.length := by simp [hm1]
    rw [hs]
    simp only [Option.bind_some]
    rw [if_pos (by omega), if_pos (by omega)]
    obtain ⟨t, ht1, ht2⟩ := hT2 r ((hm2 r).2 .root)
    have h0 : t[0]? = some (t[0]'(by rw [ht2.1]; omega)) := List.getElem?_eq_getElem _
    have c0 := ht2.2 0 _ h0
    rw [ht1]
    simp only [Option.bind_some, V.toList_list, h0, c0.norm, has_spec c0 (show w.length < 128 by omega), V.toBool_bool, cell]
    have : decide (0 ≤ w.length ∧ w.length ≤ w.length) = true := by simp
    rw [this, Bool.true_and, sub_all]
end Go.AM

/-
  Tape.Graph: a valid graph.
-/
namespace Go.AM
open Go.Proofs

theorem valid_snoc {letters : Int} {l : List Node} {x : Node} (hl : Valid letters l) (hx : NodeOk x l.length letters) : Valid letters (l ++ [x]) := by
  refine validFrom_iff.2 fun j n hj => ?_
  rw [Nat.zero_add]
  by_cases h : j < l.length
  · rw [List.getElem?_append_left h] at hj
    exact hl.node hj
  · have : j = l.length := by
      have := (List.getElem?_eq_some_iff.1 hj).1
      simp at this
      omega
    subst this
    simp at hj
    subst hj
    exact nodeOk_iff.2 hx

theorem graph_spec (tl : List Int) (ta : Nat) (letters most : Int) (ht : TapeOk tl ta) (hl : 1 ≤ letters ∧ letters ≤ 6) (hm : 1 ≤ most ∧ most < 1000) :
    ∃ (l : List Node) (ta' : Nat), TapeOk tl ta' ∧ Valid letters l ∧ 1 ≤ l.length ∧ (l.length : Int) ≤ most ∧
      CC F_semigroupmade_Tape_Graph [.ptr 0 0 0, .int .i64 letters, .int .i64 most] [tapeV tl ta] = some (.agg [.own T_api_SfNode (nodesV l), .int .i64 ((l.length : Int) - 1)], [tapeV tl ta']) := by
  obtain ⟨n, a1, ht1, n0, n1, _, hnext⟩ := next_spec tl ta most ht (by omega)
  have n2 := n1 (by omega)
  have key := Loop_inv (step := s_semigroupmade_Tape_Graph_14L_step CC letters (n + 1))
    (fun s => ∃ (a : Nat) (l : List Node), TapeOk tl a ∧ Valid letters l ∧ (l.length : Int) ≤ n + 1 ∧ s = ((l.length : Int), vIs tl, (a : Int), nodesV l))
    (fun s => (n + 1 - s.1).toNat)
    (fun r => ∃ (b : Bool) (a : Nat) (l : List Node), TapeOk tl a ∧ Valid letters l ∧ (l.length : Int) = n + 1 ∧ r = ((l.length : Int), b, vIs tl, (a : Int), nodesV l)) (by
      rintro s ⟨a, l, hta, hv, hlen, rfl⟩
      unfold s_semigroupmade_Tape_Graph_14L_step
      simp only [bif_decide]
      by_cases hi : (l.length : Int) < n + 1
      · left
        rw [if_pos hi]
        -- the kind
        have s3 : ∃ (op : Int) (a2 : Nat), TapeOk tl a2 ∧ 1 ≤ op ∧ op ≤ 8 ∧ (l.length = 0 → op ≤ 4) ∧ ∀ {β : Type} (k : List V → Int → Int → Option β),
            s_semigroupmade_Tape_Graph_3 CC (l.length : Int) (vIs tl) (a : Int) k = k (vIs tl) (a2 : Int) op := by
          obtain ⟨d, a2, ht2, d0, d1, _, hd⟩ := next_spec tl a 8 hta (by omega)
          have d2 := d1 (by omega)
          unfold tapeV at hd
          by_cases h0 : l.length = 0
          · have m1 := modI_nonneg (1 + d) 4
            have m2 := modI_lt (1 + d) (n := 4) (by omega)
            refine ⟨1 + modI (1 + d) 4, a2, ht2, by omega, by omega, fun _ => by omega, fun k => ?_⟩
            unfold s_semigroupmade_Tape_Graph_3
            have : ((l.length : Int)) = 0 := by omega
            simp (disch := omega) only [hd, Option.bind_some, V.toInt_int, V.nth_zero, V.cell_agg, V.toList_list, V.nth_one, wrap64, bif_beq, mod_spec]
            rw [if_pos this]
          · refine ⟨1 + d, a2, ht2, by omega, by omega, fun h => absurd h h0, fun k => ?_⟩
            unfold s_semigroupmade_Tape_Graph_3
            have : ¬ ((l.length : Int)) = 0 := by omega
            simp (disch := omega) only [hd, Option.bind_some, V.toInt_int, V.nth_zero, V.cell_agg, V.toList_list, V.nth_one, wrap64, bif_beq]
            rw [if_neg this]
        obtain ⟨op, a2, ht2, o1, o2, o3, e3⟩ := s3
        have s4 : ∃ (le : Int) (a3 : Nat), TapeOk tl a3 ∧ (op = 3 → 0 ≤ le ∧ le < letters) ∧ (op ≠ 3 → le = 0) ∧ ∀ {β : Type} (k : List V → Int → Int → Option β),
            s_semigroupmade_Tape_Graph_4 CC letters (vIs tl) (a2 : Int) op 0 k = k (vIs tl) (a3 : Int) le := by
          obtain ⟨d, a3, ht3, d0, d1, _, hd⟩ := next_spec tl a2 letters ht2 (by omega)
          have d2 := d1 (by omega)
          unfold tapeV at hd
          by_cases h : op = 3
          · refine ⟨d, a3, ht3, fun _ => ⟨d0, d2⟩, fun h' => absurd h h', fun k => ?_⟩
            unfold s_semigroupmade_Tape_Graph_4
            simp only [bif_beq, if_pos h, hd, Option.bind_some, V.toInt_int, V.nth_zero, V.cell_agg, V.toList_list, V.nth_one]
          · refine ⟨0, a2, ht2, fun h' => absurd h' h, fun _ => rfl, fun k => ?_⟩
            unfold s_semigroupmade_Tape_Graph_4
            simp only [bif_beq, if_neg h]
        obtain ⟨le, a3, ht3, l1, l2, e4⟩ := s4
        have s5 : ∃ (xa : Int) (a4 : Nat), TapeOk tl a4 ∧ (5 ≤ op → 0 ≤ xa ∧ xa < l.length) ∧ (op < 5 → xa = 0) ∧ ∀ {β : Type} (k : List V → Int → Int → Option β),
            s_semigroupmade_Tape_Graph_5 CC (l.length : Int) (vIs tl) (a3 : Int) op 0 k = k (vIs tl) (a4 : Int) xa := by
          obtain ⟨d, a4, ht4, d0, d1, _, hd⟩ := next_spec tl a3 (l.length : Int) ht3 (by omega)
          unfold tapeV at hd
          by_cases h : op ≥ 5
          · have d2 := d1 (by by_cases h0 : l.length = 0; (have := o3 h0; omega); omega)
            refine ⟨d, a4, ht4, fun _ => ⟨d0, d2⟩, fun h' => by omega, fun k => ?_⟩
            unfold s_semigroupmade_Tape_Graph_5
            simp only [bif_decide, if_pos h, hd, Option.bind_some, V.toInt_int, V.nth_zero, V.cell_agg, V.toList_list, V.nth_one]
          · refine ⟨0, a3, ht3, fun h' => by omega, fun _ => rfl, fun k => ?_⟩
            unfold s_semigroupmade_Tape_Graph_5
            simp only [bif_decide, if_neg h]
        obtain ⟨xa, a4, ht4, x1, x2, e5⟩ := s5
        have s6 : ∃ (xb : Int) (a5 : Nat), TapeOk tl a5 ∧ (5 ≤ op → op ≠ 8 → 0 ≤ xb ∧ xb < l.length) ∧ ((op < 5 ∨ op = 8) → xb = 0) ∧ ∀ {β : Type} (k : List V → Int → List V → Option β),
            s_semigroupmade_Tape_Graph_6 CC (l.length : Int) (vIs tl) (a4 : Int) op le xa 0 (nodesV l) k = k (vIs tl) (a5 : Int) (nodesV (l ++ [⟨op, le, xa, xb⟩])) := by
          obtain ⟨d, a5, ht5, d0, d1, _, hd⟩ := next_spec tl a4 (l.length : Int) ht4 (by omega)
          unfold tapeV at hd
          have hmb : (l.length + 1) * 32 ≤ maxBytes := by unfold maxBytes; omega
          have en : ∀ xb, nodesV (l ++ [⟨op, le, xa, xb⟩]) = nodesV l ++ [.agg [.int .i64 op, .int .i64 le, .int .i64 xa, .int .i64 xb]] := by intro xb; simp [Node.v]
          by_cases h : op ≥ 5
          · by_cases h8 : op = 8
            · refine ⟨0, a4, ht4, fun _ h' => absurd h8 h', fun _ => rfl, fun k => ?_⟩
              unfold s_semigroupmade_Tape_Graph_6
              simp only [bif_decide, bif_bne, bif_ble, if_pos h, if_pos h8, List.length_map, List.length_singleton, if_pos hmb, en]
            · have d2 := d1 (by by_cases h0 : l.length = 0; (have := o3 h0; omega); omega)
              refine ⟨d, a5, ht5, fun _ _ => ⟨d0, d2⟩, fun h' => by omega, fun k => ?_⟩
              unfold s_semigroupmade_Tape_Graph_6
              simp only [bif_decide, bif_bne, bif_ble, if_pos h, if_neg h8, hd, Option.bind_some, V.toInt_int, V.nth_zero, V.cell_agg, V.toList_list, V.nth_one, List.length_map, List.length_singleton, if_pos hmb, en]
          · refine ⟨0, a4, ht4, fun h' => by omega, fun _ => rfl, fun k => ?_⟩
            unfold s_semigroupmade_Tape_Graph_6
            simp only [bif_decide, bif_ble, if_neg h, List.length_map, List.length_singleton, if_pos hmb, en]
        obtain ⟨xb, a5, ht5, y1, y2, e6⟩ := s6
        refine ⟨(((l ++ [(⟨op, le, xa, xb⟩ : Node)]).length : Int), vIs tl, (a5 : Int), nodesV (l ++ [⟨op, le, xa, xb⟩])), ?_, ⟨a5, _, ht5, valid_snoc hv ⟨⟨o1, o2⟩, l1, l2, x1, y1, x2, y2⟩, by simp; omega, rfl⟩, by simp; omega⟩
        rw [e3, e4, e5, e6, wrap64 (by omega) (by omega)]
        simp
      · right
        rw [if_neg hi]
        exact ⟨_, rfl, _, a, l, hta, hv, by omega, rfl⟩)
  obtain ⟨r, hr, b, a', l, hta, hv, hlen, rfl⟩ := key ((0 : Int), vIs tl, (a1 : Int), []) ⟨a1, [], ht1, rfl, by simp; omega, rfl⟩
  refine ⟨l, a', hta, hv, by omega, by omega, f_semigroupmade_Tape_Graph_of ?_⟩
  unfold f_semigroupmade_Tape_Graph s_semigroupmade_Tape_Graph_14L
  unfold tapeV at hnext
  have e1 : IntKind.wrap .i64 (1 + n) = n + 1 := by rw [wrap64 (by omega) (by omega)]; omega
  have e2 : IntKind.wrap .i64 (n + 1 - 1) = (l.length : Int) - 1 := by rw [wrap64 (by omega) (by omega)]; omega
  simp only [hnext, Option.bind_some, V.toInt_int, V.nth_zero, V.cell_agg, V.toList_list, V.nth_one, e1, hr, e2, tapeV]
end Go.AM
