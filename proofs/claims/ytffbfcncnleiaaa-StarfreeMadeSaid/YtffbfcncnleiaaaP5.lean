/-
  Functions of the program, lifted to plain data.
-/
import Derived.Test.YtffbfcncnleiaaaP4
set_option linter.unusedVariables false
set_option maxRecDepth 100000
namespace Go.AM
open Go.Proofs
/-! semigroup/starfree.measure -/
noncomputable def d39_1 (C : CallF) (g_Nodes : List V) (g_Root : Int) {β : Type} (k0 : Option β) : Option β :=
 bif (decide (0 ≤ (IntKind.wrap .i64 (g_Root + 1)))) && ((decide ((IntKind.wrap .i64 (g_Root + 1)) ≤ (IntKind.wrap .i64 (g_Root + 1)))) && (Nat.ble (((IntKind.wrap .i64 (g_Root + 1) : Int).toNat) * 8) maxBytes)) then
  bif (decide (0 ≤ (IntKind.wrap .i64 (g_Root + 1)))) && ((decide ((IntKind.wrap .i64 (g_Root + 1)) ≤ (IntKind.wrap .i64 (g_Root + 1)))) && (Nat.ble (((IntKind.wrap .i64 (g_Root + 1) : Int).toNat) * 8) maxBytes)) then
   bif (decide (0 ≤ (IntKind.wrap .i64 (g_Root + 1)))) && (decide ((IntKind.wrap .i64 (g_Root + 1)) ≤ (g_Nodes.length : Int))) then
    k0
   else none
  else none
 else none
noncomputable abbrev z39_0 (c0 : List V) (c1 c2 : Int) (c3 : List V) (c4 : Int) (c5 c6 : List V) : St :=
 mk [(1, .ptr 0 0 0), (4, .whole T_int 1), (5, .whole T_int 2), (21, .list T_api_SfNode c0), (22, .int .i64 c1), (23, .int .i64 c2)] [.var [.list T_api_SfNode c3, .int .i64 c4], .arr T_int c5 false, .arr T_int c6 false]
noncomputable abbrev q39_0 : List Code := codesAt Try.prog 39 [[0], [1, 0], [1, 1, 0], [1, 1, 1, 0, 0]]
noncomputable abbrev z39_1 (c0 : List V) (c1 : Int) : St :=
 mk [(0, .agg [.list T_api_SfNode c0, .int .i64 c1])] []
theorem h39_1_eq (C : CallF) (g_Nodes : List V) (g_Root : Int) {β : Type} (K : Out → St → Option β) :
 execL Try.prog ann C 39 115 0 (q39_0) (z39_1 g_Nodes g_Root) K =
  d39_1 C g_Nodes g_Root
   (K .norm (z39_0 ((g_Nodes.drop 0).take (((IntKind.wrap .i64 (g_Root + 1) : Int).toNat) - 0)) (((g_Nodes.drop 0).take (((IntKind.wrap .i64 (g_Root + 1) : Int).toNat) - 0)).length : Int) 0 g_Nodes g_Root (List.replicate ((IntKind.wrap .i64 (g_Root + 1) : Int).toNat) (V.int .i64 0)) (List.replicate ((IntKind.wrap .i64 (g_Root + 1) : Int).toNat) (V.int .i64 0)))) := by kernel_rfl
noncomputable def d39_2 (C : CallF) (t22 t23 : Int) {β : Type} (k0 : Option β) (k1 : Option β) : Option β :=
 bif decide ((t23 : Int) < t22) then
  k0
 else
  k1
noncomputable abbrev z39_2 (c0 : List V) (c1 c2 : Int) (c3 : Bool) (c4 : List V) (c5 : Int) (c6 c7 : List V) : St :=
 mk [(1, .ptr 0 0 0), (4, .whole T_int 1), (5, .whole T_int 2), (21, .list T_api_SfNode c0), (22, .int .i64 c1), (23, .int .i64 c2), (24, .bool c3)] [.var [.list T_api_SfNode c4, .int .i64 c5], .arr T_int c6 false, .arr T_int c7 false]
noncomputable abbrev q39_1 : List Code := codesAt Try.prog 39 [[1, 1, 1, 0, 1, 0, 0, 0], [1, 1, 1, 0, 1, 0, 0, 1, 0]]
theorem h39_2_eq (C : CallF) (t21 : List V) (t22 t23 : Int) (gs_0 : List V) (gs_1 : Int) (sizes depths : List V) {β : Type} (K : Out → St → Option β) :
 execL Try.prog ann C 39 115 0 (q39_1) (z39_0 t21 t22 t23 gs_0 gs_1 sizes depths) K =
  d39_2 C t22 t23
   (K .norm (z39_0 t21 t22 t23 gs_0 gs_1 sizes depths))
   (K (.exit 0) (z39_2 t21 t22 t23 (decide ((t23 : Int) < t22)) gs_0 gs_1 sizes depths)) := by kernel_rfl
noncomputable def s_starfree_measure_3 (C : CallF) (t21 : List V) (t23 : Int) (sizes depths : List V) {β : Type} (k0 : (List V) → (List V) → Int → Int → Int → Int → Option β) : Option β :=
 (idx t21 t23).bind fun x107 =>
  bif (decide (0 ≤ t23)) && (decide (t23 < (sizes.length : Int))) then
   (sizes[(t23 : Int).toNat]?).bind fun x108 =>
    bif (decide (0 ≤ t23)) && (decide (t23 < (depths.length : Int))) then
     (depths[(t23 : Int).toNat]?).bind fun x109 =>
      bif (((x107.cell 0).toInt) : Int) == 4 then
       bif (decide (0 ≤ t23)) && (decide (t23 < ((sizes.set ((t23 : Int).toNat) (.int .i64 1)).length : Int))) then
        ((sizes.set ((t23 : Int).toNat) (.int .i64 1))[(t23 : Int).toNat]?).bind fun x110 =>
         bif (decide (0 ≤ t23)) && (decide (t23 < ((depths.set ((t23 : Int).toNat) (.int .i64 1)).length : Int))) then
          ((depths.set ((t23 : Int).toNat) (.int .i64 1))[(t23 : Int).toNat]?).bind fun x111 =>
           k0 ((sizes.set ((t23 : Int).toNat) (.int .i64 1)).set ((t23 : Int).toNat) (.int .i64 2)) ((depths.set ((t23 : Int).toNat) (.int .i64 1)).set ((t23 : Int).toNat) (.int .i64 2)) ((x107.cell 0).toInt) ((x107.cell 1).toInt) ((x107.cell 2).toInt) ((x107.cell 3).toInt)
         else none
       else none
      else
       k0 (sizes.set ((t23 : Int).toNat) (.int .i64 1)) (depths.set ((t23 : Int).toNat) (.int .i64 1)) ((x107.cell 0).toInt) ((x107.cell 1).toInt) ((x107.cell 2).toInt) ((x107.cell 3).toInt)
    else none
  else none
noncomputable abbrev z39_3 (c0 : Int) (c1 : List V) (c2 c3 : Int) (c4 : List V) (c5 : Int) (c6 c7 : List V) (c8 c9 c10 c11 : Int) : St :=
 mk [(1, .ptr 0 0 0), (4, .whole T_int 1), (5, .whole T_int 2), (6, .int .i64 c0), (7, .ptr 3 0 0), (21, .list T_api_SfNode c1), (22, .int .i64 c2), (23, .int .i64 c3)] [.var [.list T_api_SfNode c4, .int .i64 c5], .arr T_int c6 false, .arr T_int c7 false, .var [.int .i64 c8, .int .i64 c9, .int .i64 c10, .int .i64 c11]]
noncomputable abbrev q39_2 : List Code := codesAt Try.prog 39 [[1, 1, 1, 0, 1, 0, 0, 1, 1, 0, 0, 0], [1, 1, 1, 0, 1, 0, 0, 1, 1, 0, 0, 1, 0], [1, 1, 1, 0, 1, 0, 0, 1, 1, 0, 0, 1, 1, 0, 0], [1, 1, 1, 0, 1, 0, 0, 1, 1, 0, 0, 1, 1, 0, 1]]
theorem s_starfree_measure_3_eq (C : CallF) (t21 : List V) (t22 t23 : Int) (gs_0 : List V) (gs_1 : Int) (sizes depths : List V) {β : Type} (K : Out → St → Option β) :
 execL Try.prog ann C 39 115 0 (q39_2) (z39_0 t21 t22 t23 gs_0 gs_1 sizes depths) K =
  s_starfree_measure_3 C t21 t23 sizes depths
   (fun (sizes0 : List V) (depths0 : List V) (ns_00 : Int) (ns_10 : Int) (ns_20 : Int) (ns_30 : Int) => K .norm (z39_3 t23 t21 t22 t23 gs_0 gs_1 sizes0 depths0 ns_00 ns_10 ns_20 ns_30)) := by kernel_rfl
noncomputable def s_starfree_measure_4 (C : CallF) (i : Int) (sizes depths : List V) (ns_0 ns_2 : Int) {β : Type} (k0 : (List V) → (List V) → Option β) : Option β :=
 (C F_starfree_parts [.int .i64 ns_0] []).bind fun r113 =>
  bif decide ((r113.1.toInt : Int) ≥ 1) then
   bif (decide (0 ≤ i)) && (decide (i < (sizes.length : Int))) then
    (sizes[(i : Int).toNat]?).bind fun x114 =>
     bif (decide (0 ≤ ns_2)) && (decide (ns_2 < (sizes.length : Int))) then
      (sizes[(ns_2 : Int).toNat]?).bind fun x115 =>
       bif (decide (0 ≤ i)) && (decide (i < (sizes.length : Int))) then
        (sizes[(i : Int).toNat]?).bind fun x116 =>
         bif (decide (0 ≤ ns_2)) && (decide (ns_2 < (depths.length : Int))) then
          (depths[(ns_2 : Int).toNat]?).bind fun x117 =>
           bif (decide (0 ≤ i)) && (decide (i < (depths.length : Int))) then
            (depths[(i : Int).toNat]?).bind fun x118 =>
             k0 (sizes.set ((i : Int).toNat) (.int .i64 (IntKind.wrap .i64 (x114.toInt + x115.toInt)))) (depths.set ((i : Int).toNat) (.int .i64 (IntKind.wrap .i64 (x117.toInt + 1))))
           else none
         else none
       else none
     else none
   else none
  else
   k0 sizes depths
noncomputable abbrev q39_3 : List Code := codesAt Try.prog 39 [[1, 1, 1, 0, 1, 0, 0, 1, 1, 0, 0, 1, 1, 1, 0, 0], [1, 1, 1, 0, 1, 0, 0, 1, 1, 0, 0, 1, 1, 1, 0, 1]]
theorem s_starfree_measure_4_eq (C : CallF) (i : Int) (t21 : List V) (t22 t23 : Int) (gs_0 : List V) (gs_1 : Int) (sizes depths : List V) (ns_0 ns_1 ns_2 ns_3 : Int) {β : Type} (K : Out → St → Option β) :
 execL Try.prog ann C 39 115 0 (q39_3) (z39_3 i t21 t22 t23 gs_0 gs_1 sizes depths ns_0 ns_1 ns_2 ns_3) K =
  s_starfree_measure_4 C i sizes depths ns_0 ns_2
   (fun (sizes0 : List V) (depths0 : List V) => K .norm (z39_3 i t21 t22 t23 gs_0 gs_1 sizes0 depths0 ns_0 ns_1 ns_2 ns_3)) := by kernel_rfl
noncomputable def s_starfree_measure_5 (C : CallF) (i : Int) (sizes depths : List V) (ns_0 ns_3 : Int) {β : Type} (k0 : (List V) → (List V) → Option β) : Option β :=
 (C F_starfree_parts [.int .i64 ns_0] []).bind fun r120 =>
  bif (r120.1.toInt : Int) == 2 then
   bif (decide (0 ≤ i)) && (decide (i < (sizes.length : Int))) then
    (sizes[(i : Int).toNat]?).bind fun x121 =>
     bif (decide (0 ≤ ns_3)) && (decide (ns_3 < (sizes.length : Int))) then
      (sizes[(ns_3 : Int).toNat]?).bind fun x122 =>
       bif (decide (0 ≤ i)) && (decide (i < (sizes.length : Int))) then
        (sizes[(i : Int).toNat]?).bind fun x123 =>
         bif (decide (0 ≤ i)) && (decide (i < (depths.length : Int))) then
          (depths[(i : Int).toNat]?).bind fun x124 =>
           bif (decide (0 ≤ ns_3)) && (decide (ns_3 < (depths.length : Int))) then
            (depths[(ns_3 : Int).toNat]?).bind fun x125 =>
             bif (decide (0 ≤ i)) && (decide (i < (depths.length : Int))) then
              (depths[(i : Int).toNat]?).bind fun x126 =>
               k0 (sizes.set ((i : Int).toNat) (.int .i64 (IntKind.wrap .i64 (x121.toInt + x122.toInt)))) (depths.set ((i : Int).toNat) (.int .i64 (if (IntKind.wrap .i64 (x125.toInt + 1)) > x124.toInt then (IntKind.wrap .i64 (x125.toInt + 1)) else x124.toInt)))
             else none
           else none
         else none
       else none
     else none
   else none
  else
   k0 sizes depths
noncomputable abbrev z39_4 (c0 : Int) (c1 : List V) (c2 c3 : Int) (c4 : List V) (c5 : Int) (c6 c7 : List V) : St :=
 mk [(1, .ptr 0 0 0), (4, .whole T_int 1), (5, .whole T_int 2), (6, .int .i64 c0), (21, .list T_api_SfNode c1), (22, .int .i64 c2), (23, .int .i64 c3)] [.var [.list T_api_SfNode c4, .int .i64 c5], .arr T_int c6 false, .arr T_int c7 false]
noncomputable abbrev q39_4 : List Code := codesAt Try.prog 39 [[1, 1, 1, 0, 1, 0, 0, 1, 1, 0, 0, 1, 1, 1, 1, 0, 0], [1, 1, 1, 0, 1, 0, 0, 1, 1, 0, 0, 1, 1, 1, 1, 0, 1]]
theorem s_starfree_measure_5_eq (C : CallF) (i : Int) (t21 : List V) (t22 t23 : Int) (gs_0 : List V) (gs_1 : Int) (sizes depths : List V) (ns_0 ns_1 ns_2 ns_3 : Int) {β : Type} (K : Out → St → Option β) :
 execL Try.prog ann C 39 115 0 (q39_4) (z39_3 i t21 t22 t23 gs_0 gs_1 sizes depths ns_0 ns_1 ns_2 ns_3) K =
  s_starfree_measure_5 C i sizes depths ns_0 ns_3
   (fun (sizes0 : List V) (depths0 : List V) => K .norm (z39_4 i t21 t22 t23 gs_0 gs_1 sizes0 depths0)) := by kernel_rfl
noncomputable def d39_6 (C : CallF) (i : Int) (sizes : List V) {β : Type} (k0 : (List V) → Option β) : Option β :=
 bif (decide (0 ≤ i)) && (decide (i < (sizes.length : Int))) then
  (sizes[(i : Int).toNat]?).bind fun x127 =>
   bif (decide (0 ≤ i)) && (decide (i < (sizes.length : Int))) then
    (sizes[(i : Int).toNat]?).bind fun x128 =>
     k0 (sizes.set ((i : Int).toNat) (.int .i64 (if 401 < x127.toInt then 401 else x127.toInt)))
   else none
 else none
noncomputable abbrev q39_5 : List Code := codesAt Try.prog 39 [[1, 1, 1, 0, 1, 0, 0, 1, 1, 0, 0, 1, 1, 1, 1, 1]]
theorem h39_6_eq (C : CallF) (i : Int) (t21 : List V) (t22 t23 : Int) (gs_0 : List V) (gs_1 : Int) (sizes depths : List V) {β : Type} (K : Out → St → Option β) :
 execL Try.prog ann C 39 115 0 (q39_5) (z39_4 i t21 t22 t23 gs_0 gs_1 sizes depths) K =
  d39_6 C i sizes
   (fun (sizes0 : List V) => K .norm (z39_0 t21 t22 t23 gs_0 gs_1 sizes0 depths)) := by kernel_rfl
noncomputable def d39_7 (C : CallF) (i : Int) (sizes depths : List V) (ns_0 ns_3 : Int) {β : Type} (k0 : (List V) → (List V) → Option β) : Option β :=
 s_starfree_measure_5 C i sizes depths ns_0 ns_3
  (fun (sizes_129 : List V) (depths_130 : List V) =>
   d39_6 C i sizes_129
    (fun (sizes_131 : List V) =>
     k0 sizes_131 depths_130))
noncomputable abbrev q39_6 : List Code := codesAt Try.prog 39 [[1, 1, 1, 0, 1, 0, 0, 1, 1, 0, 0, 1, 1, 1, 1, 0, 0], [1, 1, 1, 0, 1, 0, 0, 1, 1, 0, 0, 1, 1, 1, 1, 0, 1], [1, 1, 1, 0, 1, 0, 0, 1, 1, 0, 0, 1, 1, 1, 1, 1]]
theorem h39_7_eq (C : CallF) (i : Int) (t21 : List V) (t22 t23 : Int) (gs_0 : List V) (gs_1 : Int) (sizes depths : List V) (ns_0 ns_1 ns_2 ns_3 : Int) {β : Type} (K : Out → St → Option β) :
 execL Try.prog ann C 39 115 0 (q39_6) (z39_3 i t21 t22 t23 gs_0 gs_1 sizes depths ns_0 ns_1 ns_2 ns_3) K =
  d39_7 C i sizes depths ns_0 ns_3
   (fun (sizes0 : List V) (depths0 : List V) => K .norm (z39_0 t21 t22 t23 gs_0 gs_1 sizes0 depths0)) := by
 refine Eq.trans (execL_app (P := Try.prog) (A := ann) (C := C) (f := 39) (n := 115) (m := 0) (q39_4) (q39_5) (st := z39_3 i t21 t22 t23 gs_0 gs_1 sizes depths ns_0 ns_1 ns_2 ns_3) (K := K)) (Eq.trans (s_starfree_measure_5_eq C i t21 t22 t23 gs_0 gs_1 sizes depths ns_0 ns_1 ns_2 ns_3 (seqK Try.prog ann C 39 115 0 (q39_5) K)) ?_)
 · exact Eq.trans (by kernel_rfl) (Eq.trans (congrArg (fun HOLE : (List V) → (List V) → Option β => s_starfree_measure_5 C i sizes depths ns_0 ns_3 HOLE) (funext fun (sizes0 : List V) => funext fun (depths0 : List V) => h39_6_eq C i t21 t22 t23 gs_0 gs_1 sizes0 depths0 K)) ((by kernel_rfl)))
noncomputable def d39_8 (C : CallF) (i : Int) (sizes depths : List V) (ns_0 ns_2 ns_3 : Int) {β : Type} (k0 : (List V) → (List V) → Option β) : Option β :=
 s_starfree_measure_4 C i sizes depths ns_0 ns_2
  (fun (sizes_134 : List V) (depths_135 : List V) =>
   d39_7 C i sizes_134 depths_135 ns_0 ns_3
    (fun (sizes_136 : List V) (depths_137 : List V) =>
     k0 sizes_136 depths_137))
noncomputable abbrev q39_7 : List Code := codesAt Try.prog 39 [[1, 1, 1, 0, 1, 0, 0, 1, 1, 0, 0, 1, 1, 1, 0, 0], [1, 1, 1, 0, 1, 0, 0, 1, 1, 0, 0, 1, 1, 1, 0, 1], [1, 1, 1, 0, 1, 0, 0, 1, 1, 0, 0, 1, 1, 1, 1, 0, 0], [1, 1, 1, 0, 1, 0, 0, 1, 1, 0, 0, 1, 1, 1, 1, 0, 1], [1, 1, 1, 0, 1, 0, 0, 1, 1, 0, 0, 1, 1, 1, 1, 1]]
theorem h39_8_eq (C : CallF) (i : Int) (t21 : List V) (t22 t23 : Int) (gs_0 : List V) (gs_1 : Int) (sizes depths : List V) (ns_0 ns_1 ns_2 ns_3 : Int) {β : Type} (K : Out → St → Option β) :
 execL Try.prog ann C 39 115 0 (q39_7) (z39_3 i t21 t22 t23 gs_0 gs_1 sizes depths ns_0 ns_1 ns_2 ns_3) K =
  d39_8 C i sizes depths ns_0 ns_2 ns_3
   (fun (sizes0 : List V) (depths0 : List V) => K .norm (z39_0 t21 t22 t23 gs_0 gs_1 sizes0 depths0)) := by
 refine Eq.trans (execL_app (P := Try.prog) (A := ann) (C := C) (f := 39) (n := 115) (m := 0) (q39_3) (q39_6) (st := z39_3 i t21 t22 t23 gs_0 gs_1 sizes depths ns_0 ns_1 ns_2 ns_3) (K := K)) (Eq.trans (s_starfree_measure_4_eq C i t21 t22 t23 gs_0 gs_1 sizes depths ns_0 ns_1 ns_2 ns_3 (seqK Try.prog ann C 39 115 0 (q39_6) K)) ?_)
 · exact Eq.trans (by kernel_rfl) (Eq.trans (congrArg (fun HOLE : (List V) → (List V) → Option β => s_starfree_measure_4 C i sizes depths ns_0 ns_2 HOLE) (funext fun (sizes0 : List V) => funext fun (depths0 : List V) => h39_7_eq C i t21 t22 t23 gs_0 gs_1 sizes0 depths0 ns_0 ns_1 ns_2 ns_3 K)) ((by kernel_rfl)))
noncomputable def d39_9 (C : CallF) (t21 : List V) (t23 : Int) (sizes depths : List V) {β : Type} (k0 : (List V) → (List V) → Option β) : Option β :=
 s_starfree_measure_3 C t21 t23 sizes depths
  (fun (sizes_140 : List V) (depths_141 : List V) (ns_142 : Int) (ns_143 : Int) (ns_144 : Int) (ns_145 : Int) =>
   d39_8 C t23 sizes_140 depths_141 ns_142 ns_144 ns_145
    (fun (sizes_146 : List V) (depths_147 : List V) =>
     k0 sizes_146 depths_147))
noncomputable abbrev q39_8 : List Code := codesAt Try.prog 39 [[1, 1, 1, 0, 1, 0, 0, 1, 1, 0, 0, 0], [1, 1, 1, 0, 1, 0, 0, 1, 1, 0, 0, 1, 0], [1, 1, 1, 0, 1, 0, 0, 1, 1, 0, 0, 1, 1, 0, 0], [1, 1, 1, 0, 1, 0, 0, 1, 1, 0, 0, 1, 1, 0, 1], [1, 1, 1, 0, 1, 0, 0, 1, 1, 0, 0, 1, 1, 1, 0, 0], [1, 1, 1, 0, 1, 0, 0, 1, 1, 0, 0, 1, 1, 1, 0, 1], [1, 1, 1, 0, 1, 0, 0, 1, 1, 0, 0, 1, 1, 1, 1, 0, 0], [1, 1, 1, 0, 1, 0, 0, 1, 1, 0, 0, 1, 1, 1, 1, 0, 1], [1, 1, 1, 0, 1, 0, 0, 1, 1, 0, 0, 1, 1, 1, 1, 1]]
theorem h39_9_eq (C : CallF) (t21 : List V) (t22 t23 : Int) (gs_0 : List V) (gs_1 : Int) (sizes depths : List V) {β : Type} (K : Out → St → Option β) :
 execL Try.prog ann C 39 115 0 (q39_8) (z39_0 t21 t22 t23 gs_0 gs_1 sizes depths) K =
  d39_9 C t21 t23 sizes depths
   (fun (sizes0 : List V) (depths0 : List V) => K .norm (z39_0 t21 t22 t23 gs_0 gs_1 sizes0 depths0)) := by
 refine Eq.trans (execL_app (P := Try.prog) (A := ann) (C := C) (f := 39) (n := 115) (m := 0) (q39_2) (q39_7) (st := z39_0 t21 t22 t23 gs_0 gs_1 sizes depths) (K := K)) (Eq.trans (s_starfree_measure_3_eq C t21 t22 t23 gs_0 gs_1 sizes depths (seqK Try.prog ann C 39 115 0 (q39_7) K)) ?_)
 · exact Eq.trans (by kernel_rfl) (Eq.trans (congrArg (fun HOLE : (List V) → (List V) → Int → Int → Int → Int → Option β => s_starfree_measure_3 C t21 t23 sizes depths HOLE) (funext fun (sizes0 : List V) => funext fun (depths0 : List V) => funext fun (ns_00 : Int) => funext fun (ns_10 : Int) => funext fun (ns_20 : Int) => funext fun (ns_30 : Int) => h39_8_eq C t23 t21 t22 t23 gs_0 gs_1 sizes0 depths0 ns_00 ns_10 ns_20 ns_30 K)) ((by kernel_rfl)))
noncomputable def d39_10 (C : CallF) (t21 : List V) (t23 : Int) (sizes depths : List V) {β : Type} (k0 : (List V) → (List V) → Option β) : Option β :=
 d39_9 C t21 t23 sizes depths
  (fun (sizes_154 : List V) (depths_155 : List V) =>
   k0 sizes_154 depths_155)
noncomputable abbrev q39_9 : List Code := codesAt Try.prog 39 [[1, 1, 1, 0, 1, 0, 0, 1, 1, 0]]
theorem h39_10_eq (C : CallF) (t21 : List V) (t22 t23 : Int) (gs_0 : List V) (gs_1 : Int) (sizes depths : List V) {β : Type} (K : Out → St → Option β) :
 execL Try.prog ann C 39 115 0 (q39_9) (z39_0 t21 t22 t23 gs_0 gs_1 sizes depths) K =
  d39_10 C t21 t23 sizes depths
   (fun (sizes0 : List V) (depths0 : List V) => K .norm (z39_0 t21 t22 t23 gs_0 gs_1 sizes0 depths0)) := Eq.trans (execL_block (P := Try.prog) (A := ann) (C := C) (f := 39) (n := 115) (m := 0) (id := 1) (c := codeAt [1, 1, 1, 0, 1, 0, 0, 1, 1, 0] (bodyOf Try.prog 39)) (d := codeAt [1, 1, 1, 0, 1, 0, 0, 1, 1, 0, 0] (bodyOf Try.prog 39)) (l := q39_8) (st := z39_0 t21 t22 t23 gs_0 gs_1 sizes depths) (K := K) (by kernel_rfl) (by kernel_rfl)) (Eq.trans (h39_9_eq C t21 t22 t23 gs_0 gs_1 sizes depths (blockK ann 39 0 1 K)) (by kernel_rfl))
noncomputable def d39_11 (C : CallF)  {β : Type} (k0 : Option β) : Option β :=
 k0
noncomputable abbrev q39_10 : List Code := codesAt Try.prog 39 [[1, 1, 1, 0, 1, 0, 0, 1, 1, 1]]
theorem h39_11_eq (C : CallF) (t21 : List V) (t22 t23 : Int) (gs_0 : List V) (gs_1 : Int) (sizes depths : List V) {β : Type} (K : Out → St → Option β) :
 execL Try.prog ann C 39 115 0 (q39_10) (z39_0 t21 t22 t23 gs_0 gs_1 sizes depths) K =
  d39_11 C
   (K .norm (z39_0 t21 t22 (IntKind.wrap .i64 (t23 + 1)) gs_0 gs_1 sizes depths)) := by kernel_rfl
noncomputable def d39_12 (C : CallF) (t21 : List V) (t23 : Int) (sizes depths : List V) {β : Type} (k0 : (List V) → (List V) → Option β) : Option β :=
 d39_10 C t21 t23 sizes depths
  (fun (sizes_156 : List V) (depths_157 : List V) =>
   d39_11 C
    (
     k0 sizes_156 depths_157))
noncomputable abbrev q39_11 : List Code := codesAt Try.prog 39 [[1, 1, 1, 0, 1, 0, 0, 1, 1, 0], [1, 1, 1, 0, 1, 0, 0, 1, 1, 1]]
theorem h39_12_eq (C : CallF) (t21 : List V) (t22 t23 : Int) (gs_0 : List V) (gs_1 : Int) (sizes depths : List V) {β : Type} (K : Out → St → Option β) :
 execL Try.prog ann C 39 115 0 (q39_11) (z39_0 t21 t22 t23 gs_0 gs_1 sizes depths) K =
  d39_12 C t21 t23 sizes depths
   (fun (sizes0 : List V) (depths0 : List V) => K .norm (z39_0 t21 t22 (IntKind.wrap .i64 (t23 + 1)) gs_0 gs_1 sizes0 depths0)) := by
 refine Eq.trans (execL_app (P := Try.prog) (A := ann) (C := C) (f := 39) (n := 115) (m := 0) (q39_9) (q39_10) (st := z39_0 t21 t22 t23 gs_0 gs_1 sizes depths) (K := K)) (Eq.trans (h39_10_eq C t21 t22 t23 gs_0 gs_1 sizes depths (seqK Try.prog ann C 39 115 0 (q39_10) K)) ?_)
 · exact Eq.trans (by kernel_rfl) (Eq.trans (congrArg (fun HOLE : (List V) → (List V) → Option β => d39_10 C t21 t23 sizes depths HOLE) (funext fun (sizes0 : List V) => funext fun (depths0 : List V) => h39_11_eq C t21 t22 t23 gs_0 gs_1 sizes0 depths0 K)) ((by kernel_rfl)))
noncomputable def d39_13 (C : CallF) (t21 : List V) (t22 t23 : Int) (sizes depths : List V) {β : Type} (k0 : (List V) → (List V) → Option β) (k1 : Option β) : Option β :=
 d39_2 C t22 t23
  (
   d39_12 C t21 t23 sizes depths
    (fun (sizes_158 : List V) (depths_159 : List V) =>
     k0 sizes_158 depths_159))
  (
   k1)
noncomputable abbrev q39_12 : List Code := codesAt Try.prog 39 [[1, 1, 1, 0, 1, 0, 0, 0], [1, 1, 1, 0, 1, 0, 0, 1, 0], [1, 1, 1, 0, 1, 0, 0, 1, 1, 0], [1, 1, 1, 0, 1, 0, 0, 1, 1, 1]]
theorem h39_13_eq (C : CallF) (t21 : List V) (t22 t23 : Int) (gs_0 : List V) (gs_1 : Int) (sizes depths : List V) {β : Type} (K : Out → St → Option β) :
 execL Try.prog ann C 39 115 0 (q39_12) (z39_0 t21 t22 t23 gs_0 gs_1 sizes depths) K =
  d39_13 C t21 t22 t23 sizes depths
   (fun (sizes0 : List V) (depths0 : List V) => K .norm (z39_0 t21 t22 (IntKind.wrap .i64 (t23 + 1)) gs_0 gs_1 sizes0 depths0))
   (K (.exit 0) (z39_2 t21 t22 t23 (decide ((t23 : Int) < t22)) gs_0 gs_1 sizes depths)) := by
 refine Eq.trans (execL_app (P := Try.prog) (A := ann) (C := C) (f := 39) (n := 115) (m := 0) (q39_1) (q39_11) (st := z39_0 t21 t22 t23 gs_0 gs_1 sizes depths) (K := K)) (Eq.trans (h39_2_eq C t21 t22 t23 gs_0 gs_1 sizes depths (seqK Try.prog ann C 39 115 0 (q39_11) K)) ?_)
 · exact Eq.trans (by kernel_rfl) (Eq.trans (congrArg (fun HOLE : Option β => d39_2 C t22 t23 HOLE (K (.exit 0) (z39_2 t21 t22 t23 (decide ((t23 : Int) < t22)) gs_0 gs_1 sizes depths))) (h39_12_eq C t21 t22 t23 gs_0 gs_1 sizes depths K)) ((by kernel_rfl)))
noncomputable def s_starfree_measure_14L_step (C : CallF) (t21 : List V) (t22 : Int) : (Int × (List V) × (List V)) → Option ((Int × (List V) × (List V)) ⊕ ((Int × Bool × (List V) × (List V)))) := fun (t23, sizes, depths) =>
 bif decide ((t23 : Int) < t22) then
  s_starfree_measure_3 C t21 t23 sizes depths
   (fun (sizes_148 : List V) (depths_149 : List V) (ns_150 : Int) (ns_151 : Int) (ns_152 : Int) (ns_153 : Int) =>
    s_starfree_measure_4 C t23 sizes_148 depths_149 ns_150 ns_152
     (fun (sizes_138 : List V) (depths_139 : List V) =>
      s_starfree_measure_5 C t23 sizes_138 depths_139 ns_150 ns_153
       (fun (sizes_132 : List V) (depths_133 : List V) =>
        bif (decide (0 ≤ t23)) && (decide (t23 < (sizes_132.length : Int))) then
         (sizes_132[(t23 : Int).toNat]?).bind fun x127 =>
          bif (decide (0 ≤ t23)) && (decide (t23 < (sizes_132.length : Int))) then
           (sizes_132[(t23 : Int).toNat]?).bind fun x128 =>
            some (.inl (IntKind.wrap .i64 (t23 + 1), (sizes_132.set ((t23 : Int).toNat) (.int .i64 (if 401 < x127.toInt then 401 else x127.toInt))), depths_133))
          else none
        else none)))
 else
  some (.inr (t23, decide ((t23 : Int) < t22), sizes, depths))
noncomputable def s_starfree_measure_14L (C : CallF) (t21 : List V) (t22 t23 : Int) (sizes depths : List V) {β : Type} (k0 : Int → Bool → (List V) → (List V) → Option β) : Option β :=
 (Loop (s_starfree_measure_14L_step C t21 t22) (t23, sizes, depths)).bind fun (t230, t240, sizes0, depths0) => k0 t230 t240 sizes0 depths0
noncomputable def s_starfree_measure_14L_dec : Out → St → Option ((Int × (List V) × (List V)) ⊕ ((Int × Bool × (List V) × (List V)))) := fun o st => match o with
 | .norm => some (.inl (V.toInt (st.sl 23), arrOf (st.hp 1), arrOf (st.hp 2)))
 | .exit q => bif Nat.beq q 0 then some (.inr (V.toInt (st.sl 23), V.toBool (st.sl 24), arrOf (st.hp 1), arrOf (st.hp 2))) else none
 | .ret => none
noncomputable def s_starfree_measure_14L_hd (t21 : List V) (t22 : Int) (gs_0 : List V) (gs_1 : Int) : (Int × (List V) × (List V)) → St := fun (t23, sizes, depths) => z39_0 t21 t22 t23 gs_0 gs_1 sizes depths
noncomputable def s_starfree_measure_14L_enc (t21 : List V) (t22 : Int) (gs_0 : List V) (gs_1 : Int) : ((Int × Bool × (List V) × (List V))) → Out × St := fun (t230, t240, sizes0, depths0) => (.exit 0, z39_2 t21 t22 t230 t240 gs_0 gs_1 sizes0 depths0)
theorem s_starfree_measure_14L_eq (C : CallF) (t21 : List V) (t22 t23 : Int) (gs_0 : List V) (gs_1 : Int) (sizes depths : List V) {β : Type} (K : Out → St → Option β) :
 execL Try.prog ann C 39 115 0 (codesAt Try.prog 39 [[1, 1, 1, 0, 1, 0]]) (z39_0 t21 t22 t23 gs_0 gs_1 sizes depths) K =
  s_starfree_measure_14L C t21 t22 t23 sizes depths
   (fun (t230 : Int) (t240 : Bool) (sizes0 : List V) (depths0 : List V) => K (.exit 0) (z39_2 t21 t22 t230 t240 gs_0 gs_1 sizes0 depths0)) := by
 have hitems : flatC (codeAt [1, 1, 1, 0, 1, 0, 0] (bodyOf Try.prog 39)) = q39_12 := by kernel_rfl
 have hloop : [codeAt [1, 1, 1, 0, 1, 0] (bodyOf Try.prog 39)] = [Code.loop (codeAt [1, 1, 1, 0, 1, 0, 0] (bodyOf Try.prog 39))] := by kernel_rfl
 have h := loopK_eq (P := Try.prog) (A := ann) (C := C) (f := 39) (n := 115) (m := 0) (c := codeAt [1, 1, 1, 0, 1, 0, 0] (bodyOf Try.prog 39)) (s_starfree_measure_14L_hd t21 t22 gs_0 gs_1) (s_starfree_measure_14L_enc t21 t22 gs_0 gs_1) s_starfree_measure_14L_dec (s_starfree_measure_14L_step C t21 t22)
  (by rintro ⟨t23, sizes, depths⟩; exact Eq.trans (execK_items hitems) (Eq.trans (h39_13_eq C t21 t22 t23 gs_0 gs_1 sizes depths s_starfree_measure_14L_dec) (by kernel_rfl)))
  (by rintro ⟨t23, sizes, depths⟩; exact Eq.trans (execK_items hitems) (Eq.trans (h39_13_eq C t21 t22 t23 gs_0 gs_1 sizes depths (fun o st => some (o, st))) (Eq.trans (by kernel_rfl) (Eq.trans (h39_13_eq C t21 t22 t23 gs_0 gs_1 sizes depths (fun o st => (s_starfree_measure_14L_dec o st).map (outS (s_starfree_measure_14L_hd t21 t22 gs_0 gs_1) (s_starfree_measure_14L_enc t21 t22 gs_0 gs_1)))).symm (execK_items hitems).symm))))
  (by intro r; intro h; cases h) (t23, sizes, depths) K
 refine Eq.trans (congrArg (fun l => execL Try.prog ann C 39 115 0 l (z39_0 t21 t22 t23 gs_0 gs_1 sizes depths) K) hloop) (Eq.trans h ?_)
 · refine congrArg _ (funext fun r => ?_)
   rfl
noncomputable def d39_15 (C : CallF) (t21 : List V) (t22 t23 : Int) (sizes depths : List V) {β : Type} (k0 : (List V) → (List V) → Option β) : Option β :=
 s_starfree_measure_14L C t21 t22 t23 sizes depths
  (fun (t_160 : Int) (t_161 : Bool) (sizes_162 : List V) (depths_163 : List V) =>
   k0 sizes_162 depths_163)
noncomputable abbrev z39_5 (c0 : List V) (c1 : Int) (c2 c3 : List V) : St :=
 mk [(1, .ptr 0 0 0), (4, .whole T_int 1), (5, .whole T_int 2)] [.var [.list T_api_SfNode c0, .int .i64 c1], .arr T_int c2 false, .arr T_int c3 false]
theorem h39_15_eq (C : CallF) (t21 : List V) (t22 t23 : Int) (gs_0 : List V) (gs_1 : Int) (sizes depths : List V) {β : Type} (K : Out → St → Option β) :
 execL Try.prog ann C 39 115 0 (codesAt Try.prog 39 [[1, 1, 1, 0, 1]]) (z39_0 t21 t22 t23 gs_0 gs_1 sizes depths) K =
  d39_15 C t21 t22 t23 sizes depths
   (fun (sizes0 : List V) (depths0 : List V) => K .norm (z39_5 gs_0 gs_1 sizes0 depths0)) := Eq.trans (execL_block (P := Try.prog) (A := ann) (C := C) (f := 39) (n := 115) (m := 0) (id := 0) (c := codeAt [1, 1, 1, 0, 1] (bodyOf Try.prog 39)) (d := codeAt [1, 1, 1, 0, 1, 0] (bodyOf Try.prog 39)) (l := codesAt Try.prog 39 [[1, 1, 1, 0, 1, 0]]) (st := z39_0 t21 t22 t23 gs_0 gs_1 sizes depths) (K := K) (by kernel_rfl) (by kernel_rfl)) (Eq.trans (s_starfree_measure_14L_eq C t21 t22 t23 gs_0 gs_1 sizes depths (blockK ann 39 0 0 K)) (by kernel_rfl))
noncomputable def d39_16 (C : CallF) (gs_1 : Int) (sizes depths : List V) {β : Type} (k0 : Int → Int → Option β) : Option β :=
 bif (decide (0 ≤ gs_1)) && (decide (gs_1 < (sizes.length : Int))) then
  (sizes[(gs_1 : Int).toNat]?).bind fun x170 =>
   bif (decide (0 ≤ gs_1)) && (decide (gs_1 < (depths.length : Int))) then
    (depths[(gs_1 : Int).toNat]?).bind fun x171 =>
     k0 x170.toInt x171.toInt
   else none
 else none
noncomputable abbrev z39_6 (c0 c1 : Int) : St :=
 mk [(2, .int .i64 c0), (3, .int .i64 c1)] []
noncomputable abbrev q39_13 : List Code := codesAt Try.prog 39 [[1, 1, 1, 1, 0], [1, 1, 1, 1, 1]]
theorem h39_16_eq (C : CallF) (gs_0 : List V) (gs_1 : Int) (sizes depths : List V) {β : Type} (K : Out → St → Option β) :
 execL Try.prog ann C 39 115 0 (q39_13) (z39_5 gs_0 gs_1 sizes depths) K =
  d39_16 C gs_1 sizes depths
   (fun (t20 : Int) (t30 : Int) => K .ret (z39_6 t20 t30)) := by kernel_rfl
noncomputable def d39_17 (C : CallF) (t21 : List V) (t22 t23 gs_1 : Int) (sizes depths : List V) {β : Type} (k0 : Int → Int → Option β) : Option β :=
 d39_15 C t21 t22 t23 sizes depths
  (fun (sizes_172 : List V) (depths_173 : List V) =>
   d39_16 C gs_1 sizes_172 depths_173
    (fun (t_174 : Int) (t_175 : Int) =>
     k0 t_174 t_175))
noncomputable abbrev q39_14 : List Code := codesAt Try.prog 39 [[1, 1, 1, 0, 1], [1, 1, 1, 1, 0], [1, 1, 1, 1, 1]]
theorem h39_17_eq (C : CallF) (t21 : List V) (t22 t23 : Int) (gs_0 : List V) (gs_1 : Int) (sizes depths : List V) {β : Type} (K : Out → St → Option β) :
 execL Try.prog ann C 39 115 0 (q39_14) (z39_0 t21 t22 t23 gs_0 gs_1 sizes depths) K =
  d39_17 C t21 t22 t23 gs_1 sizes depths
   (fun (t20 : Int) (t30 : Int) => K .ret (z39_6 t20 t30)) := by
 refine Eq.trans (execL_app (P := Try.prog) (A := ann) (C := C) (f := 39) (n := 115) (m := 0) (codesAt Try.prog 39 [[1, 1, 1, 0, 1]]) (q39_13) (st := z39_0 t21 t22 t23 gs_0 gs_1 sizes depths) (K := K)) (Eq.trans (h39_15_eq C t21 t22 t23 gs_0 gs_1 sizes depths (seqK Try.prog ann C 39 115 0 (q39_13) K)) ?_)
 · exact Eq.trans (by kernel_rfl) (Eq.trans (congrArg (fun HOLE : (List V) → (List V) → Option β => d39_15 C t21 t22 t23 sizes depths HOLE) (funext fun (sizes0 : List V) => funext fun (depths0 : List V) => h39_16_eq C gs_0 gs_1 sizes0 depths0 K)) ((by kernel_rfl)))
noncomputable def d39_18 (C : CallF) (g_Nodes : List V) (g_Root : Int) {β : Type} (k0 : Int → Int → Option β) : Option β :=
 d39_1 C g_Nodes g_Root
  (
   d39_17 C ((g_Nodes.drop 0).take (((IntKind.wrap .i64 (g_Root + 1) : Int).toNat) - 0)) (((g_Nodes.drop 0).take (((IntKind.wrap .i64 (g_Root + 1) : Int).toNat) - 0)).length : Int) 0 g_Root (List.replicate ((IntKind.wrap .i64 (g_Root + 1) : Int).toNat) (V.int .i64 0)) (List.replicate ((IntKind.wrap .i64 (g_Root + 1) : Int).toNat) (V.int .i64 0))
    (fun (t_176 : Int) (t_177 : Int) =>
     k0 t_176 t_177))
noncomputable abbrev q39_15 : List Code := codesAt Try.prog 39 [[0], [1, 0], [1, 1, 0], [1, 1, 1, 0, 0], [1, 1, 1, 0, 1], [1, 1, 1, 1, 0], [1, 1, 1, 1, 1]]
theorem h39_18_eq (C : CallF) (g_Nodes : List V) (g_Root : Int) {β : Type} (K : Out → St → Option β) :
 execL Try.prog ann C 39 115 0 (q39_15) (z39_1 g_Nodes g_Root) K =
  d39_18 C g_Nodes g_Root
   (fun (t20 : Int) (t30 : Int) => K .ret (z39_6 t20 t30)) := by
 refine Eq.trans (execL_app (P := Try.prog) (A := ann) (C := C) (f := 39) (n := 115) (m := 0) (q39_0) (q39_14) (st := z39_1 g_Nodes g_Root) (K := K)) (Eq.trans (h39_1_eq C g_Nodes g_Root (seqK Try.prog ann C 39 115 0 (q39_14) K)) ?_)
 · exact Eq.trans (by kernel_rfl) (Eq.trans (congrArg (fun HOLE : Option β => d39_1 C g_Nodes g_Root HOLE) (h39_17_eq C ((g_Nodes.drop 0).take (((IntKind.wrap .i64 (g_Root + 1) : Int).toNat) - 0)) (((g_Nodes.drop 0).take (((IntKind.wrap .i64 (g_Root + 1) : Int).toNat) - 0)).length : Int) 0 g_Nodes g_Root (List.replicate ((IntKind.wrap .i64 (g_Root + 1) : Int).toNat) (V.int .i64 0)) (List.replicate ((IntKind.wrap .i64 (g_Root + 1) : Int).toNat) (V.int .i64 0)) K)) ((by kernel_rfl)))
noncomputable def f_starfree_measure (C : CallF) (g_Nodes : List V) (g_Root : Int) : Option (V × List V) :=
 bif (decide (0 ≤ (IntKind.wrap .i64 (g_Root + 1)))) && ((decide ((IntKind.wrap .i64 (g_Root + 1)) ≤ (IntKind.wrap .i64 (g_Root + 1)))) && (Nat.ble (((IntKind.wrap .i64 (g_Root + 1) : Int).toNat) * 8) maxBytes)) then
  bif (decide (0 ≤ (IntKind.wrap .i64 (g_Root + 1)))) && ((decide ((IntKind.wrap .i64 (g_Root + 1)) ≤ (IntKind.wrap .i64 (g_Root + 1)))) && (Nat.ble (((IntKind.wrap .i64 (g_Root + 1) : Int).toNat) * 8) maxBytes)) then
   bif (decide (0 ≤ (IntKind.wrap .i64 (g_Root + 1)))) && (decide ((IntKind.wrap .i64 (g_Root + 1)) ≤ (g_Nodes.length : Int))) then
    s_starfree_measure_14L C ((g_Nodes.drop 0).take (((IntKind.wrap .i64 (g_Root + 1) : Int).toNat) - 0)) (((g_Nodes.drop 0).take (((IntKind.wrap .i64 (g_Root + 1) : Int).toNat) - 0)).length : Int) 0 (List.replicate ((IntKind.wrap .i64 (g_Root + 1) : Int).toNat) (V.int .i64 0)) (List.replicate ((IntKind.wrap .i64 (g_Root + 1) : Int).toNat) (V.int .i64 0))
     (fun (t_164 : Int) (t_165 : Bool) (sizes_166 : List V) (depths_167 : List V) =>
      bif (decide (0 ≤ g_Root)) && (decide (g_Root < (sizes_166.length : Int))) then
       (sizes_166[(g_Root : Int).toNat]?).bind fun x170 =>
        bif (decide (0 ≤ g_Root)) && (decide (g_Root < (depths_167.length : Int))) then
         (depths_167[(g_Root : Int).toNat]?).bind fun x171 =>
          some (.tup [.int .i64 x170.toInt, .int .i64 x171.toInt], [])
        else none
      else none)
   else none
  else none
 else none
theorem f_starfree_measure_eq (C : CallF) (g_Nodes : List V) (g_Root : Int) : bodyK Try.prog ann C 39 [.agg [.list T_api_SfNode g_Nodes, .int .i64 g_Root]] [] = f_starfree_measure C g_Nodes g_Root :=
 Eq.trans (bodyK_fin (by kernel_rfl)) (Eq.trans (execK_items (by kernel_rfl)) (Eq.trans (h39_18_eq C g_Nodes g_Root (finK Try.prog ann C 39 [])) (by kernel_rfl)))
theorem f_starfree_measure_of {g_Nodes : List V} {g_Root : Int} {r : V × List V} (h : f_starfree_measure CC g_Nodes g_Root = some r) : CC F_starfree_measure [.agg [.list T_api_SfNode g_Nodes, .int .i64 g_Root]] [] = some r :=
 Call_of_body ((bodyK_eq ..).trans ((f_starfree_measure_eq ..).trans h))
end Go.AM

/-
 measure: the size and the depth of the expression of a node.
-/
namespace Go.AM
open Go.Proofs
def sizeF (c : Nat) (l : List Node) : Nat → Nat → Nat
 | 0, _ => 0
 | n + 1, i =>
  match l[i]? with
  | none => 0
  | some x => min ((if x.op = 4 then 2 else 1) + (if 5 ≤ x.op then sizeF c l n x.a.toNat else 0) + (if 5 ≤ x.op ∧ x.op ≠ 8 then sizeF c l n x.b.toNat else 0)) c
def sizeC (c : Nat) (l : List Node) (i : Nat) : Nat := sizeF c l (i + 1) i
def deepF (l : List Node) : Nat → Nat → Nat
 | 0, _ => 0
 | n + 1, i =>
  match l[i]? with
  | none => 0
  | some x => if x.op = 4 then 2 else if 5 ≤ x.op ∧ x.op ≠ 8 then max (deepF l n x.a.toNat + 1) (deepF l n x.b.toNat + 1) else if 5 ≤ x.op then deepF l n x.a.toNat + 1 else 1
def deep (l : List Node) (i : Nat) : Nat := deepF l (i + 1) i
section
variable {letters : Int} {l : List Node}
theorem sizeF_stable (hl : Valid letters l) (c : Nat) : ∀ (n m i : Nat), i < n → i < m → sizeF c l n i = sizeF c l m i := by
 intro n
 induction n with
 | zero => intro m i h; omega
 | succ n ih =>
  intro m i h1 h2
  obtain ⟨m, rfl⟩ : ∃ k, m = k + 1 := ⟨m - 1, by omega⟩
  unfold sizeF
  cases hx : l[i]? with
  | none => rfl
  | some x =>
   have ok := nodeOk_iff.1 (hl.node hx)
   simp only
   have ha : (if 5 ≤ x.op then sizeF c l n x.a.toNat else 0) = (if 5 ≤ x.op then sizeF c l m x.a.toNat else 0) := by
    split
    · rename_i h; have := ok.a h; exact ih m _ (by omega) (by omega)
    · rfl
   have hb : (if 5 ≤ x.op ∧ x.op ≠ 8 then sizeF c l n x.b.toNat else 0) = (if 5 ≤ x.op ∧ x.op ≠ 8 then sizeF c l m x.b.toNat else 0) := by
    split
    · rename_i h; have := ok.b h.1 h.2; exact ih m _ (by omega) (by omega)
    · rfl
   rw [ha, hb]
theorem size_eq (hl : Valid letters l) (c : Nat) {i : Nat} {x : Node} (hx : l[i]? = some x) :
 sizeC c l i = min ((if x.op = 4 then 2 else 1) + (if 5 ≤ x.op then sizeC c l x.a.toNat else 0) + (if 5 ≤ x.op ∧ x.op ≠ 8 then sizeC c l x.b.toNat else 0)) c := by
 have ok := nodeOk_iff.1 (hl.node hx)
 conv => lhs; unfold sizeC sizeF
 rw [hx]
 simp only
 have ha : (if 5 ≤ x.op then sizeF c l i x.a.toNat else 0) = (if 5 ≤ x.op then sizeC c l x.a.toNat else 0) := by
  split
  · rename_i h; have := ok.a h; exact sizeF_stable hl c _ _ _ (by omega) (by omega)
  · rfl
 have hb : (if 5 ≤ x.op ∧ x.op ≠ 8 then sizeF c l i x.b.toNat else 0) = (if 5 ≤ x.op ∧ x.op ≠ 8 then sizeC c l x.b.toNat else 0) := by
  split
  · rename_i h; have := ok.b h.1 h.2; exact sizeF_stable hl c _ _ _ (by omega) (by omega)
  · rfl
 rw [ha, hb]
theorem size_le (c : Nat) (l : List Node) (i : Nat) : sizeC c l i ≤ c := by
 unfold sizeC sizeF
 split
 · exact Nat.zero_le _
 · exact Nat.min_le_right _ _
/-- A smaller cap. -/
theorem size_cap (hl : Valid letters l) {c d : Nat} (hcd : c ≤ d) : ∀ i, i < l.length → sizeC c l i = min (sizeC d l i) c := by
 intro i
 induction i using Nat.strongRecOn with
 | ind i ih =>
  intro hi
  have hx : l[i]? = some l[i] := List.getElem?_eq_getElem hi
  have ok := nodeOk_iff.1 (hl.node hx)
  rw [size_eq hl c hx, size_eq hl d hx]
  have ha : (if 5 ≤ l[i].op then sizeC c l l[i].a.toNat else 0) = min (if 5 ≤ l[i].op then sizeC d l l[i].a.toNat else 0) c := by
   split
   · rename_i h; have := ok.a h; exact ih _ (by omega) (by omega)
   · omega
  have hb : (if 5 ≤ l[i].op ∧ l[i].op ≠ 8 then sizeC c l l[i].b.toNat else 0) = min (if 5 ≤ l[i].op ∧ l[i].op ≠ 8 then sizeC d l l[i].b.toNat else 0) c := by
   split
   · rename_i h; have := ok.b h.1 h.2; exact ih _ (by omega) (by omega)
   · omega
  rw [ha, hb]
  omega
theorem deepF_stable (hl : Valid letters l) : ∀ (n m i : Nat), i < n → i < m → deepF l n i = deepF l m i := by
 intro n
 induction n with
 | zero => intro m i h; omega
 | succ n ih =>
  intro m i h1 h2
  obtain ⟨m, rfl⟩ : ∃ k, m = k + 1 := ⟨m - 1, by omega⟩
  unfold deepF
  cases hx : l[i]? with
  | none => rfl
  | some x =>
   have ok := nodeOk_iff.1 (hl.node hx)
   simp only
   split
   · rfl
   · split
     · rename_i h
       have := ok.a h.1; have := ok.b h.1 h.2
       rw [ih m x.a.toNat (by omega) (by omega), ih m x.b.toNat (by omega) (by omega)]
     · split
       · rename_i h
         have := ok.a h
         rw [ih m x.a.toNat (by omega) (by omega)]
       · rfl
theorem deep_eq (hl : Valid letters l) {i : Nat} {x : Node} (hx : l[i]? = some x) :
 deep l i = if x.op = 4 then 2 else if 5 ≤ x.op ∧ x.op ≠ 8 then max (deep l x.a.toNat + 1) (deep l x.b.toNat + 1) else if 5 ≤ x.op then deep l x.a.toNat + 1 else 1 := by
 have ok := nodeOk_iff.1 (hl.node hx)
 conv => lhs; unfold deep deepF
 rw [hx]
 simp only
 split
 · rfl
 · split
   · rename_i h
     have := ok.a h.1; have := ok.b h.1 h.2
     rw [deepF_stable hl i (x.a.toNat + 1) x.a.toNat (by omega) (by omega), deepF_stable hl i (x.b.toNat + 1) x.b.toNat (by omega) (by omega)]
     rfl
   · split
     · rename_i h
       have := ok.a h
       rw [deepF_stable hl i (x.a.toNat + 1) x.a.toNat (by omega) (by omega)]
       rfl
     · rfl
theorem deep_le (hl : Valid letters l) : ∀ i, i < l.length → deep l i ≤ i + 2 := by
 intro i
 induction i using Nat.strongRecOn with
 | ind i ih =>
  intro hi
  have hx : l[i]? = some l[i] := List.getElem?_eq_getElem hi
  have ok := nodeOk_iff.1 (hl.node hx)
  rw [deep_eq hl hx]
  split
  · omega
  · split
    · rename_i h
      have oa := ok.a h.1; have ob := ok.b h.1 h.2
      have := ih l[i].a.toNat (by omega) (by omega)
      have := ih l[i].b.toNat (by omega) (by omega)
      omega
    · split
      · rename_i h
        have oa := ok.a h
        have := ih l[i].a.toNat (by omega) (by omega)
        omega
      · omega
variable {C : CallF} {β : Type}
theorem meas3 (T : List V) (i : Nat) (n : Node) (S D : List Nat) (h : idx T (i : Int) = some n.v) (hS : i < S.length) (hD : i < D.length) (k : List V → List V → Int → Int → Int → Int → Option β) :
 s_starfree_measure_3 C T (i : Int) (natsV S) (natsV D) k = k (natsV (S.set i (if n.op = 4 then 2 else 1))) (natsV (D.set i (if n.op = 4 then 2 else 1))) n.op n.letter n.a n.b := by
 unfold s_starfree_measure_3
 rw [h]
 have e1 : (natsV S).set i (.int .i64 1) = natsV (S.set i 1) := natsV_set S i 1
 have e2 : (natsV D).set i (.int .i64 1) = natsV (D.set i 1) := natsV_set D i 1
 have e3 : (natsV (S.set i 1)).set i (.int .i64 2) = natsV ((S.set i 1).set i 2) := natsV_set _ i 2
 have e4 : (natsV (D.set i 1)).set i (.int .i64 2) = natsV ((D.set i 1).set i 2) := natsV_set _ i 2
 simp only [Option.bind_some, Node.v, V.cell_agg, V.nth_zero, V.nth_one, V.nth_two, V.nth_three, V.toInt_int, bif_and, bif_decide, bif_beq, Int.toNat_natCast, List.length_map, List.length_set, natsV_get hS, natsV_get hD, e1, e2, e3, e4]
 rw [if_pos (by omega), if_pos (by omega), if_pos (by omega), if_pos (by omega)]
 by_cases h4 : n.op = 4
 · rw [if_pos h4, if_pos (by omega), if_pos (by omega), natsV_of (n := 1) (List.getElem?_set_self hS), Option.bind_some, if_pos (by omega), if_pos (by omega), natsV_of (n := 1) (List.getElem?_set_self hD)]
   simp only [Option.bind_some, List.set_set, h4, if_true]
 · rw [if_neg h4]
   simp only [h4, if_false]
theorem meas4 (i : Nat) (n : Node) (S D : List Nat) (ok : NodeOk n i letters) (hS : i < S.length) (hD : i < D.length) (hSS : ∀ v ∈ S, v ≤ 4000000000) (hDD : ∀ v ∈ D, v ≤ 4000000000) (k : List V → List V → Option β) :
 s_starfree_measure_4 CC (i : Int) (natsV S) (natsV D) n.op n.a k = if 5 ≤ n.op then k (natsV (S.set i (S.getD i 0 + S.getD n.a.toNat 0))) (natsV (D.set i (D.getD n.a.toNat 0 + 1))) else k (natsV S) (natsV D) := by
 unfold s_starfree_measure_4
 simp only [parts_spec, Option.bind_some, V.toInt_int, bif_decide]
 by_cases h5 : 5 ≤ n.op
 · have oa := ok.a h5
   have hSa : n.a.toNat < S.length := by omega
   have hDa : n.a.toNat < D.length := by omega
   rw [if_pos (by rw [ge_iff_le, partsN_one ok.op]; exact h5), if_pos h5]
   simp only [bif_and, bif_decide, Int.toNat_natCast, List.length_map, natsV_get hS, natsV_get hD, natsV_get hSa, natsV_get hDa, Option.bind_some, V.toInt_int]
   rw [if_pos (by omega), if_pos (by omega), if_pos oa.1, if_pos (by omega), if_pos (by omega), if_pos (by omega), if_pos oa.1, if_pos (by omega), if_pos (by omega), if_pos (by omega)]
   have b1 := hSS _ (List.getElem_mem hS)
   have b2 := hSS _ (List.getElem_mem hSa)
   have b3 := hDD _ (List.getElem_mem hDa)
   have w1 : IntKind.wrap .i64 ((S[i] : Int) + (S[n.a.toNat] : Int)) = ((S.getD i 0 + S.getD n.a.toNat 0 : Nat) : Int) := by
    rw [wrap64 (by omega) (by omega), List.getD_eq_getElem?_getD, List.getD_eq_getElem?_getD, List.getElem?_eq_getElem hS, List.getElem?_eq_getElem hSa]
    rfl
   have w2 : IntKind.wrap .i64 ((D[n.a.toNat] : Int) + 1) = ((D.getD n.a.toNat 0 + 1 : Nat) : Int) := by
    rw [wrap64 (by omega) (by omega), List.getD_eq_getElem?_getD, List.getElem?_eq_getElem hDa]
    rfl
   rw [w1, w2, natsV_set, natsV_set]
 · rw [if_neg (by rw [ge_iff_le, partsN_one ok.op]; exact h5), if_neg h5]
theorem meas5 (i : Nat) (n : Node) (S D : List Nat) (ok : NodeOk n i letters) (hS : i < S.length) (hD : i < D.length) (hSS : ∀ v ∈ S, v ≤ 4000000000) (hDD : ∀ v ∈ D, v ≤ 4000000000) (k : List V → List V → Option β) :
 s_starfree_measure_5 CC (i : Int) (natsV S) (natsV D) n.op n.b k = if 5 ≤ n.op ∧ n.op ≠ 8 then k (natsV (S.set i (S.getD i 0 + S.getD n.b.toNat 0))) (natsV (D.set i (max (D.getD i 0) (D.getD n.b.toNat 0 + 1)))) else k (natsV S) (natsV D) := by
 unfold s_starfree_measure_5
 simp only [parts_spec, Option.bind_some, V.toInt_int, bif_beq]
 by_cases h5 : 5 ≤ n.op ∧ n.op ≠ 8
 · have ob := ok.b h5.1 h5.2
   have hSb : n.b.toNat < S.length := by omega
   have hDb : n.b.toNat < D.length := by omega
   rw [if_pos (by rw [partsN_two ok.op]; exact h5), if_pos h5]
   simp only [bif_and, bif_decide, Int.toNat_natCast, List.length_map, natsV_get hS, natsV_get hD, natsV_get hSb, natsV_get hDb, Option.bind_some, V.toInt_int]
   rw [if_pos (by omega), if_pos (by omega), if_pos ob.1, if_pos (by omega), if_pos (by omega), if_pos (by omega), if_pos (by omega), if_pos (by omega), if_pos ob.1, if_pos (by omega), if_pos (by omega), if_pos (by omega)]
   have b1 := hSS _ (List.getElem_mem hS)
   have b2 := hSS _ (List.getElem_mem hSb)
   have b3 := hDD _ (List.getElem_mem hDb)
   have w1 : IntKind.wrap .i64 ((S[i] : Int) + (S[n.b.toNat] : Int)) = ((S.getD i 0 + S.getD n.b.toNat 0 : Nat) : Int) := by
    rw [wrap64 (by omega) (by omega), List.getD_eq_getElem?_getD, List.getD_eq_getElem?_getD, List.getElem?_eq_getElem hS, List.getElem?_eq_getElem hSb]
    rfl
   have w2 : IntKind.wrap .i64 ((D[n.b.toNat] : Int) + 1) = ((D.getD n.b.toNat 0 + 1 : Nat) : Int) := by
    rw [wrap64 (by omega) (by omega), List.getD_eq_getElem?_getD, List.getElem?_eq_getElem hDb]
    rfl
   have w3 : (if ((D.getD n.b.toNat 0 + 1 : Nat) : Int) > (D[i] : Int) then ((D.getD n.b.toNat 0 + 1 : Nat) : Int) else (D[i] : Int)) = ((max (D.getD i 0) (D.getD n.b.toNat 0 + 1) : Nat) : Int) := by
    have e : D.getD i 0 = D[i] := by rw [List.getD_eq_getElem?_getD, List.getElem?_eq_getElem hD]; rfl
    rw [e]
    split <;> omega
   rw [w1, w2, w3, natsV_set, natsV_set]
 · rw [if_neg (by rw [partsN_two ok.op]; exact h5), if_neg h5]
end
end Go.AM

/-
 measure, whole.
-/
set_option linter.unusedSimpArgs false
namespace Go.AM
open Go.Proofs
theorem getD_set_self {S : List Nat} {i v : Nat} (h : i < S.length) : (S.set i v).getD i 0 = v := by
 rw [List.getD_eq_getElem?_getD, List.getElem?_set_self h]; rfl
theorem getD_set_ne {S : List Nat} {i j v : Nat} (h : i ≠ j) : (S.set i v).getD j 0 = S.getD j 0 := by
 rw [List.getD_eq_getElem?_getD, List.getElem?_set_ne h, List.getD_eq_getElem?_getD]
theorem mem_set_le {S : List Nat} {i v B : Nat} (hS : ∀ x ∈ S, x ≤ B) (hv : v ≤ B) : ∀ x ∈ S.set i v, x ≤ B := by
 intro x hx
 rcases List.mem_or_eq_of_mem_set hx with h | h
 · exact hS x h
 · omega
/-- One round of measure on plain lists. -/
def mRound (x : Node) (i : Nat) (S D : List Nat) : List Nat × List Nat :=
 let b := if x.op = 4 then 2 else 1
 let S1 := S.set i b
 let D1 := D.set i b
 let S2 := if 5 ≤ x.op then S1.set i (S1.getD i 0 + S1.getD x.a.toNat 0) else S1
 let D2 := if 5 ≤ x.op then D1.set i (D1.getD x.a.toNat 0 + 1) else D1
 let S3 := if 5 ≤ x.op ∧ x.op ≠ 8 then S2.set i (S2.getD i 0 + S2.getD x.b.toNat 0) else S2
 let D3 := if 5 ≤ x.op ∧ x.op ≠ 8 then D2.set i (max (D2.getD i 0) (D2.getD x.b.toNat 0 + 1)) else D2
 (S3, D3)
theorem mRound_eq {letters : Int} {x : Node} {i : Nat} {S D : List Nat} (ok : NodeOk x i letters) (hS : i < S.length) (hD : i < D.length) :
 mRound x i S D = (S.set i ((if x.op = 4 then 2 else 1) + (if 5 ≤ x.op then S.getD x.a.toNat 0 else 0) + (if 5 ≤ x.op ∧ x.op ≠ 8 then S.getD x.b.toNat 0 else 0)),
  D.set i (if x.op = 4 then 2 else if 5 ≤ x.op ∧ x.op ≠ 8 then max (D.getD x.a.toNat 0 + 1) (D.getD x.b.toNat 0 + 1) else if 5 ≤ x.op then D.getD x.a.toNat 0 + 1 else 1)) := by
 unfold mRound
 by_cases h5 : 5 ≤ x.op
 · have oa := ok.a h5
   have h4 : ¬ x.op = 4 := by omega
   by_cases h8 : x.op = 8
   · simp only [h5, h4, h8, ne_eq, not_true, and_false, if_true, if_false, getD_set_self hS, getD_set_self hD, getD_set_ne (show i ≠ x.a.toNat by omega), List.set_set, Nat.add_zero]
     simp
   · have ob := ok.b h5 h8
     have hS1 : i < (S.set i 1).length := by simp [hS]
     have hD1 : i < (D.set i 1).length := by simp [hD]
     simp only [h5, h4, h8, ne_eq, not_false_iff, and_self, if_true, if_false, getD_set_self hS, getD_set_self hS1, getD_set_self hD1, getD_set_self hD, getD_set_ne (show i ≠ x.a.toNat by omega), getD_set_ne (show i ≠ x.b.toNat by omega), List.set_set]
 · simp only [h5, false_and, if_false, Nat.add_zero]
theorem measure_round {letters : Int} {l T : List Node} (hl : Valid letters l) (hn : l.length ≤ 20000) {i : Nat} {x : Node} (hx : l[i]? = some x) (hT : idx (nodesV T) (i : Int) = some x.v) {S D : List Nat} {len : Nat} (hlen : i < len) (hSl : S.length = len) (hDl : D.length = len) (hll : len ≤ l.length)
 (hS : ∀ j, j < i → S.getD j 0 = sizeC 401 l j) (hD : ∀ j, j < i → D.getD j 0 = deep l j) (bS : ∀ v ∈ S, v ≤ 401) (bD : ∀ v ∈ D, v ≤ 20002) :
 s_starfree_measure_14L_step CC (nodesV T) (len : Int) ((i : Int), natsV S, natsV D) = some (.inl (((i + 1 : Nat) : Int), natsV (S.set i (sizeC 401 l i)), natsV (D.set i (deep l i)))) := by
 have ok := nodeOk_iff.1 (hl.node hx)
 unfold s_starfree_measure_14L_step
 simp only [bif_decide]
 rw [if_pos (by omega), meas3 _ i x S D hT (by omega) (by omega)]
 have b0 : (if x.op = 4 then 2 else 1) ≤ 2 := by split <;> omega
 have bS1 : ∀ v ∈ S.set i (if x.op = 4 then 2 else 1), v ≤ 401 := mem_set_le bS (by omega)
 have bD1 : ∀ v ∈ D.set i (if x.op = 4 then 2 else 1), v ≤ 20002 := mem_set_le bD (by omega)
 have gS : ∀ (S : List Nat) (B j : Nat), (∀ v ∈ S, v ≤ B) → S.getD j 0 ≤ B := by
  intro S B j h
  rw [List.getD_eq_getElem?_getD]
  cases hj : S[j]? with
  | none => exact Nat.zero_le _
  | some v => exact h v (List.mem_of_getElem? hj)
 -- the parts
 have step : ∀ {β : Type} (k : List V → List V → Option β), s_starfree_measure_4 CC (i : Int) (natsV (S.set i (if x.op = 4 then 2 else 1))) (natsV (D.set i (if x.op = 4 then 2 else 1))) x.op x.a (fun s d => s_starfree_measure_5 CC (i : Int) s d x.op x.b k) =
  k (natsV (mRound x i S D).1) (natsV (mRound x i S D).2) := by
  intro β k
  rw [meas4 i x _ _ ok (by simp; omega) (by simp; omega) (fun v hv => by have := bS1 v hv; omega) (fun v hv => by have := bD1 v hv; omega)]
  unfold mRound
  by_cases h5 : 5 ≤ x.op
  · rw [if_pos h5]
    rw [meas5 i x _ _ ok (by simp; omega) (by simp; omega)]
    · simp only [h5, if_true]
      split <;> rfl
    · refine mem_set_le (fun v hv => by have := bS1 v hv; omega) ?_
      have := gS _ 401 i bS1
      have := gS _ 401 x.a.toNat bS1
      omega
    · refine mem_set_le (fun v hv => by have := bD1 v hv; omega) ?_
      have := gS _ 20002 x.a.toNat bD1
      omega
  · rw [if_neg h5]
    rw [meas5 i x _ _ ok (by simp; omega) (by simp; omega) (fun v hv => by have := bS1 v hv; omega) (fun v hv => by have := bD1 v hv; omega)]
    simp only [h5, if_false]
    split <;> rfl
 rw [step, mRound_eq ok (by omega) (by omega)]
 simp only
 have hsz := size_eq hl 401 hx
 have hdp := deep_eq hl hx
 have ea : (if 5 ≤ x.op then S.getD x.a.toNat 0 else 0) = (if 5 ≤ x.op then sizeC 401 l x.a.toNat else 0) := by
  split
  · rename_i h; have := ok.a h; exact hS _ (by omega)
  · rfl
 have eb : (if 5 ≤ x.op ∧ x.op ≠ 8 then S.getD x.b.toNat 0 else 0) = (if 5 ≤ x.op ∧ x.op ≠ 8 then sizeC 401 l x.b.toNat else 0) := by
  split
  · rename_i h; have := ok.b h.1 h.2; exact hS _ (by omega)
  · rfl
 have ed : (if x.op = 4 then 2 else if 5 ≤ x.op ∧ x.op ≠ 8 then max (D.getD x.a.toNat 0 + 1) (D.getD x.b.toNat 0 + 1) else if 5 ≤ x.op then D.getD x.a.toNat 0 + 1 else 1) = deep l i := by
  rw [hdp]
  split
  · rfl
  · split
    · rename_i h
      have := ok.a h.1; have := ok.b h.1 h.2
      rw [hD _ (by omega), hD _ (by omega)]
    · split
      · rename_i h
        have := ok.a h
        rw [hD _ (by omega)]
      · rfl
 rw [ea, eb, ed]
 have hv := fun v => natsV_of (m := S.set i v) (n := v) (List.getElem?_set_self (show i < S.length by omega))
 simp only [bif_and, bif_decide, List.length_map, List.length_set, Int.toNat_natCast, hv, Option.bind_some, V.toInt_int]
 rw [if_pos (by omega), if_pos (by omega), if_pos (by omega), if_pos (by omega)]
 have ew : IntKind.wrap .i64 ((i : Int) + 1) = ((i + 1 : Nat) : Int) := by rw [wrap64 (by omega) (by omega)]; rfl
 rw [ew, hsz]
 generalize (if x.op = 4 then 2 else 1) + (if 5 ≤ x.op then sizeC 401 l x.a.toNat else 0) + (if 5 ≤ x.op ∧ x.op ≠ 8 then sizeC 401 l x.b.toNat else 0) = q
 have em : (if (401 : Int) < (q : Int) then (401 : Int) else (q : Int)) = ((min q 401 : Nat) : Int) := by split <;> omega
 rw [em, natsV_set, List.set_set]
theorem measure_spec (l : List Node) (root : Nat) (hv : Valid 6 l) (hl20 : l.length ≤ 20000) (hr : root < l.length) :
 CC F_starfree_measure [graphV l (root : Int)] [] = some (.tup [.int .i64 (sizeC 401 l root : Nat), .int .i64 (deep l root : Nat)], []) := by
 refine f_starfree_measure_of ?_
 unfold f_starfree_measure s_starfree_measure_14L
 have e1 : IntKind.wrap .i64 ((root : Int) + 1) = ((root + 1 : Nat) : Int) := by rw [wrap64 (by omega) (by omega)]; rfl
 have e2 : ((nodesV l).drop 0).take (root + 1 - 0) = nodesV (l.take (root + 1)) := by simp [List.map_take]
 simp only [e1, Int.toNat_natCast, e2, bif_and, bif_decide, bif_ble, List.length_map, List.length_take]
 have hmin : min (root + 1) l.length = root + 1 := by omega
 rw [hmin]
 have key := Loop_inv (step := s_starfree_measure_14L_step CC (nodesV (l.take (root + 1))) ((root + 1 : Nat) : Int))
  (fun s => ∃ (i : Nat) (S D : List Nat), i ≤ root + 1 ∧ S.length = root + 1 ∧ D.length = root + 1 ∧ (∀ j, j < i → S.getD j 0 = sizeC 401 l j) ∧ (∀ j, j < i → D.getD j 0 = deep l j) ∧ (∀ v ∈ S, v ≤ 401) ∧ (∀ v ∈ D, v ≤ 20002) ∧ s = ((i : Int), natsV S, natsV D))
  (fun s => ((root + 1 : Int) - s.1).toNat)
  (fun s => ∃ (j : Int) (b : Bool) (S D : List Nat), S.length = root + 1 ∧ D.length = root + 1 ∧ S.getD root 0 = sizeC 401 l root ∧ D.getD root 0 = deep l root ∧ s = (j, b, natsV S, natsV D)) (by
   rintro s ⟨i, S, D, h1, h2, h3, h4, h5, h6, h7, rfl⟩
   by_cases hi : i < root + 1
   · left
     have hx : l[i]? = some l[i] := List.getElem?_eq_getElem (by omega)
     have hget : (l.take (root + 1))[i]'(by simp; omega) = l[i] := by simp
     have := measure_round hv hl20 hx (T := l.take (root + 1)) (by rw [idx_map (n := i) rfl (by simp; omega), hget]) hi h2 h3 (by omega) h4 h5 h6 h7
     refine ⟨_, this, ⟨i + 1, S.set i (sizeC 401 l i), D.set i (deep l i), by omega, by simp [h2], by simp [h3], fun j hj => ?_, fun j hj => ?_, mem_set_le h6 (size_le _ _ _), mem_set_le h7 (by have := deep_le hv i (by omega); omega), rfl⟩, by simp; omega⟩
     · by_cases hji : j = i
       · subst hji; exact getD_set_self (by omega)
       · rw [getD_set_ne (by omega)]; exact h4 j (by omega)
     · by_cases hji : j = i
       · subst hji; exact getD_set_self (by omega)
       · rw [getD_set_ne (by omega)]; exact h5 j (by omega)
   · right
     unfold s_starfree_measure_14L_step
     simp only [bif_decide]
     rw [if_neg (by omega)]
     exact ⟨_, rfl, _, _, S, D, h2, h3, h4 root (by omega), h5 root (by omega), rfl⟩)
 have e3 : List.replicate (root + 1) (V.int .i64 0) = natsV (List.replicate (root + 1) 0) := by simp
 have hz : ∀ (B v : Nat), v ∈ List.replicate (root + 1) 0 → v ≤ B := by
  intro B v hv
  have := List.eq_of_mem_replicate hv
  omega
 obtain ⟨s, hs, j, b, S, D, hS1, hD1, hS2, hD2, rfl⟩ := key ((0 : Int), natsV (List.replicate (root + 1) 0), natsV (List.replicate (root + 1) 0)) ⟨0, _, _, by omega, by simp, by simp, fun j hj => by omega, fun j hj => by omega, hz 401, hz 20002, rfl⟩
 rw [e3, hs]
 have g1 : (natsV S)[root]? = some (.int .i64 ((sizeC 401 l root : Nat) : Int)) := by
  rw [← hS2, List.getD_eq_getElem?_getD, List.getElem?_eq_getElem (show root < S.length by omega)]
  exact natsV_of (List.getElem?_eq_getElem _)
 have g2 : (natsV D)[root]? = some (.int .i64 ((deep l root : Nat) : Int)) := by
  rw [← hD2, List.getD_eq_getElem?_getD, List.getElem?_eq_getElem (show root < D.length by omega)]
  exact natsV_of (List.getElem?_eq_getElem _)
 simp only [Option.bind_some, List.length_map, hS1, hD1, g1, g2, V.toInt_int]
 rw [if_pos (by omega), if_pos (by omega), if_pos (by unfold maxBytes; omega), if_pos (by omega), if_pos (by omega)]
 have t1 : (0 : Int) ≤ (root : Int) := by omega
 have t2 : (root : Int) < ((root + 1 : Nat) : Int) := by omega
 have t3 : (root + 1) * 8 ≤ maxBytes := by unfold maxBytes; omega
 have t4 : ((root + 1 : Nat) : Int) ≤ (l.length : Int) := by omega
 simp [t1, t3]
 omega
end Go.AM

set_option maxRecDepth 100000
namespace Go.AM
open Go.Proofs
/-! semigroup/semigroupref31.Measure -/
noncomputable def d41_1 (C : CallF) (g_Nodes : List V) {β : Type} (k0 : Option β) : Option β :=
 bif (decide (0 ≤ (g_Nodes.length : Int))) && ((decide ((g_Nodes.length : Int) ≤ (g_Nodes.length : Int))) && (Nat.ble ((((g_Nodes.length : Int) : Int).toNat) * 8) maxBytes)) then
  bif (decide (0 ≤ (g_Nodes.length : Int))) && ((decide ((g_Nodes.length : Int) ≤ (g_Nodes.length : Int))) && (Nat.ble ((((g_Nodes.length : Int) : Int).toNat) * 8) maxBytes)) then
   k0
  else none
 else none
noncomputable abbrev z41_0 (c0 : List V) (c1 c2 : Int) (c3 : List V) (c4 : Int) (c5 c6 : List V) : St :=
 mk [(1, .ptr 0 0 0), (4, .whole T_int 1), (5, .whole T_int 2), (17, .list T_api_SfNode c0), (18, .int .i64 c1), (19, .int .i64 c2)] [.var [.list T_api_SfNode c3, .int .i64 c4], .arr T_int c5 false, .arr T_int c6 false]
noncomputable abbrev q41_0 : List Code := codesAt Try.prog 41 [[0], [1, 0], [1, 1, 0, 0]]
noncomputable abbrev z41_1 (c0 : List V) (c1 : Int) : St :=
 mk [(0, .agg [.list T_api_SfNode c0, .int .i64 c1])] []
theorem h41_1_eq (C : CallF) (g_Nodes : List V) (g_Root : Int) {β : Type} (K : Out → St → Option β) :
 execL Try.prog ann C 41 114 0 (q41_0) (z41_1 g_Nodes g_Root) K =
  d41_1 C g_Nodes
   (K .norm (z41_0 g_Nodes (g_Nodes.length : Int) 0 g_Nodes g_Root (List.replicate (((g_Nodes.length : Int) : Int).toNat) (V.int .i64 0)) (List.replicate (((g_Nodes.length : Int) : Int).toNat) (V.int .i64 0)))) := by kernel_rfl
noncomputable def d41_2 (C : CallF) (t18 t19 : Int) {β : Type} (k0 : Option β) (k1 : Option β) : Option β :=
 bif decide ((t19 : Int) < t18) then
  k0
 else
  k1
noncomputable abbrev z41_2 (c0 : List V) (c1 c2 : Int) (c3 : Bool) (c4 : List V) (c5 : Int) (c6 c7 : List V) : St :=
 mk [(1, .ptr 0 0 0), (4, .whole T_int 1), (5, .whole T_int 2), (17, .list T_api_SfNode c0), (18, .int .i64 c1), (19, .int .i64 c2), (20, .bool c3)] [.var [.list T_api_SfNode c4, .int .i64 c5], .arr T_int c6 false, .arr T_int c7 false]
noncomputable abbrev q41_1 : List Code := codesAt Try.prog 41 [[1, 1, 0, 1, 0, 0, 0], [1, 1, 0, 1, 0, 0, 1, 0]]
theorem h41_2_eq (C : CallF) (t17 : List V) (t18 t19 : Int) (gs_0 : List V) (gs_1 : Int) (sizes deeps : List V) {β : Type} (K : Out → St → Option β) :
 execL Try.prog ann C 41 114 0 (q41_1) (z41_0 t17 t18 t19 gs_0 gs_1 sizes deeps) K =
  d41_2 C t18 t19
   (K .norm (z41_0 t17 t18 t19 gs_0 gs_1 sizes deeps))
   (K (.exit 0) (z41_2 t17 t18 t19 (decide ((t19 : Int) < t18)) gs_0 gs_1 sizes deeps)) := by kernel_rfl
noncomputable def s_semigroupref31_Measure_3 (C : CallF) (t17 : List V) (t19 : Int) (sizes deeps : List V) {β : Type} (k0 : (List V) → (List V) → Int → Int → Int → Int → Option β) : Option β :=
 (idx t17 t19).bind fun x95 =>
  bif (decide (0 ≤ t19)) && (decide (t19 < (sizes.length : Int))) then
   (sizes[(t19 : Int).toNat]?).bind fun x96 =>
    bif (decide (0 ≤ t19)) && (decide (t19 < (deeps.length : Int))) then
     (deeps[(t19 : Int).toNat]?).bind fun x97 =>
      bif (((x95.cell 0).toInt) : Int) == 4 then
       bif (decide (0 ≤ t19)) && (decide (t19 < ((sizes.set ((t19 : Int).toNat) (.int .i64 1)).length : Int))) then
        ((sizes.set ((t19 : Int).toNat) (.int .i64 1))[(t19 : Int).toNat]?).bind fun x98 =>
         bif (decide (0 ≤ t19)) && (decide (t19 < ((deeps.set ((t19 : Int).toNat) (.int .i64 1)).length : Int))) then
          ((deeps.set ((t19 : Int).toNat) (.int .i64 1))[(t19 : Int).toNat]?).bind fun x99 =>
           k0 ((sizes.set ((t19 : Int).toNat) (.int .i64 1)).set ((t19 : Int).toNat) (.int .i64 2)) ((deeps.set ((t19 : Int).toNat) (.int .i64 1)).set ((t19 : Int).toNat) (.int .i64 2)) ((x95.cell 0).toInt) ((x95.cell 1).toInt) ((x95.cell 2).toInt) ((x95.cell 3).toInt)
         else none
       else none
      else
       k0 (sizes.set ((t19 : Int).toNat) (.int .i64 1)) (deeps.set ((t19 : Int).toNat) (.int .i64 1)) ((x95.cell 0).toInt) ((x95.cell 1).toInt) ((x95.cell 2).toInt) ((x95.cell 3).toInt)
    else none
  else none
noncomputable abbrev z41_3 (c0 : Int) (c1 : List V) (c2 c3 : Int) (c4 : List V) (c5 : Int) (c6 c7 : List V) (c8 c9 c10 c11 : Int) : St :=
 mk [(1, .ptr 0 0 0), (4, .whole T_int 1), (5, .whole T_int 2), (6, .int .i64 c0), (7, .ptr 3 0 0), (17, .list T_api_SfNode c1), (18, .int .i64 c2), (19, .int .i64 c3)] [.var [.list T_api_SfNode c4, .int .i64 c5], .arr T_int c6 false, .arr T_int c7 false, .var [.int .i64 c8, .int .i64 c9, .int .i64 c10, .int .i64 c11]]
noncomputable abbrev q41_2 : List Code := codesAt Try.prog 41 [[1, 1, 0, 1, 0, 0, 1, 1, 0, 0, 0], [1, 1, 0, 1, 0, 0, 1, 1, 0, 0, 1, 0], [1, 1, 0, 1, 0, 0, 1, 1, 0, 0, 1, 1, 0, 0], [1, 1, 0, 1, 0, 0, 1, 1, 0, 0, 1, 1, 0, 1]]
theorem s_semigroupref31_Measure_3_eq (C : CallF) (t17 : List V) (t18 t19 : Int) (gs_0 : List V) (gs_1 : Int) (sizes deeps : List V) {β : Type} (K : Out → St → Option β) :
 execL Try.prog ann C 41 114 0 (q41_2) (z41_0 t17 t18 t19 gs_0 gs_1 sizes deeps) K =
  s_semigroupref31_Measure_3 C t17 t19 sizes deeps
   (fun (sizes0 : List V) (deeps0 : List V) (xs_00 : Int) (xs_10 : Int) (xs_20 : Int) (xs_30 : Int) => K .norm (z41_3 t19 t17 t18 t19 gs_0 gs_1 sizes0 deeps0 xs_00 xs_10 xs_20 xs_30)) := by kernel_rfl
noncomputable def s_semigroupref31_Measure_4 (C : CallF) (i : Int) (sizes deeps : List V) (xs_0 xs_2 : Int) {β : Type} (k0 : (List V) → (List V) → Option β) : Option β :=
 bif decide ((xs_0 : Int) ≥ 5) then
  bif (decide (0 ≤ xs_2)) && (decide (xs_2 < (sizes.length : Int))) then
   (sizes[(xs_2 : Int).toNat]?).bind fun x100 =>
    bif (decide (0 ≤ xs_2)) && (decide (xs_2 < (deeps.length : Int))) then
     (deeps[(xs_2 : Int).toNat]?).bind fun x101 =>
      bif (decide (0 ≤ i)) && (decide (i < (sizes.length : Int))) then
       (sizes[(i : Int).toNat]?).bind fun x102 =>
        bif (decide (0 ≤ i)) && (decide (i < (deeps.length : Int))) then
         (deeps[(i : Int).toNat]?).bind fun x103 =>
          k0 (sizes.set ((i : Int).toNat) (.int .i64 (IntKind.wrap .i64 (x100.toInt + 1)))) (deeps.set ((i : Int).toNat) (.int .i64 (IntKind.wrap .i64 (x101.toInt + 1))))
        else none
      else none
    else none
  else none
 else
  k0 sizes deeps
noncomputable abbrev q41_3 : List Code := codesAt Try.prog 41 [[1, 1, 0, 1, 0, 0, 1, 1, 0, 0, 1, 1, 1, 0, 0], [1, 1, 0, 1, 0, 0, 1, 1, 0, 0, 1, 1, 1, 0, 1]]
theorem s_semigroupref31_Measure_4_eq (C : CallF) (i : Int) (t17 : List V) (t18 t19 : Int) (gs_0 : List V) (gs_1 : Int) (sizes deeps : List V) (xs_0 xs_1 xs_2 xs_3 : Int) {β : Type} (K : Out → St → Option β) :
 execL Try.prog ann C 41 114 0 (q41_3) (z41_3 i t17 t18 t19 gs_0 gs_1 sizes deeps xs_0 xs_1 xs_2 xs_3) K =
  s_semigroupref31_Measure_4 C i sizes deeps xs_0 xs_2
   (fun (sizes0 : List V) (deeps0 : List V) => K .norm (z41_3 i t17 t18 t19 gs_0 gs_1 sizes0 deeps0 xs_0 xs_1 xs_2 xs_3)) := by kernel_rfl
noncomputable def s_semigroupref31_Measure_5 (C : CallF) (xs_0 : Int) {β : Type} (k0 : Bool → Option β) : Option β :=
 bif decide ((xs_0 : Int) ≥ 5) then
  k0 ((xs_0 : Int) != 8)
 else
  k0 false
noncomputable abbrev z41_4 (c0 : Int) (c1 : List V) (c2 c3 : Int) (c4 : Bool) (c5 : List V) (c6 : Int) (c7 c8 : List V) (c9 c10 c11 c12 : Int) : St :=
 mk [(1, .ptr 0 0 0), (4, .whole T_int 1), (5, .whole T_int 2), (6, .int .i64 c0), (7, .ptr 3 0 0), (17, .list T_api_SfNode c1), (18, .int .i64 c2), (19, .int .i64 c3), (67, .bool c4)] [.var [.list T_api_SfNode c5, .int .i64 c6], .arr T_int c7 false, .arr T_int c8 false, .var [.int .i64 c9, .int .i64 c10, .int .i64 c11, .int .i64 c12]]
noncomputable abbrev q41_4 : List Code := codesAt Try.prog 41 [[1, 1, 0, 1, 0, 0, 1, 1, 0, 0, 1, 1, 1, 1, 0, 0]]
theorem s_semigroupref31_Measure_5_eq (C : CallF) (i : Int) (t17 : List V) (t18 t19 : Int) (gs_0 : List V) (gs_1 : Int) (sizes deeps : List V) (xs_0 xs_1 xs_2 xs_3 : Int) {β : Type} (K : Out → St → Option β) :
 execL Try.prog ann C 41 114 0 (q41_4) (z41_3 i t17 t18 t19 gs_0 gs_1 sizes deeps xs_0 xs_1 xs_2 xs_3) K =
  s_semigroupref31_Measure_5 C xs_0
   (fun (t670 : Bool) => K .norm (z41_4 i t17 t18 t19 t670 gs_0 gs_1 sizes deeps xs_0 xs_1 xs_2 xs_3)) := by kernel_rfl
noncomputable def s_semigroupref31_Measure_6 (C : CallF) (i : Int) (t67 : Bool) (sizes deeps : List V) (xs_3 : Int) {β : Type} (k0 : (List V) → (List V) → Option β) : Option β :=
 bif t67 then
  bif (decide (0 ≤ i)) && (decide (i < (sizes.length : Int))) then
   (sizes[(i : Int).toNat]?).bind fun x104 =>
    bif (decide (0 ≤ xs_3)) && (decide (xs_3 < (sizes.length : Int))) then
     (sizes[(xs_3 : Int).toNat]?).bind fun x105 =>
      bif (decide (0 ≤ i)) && (decide (i < (deeps.length : Int))) then
       (deeps[(i : Int).toNat]?).bind fun x106 =>
        bif (decide (0 ≤ xs_3)) && (decide (xs_3 < (deeps.length : Int))) then
         (deeps[(xs_3 : Int).toNat]?).bind fun x107 =>
          bif (decide (0 ≤ i)) && (decide (i < (sizes.length : Int))) then
           (sizes[(i : Int).toNat]?).bind fun x108 =>
            bif (decide (0 ≤ i)) && (decide (i < (deeps.length : Int))) then
             (deeps[(i : Int).toNat]?).bind fun x109 =>
              k0 (sizes.set ((i : Int).toNat) (.int .i64 (IntKind.wrap .i64 (x104.toInt + x105.toInt)))) (deeps.set ((i : Int).toNat) (.int .i64 (if (IntKind.wrap .i64 (x107.toInt + 1)) > x106.toInt then (IntKind.wrap .i64 (x107.toInt + 1)) else x106.toInt)))
            else none
          else none
        else none
      else none
    else none
  else none
 else
  k0 sizes deeps
noncomputable abbrev z41_5 (c0 : Int) (c1 : List V) (c2 c3 : Int) (c4 : List V) (c5 : Int) (c6 c7 : List V) : St :=
 mk [(1, .ptr 0 0 0), (4, .whole T_int 1), (5, .whole T_int 2), (6, .int .i64 c0), (17, .list T_api_SfNode c1), (18, .int .i64 c2), (19, .int .i64 c3)] [.var [.list T_api_SfNode c4, .int .i64 c5], .arr T_int c6 false, .arr T_int c7 false]
noncomputable abbrev q41_5 : List Code := codesAt Try.prog 41 [[1, 1, 0, 1, 0, 0, 1, 1, 0, 0, 1, 1, 1, 1, 0, 1]]
theorem s_semigroupref31_Measure_6_eq (C : CallF) (i : Int) (t17 : List V) (t18 t19 : Int) (t67 : Bool) (gs_0 : List V) (gs_1 : Int) (sizes deeps : List V) (xs_0 xs_1 xs_2 xs_3 : Int) {β : Type} (K : Out → St → Option β) :
 execL Try.prog ann C 41 114 0 (q41_5) (z41_4 i t17 t18 t19 t67 gs_0 gs_1 sizes deeps xs_0 xs_1 xs_2 xs_3) K =
  s_semigroupref31_Measure_6 C i t67 sizes deeps xs_3
   (fun (sizes0 : List V) (deeps0 : List V) => K .norm (z41_5 i t17 t18 t19 gs_0 gs_1 sizes0 deeps0)) := by kernel_rfl
noncomputable def d41_7 (C : CallF) (i : Int) (sizes : List V) {β : Type} (k0 : (List V) → Option β) : Option β :=
 bif (decide (0 ≤ i)) && (decide (i < (sizes.length : Int))) then
  (sizes[(i : Int).toNat]?).bind fun x110 =>
   bif (decide (0 ≤ i)) && (decide (i < (sizes.length : Int))) then
    (sizes[(i : Int).toNat]?).bind fun x111 =>
     k0 (sizes.set ((i : Int).toNat) (.int .i64 (if 1073741824 < x110.toInt then 1073741824 else x110.toInt)))
   else none
 else none
noncomputable abbrev q41_6 : List Code := codesAt Try.prog 41 [[1, 1, 0, 1, 0, 0, 1, 1, 0, 0, 1, 1, 1, 1, 1]]
theorem h41_7_eq (C : CallF) (i : Int) (t17 : List V) (t18 t19 : Int) (gs_0 : List V) (gs_1 : Int) (sizes deeps : List V) {β : Type} (K : Out → St → Option β) :
 execL Try.prog ann C 41 114 0 (q41_6) (z41_5 i t17 t18 t19 gs_0 gs_1 sizes deeps) K =
  d41_7 C i sizes
   (fun (sizes0 : List V) => K .norm (z41_0 t17 t18 t19 gs_0 gs_1 sizes0 deeps)) := by kernel_rfl
noncomputable def d41_8 (C : CallF) (i : Int) (t67 : Bool) (sizes deeps : List V) (xs_3 : Int) {β : Type} (k0 : (List V) → (List V) → Option β) : Option β :=
 s_semigroupref31_Measure_6 C i t67 sizes deeps xs_3
  (fun (sizes_112 : List V) (deeps_113 : List V) =>
   d41_7 C i sizes_112
    (fun (sizes_114 : List V) =>
     k0 sizes_114 deeps_113))
noncomputable abbrev q41_7 : List Code := codesAt Try.prog 41 [[1, 1, 0, 1, 0, 0, 1, 1, 0, 0, 1, 1, 1, 1, 0, 1], [1, 1, 0, 1, 0, 0, 1, 1, 0, 0, 1, 1, 1, 1, 1]]
theorem h41_8_eq (C : CallF) (i : Int) (t17 : List V) (t18 t19 : Int) (t67 : Bool) (gs_0 : List V) (gs_1 : Int) (sizes deeps : List V) (xs_0 xs_1 xs_2 xs_3 : Int) {β : Type} (K : Out → St → Option β) :
 execL Try.prog ann C 41 114 0 (q41_7) (z41_4 i t17 t18 t19 t67 gs_0 gs_1 sizes deeps xs_0 xs_1 xs_2 xs_3) K =
  d41_8 C i t67 sizes deeps xs_3
   (fun (sizes0 : List V) (deeps0 : List V) => K .norm (z41_0 t17 t18 t19 gs_0 gs_1 sizes0 deeps0)) := by
 refine Eq.trans (execL_app (P := Try.prog) (A := ann) (C := C) (f := 41) (n := 114) (m := 0) (q41_5) (q41_6) (st := z41_4 i t17 t18 t19 t67 gs_0 gs_1 sizes deeps xs_0 xs_1 xs_2 xs_3) (K := K)) (Eq.trans (s_semigroupref31_Measure_6_eq C i t17 t18 t19 t67 gs_0 gs_1 sizes deeps xs_0 xs_1 xs_2 xs_3 (seqK Try.prog ann C 41 114 0 (q41_6) K)) ?_)
 · exact Eq.trans (by kernel_rfl) (Eq.trans (congrArg (fun HOLE : (List V) → (List V) → Option β => s_semigroupref31_Measure_6 C i t67 sizes deeps xs_3 HOLE) (funext fun (sizes0 : List V) => funext fun (deeps0 : List V) => h41_7_eq C i t17 t18 t19 gs_0 gs_1 sizes0 deeps0 K)) ((by kernel_rfl)))
noncomputable def d41_9 (C : CallF) (i : Int) (sizes deeps : List V) (xs_0 xs_3 : Int) {β : Type} (k0 : (List V) → (List V) → Option β) : Option β :=
 s_semigroupref31_Measure_5 C xs_0
  (fun (t_117 : Bool) =>
   d41_8 C i t_117 sizes deeps xs_3
    (fun (sizes_118 : List V) (deeps_119 : List V) =>
     k0 sizes_118 deeps_119))
noncomputable abbrev q41_8 : List Code := codesAt Try.prog 41 [[1, 1, 0, 1, 0, 0, 1, 1, 0, 0, 1, 1, 1, 1, 0, 0], [1, 1, 0, 1, 0, 0, 1, 1, 0, 0, 1, 1, 1, 1, 0, 1], [1, 1, 0, 1, 0, 0, 1, 1, 0, 0, 1, 1, 1, 1, 1]]
theorem h41_9_eq (C : CallF) (i : Int) (t17 : List V) (t18 t19 : Int) (gs_0 : List V) (gs_1 : Int) (sizes deeps : List V) (xs_0 xs_1 xs_2 xs_3 : Int) {β : Type} (K : Out → St → Option β) :
 execL Try.prog ann C 41 114 0 (q41_8) (z41_3 i t17 t18 t19 gs_0 gs_1 sizes deeps xs_0 xs_1 xs_2 xs_3) K =
  d41_9 C i sizes deeps xs_0 xs_3
   (fun (sizes0 : List V) (deeps0 : List V) => K .norm (z41_0 t17 t18 t19 gs_0 gs_1 sizes0 deeps0)) := by
 refine Eq.trans (execL_app (P := Try.prog) (A := ann) (C := C) (f := 41) (n := 114) (m := 0) (q41_4) (q41_7) (st := z41_3 i t17 t18 t19 gs_0 gs_1 sizes deeps xs_0 xs_1 xs_2 xs_3) (K := K)) (Eq.trans (s_semigroupref31_Measure_5_eq C i t17 t18 t19 gs_0 gs_1 sizes deeps xs_0 xs_1 xs_2 xs_3 (seqK Try.prog ann C 41 114 0 (q41_7) K)) ?_)
 · exact Eq.trans (by kernel_rfl) (Eq.trans (congrArg (fun HOLE : Bool → Option β => s_semigroupref31_Measure_5 C xs_0 HOLE) (funext fun (t670 : Bool) => h41_8_eq C i t17 t18 t19 t670 gs_0 gs_1 sizes deeps xs_0 xs_1 xs_2 xs_3 K)) ((by kernel_rfl)))
noncomputable def d41_10 (C : CallF) (i : Int) (sizes deeps : List V) (xs_0 xs_2 xs_3 : Int) {β : Type} (k0 : (List V) → (List V) → Option β) : Option β :=
 s_semigroupref31_Measure_4 C i sizes deeps xs_0 xs_2
  (fun (sizes_121 : List V) (deeps_122 : List V) =>
   d41_9 C i sizes_121 deeps_122 xs_0 xs_3
    (fun (sizes_123 : List V) (deeps_124 : List V) =>
     k0 sizes_123 deeps_124))
noncomputable abbrev q41_9 : List Code := codesAt Try.prog 41 [[1, 1, 0, 1, 0, 0, 1, 1, 0, 0, 1, 1, 1, 0, 0], [1, 1, 0, 1, 0, 0, 1, 1, 0, 0, 1, 1, 1, 0, 1], [1, 1, 0, 1, 0, 0, 1, 1, 0, 0, 1, 1, 1, 1, 0, 0], [1, 1, 0, 1, 0, 0, 1, 1, 0, 0, 1, 1, 1, 1, 0, 1], [1, 1, 0, 1, 0, 0, 1, 1, 0, 0, 1, 1, 1, 1, 1]]
theorem h41_10_eq (C : CallF) (i : Int) (t17 : List V) (t18 t19 : Int) (gs_0 : List V) (gs_1 : Int) (sizes deeps : List V) (xs_0 xs_1 xs_2 xs_3 : Int) {β : Type} (K : Out → St → Option β) :
 execL Try.prog ann C 41 114 0 (q41_9) (z41_3 i t17 t18 t19 gs_0 gs_1 sizes deeps xs_0 xs_1 xs_2 xs_3) K =
  d41_10 C i sizes deeps xs_0 xs_2 xs_3
   (fun (sizes0 : List V) (deeps0 : List V) => K .norm (z41_0 t17 t18 t19 gs_0 gs_1 sizes0 deeps0)) := by
 refine Eq.trans (execL_app (P := Try.prog) (A := ann) (C := C) (f := 41) (n := 114) (m := 0) (q41_3) (q41_8) (st := z41_3 i t17 t18 t19 gs_0 gs_1 sizes deeps xs_0 xs_1 xs_2 xs_3) (K := K)) (Eq.trans (s_semigroupref31_Measure_4_eq C i t17 t18 t19 gs_0 gs_1 sizes deeps xs_0 xs_1 xs_2 xs_3 (seqK Try.prog ann C 41 114 0 (q41_8) K)) ?_)
 · exact Eq.trans (by kernel_rfl) (Eq.trans (congrArg (fun HOLE : (List V) → (List V) → Option β => s_semigroupref31_Measure_4 C i sizes deeps xs_0 xs_2 HOLE) (funext fun (sizes0 : List V) => funext fun (deeps0 : List V) => h41_9_eq C i t17 t18 t19 gs_0 gs_1 sizes0 deeps0 xs_0 xs_1 xs_2 xs_3 K)) ((by kernel_rfl)))
noncomputable def d41_11 (C : CallF) (t17 : List V) (t19 : Int) (sizes deeps : List V) {β : Type} (k0 : (List V) → (List V) → Option β) : Option β :=
 s_semigroupref31_Measure_3 C t17 t19 sizes deeps
  (fun (sizes_127 : List V) (deeps_128 : List V) (xs_129 : Int) (xs_130 : Int) (xs_131 : Int) (xs_132 : Int) =>
   d41_10 C t19 sizes_127 deeps_128 xs_129 xs_131 xs_132
    (fun (sizes_133 : List V) (deeps_134 : List V) =>
     k0 sizes_133 deeps_134))
noncomputable abbrev q41_10 : List Code := codesAt Try.prog 41 [[1, 1, 0, 1, 0, 0, 1, 1, 0, 0, 0], [1, 1, 0, 1, 0, 0, 1, 1, 0, 0, 1, 0], [1, 1, 0, 1, 0, 0, 1, 1, 0, 0, 1, 1, 0, 0], [1, 1, 0, 1, 0, 0, 1, 1, 0, 0, 1, 1, 0, 1], [1, 1, 0, 1, 0, 0, 1, 1, 0, 0, 1, 1, 1, 0, 0], [1, 1, 0, 1, 0, 0, 1, 1, 0, 0, 1, 1, 1, 0, 1], [1, 1, 0, 1, 0, 0, 1, 1, 0, 0, 1, 1, 1, 1, 0, 0], [1, 1, 0, 1, 0, 0, 1, 1, 0, 0, 1, 1, 1, 1, 0, 1], [1, 1, 0, 1, 0, 0, 1, 1, 0, 0, 1, 1, 1, 1, 1]]
theorem h41_11_eq (C : CallF) (t17 : List V) (t18 t19 : Int) (gs_0 : List V) (gs_1 : Int) (sizes deeps : List V) {β : Type} (K : Out → St → Option β) :
 execL Try.prog ann C 41 114 0 (q41_10) (z41_0 t17 t18 t19 gs_0 gs_1 sizes deeps) K =
  d41_11 C t17 t19 sizes deeps
   (fun (sizes0 : List V) (deeps0 : List V) => K .norm (z41_0 t17 t18 t19 gs_0 gs_1 sizes0 deeps0)) := by
 refine Eq.trans (execL_app (P := Try.prog) (A := ann) (C := C) (f := 41) (n := 114) (m := 0) (q41_2) (q41_9) (st := z41_0 t17 t18 t19 gs_0 gs_1 sizes deeps) (K := K)) (Eq.trans (s_semigroupref31_Measure_3_eq C t17 t18 t19 gs_0 gs_1 sizes deeps (seqK Try.prog ann C 41 114 0 (q41_9) K)) ?_)
 · exact Eq.trans (by kernel_rfl) (Eq.trans (congrArg (fun HOLE : (List V) → (List V) → Int → Int → Int → Int → Option β => s_semigroupref31_Measure_3 C t17 t19 sizes deeps HOLE) (funext fun (sizes0 : List V) => funext fun (deeps0 : List V) => funext fun (xs_00 : Int) => funext fun (xs_10 : Int) => funext fun (xs_20 : Int) => funext fun (xs_30 : Int) => h41_10_eq C t19 t17 t18 t19 gs_0 gs_1 sizes0 deeps0 xs_00 xs_10 xs_20 xs_30 K)) ((by kernel_rfl)))
noncomputable def d41_12 (C : CallF) (t17 : List V) (t19 : Int) (sizes deeps : List V) {β : Type} (k0 : (List V) → (List V) → Option β) : Option β :=
 d41_11 C t17 t19 sizes deeps
  (fun (sizes_141 : List V) (deeps_142 : List V) =>
   k0 sizes_141 deeps_142)
noncomputable abbrev q41_11 : List Code := codesAt Try.prog 41 [[1, 1, 0, 1, 0, 0, 1, 1, 0]]
theorem h41_12_eq (C : CallF) (t17 : List V) (t18 t19 : Int) (gs_0 : List V) (gs_1 : Int) (sizes deeps : List V) {β : Type} (K : Out → St → Option β) :
 execL Try.prog ann C 41 114 0 (q41_11) (z41_0 t17 t18 t19 gs_0 gs_1 sizes deeps) K =
  d41_12 C t17 t19 sizes deeps
   (fun (sizes0 : List V) (deeps0 : List V) => K .norm (z41_0 t17 t18 t19 gs_0 gs_1 sizes0 deeps0)) := Eq.trans (execL_block (P := Try.prog) (A := ann) (C := C) (f := 41) (n := 114) (m := 0) (id := 1) (c := codeAt [1, 1, 0, 1, 0, 0, 1, 1, 0] (bodyOf Try.prog 41)) (d := codeAt [1, 1, 0, 1, 0, 0, 1, 1, 0, 0] (bodyOf Try.prog 41)) (l := q41_10) (st := z41_0 t17 t18 t19 gs_0 gs_1 sizes deeps) (K := K) (by kernel_rfl) (by kernel_rfl)) (Eq.trans (h41_11_eq C t17 t18 t19 gs_0 gs_1 sizes deeps (blockK ann 41 0 1 K)) (by kernel_rfl))
noncomputable def d41_13 (C : CallF)  {β : Type} (k0 : Option β) : Option β :=
 k0
noncomputable abbrev q41_12 : List Code := codesAt Try.prog 41 [[1, 1, 0, 1, 0, 0, 1, 1, 1]]
theorem h41_13_eq (C : CallF) (t17 : List V) (t18 t19 : Int) (gs_0 : List V) (gs_1 : Int) (sizes deeps : List V) {β : Type} (K : Out → St → Option β) :
 execL Try.prog ann C 41 114 0 (q41_12) (z41_0 t17 t18 t19 gs_0 gs_1 sizes deeps) K =
  d41_13 C
   (K .norm (z41_0 t17 t18 (IntKind.wrap .i64 (t19 + 1)) gs_0 gs_1 sizes deeps)) := by kernel_rfl
noncomputable def d41_14 (C : CallF) (t17 : List V) (t19 : Int) (sizes deeps : List V) {β : Type} (k0 : (List V) → (List V) → Option β) : Option β :=
 d41_12 C t17 t19 sizes deeps
  (fun (sizes_143 : List V) (deeps_144 : List V) =>
   d41_13 C
    (
     k0 sizes_143 deeps_144))
noncomputable abbrev q41_13 : List Code := codesAt Try.prog 41 [[1, 1, 0, 1, 0, 0, 1, 1, 0], [1, 1, 0, 1, 0, 0, 1, 1, 1]]
theorem h41_14_eq (C : CallF) (t17 : List V) (t18 t19 : Int) (gs_0 : List V) (gs_1 : Int) (sizes deeps : List V) {β : Type} (K : Out → St → Option β) :
 execL Try.prog ann C 41 114 0 (q41_13) (z41_0 t17 t18 t19 gs_0 gs_1 sizes deeps) K =
  d41_14 C t17 t19 sizes deeps
   (fun (sizes0 : List V) (deeps0 : List V) => K .norm (z41_0 t17 t18 (IntKind.wrap .i64 (t19 + 1)) gs_0 gs_1 sizes0 deeps0)) := by
 refine Eq.trans (execL_app (P := Try.prog) (A := ann) (C := C) (f := 41) (n := 114) (m := 0) (q41_11) (q41_12) (st := z41_0 t17 t18 t19 gs_0 gs_1 sizes deeps) (K := K)) (Eq.trans (h41_12_eq C t17 t18 t19 gs_0 gs_1 sizes deeps (seqK Try.prog ann C 41 114 0 (q41_12) K)) ?_)
 · exact Eq.trans (by kernel_rfl) (Eq.trans (congrArg (fun HOLE : (List V) → (List V) → Option β => d41_12 C t17 t19 sizes deeps HOLE) (funext fun (sizes0 : List V) => funext fun (deeps0 : List V) => h41_13_eq C t17 t18 t19 gs_0 gs_1 sizes0 deeps0 K)) ((by kernel_rfl)))
noncomputable def d41_15 (C : CallF) (t17 : List V) (t18 t19 : Int) (sizes deeps : List V) {β : Type} (k0 : (List V) → (List V) → Option β) (k1 : Option β) : Option β :=
 d41_2 C t18 t19
  (
   d41_14 C t17 t19 sizes deeps
    (fun (sizes_145 : List V) (deeps_146 : List V) =>
     k0 sizes_145 deeps_146))
  (
   k1)
noncomputable abbrev q41_14 : List Code := codesAt Try.prog 41 [[1, 1, 0, 1, 0, 0, 0], [1, 1, 0, 1, 0, 0, 1, 0], [1, 1, 0, 1, 0, 0, 1, 1, 0], [1, 1, 0, 1, 0, 0, 1, 1, 1]]
theorem h41_15_eq (C : CallF) (t17 : List V) (t18 t19 : Int) (gs_0 : List V) (gs_1 : Int) (sizes deeps : List V) {β : Type} (K : Out → St → Option β) :
 execL Try.prog ann C 41 114 0 (q41_14) (z41_0 t17 t18 t19 gs_0 gs_1 sizes deeps) K =
  d41_15 C t17 t18 t19 sizes deeps
   (fun (sizes0 : List V) (deeps0 : List V) => K .norm (z41_0 t17 t18 (IntKind.wrap .i64 (t19 + 1)) gs_0 gs_1 sizes0 deeps0))
   (K (.exit 0) (z41_2 t17 t18 t19 (decide ((t19 : Int) < t18)) gs_0 gs_1 sizes deeps)) := by
 refine Eq.trans (execL_app (P := Try.prog) (A := ann) (C := C) (f := 41) (n := 114) (m := 0) (q41_1) (q41_13) (st := z41_0 t17 t18 t19 gs_0 gs_1 sizes deeps) (K := K)) (Eq.trans (h41_2_eq C t17 t18 t19 gs_0 gs_1 sizes deeps (seqK Try.prog ann C 41 114 0 (q41_13) K)) ?_)
 · exact Eq.trans (by kernel_rfl) (Eq.trans (congrArg (fun HOLE : Option β => d41_2 C t18 t19 HOLE (K (.exit 0) (z41_2 t17 t18 t19 (decide ((t19 : Int) < t18)) gs_0 gs_1 sizes deeps))) (h41_14_eq C t17 t18 t19 gs_0 gs_1 sizes deeps K)) ((by kernel_rfl)))
noncomputable def s_semigroupref31_Measure_16L_step (C : CallF) (t17 : List V) (t18 : Int) : (Int × (List V) × (List V)) → Option ((Int × (List V) × (List V)) ⊕ ((Int × Bool × (List V) × (List V)))) := fun (t19, sizes, deeps) =>
 bif decide ((t19 : Int) < t18) then
  s_semigroupref31_Measure_3 C t17 t19 sizes deeps
   (fun (sizes_135 : List V) (deeps_136 : List V) (xs_137 : Int) (xs_138 : Int) (xs_139 : Int) (xs_140 : Int) =>
    s_semigroupref31_Measure_4 C t19 sizes_135 deeps_136 xs_137 xs_139
     (fun (sizes_125 : List V) (deeps_126 : List V) =>
      s_semigroupref31_Measure_5 C xs_137
       (fun (t_120 : Bool) =>
        s_semigroupref31_Measure_6 C t19 t_120 sizes_125 deeps_126 xs_140
         (fun (sizes_115 : List V) (deeps_116 : List V) =>
          bif (decide (0 ≤ t19)) && (decide (t19 < (sizes_115.length : Int))) then
           (sizes_115[(t19 : Int).toNat]?).bind fun x110 =>
            bif (decide (0 ≤ t19)) && (decide (t19 < (sizes_115.length : Int))) then
             (sizes_115[(t19 : Int).toNat]?).bind fun x111 =>
              some (.inl (IntKind.wrap .i64 (t19 + 1), (sizes_115.set ((t19 : Int).toNat) (.int .i64 (if 1073741824 < x110.toInt then 1073741824 else x110.toInt))), deeps_116))
            else none
          else none))))
 else
  some (.inr (t19, decide ((t19 : Int) < t18), sizes, deeps))
noncomputable def s_semigroupref31_Measure_16L (C : CallF) (t17 : List V) (t18 t19 : Int) (sizes deeps : List V) {β : Type} (k0 : Int → Bool → (List V) → (List V) → Option β) : Option β :=
 (Loop (s_semigroupref31_Measure_16L_step C t17 t18) (t19, sizes, deeps)).bind fun (t190, t200, sizes0, deeps0) => k0 t190 t200 sizes0 deeps0
noncomputable def s_semigroupref31_Measure_16L_dec : Out → St → Option ((Int × (List V) × (List V)) ⊕ ((Int × Bool × (List V) × (List V)))) := fun o st => match o with
 | .norm => some (.inl (V.toInt (st.sl 19), arrOf (st.hp 1), arrOf (st.hp 2)))
 | .exit q => bif Nat.beq q 0 then some (.inr (V.toInt (st.sl 19), V.toBool (st.sl 20), arrOf (st.hp 1), arrOf (st.hp 2))) else none
 | .ret => none
noncomputable def s_semigroupref31_Measure_16L_hd (t17 : List V) (t18 : Int) (gs_0 : List V) (gs_1 : Int) : (Int × (List V) × (List V)) → St := fun (t19, sizes, deeps) => z41_0 t17 t18 t19 gs_0 gs_1 sizes deeps
noncomputable def s_semigroupref31_Measure_16L_enc (t17 : List V) (t18 : Int) (gs_0 : List V) (gs_1 : Int) : ((Int × Bool × (List V) × (List V))) → Out × St := fun (t190, t200, sizes0, deeps0) => (.exit 0, z41_2 t17 t18 t190 t200 gs_0 gs_1 sizes0 deeps0)
theorem s_semigroupref31_Measure_16L_eq (C : CallF) (t17 : List V) (t18 t19 : Int) (gs_0 : List V) (gs_1 : Int) (sizes deeps : List V) {β : Type} (K : Out → St → Option β) :
 execL Try.prog ann C 41 114 0 (codesAt Try.prog 41 [[1, 1, 0, 1, 0]]) (z41_0 t17 t18 t19 gs_0 gs_1 sizes deeps) K =
  s_semigroupref31_Measure_16L C t17 t18 t19 sizes deeps
   (fun (t190 : Int) (t200 : Bool) (sizes0 : List V) (deeps0 : List V) => K (.exit 0) (z41_2 t17 t18 t190 t200 gs_0 gs_1 sizes0 deeps0)) := by
 have hitems : flatC (codeAt [1, 1, 0, 1, 0, 0] (bodyOf Try.prog 41)) = q41_14 := by kernel_rfl
 have hloop : [codeAt [1, 1, 0, 1, 0] (bodyOf Try.prog 41)] = [Code.loop (codeAt [1, 1, 0, 1, 0, 0] (bodyOf Try.prog 41))] := by kernel_rfl
 have h := loopK_eq (P := Try.prog) (A := ann) (C := C) (f := 41) (n := 114) (m := 0) (c := codeAt [1, 1, 0, 1, 0, 0] (bodyOf Try.prog 41)) (s_semigroupref31_Measure_16L_hd t17 t18 gs_0 gs_1) (s_semigroupref31_Measure_16L_enc t17 t18 gs_0 gs_1) s_semigroupref31_Measure_16L_dec (s_semigroupref31_Measure_16L_step C t17 t18)
  (by rintro ⟨t19, sizes, deeps⟩; exact Eq.trans (execK_items hitems) (Eq.trans (h41_15_eq C t17 t18 t19 gs_0 gs_1 sizes deeps s_semigroupref31_Measure_16L_dec) (by kernel_rfl)))
  (by rintro ⟨t19, sizes, deeps⟩; exact Eq.trans (execK_items hitems) (Eq.trans (h41_15_eq C t17 t18 t19 gs_0 gs_1 sizes deeps (fun o st => some (o, st))) (Eq.trans (by kernel_rfl) (Eq.trans (h41_15_eq C t17 t18 t19 gs_0 gs_1 sizes deeps (fun o st => (s_semigroupref31_Measure_16L_dec o st).map (outS (s_semigroupref31_Measure_16L_hd t17 t18 gs_0 gs_1) (s_semigroupref31_Measure_16L_enc t17 t18 gs_0 gs_1)))).symm (execK_items hitems).symm))))
  (by intro r; intro h; cases h) (t19, sizes, deeps) K
 refine Eq.trans (congrArg (fun l => execL Try.prog ann C 41 114 0 l (z41_0 t17 t18 t19 gs_0 gs_1 sizes deeps) K) hloop) (Eq.trans h ?_)
 · refine congrArg _ (funext fun r => ?_)
   rfl
noncomputable def d41_17 (C : CallF) (t17 : List V) (t18 t19 : Int) (sizes deeps : List V) {β : Type} (k0 : (List V) → (List V) → Option β) : Option β :=
 s_semigroupref31_Measure_16L C t17 t18 t19 sizes deeps
  (fun (t_147 : Int) (t_148 : Bool) (sizes_149 : List V) (deeps_150 : List V) =>
   k0 sizes_149 deeps_150)
noncomputable abbrev z41_6 (c0 : List V) (c1 : Int) (c2 c3 : List V) : St :=
 mk [(1, .ptr 0 0 0), (4, .whole T_int 1), (5, .whole T_int 2)] [.var [.list T_api_SfNode c0, .int .i64 c1], .arr T_int c2 false, .arr T_int c3 false]
theorem h41_17_eq (C : CallF) (t17 : List V) (t18 t19 : Int) (gs_0 : List V) (gs_1 : Int) (sizes deeps : List V) {β : Type} (K : Out → St → Option β) :
 execL Try.prog ann C 41 114 0 (codesAt Try.prog 41 [[1, 1, 0, 1]]) (z41_0 t17 t18 t19 gs_0 gs_1 sizes deeps) K =
  d41_17 C t17 t18 t19 sizes deeps
   (fun (sizes0 : List V) (deeps0 : List V) => K .norm (z41_6 gs_0 gs_1 sizes0 deeps0)) := Eq.trans (execL_block (P := Try.prog) (A := ann) (C := C) (f := 41) (n := 114) (m := 0) (id := 0) (c := codeAt [1, 1, 0, 1] (bodyOf Try.prog 41)) (d := codeAt [1, 1, 0, 1, 0] (bodyOf Try.prog 41)) (l := codesAt Try.prog 41 [[1, 1, 0, 1, 0]]) (st := z41_0 t17 t18 t19 gs_0 gs_1 sizes deeps) (K := K) (by kernel_rfl) (by kernel_rfl)) (Eq.trans (s_semigroupref31_Measure_16L_eq C t17 t18 t19 gs_0 gs_1 sizes deeps (blockK ann 41 0 0 K)) (by kernel_rfl))
noncomputable def d41_18 (C : CallF) (gs_1 : Int) (sizes deeps : List V) {β : Type} (k0 : Int → Int → Option β) : Option β :=
 bif (decide (0 ≤ gs_1)) && (decide (gs_1 < (sizes.length : Int))) then
  (sizes[(gs_1 : Int).toNat]?).bind fun x157 =>
   bif (decide (0 ≤ gs_1)) && (decide (gs_1 < (deeps.length : Int))) then
    (deeps[(gs_1 : Int).toNat]?).bind fun x158 =>
     k0 x157.toInt x158.toInt
   else none
 else none
noncomputable abbrev z41_7 (c0 c1 : Int) : St :=
 mk [(2, .int .i64 c0), (3, .int .i64 c1)] []
noncomputable abbrev q41_15 : List Code := codesAt Try.prog 41 [[1, 1, 1, 0], [1, 1, 1, 1]]
theorem h41_18_eq (C : CallF) (gs_0 : List V) (gs_1 : Int) (sizes deeps : List V) {β : Type} (K : Out → St → Option β) :
 execL Try.prog ann C 41 114 0 (q41_15) (z41_6 gs_0 gs_1 sizes deeps) K =
  d41_18 C gs_1 sizes deeps
   (fun (t20 : Int) (t30 : Int) => K .ret (z41_7 t20 t30)) := by kernel_rfl
noncomputable def d41_19 (C : CallF) (t17 : List V) (t18 t19 gs_1 : Int) (sizes deeps : List V) {β : Type} (k0 : Int → Int → Option β) : Option β :=
 d41_17 C t17 t18 t19 sizes deeps
  (fun (sizes_159 : List V) (deeps_160 : List V) =>
   d41_18 C gs_1 sizes_159 deeps_160
    (fun (t_161 : Int) (t_162 : Int) =>
     k0 t_161 t_162))
noncomputable abbrev q41_16 : List Code := codesAt Try.prog 41 [[1, 1, 0, 1], [1, 1, 1, 0], [1, 1, 1, 1]]
theorem h41_19_eq (C : CallF) (t17 : List V) (t18 t19 : Int) (gs_0 : List V) (gs_1 : Int) (sizes deeps : List V) {β : Type} (K : Out → St → Option β) :
 execL Try.prog ann C 41 114 0 (q41_16) (z41_0 t17 t18 t19 gs_0 gs_1 sizes deeps) K =
  d41_19 C t17 t18 t19 gs_1 sizes deeps
   (fun (t20 : Int) (t30 : Int) => K .ret (z41_7 t20 t30)) := by
 refine Eq.trans (execL_app (P := Try.prog) (A := ann) (C := C) (f := 41) (n := 114) (m := 0) (codesAt Try.prog 41 [[1, 1, 0, 1]]) (q41_15) (st := z41_0 t17 t18 t19 gs_0 gs_1 sizes deeps) (K := K)) (Eq.trans (h41_17_eq C t17 t18 t19 gs_0 gs_1 sizes deeps (seqK Try.prog ann C 41 114 0 (q41_15) K)) ?_)
 · exact Eq.trans (by kernel_rfl) (Eq.trans (congrArg (fun HOLE : (List V) → (List V) → Option β => d41_17 C t17 t18 t19 sizes deeps HOLE) (funext fun (sizes0 : List V) => funext fun (deeps0 : List V) => h41_18_eq C gs_0 gs_1 sizes0 deeps0 K)) ((by kernel_rfl)))
noncomputable def d41_20 (C : CallF) (g_Nodes : List V) (g_Root : Int) {β : Type} (k0 : Int → Int → Option β) : Option β :=
 d41_1 C g_Nodes
  (
   d41_19 C g_Nodes (g_Nodes.length : Int) 0 g_Root (List.replicate (((g_Nodes.length : Int) : Int).toNat) (V.int .i64 0)) (List.replicate (((g_Nodes.length : Int) : Int).toNat) (V.int .i64 0))
    (fun (t_163 : Int) (t_164 : Int) =>
     k0 t_163 t_164))
noncomputable abbrev q41_17 : List Code := codesAt Try.prog 41 [[0], [1, 0], [1, 1, 0, 0], [1, 1, 0, 1], [1, 1, 1, 0], [1, 1, 1, 1]]
theorem h41_20_eq (C : CallF) (g_Nodes : List V) (g_Root : Int) {β : Type} (K : Out → St → Option β) :
 execL Try.prog ann C 41 114 0 (q41_17) (z41_1 g_Nodes g_Root) K =
  d41_20 C g_Nodes g_Root
   (fun (t20 : Int) (t30 : Int) => K .ret (z41_7 t20 t30)) := by
 refine Eq.trans (execL_app (P := Try.prog) (A := ann) (C := C) (f := 41) (n := 114) (m := 0) (q41_0) (q41_16) (st := z41_1 g_Nodes g_Root) (K := K)) (Eq.trans (h41_1_eq C g_Nodes g_Root (seqK Try.prog ann C 41 114 0 (q41_16) K)) ?_)
 · exact Eq.trans (by kernel_rfl) (Eq.trans (congrArg (fun HOLE : Option β => d41_1 C g_Nodes HOLE) (h41_19_eq C g_Nodes (g_Nodes.length : Int) 0 g_Nodes g_Root (List.replicate (((g_Nodes.length : Int) : Int).toNat) (V.int .i64 0)) (List.replicate (((g_Nodes.length : Int) : Int).toNat) (V.int .i64 0)) K)) ((by kernel_rfl)))
noncomputable def f_semigroupref31_Measure (C : CallF) (g_Nodes : List V) (g_Root : Int) : Option (V × List V) :=
 bif (decide (0 ≤ (g_Nodes.length : Int))) && ((decide ((g_Nodes.length : Int) ≤ (g_Nodes.length : Int))) && (Nat.ble ((((g_Nodes.length : Int) : Int).toNat) * 8) maxBytes)) then
  bif (decide (0 ≤ (g_Nodes.length : Int))) && ((decide ((g_Nodes.length : Int) ≤ (g_Nodes.length : Int))) && (Nat.ble ((((g_Nodes.length : Int) : Int).toNat) * 8) maxBytes)) then
   s_semigroupref31_Measure_16L C g_Nodes (g_Nodes.length : Int) 0 (List.replicate (((g_Nodes.length : Int) : Int).toNat) (V.int .i64 0)) (List.replicate (((g_Nodes.length : Int) : Int).toNat) (V.int .i64 0))
    (fun (t_151 : Int) (t_152 : Bool) (sizes_153 : List V) (deeps_154 : List V) =>
     bif (decide (0 ≤ g_Root)) && (decide (g_Root < (sizes_153.length : Int))) then
      (sizes_153[(g_Root : Int).toNat]?).bind fun x157 =>
       bif (decide (0 ≤ g_Root)) && (decide (g_Root < (deeps_154.length : Int))) then
        (deeps_154[(g_Root : Int).toNat]?).bind fun x158 =>
         some (.tup [.int .i64 x157.toInt, .int .i64 x158.toInt], [])
       else none
     else none)
  else none
 else none
theorem f_semigroupref31_Measure_eq (C : CallF) (g_Nodes : List V) (g_Root : Int) : bodyK Try.prog ann C 41 [.agg [.list T_api_SfNode g_Nodes, .int .i64 g_Root]] [] = f_semigroupref31_Measure C g_Nodes g_Root :=
 Eq.trans (bodyK_fin (by kernel_rfl)) (Eq.trans (execK_items (by kernel_rfl)) (Eq.trans (h41_20_eq C g_Nodes g_Root (finK Try.prog ann C 41 [])) (by kernel_rfl)))
theorem f_semigroupref31_Measure_of {g_Nodes : List V} {g_Root : Int} {r : V × List V} (h : f_semigroupref31_Measure CC g_Nodes g_Root = some r) : CC F_semigroupref31_Measure [.agg [.list T_api_SfNode g_Nodes, .int .i64 g_Root]] [] = some r :=
 Call_of_body ((bodyK_eq ..).trans ((f_semigroupref31_Measure_eq ..).trans h))
end Go.AM

/-
 semigroupref31.Measure.
-/
set_option linter.unusedSimpArgs false
namespace Go.AM
open Go.Proofs
section
variable {letters : Int} {C : CallF} {β : Type}
theorem rmeas3 (T : List V) (i : Nat) (n : Node) (S D : List Nat) (h : idx T (i : Int) = some n.v) (hS : i < S.length) (hD : i < D.length) (k : List V → List V → Int → Int → Int → Int → Option β) :
 s_semigroupref31_Measure_3 C T (i : Int) (natsV S) (natsV D) k = k (natsV (S.set i (if n.op = 4 then 2 else 1))) (natsV (D.set i (if n.op = 4 then 2 else 1))) n.op n.letter n.a n.b := by
 unfold s_semigroupref31_Measure_3
 rw [h]
 have e1 : (natsV S).set i (.int .i64 1) = natsV (S.set i 1) := natsV_set S i 1
 have e2 : (natsV D).set i (.int .i64 1) = natsV (D.set i 1) := natsV_set D i 1
 have e3 : (natsV (S.set i 1)).set i (.int .i64 2) = natsV ((S.set i 1).set i 2) := natsV_set _ i 2
 have e4 : (natsV (D.set i 1)).set i (.int .i64 2) = natsV ((D.set i 1).set i 2) := natsV_set _ i 2
 simp only [Option.bind_some, Node.v, V.cell_agg, V.nth_zero, V.nth_one, V.nth_two, V.nth_three, V.toInt_int, bif_and, bif_decide, bif_beq, Int.toNat_natCast, List.length_map, List.length_set, natsV_get hS, natsV_get hD, e1, e2, e3, e4]
 rw [if_pos (by omega), if_pos (by omega), if_pos (by omega), if_pos (by omega)]
 by_cases h4 : n.op = 4
 · rw [if_pos h4, if_pos (by omega), if_pos (by omega), natsV_of (n := 1) (List.getElem?_set_self hS), Option.bind_some, if_pos (by omega), if_pos (by omega), natsV_of (n := 1) (List.getElem?_set_self hD)]
   simp only [Option.bind_some, List.set_set, h4, if_true]
 · rw [if_neg h4]
   simp only [h4, if_false]
theorem rmeas4 (i : Nat) (n : Node) (S D : List Nat) (ok : NodeOk n i letters) (hS : i < S.length) (hD : i < D.length) (hSS : ∀ v ∈ S, v ≤ 4000000000) (hDD : ∀ v ∈ D, v ≤ 4000000000) (k : List V → List V → Option β) :
 s_semigroupref31_Measure_4 C (i : Int) (natsV S) (natsV D) n.op n.a k = if 5 ≤ n.op then k (natsV (S.set i (S.getD n.a.toNat 0 + 1))) (natsV (D.set i (D.getD n.a.toNat 0 + 1))) else k (natsV S) (natsV D) := by
 unfold s_semigroupref31_Measure_4
 simp only [bif_decide]
 by_cases h5 : 5 ≤ n.op
 · have oa := ok.a h5
   have hSa : n.a.toNat < S.length := by omega
   have hDa : n.a.toNat < D.length := by omega
   rw [if_pos h5, if_pos h5]
   simp only [bif_and, bif_decide, Int.toNat_natCast, List.length_map, natsV_get hS, natsV_get hD, natsV_get hSa, natsV_get hDa, Option.bind_some, V.toInt_int]
   rw [if_pos oa.1, if_pos (by omega), if_pos oa.1, if_pos (by omega), if_pos (by omega), if_pos (by omega), if_pos (by omega), if_pos (by omega)]
   have b2 := hSS _ (List.getElem_mem hSa)
   have b3 := hDD _ (List.getElem_mem hDa)
   have w1 : IntKind.wrap .i64 ((S[n.a.toNat] : Int) + 1) = ((S.getD n.a.toNat 0 + 1 : Nat) : Int) := by
    rw [wrap64 (by omega) (by omega), List.getD_eq_getElem?_getD, List.getElem?_eq_getElem hSa]
    rfl
   have w2 : IntKind.wrap .i64 ((D[n.a.toNat] : Int) + 1) = ((D.getD n.a.toNat 0 + 1 : Nat) : Int) := by
    rw [wrap64 (by omega) (by omega), List.getD_eq_getElem?_getD, List.getElem?_eq_getElem hDa]
    rfl
   rw [w1, w2, natsV_set, natsV_set]
 · rw [if_neg h5, if_neg h5]
theorem rmeas6 (i : Nat) (n : Node) (S D : List Nat) (ok : NodeOk n i letters) (hS : i < S.length) (hD : i < D.length) (hSS : ∀ v ∈ S, v ≤ 4000000000) (hDD : ∀ v ∈ D, v ≤ 4000000000) (k : List V → List V → Option β) :
 (s_semigroupref31_Measure_5 C n.op fun t => s_semigroupref31_Measure_6 C (i : Int) t (natsV S) (natsV D) n.b k) = if 5 ≤ n.op ∧ n.op ≠ 8 then k (natsV (S.set i (S.getD i 0 + S.getD n.b.toNat 0))) (natsV (D.set i (max (D.getD i 0) (D.getD n.b.toNat 0 + 1)))) else k (natsV S) (natsV D) := by
 unfold s_semigroupref31_Measure_5
 simp only [bif_decide]
 by_cases h5 : 5 ≤ n.op
 · rw [if_pos (show n.op ≥ 5 from h5)]
   by_cases h8 : n.op = 8
   · have : (n.op != 8) = false := by simp [h8]
     rw [this, if_neg (by omega)]
     rfl
   · have : (n.op != 8) = true := by simp [h8]
     have ob := ok.b h5 h8
     have hSb : n.b.toNat < S.length := by omega
     have hDb : n.b.toNat < D.length := by omega
     rw [this, if_pos ⟨h5, h8⟩]
     unfold s_semigroupref31_Measure_6
     simp only [cond_true, bif_and, bif_decide, Int.toNat_natCast, List.length_map, natsV_get hS, natsV_get hD, natsV_get hSb, natsV_get hDb, Option.bind_some, V.toInt_int]
     rw [if_pos (by omega), if_pos (by omega), if_pos ob.1, if_pos (by omega), if_pos (by omega), if_pos (by omega), if_pos ob.1, if_pos (by omega), if_pos (by omega), if_pos (by omega), if_pos (by omega), if_pos (by omega)]
     have b1 := hSS _ (List.getElem_mem hS)
     have b2 := hSS _ (List.getElem_mem hSb)
     have b3 := hDD _ (List.getElem_mem hDb)
     have w1 : IntKind.wrap .i64 ((S[i] : Int) + (S[n.b.toNat] : Int)) = ((S.getD i 0 + S.getD n.b.toNat 0 : Nat) : Int) := by
      rw [wrap64 (by omega) (by omega), List.getD_eq_getElem?_getD, List.getD_eq_getElem?_getD, List.getElem?_eq_getElem hS, List.getElem?_eq_getElem hSb]
      rfl
     have w2 : IntKind.wrap .i64 ((D[n.b.toNat] : Int) + 1) = ((D.getD n.b.toNat 0 + 1 : Nat) : Int) := by
      rw [wrap64 (by omega) (by omega), List.getD_eq_getElem?_getD, List.getElem?_eq_getElem hDb]
      rfl
     have w3 : (if ((D.getD n.b.toNat 0 + 1 : Nat) : Int) > (D[i] : Int) then ((D.getD n.b.toNat 0 + 1 : Nat) : Int) else (D[i] : Int)) = ((max (D.getD i 0) (D.getD n.b.toNat 0 + 1) : Nat) : Int) := by
      have e : D.getD i 0 = D[i] := by rw [List.getD_eq_getElem?_getD, List.getElem?_eq_getElem hD]; rfl
      rw [e]
      split <;> omega
     rw [w1, w2, w3, natsV_set, natsV_set]
 · rw [if_neg (show ¬ n.op ≥ 5 from h5), if_neg (by omega)]
   rfl
end
theorem getD_le {S : List Nat} {B : Nat} (h : ∀ v ∈ S, v ≤ B) (j : Nat) : S.getD j 0 ≤ B := by
 rw [List.getD_eq_getElem?_getD]
 cases hj : S[j]? with
 | none => exact Nat.zero_le _
 | some v => exact h v (List.mem_of_getElem? hj)
theorem refMeasure_round {letters : Int} {l T : List Node} (hl : Valid letters l) (hn : l.length ≤ 20000) {i : Nat} {x : Node} (hx : l[i]? = some x) (hT : idx (nodesV T) (i : Int) = some x.v) {S D : List Nat} {len : Nat} (hlen : i < len) (hSl : S.length = len) (hDl : D.length = len) (hll : len ≤ l.length)
 (hS : ∀ j, j < i → S.getD j 0 = sizeC 1073741824 l j) (hD : ∀ j, j < i → D.getD j 0 = deep l j) (bS : ∀ v ∈ S, v ≤ 1073741824) (bD : ∀ v ∈ D, v ≤ 20002) :
 s_semigroupref31_Measure_16L_step CC (nodesV T) (len : Int) ((i : Int), natsV S, natsV D) = some (.inl (((i + 1 : Nat) : Int), natsV (S.set i (sizeC 1073741824 l i)), natsV (D.set i (deep l i)))) := by
 have ok := nodeOk_iff.1 (hl.node hx)
 unfold s_semigroupref31_Measure_16L_step
 simp only [bif_decide]
 rw [if_pos (by omega), rmeas3 _ i x S D hT (by omega) (by omega)]
 have b0 : (if x.op = 4 then 2 else 1) ≤ 2 := by split <;> omega
 have bS1 : ∀ v ∈ S.set i (if x.op = 4 then 2 else 1), v ≤ 1073741824 := mem_set_le bS (by omega)
 have bD1 : ∀ v ∈ D.set i (if x.op = 4 then 2 else 1), v ≤ 20002 := mem_set_le bD (by omega)
 have e14 : ((if x.op = 4 then 2 else 1) : Nat) ≤ 2 := b0
 have step : ∀ {β : Type} (k : List V → List V → Option β), s_semigroupref31_Measure_4 CC (i : Int) (natsV (S.set i (if x.op = 4 then 2 else 1))) (natsV (D.set i (if x.op = 4 then 2 else 1))) x.op x.a (fun s d => s_semigroupref31_Measure_5 CC x.op fun t => s_semigroupref31_Measure_6 CC (i : Int) t s d x.b k) =
  k (natsV (mRound x i S D).1) (natsV (mRound x i S D).2) := by
  intro β k
  rw [rmeas4 i x _ _ ok (by simp; omega) (by simp; omega) (fun v hv => by have := bS1 v hv; omega) (fun v hv => by have := bD1 v hv; omega)]
  unfold mRound
  by_cases h5 : 5 ≤ x.op
  · rw [if_pos h5]
    rw [rmeas6 i x _ _ ok (by simp; omega) (by simp; omega)]
    · have h4 : ¬ x.op = 4 := by omega
      have e : (S.set i 1).getD x.a.toNat 0 + 1 = (S.set i 1).getD i 0 + (S.set i 1).getD x.a.toNat 0 := by
       rw [getD_set_self (S := S) (i := i) (v := 1) (by omega)]; omega
      simp only [h5, h4, if_true, if_false, e]
      split <;> rfl
    · refine mem_set_le (fun v hv => by have := bS1 v hv; omega) ?_
      have := getD_le bS1 x.a.toNat
      omega
    · refine mem_set_le (fun v hv => by have := bD1 v hv; omega) ?_
      have := getD_le bD1 x.a.toNat
      omega
  · rw [if_neg h5]
    rw [rmeas6 i x _ _ ok (by simp; omega) (by simp; omega) (fun v hv => by have := bS1 v hv; omega) (fun v hv => by have := bD1 v hv; omega)]
    simp only [h5, if_false]
    split <;> rfl
 rw [step, mRound_eq ok (by omega) (by omega)]
 simp only
 have hsz := size_eq hl 1073741824 hx
 have hdp := deep_eq hl hx
 have ea : (if 5 ≤ x.op then S.getD x.a.toNat 0 else 0) = (if 5 ≤ x.op then sizeC 1073741824 l x.a.toNat else 0) := by
  split
  · rename_i h; have := ok.a h; exact hS _ (by omega)
  · rfl
 have eb : (if 5 ≤ x.op ∧ x.op ≠ 8 then S.getD x.b.toNat 0 else 0) = (if 5 ≤ x.op ∧ x.op ≠ 8 then sizeC 1073741824 l x.b.toNat else 0) := by
  split
  · rename_i h; have := ok.b h.1 h.2; exact hS _ (by omega)
  · rfl
 have ed : (if x.op = 4 then 2 else if 5 ≤ x.op ∧ x.op ≠ 8 then max (D.getD x.a.toNat 0 + 1) (D.getD x.b.toNat 0 + 1) else if 5 ≤ x.op then D.getD x.a.toNat 0 + 1 else 1) = deep l i := by
  rw [hdp]
  split
  · rfl
  · split
    · rename_i h
      have := ok.a h.1; have := ok.b h.1 h.2
      rw [hD _ (by omega), hD _ (by omega)]
    · split
      · rename_i h
        have := ok.a h
        rw [hD _ (by omega)]
      · rfl
 rw [ea, eb, ed]
 have hv := fun v => natsV_of (m := S.set i v) (n := v) (List.getElem?_set_self (show i < S.length by omega))
 simp only [bif_and, bif_decide, List.length_map, List.length_set, Int.toNat_natCast, hv, Option.bind_some, V.toInt_int]
 rw [if_pos (by omega), if_pos (by omega), if_pos (by omega), if_pos (by omega)]
 have ew : IntKind.wrap .i64 ((i : Int) + 1) = ((i + 1 : Nat) : Int) := by rw [wrap64 (by omega) (by omega)]; rfl
 rw [ew, hsz]
 generalize (if x.op = 4 then 2 else 1) + (if 5 ≤ x.op then sizeC 1073741824 l x.a.toNat else 0) + (if 5 ≤ x.op ∧ x.op ≠ 8 then sizeC 1073741824 l x.b.toNat else 0) = q
 have em : (if (1073741824 : Int) < (q : Int) then (1073741824 : Int) else (q : Int)) = ((min q 1073741824 : Nat) : Int) := by split <;> omega
 rw [em, natsV_set, List.set_set]
theorem refMeasure_spec (l : List Node) (root : Nat) (hv : Valid 6 l) (hl20 : l.length ≤ 20000) (hr : root < l.length) :
 CC F_semigroupref31_Measure [graphV l (root : Int)] [] = some (.tup [.int .i64 (sizeC 1073741824 l root : Nat), .int .i64 (deep l root : Nat)], []) := by
 refine f_semigroupref31_Measure_of ?_
 unfold f_semigroupref31_Measure s_semigroupref31_Measure_16L
 simp only [Int.toNat_natCast, bif_and, bif_decide, bif_ble, List.length_map]
 have key := Loop_inv (step := s_semigroupref31_Measure_16L_step CC (nodesV l) ((l.length : Nat) : Int))
  (fun s => ∃ (i : Nat) (S D : List Nat), i ≤ l.length ∧ S.length = l.length ∧ D.length = l.length ∧ (∀ j, j < i → S.getD j 0 = sizeC 1073741824 l j) ∧ (∀ j, j < i → D.getD j 0 = deep l j) ∧ (∀ v ∈ S, v ≤ 1073741824) ∧ (∀ v ∈ D, v ≤ 20002) ∧ s = ((i : Int), natsV S, natsV D))
  (fun s => ((l.length : Int) - s.1).toNat)
  (fun s => ∃ (j : Int) (b : Bool) (S D : List Nat), S.length = l.length ∧ D.length = l.length ∧ S.getD root 0 = sizeC 1073741824 l root ∧ D.getD root 0 = deep l root ∧ s = (j, b, natsV S, natsV D)) (by
   rintro s ⟨i, S, D, h1, h2, h3, h4, h5, h6, h7, rfl⟩
   by_cases hi : i < l.length
   · left
     have hx : l[i]? = some l[i] := List.getElem?_eq_getElem (by omega)
     have := refMeasure_round hv hl20 hx (T := l) (by rw [idx_map (n := i) rfl (by omega)]) hi h2 h3 (by omega) h4 h5 h6 h7
     refine ⟨_, this, ⟨i + 1, S.set i (sizeC 1073741824 l i), D.set i (deep l i), by omega, by simp [h2], by simp [h3], fun j hj => ?_, fun j hj => ?_, mem_set_le h6 (size_le _ _ _), mem_set_le h7 (by have := deep_le hv i (by omega); omega), rfl⟩, by simp; omega⟩
     · by_cases hji : j = i
       · subst hji; exact getD_set_self (by omega)
       · rw [getD_set_ne (by omega)]; exact h4 j (by omega)
     · by_cases hji : j = i
       · subst hji; exact getD_set_self (by omega)
       · rw [getD_set_ne (by omega)]; exact h5 j (by omega)
   · right
     unfold s_semigroupref31_Measure_16L_step
     simp only [bif_decide]
     rw [if_neg (by omega)]
     exact ⟨_, rfl, _, _, S, D, h2, h3, h4 root (by omega), h5 root (by omega), rfl⟩)
 have e3 : List.replicate l.length (V.int .i64 0) = natsV (List.replicate l.length 0) := by simp
 have hz : ∀ (B v : Nat), v ∈ List.replicate l.length 0 → v ≤ B := by
  intro B v hv
  have := List.eq_of_mem_replicate hv
  omega
 obtain ⟨s, hs, j, b, S, D, hS1, hD1, hS2, hD2, rfl⟩ := key ((0 : Int), natsV (List.replicate l.length 0), natsV (List.replicate l.length 0)) ⟨0, _, _, by omega, by simp, by simp, fun j hj => by omega, fun j hj => by omega, hz 1073741824, hz 20002, rfl⟩
 rw [e3, hs]
 have g1 : (natsV S)[root]? = some (.int .i64 ((sizeC 1073741824 l root : Nat) : Int)) := by
  rw [← hS2, List.getD_eq_getElem?_getD, List.getElem?_eq_getElem (show root < S.length by omega)]
  exact natsV_of (List.getElem?_eq_getElem _)
 have g2 : (natsV D)[root]? = some (.int .i64 ((deep l root : Nat) : Int)) := by
  rw [← hD2, List.getD_eq_getElem?_getD, List.getElem?_eq_getElem (show root < D.length by omega)]
  exact natsV_of (List.getElem?_eq_getElem _)
 simp only [Option.bind_some, List.length_map, hS1, hD1, g1, g2, V.toInt_int]
 have t3 : l.length * 8 ≤ maxBytes := by unfold maxBytes; omega
 have t1 : (0 : Int) ≤ (root : Int) := by omega
 have t2 : (root : Int) < ((l.length : Nat) : Int) := by omega
 have t4 : (0 : Int) ≤ ((l.length : Nat) : Int) := by omega
 simp [t1, t2, t3, t4]
end Go.AM

set_option maxRecDepth 100000
namespace Go.AM
open Go.Proofs
/-! semigroup/semigroupref31.Holds -/
noncomputable def d45_1 (C : CallF) (g_Nodes : List V) {β : Type} (k0 : (List V) → Option β) : Option β :=
 bif (decide (0 ≤ (g_Nodes.length : Int))) && ((decide ((g_Nodes.length : Int) ≤ (g_Nodes.length : Int))) && (Nat.ble ((((g_Nodes.length : Int) : Int).toNat) * 24) maxBytes)) then
  k0 (List.replicate (((g_Nodes.length : Int) : Int).toNat) (V.list T_l_bool ([] : List V)))
 else none
noncomputable abbrev z45_0 (c0 : List UInt8) (c1 : Int) (c2 : List V) (c3 c4 : Int) (c5 : List V) (c6 : Int) (c7 : List V) : St :=
 mk [(1, .str c0), (2, .ptr 0 0 0), (5, .int .i64 c1), (6, .whole T_l_l_bool 1), (22, .list T_api_SfNode c2), (23, .int .i64 c3), (24, .int .i64 c4)] [.var [.list T_api_SfNode c5, .int .i64 c6], .nest T_l_l_bool c7 [0, 0, 0]]
noncomputable abbrev q45_0 : List Code := codesAt Try.prog 45 [[0], [1, 0], [1, 1, 0], [1, 1, 1, 0, 0]]
noncomputable abbrev z45_1 (c0 : List V) (c1 : Int) (c2 : List UInt8) : St :=
 mk [(0, .agg [.list T_api_SfNode c0, .int .i64 c1]), (1, .str c2)] []
theorem h45_1_eq (C : CallF) (g_Nodes : List V) (g_Root : Int) (w : List UInt8) {β : Type} (K : Out → St → Option β) :
 execL Try.prog ann C 45 220 0 (q45_0) (z45_1 g_Nodes g_Root w) K =
  d45_1 C g_Nodes
   (fun (in's0 : List V) => K .norm (z45_0 w (w.length : Int) g_Nodes (g_Nodes.length : Int) 0 g_Nodes g_Root in's0)) := by kernel_rfl
noncomputable def d45_2 (C : CallF) (t23 t24 : Int) {β : Type} (k0 : Option β) (k1 : Option β) : Option β :=
 bif decide ((t24 : Int) < t23) then
  k0
 else
  k1
noncomputable abbrev z45_2 (c0 : List UInt8) (c1 : Int) (c2 : List V) (c3 c4 : Int) (c5 : Bool) (c6 : List V) (c7 : Int) (c8 : List V) : St :=
 mk [(1, .str c0), (2, .ptr 0 0 0), (5, .int .i64 c1), (6, .whole T_l_l_bool 1), (22, .list T_api_SfNode c2), (23, .int .i64 c3), (24, .int .i64 c4), (25, .bool c5)] [.var [.list T_api_SfNode c6, .int .i64 c7], .nest T_l_l_bool c8 [0, 0, 0]]
noncomputable abbrev q45_1 : List Code := codesAt Try.prog 45 [[1, 1, 1, 0, 1, 0, 0, 0], [1, 1, 1, 0, 1, 0, 0, 1, 0]]
theorem h45_2_eq (C : CallF) (w : List UInt8) (n : Int) (t22 : List V) (t23 t24 : Int) (gs_0 : List V) (gs_1 : Int) (in's : List V) {β : Type} (K : Out → St → Option β) :
 execL Try.prog ann C 45 220 0 (q45_1) (z45_0 w n t22 t23 t24 gs_0 gs_1 in's) K =
  d45_2 C t23 t24
   (K .norm (z45_0 w n t22 t23 t24 gs_0 gs_1 in's))
   (K (.exit 0) (z45_2 w n t22 t23 t24 (decide ((t24 : Int) < t23)) gs_0 gs_1 in's)) := by kernel_rfl
noncomputable def d45_3 (C : CallF) (n : Int) (t22 : List V) (t24 : Int) (in's : List V) {β : Type} (k0 : Int → (List V) → Int → Int → Int → Int → Option β) : Option β :=
 (idx t22 t24).bind fun x4 =>
  bif (decide (0 ≤ (IntKind.wrap .i64 (n + 1)))) && ((decide ((IntKind.wrap .i64 (n + 1)) ≤ (IntKind.wrap .i64 (n + 1)))) && (Nat.ble (((IntKind.wrap .i64 (n + 1) : Int).toNat) * 24) maxBytes)) then
   bif (decide (0 ≤ t24)) && (decide (t24 < (in's.length : Int))) then
    (in's[(t24 : Int).toNat]?).bind fun x5 =>
     bif (decide (0 ≤ t24)) && (decide (t24 < ((in's.set ((t24 : Int).toNat) (.list T_l_bool (List.replicate ((IntKind.wrap .i64 (n + 1) : Int).toNat) (V.list T_bool ([] : List V))))).length : Int))) then
      ((in's.set ((t24 : Int).toNat) (.list T_l_bool (List.replicate ((IntKind.wrap .i64 (n + 1) : Int).toNat) (V.list T_bool ([] : List V)))))[(t24 : Int).toNat]?).bind fun x6 =>
       (rowV Try.prog T_l_l_bool (in's.set ((t24 : Int).toNat) (.list T_l_bool (List.replicate ((IntKind.wrap .i64 (n + 1) : Int).toNat) (V.list T_bool ([] : List V))))) [((t24 : Int).toNat, 0)]).bind fun x7 =>
        k0 (x7.toList.length : Int) (in's.set ((t24 : Int).toNat) (.list T_l_bool (List.replicate ((IntKind.wrap .i64 (n + 1) : Int).toNat) (V.list T_bool ([] : List V))))) ((x4.cell 0).toInt) ((x4.cell 1).toInt) ((x4.cell 2).toInt) ((x4.cell 3).toInt)
     else none
   else none
  else none
noncomputable abbrev z45_3 (c0 : List UInt8) (c1 c2 : Int) (c3 : List V) (c4 c5 c6 c7 : Int) (c8 : List V) (c9 : Int) (c10 : List V) (c11 c12 c13 c14 : Int) : St :=
 mk [(1, .str c0), (2, .ptr 0 0 0), (5, .int .i64 c1), (6, .whole T_l_l_bool 1), (7, .int .i64 c2), (8, .ptr 2 0 0), (22, .list T_api_SfNode c3), (23, .int .i64 c4), (24, .int .i64 c5), (39, .int .i64 c6), (40, .int .i64 c7)] [.var [.list T_api_SfNode c8, .int .i64 c9], .nest T_l_l_bool c10 [0, 0, 0], .var [.int .i64 c11, .int .i64 c12, .int .i64 c13, .int .i64 c14]]
noncomputable abbrev q45_2 : List Code := codesAt Try.prog 45 [[1, 1, 1, 0, 1, 0, 0, 1, 1, 0, 0, 0], [1, 1, 1, 0, 1, 0, 0, 1, 1, 0, 0, 1, 0], [1, 1, 1, 0, 1, 0, 0, 1, 1, 0, 0, 1, 1, 0]]
theorem h45_3_eq (C : CallF) (w : List UInt8) (n : Int) (t22 : List V) (t23 t24 : Int) (gs_0 : List V) (gs_1 : Int) (in's : List V) {β : Type} (K : Out → St → Option β) :
 execL Try.prog ann C 45 220 0 (q45_2) (z45_0 w n t22 t23 t24 gs_0 gs_1 in's) K =
  d45_3 C n t22 t24 in's
   (fun (t390 : Int) (in's0 : List V) (xs_00 : Int) (xs_10 : Int) (xs_20 : Int) (xs_30 : Int) => K .norm (z45_3 w n t24 t22 t23 t24 t390 0 gs_0 gs_1 in's0 xs_00 xs_10 xs_20 xs_30)) := by kernel_rfl
noncomputable def d45_4 (C : CallF) (t39 t40 : Int) {β : Type} (k0 : Option β) (k1 : Option β) : Option β :=
 bif decide ((t40 : Int) < t39) then
  k0
 else
  k1
noncomputable abbrev z45_4 (c0 : List UInt8) (c1 c2 : Int) (c3 : List V) (c4 c5 c6 c7 : Int) (c8 : Bool) (c9 : List V) (c10 : Int) (c11 : List V) (c12 c13 c14 c15 : Int) : St :=
 mk [(1, .str c0), (2, .ptr 0 0 0), (5, .int .i64 c1), (6, .whole T_l_l_bool 1), (7, .int .i64 c2), (8, .ptr 2 0 0), (22, .list T_api_SfNode c3), (23, .int .i64 c4), (24, .int .i64 c5), (39, .int .i64 c6), (40, .int .i64 c7), (41, .bool c8)] [.var [.list T_api_SfNode c9, .int .i64 c10], .nest T_l_l_bool c11 [0, 0, 0], .var [.int .i64 c12, .int .i64 c13, .int .i64 c14, .int .i64 c15]]
noncomputable abbrev q45_3 : List Code := codesAt Try.prog 45 [[1, 1, 1, 0, 1, 0, 0, 1, 1, 0, 0, 1, 1, 1, 0, 0, 0], [1, 1, 1, 0, 1, 0, 0, 1, 1, 0, 0, 1, 1, 1, 0, 0, 1, 0]]
theorem h45_4_eq (C : CallF) (w : List UInt8) (n i : Int) (t22 : List V) (t23 t24 t39 t40 : Int) (gs_0 : List V) (gs_1 : Int) (in's : List V) (xs_0 xs_1 xs_2 xs_3 : Int) {β : Type} (K : Out → St → Option β) :
 execL Try.prog ann C 45 220 0 (q45_3) (z45_3 w n i t22 t23 t24 t39 t40 gs_0 gs_1 in's xs_0 xs_1 xs_2 xs_3) K =
  d45_4 C t39 t40
   (K .norm (z45_3 w n i t22 t23 t24 t39 t40 gs_0 gs_1 in's xs_0 xs_1 xs_2 xs_3))
   (K (.exit 2) (z45_4 w n i t22 t23 t24 t39 t40 (decide ((t40 : Int) < t39)) gs_0 gs_1 in's xs_0 xs_1 xs_2 xs_3)) := by kernel_rfl
noncomputable def d45_5 (C : CallF) (n i t40 : Int) (in's : List V) {β : Type} (k0 : (List V) → Option β) : Option β :=
 bif (decide (0 ≤ i)) && (decide (i < (in's.length : Int))) then
  (in's[(i : Int).toNat]?).bind fun x12 =>
   bif (decide (0 ≤ (IntKind.wrap .i64 (n + 1)))) && ((decide ((IntKind.wrap .i64 (n + 1)) ≤ (IntKind.wrap .i64 (n + 1)))) && (Nat.ble (((IntKind.wrap .i64 (n + 1) : Int).toNat) * 1) maxBytes)) then
    (rowV Try.prog T_l_l_bool in's [((i : Int).toNat, 0)]).bind fun x13 =>
     bif (decide (0 ≤ t40)) && (decide (t40 < (x13.toList.length : Int))) then
      (rowV Try.prog T_l_l_bool in's [((i : Int).toNat, 0)]).bind fun x14 =>
       (x14.toList[(t40 : Int).toNat]?).bind fun x15 =>
        k0 (setRow Try.prog (x14.toList.set ((t40 : Int).toNat) (.list T_bool (List.replicate ((IntKind.wrap .i64 (n + 1) : Int).toNat) (V.bool false)))) T_l_l_bool in's [((i : Int).toNat, 0)])
     else none
   else none
 else none
noncomputable abbrev z45_5 (c0 : List UInt8) (c1 c2 c3 c4 : Int) (c5 : List V) (c6 c7 c8 c9 : Int) (c10 : List V) (c11 : Int) (c12 : List V) (c13 c14 c15 c16 : Int) : St :=
 mk [(1, .str c0), (2, .ptr 0 0 0), (5, .int .i64 c1), (6, .whole T_l_l_bool 1), (7, .int .i64 c2), (8, .ptr 2 0 0), (9, .int .i64 c3), (10, .int .i64 c4), (22, .list T_api_SfNode c5), (23, .int .i64 c6), (24, .int .i64 c7), (39, .int .i64 c8), (40, .int .i64 c9)] [.var [.list T_api_SfNode c10, .int .i64 c11], .nest T_l_l_bool c12 [0, 0, 0], .var [.int .i64 c13, .int .i64 c14, .int .i64 c15, .int .i64 c16]]
noncomputable abbrev q45_4 : List Code := codesAt Try.prog 45 [[1, 1, 1, 0, 1, 0, 0, 1, 1, 0, 0, 1, 1, 1, 0, 0, 1, 1, 0, 0, 0], [1, 1, 1, 0, 1, 0, 0, 1, 1, 0, 0, 1, 1, 1, 0, 0, 1, 1, 0, 0, 1, 0], [1, 1, 1, 0, 1, 0, 0, 1, 1, 0, 0, 1, 1, 1, 0, 0, 1, 1, 0, 0, 1, 1, 0]]
theorem h45_5_eq (C : CallF) (w : List UInt8) (n i : Int) (t22 : List V) (t23 t24 t39 t40 : Int) (gs_0 : List V) (gs_1 : Int) (in's : List V) (xs_0 xs_1 xs_2 xs_3 : Int) {β : Type} (K : Out → St → Option β) :
 execL Try.prog ann C 45 220 0 (q45_4) (z45_3 w n i t22 t23 t24 t39 t40 gs_0 gs_1 in's xs_0 xs_1 xs_2 xs_3) K =
  d45_5 C n i t40 in's
   (fun (in's0 : List V) => K .norm (z45_5 w n i t40 t40 t22 t23 t24 t39 t40 gs_0 gs_1 in's0 xs_0 xs_1 xs_2 xs_3)) := by kernel_rfl
noncomputable def d45_6 (C : CallF) (n b' : Int) {β : Type} (k0 : Option β) (k1 : Option β) : Option β :=
 bif decide ((b' : Int) ≤ n) then
  k0
 else
  k1
noncomputable abbrev z45_6 (c0 : List UInt8) (c1 c2 c3 c4 : Int) (c5 : List V) (c6 c7 c8 c9 : Int) (c10 : Bool) (c11 : List V) (c12 : Int) (c13 : List V) (c14 c15 c16 c17 : Int) : St :=
 mk [(1, .str c0), (2, .ptr 0 0 0), (5, .int .i64 c1), (6, .whole T_l_l_bool 1), (7, .int .i64 c2), (8, .ptr 2 0 0), (9, .int .i64 c3), (10, .int .i64 c4), (22, .list T_api_SfNode c5), (23, .int .i64 c6), (24, .int .i64 c7), (39, .int .i64 c8), (40, .int .i64 c9), (55, .bool c10)] [.var [.list T_api_SfNode c11, .int .i64 c12], .nest T_l_l_bool c13 [0, 0, 0], .var [.int .i64 c14, .int .i64 c15, .int .i64 c16, .int .i64 c17]]
noncomputable abbrev q45_5 : List Code := codesAt Try.prog 45 [[1, 1, 1, 0, 1, 0, 0, 1, 1, 0, 0, 1, 1, 1, 0, 0, 1, 1, 0, 0, 1, 1, 1, 0, 0, 0, 0], [1, 1, 1, 0, 1, 0, 0, 1, 1, 0, 0, 1, 1, 1, 0, 0, 1, 1, 0, 0, 1, 1, 1, 0, 0, 0, 1]]
theorem h45_6_eq (C : CallF) (w : List UInt8) (n i a b' : Int) (t22 : List V) (t23 t24 t39 t40 : Int) (gs_0 : List V) (gs_1 : Int) (in's : List V) (xs_0 xs_1 xs_2 xs_3 : Int) {β : Type} (K : Out → St → Option β) :
 execL Try.prog ann C 45 220 0 (q45_5) (z45_5 w n i a b' t22 t23 t24 t39 t40 gs_0 gs_1 in's xs_0 xs_1 xs_2 xs_3) K =
  d45_6 C n b'
   (K .norm (z45_5 w n i a b' t22 t23 t24 t39 t40 gs_0 gs_1 in's xs_0 xs_1 xs_2 xs_3))
   (K (.exit 4) (z45_6 w n i a b' t22 t23 t24 t39 t40 (decide ((b' : Int) ≤ n)) gs_0 gs_1 in's xs_0 xs_1 xs_2 xs_3)) := by kernel_rfl
noncomputable def d45_7 (C : CallF)  {β : Type} (k0 : Bool → Option β) : Option β :=
 k0 false
noncomputable abbrev z45_7 (c0 : List UInt8) (c1 c2 c3 c4 : Int) (c5 : Bool) (c6 : List V) (c7 c8 c9 c10 c11 : Int) (c12 : List V) (c13 : Int) (c14 : List V) (c15 c16 c17 c18 : Int) : St :=
 mk [(1, .str c0), (2, .ptr 0 0 0), (5, .int .i64 c1), (6, .whole T_l_l_bool 1), (7, .int .i64 c2), (8, .ptr 2 0 0), (9, .int .i64 c3), (10, .int .i64 c4), (11, .bool c5), (22, .list T_api_SfNode c6), (23, .int .i64 c7), (24, .int .i64 c8), (39, .int .i64 c9), (40, .int .i64 c10), (59, .int .i64 c11)] [.var [.list T_api_SfNode c12, .int .i64 c13], .nest T_l_l_bool c14 [0, 0, 0], .var [.int .i64 c15, .int .i64 c16, .int .i64 c17, .int .i64 c18]]
noncomputable abbrev q45_6 : List Code := codesAt Try.prog 45 [[1, 1, 1, 0, 1, 0, 0, 1, 1, 0, 0, 1, 1, 1, 0, 0, 1, 1, 0, 0, 1, 1, 1, 0, 0, 1, 0, 0, 0], [1, 1, 1, 0, 1, 0, 0, 1, 1, 0, 0, 1, 1, 1, 0, 0, 1, 1, 0, 0, 1, 1, 1, 0, 0, 1, 0, 0, 1, 0, 0]]
theorem h45_7_eq (C : CallF) (w : List UInt8) (n i a b' : Int) (t22 : List V) (t23 t24 t39 t40 : Int) (gs_0 : List V) (gs_1 : Int) (in's : List V) (xs_0 xs_1 xs_2 xs_3 : Int) {β : Type} (K : Out → St → Option β) :
 execL Try.prog ann C 45 220 0 (q45_6) (z45_5 w n i a b' t22 t23 t24 t39 t40 gs_0 gs_1 in's xs_0 xs_1 xs_2 xs_3) K =
  d45_7 C
   (fun (v0 : Bool) => K .norm (z45_7 w n i a b' v0 t22 t23 t24 t39 t40 xs_0 gs_0 gs_1 in's xs_0 xs_1 xs_2 xs_3)) := by kernel_rfl
noncomputable def d45_8 (C : CallF)  {β : Type} (k0 : Option β) : Option β :=
 k0
noncomputable abbrev z45_8 (c0 : List UInt8) (c1 c2 c3 c4 : Int) (c5 : Bool) (c6 : List V) (c7 c8 c9 c10 c11 : Int) (c12 : Bool) (c13 : List V) (c14 : Int) (c15 : List V) (c16 c17 c18 c19 : Int) : St :=
 mk [(1, .str c0), (2, .ptr 0 0 0), (5, .int .i64 c1), (6, .whole T_l_l_bool 1), (7, .int .i64 c2), (8, .ptr 2 0 0), (9, .int .i64 c3), (10, .int .i64 c4), (11, .bool c5), (22, .list T_api_SfNode c6), (23, .int .i64 c7), (24, .int .i64 c8), (39, .int .i64 c9), (40, .int .i64 c10), (59, .int .i64 c11), (60, .bool c12)] [.var [.list T_api_SfNode c13, .int .i64 c14], .nest T_l_l_bool c15 [0, 0, 0], .var [.int .i64 c16, .int .i64 c17, .int .i64 c18, .int .i64 c19]]
noncomputable abbrev q45_7 : List Code := codesAt Try.prog 45 [[1, 1, 1, 0, 1, 0, 0, 1, 1, 0, 0, 1, 1, 1, 0, 0, 1, 1, 0, 0, 1, 1, 1, 0, 0, 1, 0, 0, 1, 0, 1, 0, 0]]
theorem h45_8_eq (C : CallF) (w : List UInt8) (n i a b' : Int) (v : Bool) (t22 : List V) (t23 t24 t39 t40 t59 : Int) (gs_0 : List V) (gs_1 : Int) (in's : List V) (xs_0 xs_1 xs_2 xs_3 : Int) {β : Type} (K : Out → St → Option β) :
 execL Try.prog ann C 45 220 0 (q45_7) (z45_7 w n i a b' v t22 t23 t24 t39 t40 t59 gs_0 gs_1 in's xs_0 xs_1 xs_2 xs_3) K =
  d45_8 C
   (K .norm (z45_8 w n i a b' v t22 t23 t24 t39 t40 t59 ((t59 : Int) == 2) gs_0 gs_1 in's xs_0 xs_1 xs_2 xs_3)) := by kernel_rfl
noncomputable def d45_9 (C : CallF)  {β : Type} (k0 : Option β) : Option β :=
 k0
noncomputable abbrev z45_9 (c0 : List UInt8) (c1 c2 c3 c4 : Int) (c5 : Bool) (c6 : List V) (c7 c8 c9 c10 : Int) (c11 : List V) (c12 : Int) (c13 : List V) (c14 c15 c16 c17 : Int) : St :=
 mk [(1, .str c0), (2, .ptr 0 0 0), (5, .int .i64 c1), (6, .whole T_l_l_bool 1), (7, .int .i64 c2), (8, .ptr 2 0 0), (9, .int .i64 c3), (10, .int .i64 c4), (11, .bool c5), (22, .list T_api_SfNode c6), (23, .int .i64 c7), (24, .int .i64 c8), (39, .int .i64 c9), (40, .int .i64 c10)] [.var [.list T_api_SfNode c11, .int .i64 c12], .nest T_l_l_bool c13 [0, 0, 0], .var [.int .i64 c14, .int .i64 c15, .int .i64 c16, .int .i64 c17]]
noncomputable abbrev q45_8 : List Code := codesAt Try.prog 45 [[1, 1, 1, 0, 1, 0, 0, 1, 1, 0, 0, 1, 1, 1, 0, 0, 1, 1, 0, 0, 1, 1, 1, 0, 0, 1, 0, 0, 1, 0, 1, 0, 1, 0]]
theorem h45_9_eq (C : CallF) (w : List UInt8) (n i a b' : Int) (v : Bool) (t22 : List V) (t23 t24 t39 t40 t59 : Int) (t60 : Bool) (gs_0 : List V) (gs_1 : Int) (in's : List V) (xs_0 xs_1 xs_2 xs_3 : Int) {β : Type} (K : Out → St → Option β) :
 execL Try.prog ann C 45 220 0 (q45_8) (z45_8 w n i a b' v t22 t23 t24 t39 t40 t59 t60 gs_0 gs_1 in's xs_0 xs_1 xs_2 xs_3) K =
  d45_9 C
   (K .norm (z45_9 w n i a b' ((a : Int) == b') t22 t23 t24 t39 t40 gs_0 gs_1 in's xs_0 xs_1 xs_2 xs_3)) := by kernel_rfl
noncomputable def d45_10 (C : CallF)  {β : Type} (k0 : Option β) : Option β :=
 k0
noncomputable abbrev z45_10 (c0 : List UInt8) (c1 c2 c3 c4 : Int) (c5 : Bool) (c6 : List V) (c7 c8 c9 c10 c11 : Int) (c12 : Bool) (c13 : List V) (c14 : Int) (c15 : List V) (c16 c17 c18 c19 : Int) : St :=
 mk [(1, .str c0), (2, .ptr 0 0 0), (5, .int .i64 c1), (6, .whole T_l_l_bool 1), (7, .int .i64 c2), (8, .ptr 2 0 0), (9, .int .i64 c3), (10, .int .i64 c4), (11, .bool c5), (22, .list T_api_SfNode c6), (23, .int .i64 c7), (24, .int .i64 c8), (39, .int .i64 c9), (40, .int .i64 c10), (59, .int .i64 c11), (65, .bool c12)] [.var [.list T_api_SfNode c13, .int .i64 c14], .nest T_l_l_bool c15 [0, 0, 0], .var [.int .i64 c16, .int .i64 c17, .int .i64 c18, .int .i64 c19]]
noncomputable abbrev q45_9 : List Code := codesAt Try.prog 45 [[1, 1, 1, 0, 1, 0, 0, 1, 1, 0, 0, 1, 1, 1, 0, 0, 1, 1, 0, 0, 1, 1, 1, 0, 0, 1, 0, 0, 1, 0, 1, 0, 1, 1, 0]]
theorem h45_10_eq (C : CallF) (w : List UInt8) (n i a b' : Int) (v : Bool) (t22 : List V) (t23 t24 t39 t40 t59 : Int) (t60 : Bool) (gs_0 : List V) (gs_1 : Int) (in's : List V) (xs_0 xs_1 xs_2 xs_3 : Int) {β : Type} (K : Out → St → Option β) :
 execL Try.prog ann C 45 220 0 (q45_9) (z45_8 w n i a b' v t22 t23 t24 t39 t40 t59 t60 gs_0 gs_1 in's xs_0 xs_1 xs_2 xs_3) K =
  d45_10 C
   (K .norm (z45_10 w n i a b' v t22 t23 t24 t39 t40 t59 ((t59 : Int) == 3) gs_0 gs_1 in's xs_0 xs_1 xs_2 xs_3)) := by kernel_rfl
noncomputable def s_semigroupref31_Holds_11 (C : CallF) (w : List UInt8) (a b' xs_1 : Int) {β : Type} (k0 : Bool → Option β) : Option β :=
 bif (b' : Int) == (IntKind.wrap .i64 (a + 1)) then
  (bif decide (0 ≤ a) then (w[(a : Int).toNat]?).map fun b => V.int .u8 b.toNat else none).bind fun x16 =>
   k0 (((IntKind.wrap .i64 (IntKind.wrap .u8 (x16.toInt - 97))) : Int) == xs_1)
 else
  k0 false
noncomputable abbrev q45_10 : List Code := codesAt Try.prog 45 [[1, 1, 1, 0, 1, 0, 0, 1, 1, 0, 0, 1, 1, 1, 0, 0, 1, 1, 0, 0, 1, 1, 1, 0, 0, 1, 0, 0, 1, 0, 1, 0, 1, 1, 1, 0]]
theorem s_semigroupref31_Holds_11_eq (C : CallF) (w : List UInt8) (n i a b' : Int) (v : Bool) (t22 : List V) (t23 t24 t39 t40 t59 : Int) (t65 : Bool) (gs_0 : List V) (gs_1 : Int) (in's : List V) (xs_0 xs_1 xs_2 xs_3 : Int) {β : Type} (K : Out → St → Option β) :
 execL Try.prog ann C 45 220 0 (q45_10) (z45_10 w n i a b' v t22 t23 t24 t39 t40 t59 t65 gs_0 gs_1 in's xs_0 xs_1 xs_2 xs_3) K =
  s_semigroupref31_Holds_11 C w a b' xs_1
   (fun (v0 : Bool) => K .norm (z45_9 w n i a b' v0 t22 t23 t24 t39 t40 gs_0 gs_1 in's xs_0 xs_1 xs_2 xs_3)) := by kernel_rfl
noncomputable def d45_12 (C : CallF)  {β : Type} (k0 : Option β) : Option β :=
 k0
noncomputable abbrev z45_11 (c0 : List UInt8) (c1 c2 c3 c4 : Int) (c5 : Bool) (c6 : List V) (c7 c8 c9 c10 c11 : Int) (c12 : Bool) (c13 : List V) (c14 : Int) (c15 : List V) (c16 c17 c18 c19 : Int) : St :=
 mk [(1, .str c0), (2, .ptr 0 0 0), (5, .int .i64 c1), (6, .whole T_l_l_bool 1), (7, .int .i64 c2), (8, .ptr 2 0 0), (9, .int .i64 c3), (10, .int .i64 c4), (11, .bool c5), (22, .list T_api_SfNode c6), (23, .int .i64 c7), (24, .int .i64 c8), (39, .int .i64 c9), (40, .int .i64 c10), (59, .int .i64 c11), (81, .bool c12)] [.var [.list T_api_SfNode c13, .int .i64 c14], .nest T_l_l_bool c15 [0, 0, 0], .var [.int .i64 c16, .int .i64 c17, .int .i64 c18, .int .i64 c19]]
noncomputable abbrev q45_11 : List Code := codesAt Try.prog 45 [[1, 1, 1, 0, 1, 0, 0, 1, 1, 0, 0, 1, 1, 1, 0, 0, 1, 1, 0, 0, 1, 1, 1, 0, 0, 1, 0, 0, 1, 0, 1, 0, 1, 1, 1, 1, 0]]
theorem h45_12_eq (C : CallF) (w : List UInt8) (n i a b' : Int) (v : Bool) (t22 : List V) (t23 t24 t39 t40 t59 : Int) (t65 : Bool) (gs_0 : List V) (gs_1 : Int) (in's : List V) (xs_0 xs_1 xs_2 xs_3 : Int) {β : Type} (K : Out → St → Option β) :
 execL Try.prog ann C 45 220 0 (q45_11) (z45_10 w n i a b' v t22 t23 t24 t39 t40 t59 t65 gs_0 gs_1 in's xs_0 xs_1 xs_2 xs_3) K =
  d45_12 C
   (K .norm (z45_11 w n i a b' v t22 t23 t24 t39 t40 t59 ((t59 : Int) == 4) gs_0 gs_1 in's xs_0 xs_1 xs_2 xs_3)) := by kernel_rfl
noncomputable def d45_13 (C : CallF)  {β : Type} (k0 : Bool → Option β) : Option β :=
 k0 true
noncomputable abbrev q45_12 : List Code := codesAt Try.prog 45 [[1, 1, 1, 0, 1, 0, 0, 1, 1, 0, 0, 1, 1, 1, 0, 0, 1, 1, 0, 0, 1, 1, 1, 0, 0, 1, 0, 0, 1, 0, 1, 0, 1, 1, 1, 1, 1, 0]]
theorem h45_13_eq (C : CallF) (w : List UInt8) (n i a b' : Int) (v : Bool) (t22 : List V) (t23 t24 t39 t40 t59 : Int) (t81 : Bool) (gs_0 : List V) (gs_1 : Int) (in's : List V) (xs_0 xs_1 xs_2 xs_3 : Int) {β : Type} (K : Out → St → Option β) :
 execL Try.prog ann C 45 220 0 (q45_12) (z45_11 w n i a b' v t22 t23 t24 t39 t40 t59 t81 gs_0 gs_1 in's xs_0 xs_1 xs_2 xs_3) K =
  d45_13 C
   (fun (v0 : Bool) => K .norm (z45_9 w n i a b' v0 t22 t23 t24 t39 t40 gs_0 gs_1 in's xs_0 xs_1 xs_2 xs_3)) := by kernel_rfl
noncomputable def d45_14 (C : CallF)  {β : Type} (k0 : Option β) : Option β :=
 k0
noncomputable abbrev z45_12 (c0 : List UInt8) (c1 c2 c3 c4 : Int) (c5 : Bool) (c6 : List V) (c7 c8 c9 c10 c11 : Int) (c12 : Bool) (c13 : List V) (c14 : Int) (c15 : List V) (c16 c17 c18 c19 : Int) : St :=
 mk [(1, .str c0), (2, .ptr 0 0 0), (5, .int .i64 c1), (6, .whole T_l_l_bool 1), (7, .int .i64 c2), (8, .ptr 2 0 0), (9, .int .i64 c3), (10, .int .i64 c4), (11, .bool c5), (22, .list T_api_SfNode c6), (23, .int .i64 c7), (24, .int .i64 c8), (39, .int .i64 c9), (40, .int .i64 c10), (59, .int .i64 c11), (83, .bool c12)] [.var [.list T_api_SfNode c13, .int .i64 c14], .nest T_l_l_bool c15 [0, 0, 0], .var [.int .i64 c16, .int .i64 c17, .int .i64 c18, .int .i64 c19]]
noncomputable abbrev q45_13 : List Code := codesAt Try.prog 45 [[1, 1, 1, 0, 1, 0, 0, 1, 1, 0, 0, 1, 1, 1, 0, 0, 1, 1, 0, 0, 1, 1, 1, 0, 0, 1, 0, 0, 1, 0, 1, 0, 1, 1, 1, 1, 1, 1, 0]]
theorem h45_14_eq (C : CallF) (w : List UInt8) (n i a b' : Int) (v : Bool) (t22 : List V) (t23 t24 t39 t40 t59 : Int) (t81 : Bool) (gs_0 : List V) (gs_1 : Int) (in's : List V) (xs_0 xs_1 xs_2 xs_3 : Int) {β : Type} (K : Out → St → Option β) :
 execL Try.prog ann C 45 220 0 (q45_13) (z45_11 w n i a b' v t22 t23 t24 t39 t40 t59 t81 gs_0 gs_1 in's xs_0 xs_1 xs_2 xs_3) K =
  d45_14 C
   (K .norm (z45_12 w n i a b' v t22 t23 t24 t39 t40 t59 ((t59 : Int) == 5) gs_0 gs_1 in's xs_0 xs_1 xs_2 xs_3)) := by kernel_rfl
noncomputable def s_semigroupref31_Holds_15 (C : CallF) (a b' : Int) (in's : List V) (xs_2 xs_3 : Int) {β : Type} (k0 : Bool → Option β) : Option β :=
 bif (decide (0 ≤ xs_2)) && (decide (xs_2 < (in's.length : Int))) then
  (in's[(xs_2 : Int).toNat]?).bind fun x17 =>
   (rowV Try.prog T_l_l_bool in's [((xs_2 : Int).toNat, 0)]).bind fun x18 =>
    bif (decide (0 ≤ a)) && (decide (a < (x18.toList.length : Int))) then
     (rowV Try.prog T_l_l_bool in's [((xs_2 : Int).toNat, 0)]).bind fun x19 =>
      (x19.toList[(a : Int).toNat]?).bind fun x20 =>
       (rowV Try.prog T_l_l_bool in's [((xs_2 : Int).toNat, 0), ((a : Int).toNat, 0)]).bind fun x21 =>
        bif (decide (0 ≤ b')) && (decide (b' < (x21.toList.length : Int))) then
         (rowV Try.prog T_l_l_bool in's [((xs_2 : Int).toNat, 0), ((a : Int).toNat, 0)]).bind fun x22 =>
          (x22.toList[(b' : Int).toNat]?).bind fun x23 =>
           bif x23.toBool then
            k0 true
           else
            bif (decide (0 ≤ xs_3)) && (decide (xs_3 < (in's.length : Int))) then
             (in's[(xs_3 : Int).toNat]?).bind fun x24 =>
              (rowV Try.prog T_l_l_bool in's [((xs_3 : Int).toNat, 0)]).bind fun x25 =>
               bif (decide (0 ≤ a)) && (decide (a < (x25.toList.length : Int))) then
                (rowV Try.prog T_l_l_bool in's [((xs_3 : Int).toNat, 0)]).bind fun x26 =>
                 (x26.toList[(a : Int).toNat]?).bind fun x27 =>
                  (rowV Try.prog T_l_l_bool in's [((xs_3 : Int).toNat, 0), ((a : Int).toNat, 0)]).bind fun x28 =>
                   bif (decide (0 ≤ b')) && (decide (b' < (x28.toList.length : Int))) then
                    (rowV Try.prog T_l_l_bool in's [((xs_3 : Int).toNat, 0), ((a : Int).toNat, 0)]).bind fun x29 =>
                     (x29.toList[(b' : Int).toNat]?).bind fun x30 =>
                      k0 x30.toBool
                   else none
               else none
            else none
        else none
    else none
 else none
noncomputable abbrev q45_14 : List Code := codesAt Try.prog 45 [[1, 1, 1, 0, 1, 0, 0, 1, 1, 0, 0, 1, 1, 1, 0, 0, 1, 1, 0, 0, 1, 1, 1, 0, 0, 1, 0, 0, 1, 0, 1, 0, 1, 1, 1, 1, 1, 1, 1, 0]]
theorem s_semigroupref31_Holds_15_eq (C : CallF) (w : List UInt8) (n i a b' : Int) (v : Bool) (t22 : List V) (t23 t24 t39 t40 t59 : Int) (t83 : Bool) (gs_0 : List V) (gs_1 : Int) (in's : List V) (xs_0 xs_1 xs_2 xs_3 : Int) {β : Type} (K : Out → St → Option β) :
 execL Try.prog ann C 45 220 0 (q45_14) (z45_12 w n i a b' v t22 t23 t24 t39 t40 t59 t83 gs_0 gs_1 in's xs_0 xs_1 xs_2 xs_3) K =
  s_semigroupref31_Holds_15 C a b' in's xs_2 xs_3
   (fun (v0 : Bool) => K .norm (z45_9 w n i a b' v0 t22 t23 t24 t39 t40 gs_0 gs_1 in's xs_0 xs_1 xs_2 xs_3)) := by kernel_rfl
noncomputable def d45_16 (C : CallF)  {β : Type} (k0 : Option β) : Option β :=
 k0
noncomputable abbrev z45_13 (c0 : List UInt8) (c1 c2 c3 c4 : Int) (c5 : Bool) (c6 : List V) (c7 c8 c9 c10 c11 : Int) (c12 : Bool) (c13 : List V) (c14 : Int) (c15 : List V) (c16 c17 c18 c19 : Int) : St :=
 mk [(1, .str c0), (2, .ptr 0 0 0), (5, .int .i64 c1), (6, .whole T_l_l_bool 1), (7, .int .i64 c2), (8, .ptr 2 0 0), (9, .int .i64 c3), (10, .int .i64 c4), (11, .bool c5), (22, .list T_api_SfNode c6), (23, .int .i64 c7), (24, .int .i64 c8), (39, .int .i64 c9), (40, .int .i64 c10), (59, .int .i64 c11), (109, .bool c12)] [.var [.list T_api_SfNode c13, .int .i64 c14], .nest T_l_l_bool c15 [0, 0, 0], .var [.int .i64 c16, .int .i64 c17, .int .i64 c18, .int .i64 c19]]
noncomputable abbrev q45_15 : List Code := codesAt Try.prog 45 [[1, 1, 1, 0, 1, 0, 0, 1, 1, 0, 0, 1, 1, 1, 0, 0, 1, 1, 0, 0, 1, 1, 1, 0, 0, 1, 0, 0, 1, 0, 1, 0, 1, 1, 1, 1, 1, 1, 1, 1, 0]]
theorem h45_16_eq (C : CallF) (w : List UInt8) (n i a b' : Int) (v : Bool) (t22 : List V) (t23 t24 t39 t40 t59 : Int) (t83 : Bool) (gs_0 : List V) (gs_1 : Int) (in's : List V) (xs_0 xs_1 xs_2 xs_3 : Int) {β : Type} (K : Out → St → Option β) :
 execL Try.prog ann C 45 220 0 (q45_15) (z45_12 w n i a b' v t22 t23 t24 t39 t40 t59 t83 gs_0 gs_1 in's xs_0 xs_1 xs_2 xs_3) K =
  d45_16 C
   (K .norm (z45_13 w n i a b' v t22 t23 t24 t39 t40 t59 ((t59 : Int) == 6) gs_0 gs_1 in's xs_0 xs_1 xs_2 xs_3)) := by kernel_rfl
noncomputable def s_semigroupref31_Holds_17 (C : CallF) (a b' : Int) (in's : List V) (xs_2 xs_3 : Int) {β : Type} (k0 : Bool → Option β) : Option β :=
 bif (decide (0 ≤ xs_2)) && (decide (xs_2 < (in's.length : Int))) then
  (in's[(xs_2 : Int).toNat]?).bind fun x31 =>
   (rowV Try.prog T_l_l_bool in's [((xs_2 : Int).toNat, 0)]).bind fun x32 =>
    bif (decide (0 ≤ a)) && (decide (a < (x32.toList.length : Int))) then
     (rowV Try.prog T_l_l_bool in's [((xs_2 : Int).toNat, 0)]).bind fun x33 =>
      (x33.toList[(a : Int).toNat]?).bind fun x34 =>
       (rowV Try.prog T_l_l_bool in's [((xs_2 : Int).toNat, 0), ((a : Int).toNat, 0)]).bind fun x35 =>
        bif (decide (0 ≤ b')) && (decide (b' < (x35.toList.length : Int))) then
         (rowV Try.prog T_l_l_bool in's [((xs_2 : Int).toNat, 0), ((a : Int).toNat, 0)]).bind fun x36 =>
          (x36.toList[(b' : Int).toNat]?).bind fun x37 =>
           bif x37.toBool then
            bif (decide (0 ≤ xs_3)) && (decide (xs_3 < (in's.length : Int))) then
             (in's[(xs_3 : Int).toNat]?).bind fun x38 =>
              (rowV Try.prog T_l_l_bool in's [((xs_3 : Int).toNat, 0)]).bind fun x39 =>
               bif (decide (0 ≤ a)) && (decide (a < (x39.toList.length : Int))) then
                (rowV Try.prog T_l_l_bool in's [((xs_3 : Int).toNat, 0)]).bind fun x40 =>
                 (x40.toList[(a : Int).toNat]?).bind fun x41 =>
                  (rowV Try.prog T_l_l_bool in's [((xs_3 : Int).toNat, 0), ((a : Int).toNat, 0)]).bind fun x42 =>
                   bif (decide (0 ≤ b')) && (decide (b' < (x42.toList.length : Int))) then
                    (rowV Try.prog T_l_l_bool in's [((xs_3 : Int).toNat, 0), ((a : Int).toNat, 0)]).bind fun x43 =>
                     (x43.toList[(b' : Int).toNat]?).bind fun x44 =>
                      k0 x44.toBool
                   else none
               else none
            else none
           else
            k0 false
        else none
    else none
 else none
noncomputable abbrev q45_16 : List Code := codesAt Try.prog 45 [[1, 1, 1, 0, 1, 0, 0, 1, 1, 0, 0, 1, 1, 1, 0, 0, 1, 1, 0, 0, 1, 1, 1, 0, 0, 1, 0, 0, 1, 0, 1, 0, 1, 1, 1, 1, 1, 1, 1, 1, 1, 0]]
theorem s_semigroupref31_Holds_17_eq (C : CallF) (w : List UInt8) (n i a b' : Int) (v : Bool) (t22 : List V) (t23 t24 t39 t40 t59 : Int) (t109 : Bool) (gs_0 : List V) (gs_1 : Int) (in's : List V) (xs_0 xs_1 xs_2 xs_3 : Int) {β : Type} (K : Out → St → Option β) :
 execL Try.prog ann C 45 220 0 (q45_16) (z45_13 w n i a b' v t22 t23 t24 t39 t40 t59 t109 gs_0 gs_1 in's xs_0 xs_1 xs_2 xs_3) K =
  s_semigroupref31_Holds_17 C a b' in's xs_2 xs_3
   (fun (v0 : Bool) => K .norm (z45_9 w n i a b' v0 t22 t23 t24 t39 t40 gs_0 gs_1 in's xs_0 xs_1 xs_2 xs_3)) := by kernel_rfl
noncomputable def d45_18 (C : CallF)  {β : Type} (k0 : Option β) : Option β :=
 k0
noncomputable abbrev z45_14 (c0 : List UInt8) (c1 c2 c3 c4 : Int) (c5 : Bool) (c6 : List V) (c7 c8 c9 c10 c11 : Int) (c12 : Bool) (c13 : List V) (c14 : Int) (c15 : List V) (c16 c17 c18 c19 : Int) : St :=
 mk [(1, .str c0), (2, .ptr 0 0 0), (5, .int .i64 c1), (6, .whole T_l_l_bool 1), (7, .int .i64 c2), (8, .ptr 2 0 0), (9, .int .i64 c3), (10, .int .i64 c4), (11, .bool c5), (22, .list T_api_SfNode c6), (23, .int .i64 c7), (24, .int .i64 c8), (39, .int .i64 c9), (40, .int .i64 c10), (59, .int .i64 c11), (135, .bool c12)] [.var [.list T_api_SfNode c13, .int .i64 c14], .nest T_l_l_bool c15 [0, 0, 0], .var [.int .i64 c16, .int .i64 c17, .int .i64 c18, .int .i64 c19]]
noncomputable abbrev q45_17 : List Code := codesAt Try.prog 45 [[1, 1, 1, 0, 1, 0, 0, 1, 1, 0, 0, 1, 1, 1, 0, 0, 1, 1, 0, 0, 1, 1, 1, 0, 0, 1, 0, 0, 1, 0, 1, 0, 1, 1, 1, 1, 1, 1, 1, 1, 1, 1, 0]]
theorem h45_18_eq (C : CallF) (w : List UInt8) (n i a b' : Int) (v : Bool) (t22 : List V) (t23 t24 t39 t40 t59 : Int) (t109 : Bool) (gs_0 : List V) (gs_1 : Int) (in's : List V) (xs_0 xs_1 xs_2 xs_3 : Int) {β : Type} (K : Out → St → Option β) :
 execL Try.prog ann C 45 220 0 (q45_17) (z45_13 w n i a b' v t22 t23 t24 t39 t40 t59 t109 gs_0 gs_1 in's xs_0 xs_1 xs_2 xs_3) K =
  d45_18 C
   (K .norm (z45_14 w n i a b' v t22 t23 t24 t39 t40 t59 ((t59 : Int) == 7) gs_0 gs_1 in's xs_0 xs_1 xs_2 xs_3)) := by kernel_rfl
noncomputable def d45_19 (C : CallF)  {β : Type} (k0 : Option β) : Option β :=
 k0
noncomputable abbrev z45_15 (c0 : List UInt8) (c1 c2 c3 c4 : Int) (c5 : Bool) (c6 : Int) (c7 : List V) (c8 c9 c10 c11 : Int) (c12 : List V) (c13 : Int) (c14 : List V) (c15 c16 c17 c18 : Int) : St :=
 mk [(1, .str c0), (2, .ptr 0 0 0), (5, .int .i64 c1), (6, .whole T_l_l_bool 1), (7, .int .i64 c2), (8, .ptr 2 0 0), (9, .int .i64 c3), (10, .int .i64 c4), (11, .bool c5), (12, .int .i64 c6), (22, .list T_api_SfNode c7), (23, .int .i64 c8), (24, .int .i64 c9), (39, .int .i64 c10), (40, .int .i64 c11)] [.var [.list T_api_SfNode c12, .int .i64 c13], .nest T_l_l_bool c14 [0, 0, 0], .var [.int .i64 c15, .int .i64 c16, .int .i64 c17, .int .i64 c18]]
noncomputable abbrev q45_18 : List Code := codesAt Try.prog 45 [[1, 1, 1, 0, 1, 0, 0, 1, 1, 0, 0, 1, 1, 1, 0, 0, 1, 1, 0, 0, 1, 1, 1, 0, 0, 1, 0, 0, 1, 0, 1, 0, 1, 1, 1, 1, 1, 1, 1, 1, 1, 1, 1, 0, 0]]
theorem h45_19_eq (C : CallF) (w : List UInt8) (n i a b' : Int) (v : Bool) (t22 : List V) (t23 t24 t39 t40 t59 : Int) (t135 : Bool) (gs_0 : List V) (gs_1 : Int) (in's : List V) (xs_0 xs_1 xs_2 xs_3 : Int) {β : Type} (K : Out → St → Option β) :
 execL Try.prog ann C 45 220 0 (q45_18) (z45_14 w n i a b' v t22 t23 t24 t39 t40 t59 t135 gs_0 gs_1 in's xs_0 xs_1 xs_2 xs_3) K =
  d45_19 C
   (K .norm (z45_15 w n i a b' v a t22 t23 t24 t39 t40 gs_0 gs_1 in's xs_0 xs_1 xs_2 xs_3)) := by kernel_rfl
noncomputable def s_semigroupref31_Holds_20 (C : CallF) (b' : Int) (v : Bool) (c : Int) {β : Type} (k0 : Bool → Option β) : Option β :=
 bif decide ((c : Int) ≤ b') then
  k0 (!v)
 else
  k0 false
noncomputable abbrev z45_16 (c0 : List UInt8) (c1 c2 c3 c4 : Int) (c5 : Bool) (c6 : Int) (c7 : List V) (c8 c9 c10 c11 : Int) (c12 : Bool) (c13 : List V) (c14 : Int) (c15 : List V) (c16 c17 c18 c19 : Int) : St :=
 mk [(1, .str c0), (2, .ptr 0 0 0), (5, .int .i64 c1), (6, .whole T_l_l_bool 1), (7, .int .i64 c2), (8, .ptr 2 0 0), (9, .int .i64 c3), (10, .int .i64 c4), (11, .bool c5), (12, .int .i64 c6), (22, .list T_api_SfNode c7), (23, .int .i64 c8), (24, .int .i64 c9), (39, .int .i64 c10), (40, .int .i64 c11), (144, .bool c12)] [.var [.list T_api_SfNode c13, .int .i64 c14], .nest T_l_l_bool c15 [0, 0, 0], .var [.int .i64 c16, .int .i64 c17, .int .i64 c18, .int .i64 c19]]
noncomputable abbrev q45_19 : List Code := codesAt Try.prog 45 [[1, 1, 1, 0, 1, 0, 0, 1, 1, 0, 0, 1, 1, 1, 0, 0, 1, 1, 0, 0, 1, 1, 1, 0, 0, 1, 0, 0, 1, 0, 1, 0, 1, 1, 1, 1, 1, 1, 1, 1, 1, 1, 1, 0, 1, 0, 0, 0, 0]]
theorem s_semigroupref31_Holds_20_eq (C : CallF) (w : List UInt8) (n i a b' : Int) (v : Bool) (c : Int) (t22 : List V) (t23 t24 t39 t40 : Int) (gs_0 : List V) (gs_1 : Int) (in's : List V) (xs_0 xs_1 xs_2 xs_3 : Int) {β : Type} (K : Out → St → Option β) :
 execL Try.prog ann C 45 220 0 (q45_19) (z45_15 w n i a b' v c t22 t23 t24 t39 t40 gs_0 gs_1 in's xs_0 xs_1 xs_2 xs_3) K =
  s_semigroupref31_Holds_20 C b' v c
   (fun (t1440 : Bool) => K .norm (z45_16 w n i a b' v c t22 t23 t24 t39 t40 t1440 gs_0 gs_1 in's xs_0 xs_1 xs_2 xs_3)) := by kernel_rfl
noncomputable def s_semigroupref31_Holds_21 (C : CallF) (a b' c : Int) (t144 : Bool) (in's : List V) (xs_2 xs_3 : Int) {β : Type} (k0 : Bool → Option β) (k1 : Option β) : Option β :=
 bif t144 then
  bif (decide (0 ≤ xs_2)) && (decide (xs_2 < (in's.length : Int))) then
   (in's[(xs_2 : Int).toNat]?).bind fun x59 =>
    (rowV Try.prog T_l_l_bool in's [((xs_2 : Int).toNat, 0)]).bind fun x60 =>
     bif (decide (0 ≤ a)) && (decide (a < (x60.toList.length : Int))) then
      (rowV Try.prog T_l_l_bool in's [((xs_2 : Int).toNat, 0)]).bind fun x61 =>
       (x61.toList[(a : Int).toNat]?).bind fun x62 =>
        (rowV Try.prog T_l_l_bool in's [((xs_2 : Int).toNat, 0), ((a : Int).toNat, 0)]).bind fun x63 =>
         bif (decide (0 ≤ c)) && (decide (c < (x63.toList.length : Int))) then
          (rowV Try.prog T_l_l_bool in's [((xs_2 : Int).toNat, 0), ((a : Int).toNat, 0)]).bind fun x64 =>
           (x64.toList[(c : Int).toNat]?).bind fun x65 =>
            bif x65.toBool then
             bif (decide (0 ≤ xs_3)) && (decide (xs_3 < (in's.length : Int))) then
              (in's[(xs_3 : Int).toNat]?).bind fun x66 =>
               (rowV Try.prog T_l_l_bool in's [((xs_3 : Int).toNat, 0)]).bind fun x67 =>
                bif (decide (0 ≤ c)) && (decide (c < (x67.toList.length : Int))) then
                 (rowV Try.prog T_l_l_bool in's [((xs_3 : Int).toNat, 0)]).bind fun x68 =>
                  (x68.toList[(c : Int).toNat]?).bind fun x69 =>
                   (rowV Try.prog T_l_l_bool in's [((xs_3 : Int).toNat, 0), ((c : Int).toNat, 0)]).bind fun x70 =>
                    bif (decide (0 ≤ b')) && (decide (b' < (x70.toList.length : Int))) then
                     (rowV Try.prog T_l_l_bool in's [((xs_3 : Int).toNat, 0), ((c : Int).toNat, 0)]).bind fun x71 =>
                      (x71.toList[(b' : Int).toNat]?).bind fun x72 =>
                       k0 x72.toBool
                    else none
                else none
             else none
            else
             k0 false
         else none
     else none
  else none
 else
  k1
noncomputable abbrev q45_20 : List Code := codesAt Try.prog 45 [[1, 1, 1, 0, 1, 0, 0, 1, 1, 0, 0, 1, 1, 1, 0, 0, 1, 1, 0, 0, 1, 1, 1, 0, 0, 1, 0, 0, 1, 0, 1, 0, 1, 1, 1, 1, 1, 1, 1, 1, 1, 1, 1, 0, 1, 0, 0, 0, 1], [1, 1, 1, 0, 1, 0, 0, 1, 1, 0, 0, 1, 1, 1, 0, 0, 1, 1, 0, 0, 1, 1, 1, 0, 0, 1, 0, 0, 1, 0, 1, 0, 1, 1, 1, 1, 1, 1, 1, 1, 1, 1, 1, 0, 1, 0, 0, 1, 0]]
theorem s_semigroupref31_Holds_21_eq (C : CallF) (w : List UInt8) (n i a b' : Int) (v : Bool) (c : Int) (t22 : List V) (t23 t24 t39 t40 : Int) (t144 : Bool) (gs_0 : List V) (gs_1 : Int) (in's : List V) (xs_0 xs_1 xs_2 xs_3 : Int) {β : Type} (K : Out → St → Option β) :
 execL Try.prog ann C 45 220 0 (q45_20) (z45_16 w n i a b' v c t22 t23 t24 t39 t40 t144 gs_0 gs_1 in's xs_0 xs_1 xs_2 xs_3) K =
  s_semigroupref31_Holds_21 C a b' c t144 in's xs_2 xs_3
   (fun (v0 : Bool) => K .norm (z45_15 w n i a b' v0 c t22 t23 t24 t39 t40 gs_0 gs_1 in's xs_0 xs_1 xs_2 xs_3))
   (K (.exit 7) (z45_16 w n i a b' v c t22 t23 t24 t39 t40 t144 gs_0 gs_1 in's xs_0 xs_1 xs_2 xs_3)) := by kernel_rfl
noncomputable def d45_22 (C : CallF)  {β : Type} (k0 : Option β) : Option β :=
 k0
noncomputable abbrev q45_21 : List Code := codesAt Try.prog 45 [[1, 1, 1, 0, 1, 0, 0, 1, 1, 0, 0, 1, 1, 1, 0, 0, 1, 1, 0, 0, 1, 1, 1, 0, 0, 1, 0, 0, 1, 0, 1, 0, 1, 1, 1, 1, 1, 1, 1, 1, 1, 1, 1, 0, 1, 0, 0, 1, 1]]
theorem h45_22_eq (C : CallF) (w : List UInt8) (n i a b' : Int) (v : Bool) (c : Int) (t22 : List V) (t23 t24 t39 t40 : Int) (gs_0 : List V) (gs_1 : Int) (in's : List V) (xs_0 xs_1 xs_2 xs_3 : Int) {β : Type} (K : Out → St → Option β) :
 execL Try.prog ann C 45 220 0 (q45_21) (z45_15 w n i a b' v c t22 t23 t24 t39 t40 gs_0 gs_1 in's xs_0 xs_1 xs_2 xs_3) K =
  d45_22 C
   (K .norm (z45_15 w n i a b' v (IntKind.wrap .i64 (c + 1)) t22 t23 t24 t39 t40 gs_0 gs_1 in's xs_0 xs_1 xs_2 xs_3)) := by kernel_rfl
noncomputable def d45_23 (C : CallF) (a b' c : Int) (t144 : Bool) (in's : List V) (xs_2 xs_3 : Int) {β : Type} (k0 : Bool → Option β) (k1 : Option β) : Option β :=
 s_semigroupref31_Holds_21 C a b' c t144 in's xs_2 xs_3
  (fun (v_87 : Bool) =>
   d45_22 C
    (
     k0 v_87))
  (
   k1)
noncomputable abbrev q45_22 : List Code := codesAt Try.prog 45 [[1, 1, 1, 0, 1, 0, 0, 1, 1, 0, 0, 1, 1, 1, 0, 0, 1, 1, 0, 0, 1, 1, 1, 0, 0, 1, 0, 0, 1, 0, 1, 0, 1, 1, 1, 1, 1, 1, 1, 1, 1, 1, 1, 0, 1, 0, 0, 0, 1], [1, 1, 1, 0, 1, 0, 0, 1, 1, 0, 0, 1, 1, 1, 0, 0, 1, 1, 0, 0, 1, 1, 1, 0, 0, 1, 0, 0, 1, 0, 1, 0, 1, 1, 1, 1, 1, 1, 1, 1, 1, 1, 1, 0, 1, 0, 0, 1, 0], [1, 1, 1, 0, 1, 0, 0, 1, 1, 0, 0, 1, 1, 1, 0, 0, 1, 1, 0, 0, 1, 1, 1, 0, 0, 1, 0, 0, 1, 0, 1, 0, 1, 1, 1, 1, 1, 1, 1, 1, 1, 1, 1, 0, 1, 0, 0, 1, 1]]
theorem h45_23_eq (C : CallF) (w : List UInt8) (n i a b' : Int) (v : Bool) (c : Int) (t22 : List V) (t23 t24 t39 t40 : Int) (t144 : Bool) (gs_0 : List V) (gs_1 : Int) (in's : List V) (xs_0 xs_1 xs_2 xs_3 : Int) {β : Type} (K : Out → St → Option β) :
 execL Try.prog ann C 45 220 0 (q45_22) (z45_16 w n i a b' v c t22 t23 t24 t39 t40 t144 gs_0 gs_1 in's xs_0 xs_1 xs_2 xs_3) K =
  d45_23 C a b' c t144 in's xs_2 xs_3
   (fun (v0 : Bool) => K .norm (z45_15 w n i a b' v0 (IntKind.wrap .i64 (c + 1)) t22 t23 t24 t39 t40 gs_0 gs_1 in's xs_0 xs_1 xs_2 xs_3))
   (K (.exit 7) (z45_16 w n i a b' v c t22 t23 t24 t39 t40 t144 gs_0 gs_1 in's xs_0 xs_1 xs_2 xs_3)) := by
 refine Eq.trans (execL_app (P := Try.prog) (A := ann) (C := C) (f := 45) (n := 220) (m := 0) (q45_20) (q45_21) (st := z45_16 w n i a b' v c t22 t23 t24 t39 t40 t144 gs_0 gs_1 in's xs_0 xs_1 xs_2 xs_3) (K := K)) (Eq.trans (s_semigroupref31_Holds_21_eq C w n i a b' v c t22 t23 t24 t39 t40 t144 gs_0 gs_1 in's xs_0 xs_1 xs_2 xs_3 (seqK Try.prog ann C 45 220 0 (q45_21) K)) ?_)
 · exact Eq.trans (by kernel_rfl) (Eq.trans (congrArg (fun HOLE : Bool → Option β => s_semigroupref31_Holds_21 C a b' c t144 in's xs_2 xs_3 HOLE (K (.exit 7) (z45_16 w n i a b' v c t22 t23 t24 t39 t40 t144 gs_0 gs_1 in's xs_0 xs_1 xs_2 xs_3))) (funext fun (v0 : Bool) => h45_22_eq C w n i a b' v0 c t22 t23 t24 t39 t40 gs_0 gs_1 in's xs_0 xs_1 xs_2 xs_3 K)) ((by kernel_rfl)))
noncomputable def d45_24 (C : CallF) (a b' : Int) (v : Bool) (c : Int) (in's : List V) (xs_2 xs_3 : Int) {β : Type} (k0 : Bool → Option β) (k1 : Bool → Option β) : Option β :=
 s_semigroupref31_Holds_20 C b' v c
  (fun (t_89 : Bool) =>
   d45_23 C a b' c t_89 in's xs_2 xs_3
    (fun (v_90 : Bool) =>
     k0 v_90)
    (
     k1 t_89))
noncomputable abbrev q45_23 : List Code := codesAt Try.prog 45 [[1, 1, 1, 0, 1, 0, 0, 1, 1, 0, 0, 1, 1, 1, 0, 0, 1, 1, 0, 0, 1, 1, 1, 0, 0, 1, 0, 0, 1, 0, 1, 0, 1, 1, 1, 1, 1, 1, 1, 1, 1, 1, 1, 0, 1, 0, 0, 0, 0], [1, 1, 1, 0, 1, 0, 0, 1, 1, 0, 0, 1, 1, 1, 0, 0, 1, 1, 0, 0, 1, 1, 1, 0, 0, 1, 0, 0, 1, 0, 1, 0, 1, 1, 1, 1, 1, 1, 1, 1, 1, 1, 1, 0, 1, 0, 0, 0, 1], [1, 1, 1, 0, 1, 0, 0, 1, 1, 0, 0, 1, 1, 1, 0, 0, 1, 1, 0, 0, 1, 1, 1, 0, 0, 1, 0, 0, 1, 0, 1, 0, 1, 1, 1, 1, 1, 1, 1, 1, 1, 1, 1, 0, 1, 0, 0, 1, 0], [1, 1, 1, 0, 1, 0, 0, 1, 1, 0, 0, 1, 1, 1, 0, 0, 1, 1, 0, 0, 1, 1, 1, 0, 0, 1, 0, 0, 1, 0, 1, 0, 1, 1, 1, 1, 1, 1, 1, 1, 1, 1, 1, 0, 1, 0, 0, 1, 1]]
theorem h45_24_eq (C : CallF) (w : List UInt8) (n i a b' : Int) (v : Bool) (c : Int) (t22 : List V) (t23 t24 t39 t40 : Int) (gs_0 : List V) (gs_1 : Int) (in's : List V) (xs_0 xs_1 xs_2 xs_3 : Int) {β : Type} (K : Out → St → Option β) :
 execL Try.prog ann C 45 220 0 (q45_23) (z45_15 w n i a b' v c t22 t23 t24 t39 t40 gs_0 gs_1 in's xs_0 xs_1 xs_2 xs_3) K =
  d45_24 C a b' v c in's xs_2 xs_3
   (fun (v0 : Bool) => K .norm (z45_15 w n i a b' v0 (IntKind.wrap .i64 (c + 1)) t22 t23 t24 t39 t40 gs_0 gs_1 in's xs_0 xs_1 xs_2 xs_3))
   (fun (t1441 : Bool) => K (.exit 7) (z45_16 w n i a b' v c t22 t23 t24 t39 t40 t1441 gs_0 gs_1 in's xs_0 xs_1 xs_2 xs_3)) := by
 refine Eq.trans (execL_app (P := Try.prog) (A := ann) (C := C) (f := 45) (n := 220) (m := 0) (q45_19) (q45_22) (st := z45_15 w n i a b' v c t22 t23 t24 t39 t40 gs_0 gs_1 in's xs_0 xs_1 xs_2 xs_3) (K := K)) (Eq.trans (s_semigroupref31_Holds_20_eq C w n i a b' v c t22 t23 t24 t39 t40 gs_0 gs_1 in's xs_0 xs_1 xs_2 xs_3 (seqK Try.prog ann C 45 220 0 (q45_22) K)) ?_)
 · exact Eq.trans (by kernel_rfl) (Eq.trans (congrArg (fun HOLE : Bool → Option β => s_semigroupref31_Holds_20 C b' v c HOLE) (funext fun (t1440 : Bool) => h45_23_eq C w n i a b' v c t22 t23 t24 t39 t40 t1440 gs_0 gs_1 in's xs_0 xs_1 xs_2 xs_3 K)) ((by kernel_rfl)))
noncomputable def s_semigroupref31_Holds_25L_step (C : CallF) (a b' : Int) (in's : List V) (xs_2 xs_3 : Int) : (Bool × Int) → Option ((Bool × Int) ⊕ ((Bool × Int × Bool))) := fun (v, c) =>
 s_semigroupref31_Holds_20 C b' v c
  (fun (t_91 : Bool) =>
   s_semigroupref31_Holds_21 C a b' c t_91 in's xs_2 xs_3
    (fun (v_88 : Bool) =>
     some (.inl (v_88, IntKind.wrap .i64 (c + 1))))
    (
     some (.inr (v, c, t_91))))
noncomputable def s_semigroupref31_Holds_25L (C : CallF) (a b' : Int) (v : Bool) (c : Int) (in's : List V) (xs_2 xs_3 : Int) {β : Type} (k0 : Bool → Int → Bool → Option β) : Option β :=
 (Loop (s_semigroupref31_Holds_25L_step C a b' in's xs_2 xs_3) (v, c)).bind fun (v0, c0, t1440) => k0 v0 c0 t1440
noncomputable def s_semigroupref31_Holds_25L_dec : Out → St → Option ((Bool × Int) ⊕ ((Bool × Int × Bool))) := fun o st => match o with
 | .norm => some (.inl (V.toBool (st.sl 11), V.toInt (st.sl 12)))
 | .exit q => bif Nat.beq q 7 then some (.inr (V.toBool (st.sl 11), V.toInt (st.sl 12), V.toBool (st.sl 144))) else none
 | .ret => none
noncomputable def s_semigroupref31_Holds_25L_hd (w : List UInt8) (n i a b' : Int) (t22 : List V) (t23 t24 t39 t40 : Int) (gs_0 : List V) (gs_1 : Int) (in's : List V) (xs_0 xs_1 xs_2 xs_3 : Int) : (Bool × Int) → St := fun (v, c) => z45_15 w n i a b' v c t22 t23 t24 t39 t40 gs_0 gs_1 in's xs_0 xs_1 xs_2 xs_3
noncomputable def s_semigroupref31_Holds_25L_enc (w : List UInt8) (n i a b' : Int) (t22 : List V) (t23 t24 t39 t40 : Int) (gs_0 : List V) (gs_1 : Int) (in's : List V) (xs_0 xs_1 xs_2 xs_3 : Int) : ((Bool × Int × Bool)) → Out × St := fun (v0, c0, t1440) => (.exit 7, z45_16 w n i a b' v0 c0 t22 t23 t24 t39 t40 t1440 gs_0 gs_1 in's xs_0 xs_1 xs_2 xs_3)
noncomputable abbrev q45_24 : List Code := codesAt Try.prog 45 [[1, 1, 1, 0, 1, 0, 0, 1, 1, 0, 0, 1, 1, 1, 0, 0, 1, 1, 0, 0, 1, 1, 1, 0, 0, 1, 0, 0, 1, 0, 1, 0, 1, 1, 1, 1, 1, 1, 1, 1, 1, 1, 1, 0, 1, 0, 0]]
noncomputable abbrev q45_25 : List Code := codesAt Try.prog 45 [[1, 1, 1, 0, 1, 0, 0, 1, 1, 0, 0, 1, 1, 1, 0, 0, 1, 1, 0, 0, 1, 1, 1, 0, 0, 1, 0, 0, 1, 0, 1, 0, 1, 1, 1, 1, 1, 1, 1, 1, 1, 1, 1, 0, 1, 0]]
theorem s_semigroupref31_Holds_25L_eq (C : CallF) (w : List UInt8) (n i a b' : Int) (v : Bool) (c : Int) (t22 : List V) (t23 t24 t39 t40 : Int) (gs_0 : List V) (gs_1 : Int) (in's : List V) (xs_0 xs_1 xs_2 xs_3 : Int) {β : Type} (K : Out → St → Option β) :
 execL Try.prog ann C 45 220 0 (q45_25) (z45_15 w n i a b' v c t22 t23 t24 t39 t40 gs_0 gs_1 in's xs_0 xs_1 xs_2 xs_3) K =
  s_semigroupref31_Holds_25L C a b' v c in's xs_2 xs_3
   (fun (v0 : Bool) (c0 : Int) (t1440 : Bool) => K (.exit 7) (z45_16 w n i a b' v0 c0 t22 t23 t24 t39 t40 t1440 gs_0 gs_1 in's xs_0 xs_1 xs_2 xs_3)) := by
 have hitems : flatC (codeAt [1, 1, 1, 0, 1, 0, 0, 1, 1, 0, 0, 1, 1, 1, 0, 0, 1, 1, 0, 0, 1, 1, 1, 0, 0, 1, 0, 0, 1, 0, 1, 0, 1, 1, 1, 1, 1, 1, 1, 1, 1, 1, 1, 0, 1, 0, 0] (bodyOf Try.prog 45)) = q45_23 := by kernel_rfl
 have hloop : [codeAt [1, 1, 1, 0, 1, 0, 0, 1, 1, 0, 0, 1, 1, 1, 0, 0, 1, 1, 0, 0, 1, 1, 1, 0, 0, 1, 0, 0, 1, 0, 1, 0, 1, 1, 1, 1, 1, 1, 1, 1, 1, 1, 1, 0, 1, 0] (bodyOf Try.prog 45)] = [Code.loop (codeAt [1, 1, 1, 0, 1, 0, 0, 1, 1, 0, 0, 1, 1, 1, 0, 0, 1, 1, 0, 0, 1, 1, 1, 0, 0, 1, 0, 0, 1, 0, 1, 0, 1, 1, 1, 1, 1, 1, 1, 1, 1, 1, 1, 0, 1, 0, 0] (bodyOf Try.prog 45))] := by kernel_rfl
 have h := loopK_eq (P := Try.prog) (A := ann) (C := C) (f := 45) (n := 220) (m := 0) (c := codeAt [1, 1, 1, 0, 1, 0, 0, 1, 1, 0, 0, 1, 1, 1, 0, 0, 1, 1, 0, 0, 1, 1, 1, 0, 0, 1, 0, 0, 1, 0, 1, 0, 1, 1, 1, 1, 1, 1, 1, 1, 1, 1, 1, 0, 1, 0, 0] (bodyOf Try.prog 45)) (s_semigroupref31_Holds_25L_hd w n i a b' t22 t23 t24 t39 t40 gs_0 gs_1 in's xs_0 xs_1 xs_2 xs_3) (s_semigroupref31_Holds_25L_enc w n i a b' t22 t23 t24 t39 t40 gs_0 gs_1 in's xs_0 xs_1 xs_2 xs_3) s_semigroupref31_Holds_25L_dec (s_semigroupref31_Holds_25L_step C a b' in's xs_2 xs_3)
  (by rintro ⟨v, c⟩; exact Eq.trans (execK_items hitems) (Eq.trans (h45_24_eq C w n i a b' v c t22 t23 t24 t39 t40 gs_0 gs_1 in's xs_0 xs_1 xs_2 xs_3 s_semigroupref31_Holds_25L_dec) (by kernel_rfl)))
  (by rintro ⟨v, c⟩; exact Eq.trans (execK_items hitems) (Eq.trans (h45_24_eq C w n i a b' v c t22 t23 t24 t39 t40 gs_0 gs_1 in's xs_0 xs_1 xs_2 xs_3 (fun o st => some (o, st))) (Eq.trans (by kernel_rfl) (Eq.trans (h45_24_eq C w n i a b' v c t22 t23 t24 t39 t40 gs_0 gs_1 in's xs_0 xs_1 xs_2 xs_3 (fun o st => (s_semigroupref31_Holds_25L_dec o st).map (outS (s_semigroupref31_Holds_25L_hd w n i a b' t22 t23 t24 t39 t40 gs_0 gs_1 in's xs_0 xs_1 xs_2 xs_3) (s_semigroupref31_Holds_25L_enc w n i a b' t22 t23 t24 t39 t40 gs_0 gs_1 in's xs_0 xs_1 xs_2 xs_3)))).symm (execK_items hitems).symm))))
  (by intro r; intro h; cases h) (v, c) K
 refine Eq.trans (congrArg (fun l => execL Try.prog ann C 45 220 0 l (z45_15 w n i a b' v c t22 t23 t24 t39 t40 gs_0 gs_1 in's xs_0 xs_1 xs_2 xs_3) K) hloop) (Eq.trans h ?_)
 · refine congrArg _ (funext fun r => ?_)
   rfl
noncomputable def d45_26 (C : CallF) (a b' : Int) (v : Bool) (c : Int) (in's : List V) (xs_2 xs_3 : Int) {β : Type} (k0 : Bool → Option β) : Option β :=
 s_semigroupref31_Holds_25L C a b' v c in's xs_2 xs_3
  (fun (v_92 : Bool) (c_93 : Int) (t_94 : Bool) =>
   k0 v_92)
noncomputable abbrev q45_26 : List Code := codesAt Try.prog 45 [[1, 1, 1, 0, 1, 0, 0, 1, 1, 0, 0, 1, 1, 1, 0, 0, 1, 1, 0, 0, 1, 1, 1, 0, 0, 1, 0, 0, 1, 0, 1, 0, 1, 1, 1, 1, 1, 1, 1, 1, 1, 1, 1, 0, 1]]
theorem h45_26_eq (C : CallF) (w : List UInt8) (n i a b' : Int) (v : Bool) (c : Int) (t22 : List V) (t23 t24 t39 t40 : Int) (gs_0 : List V) (gs_1 : Int) (in's : List V) (xs_0 xs_1 xs_2 xs_3 : Int) {β : Type} (K : Out → St → Option β) :
 execL Try.prog ann C 45 220 0 (q45_26) (z45_15 w n i a b' v c t22 t23 t24 t39 t40 gs_0 gs_1 in's xs_0 xs_1 xs_2 xs_3) K =
  d45_26 C a b' v c in's xs_2 xs_3
   (fun (v0 : Bool) => K .norm (z45_9 w n i a b' v0 t22 t23 t24 t39 t40 gs_0 gs_1 in's xs_0 xs_1 xs_2 xs_3)) := Eq.trans (execL_block (P := Try.prog) (A := ann) (C := C) (f := 45) (n := 220) (m := 0) (id := 7) (c := codeAt [1, 1, 1, 0, 1, 0, 0, 1, 1, 0, 0, 1, 1, 1, 0, 0, 1, 1, 0, 0, 1, 1, 1, 0, 0, 1, 0, 0, 1, 0, 1, 0, 1, 1, 1, 1, 1, 1, 1, 1, 1, 1, 1, 0, 1] (bodyOf Try.prog 45)) (d := codeAt [1, 1, 1, 0, 1, 0, 0, 1, 1, 0, 0, 1, 1, 1, 0, 0, 1, 1, 0, 0, 1, 1, 1, 0, 0, 1, 0, 0, 1, 0, 1, 0, 1, 1, 1, 1, 1, 1, 1, 1, 1, 1, 1, 0, 1, 0] (bodyOf Try.prog 45)) (l := q45_25) (st := z45_15 w n i a b' v c t22 t23 t24 t39 t40 gs_0 gs_1 in's xs_0 xs_1 xs_2 xs_3) (K := K) (by kernel_rfl) (by kernel_rfl)) (Eq.trans (s_semigroupref31_Holds_25L_eq C w n i a b' v c t22 t23 t24 t39 t40 gs_0 gs_1 in's xs_0 xs_1 xs_2 xs_3 (blockK ann 45 0 7 K)) (by kernel_rfl))
noncomputable def d45_27 (C : CallF) (a b' : Int) (v : Bool) (in's : List V) (xs_2 xs_3 : Int) {β : Type} (k0 : Bool → Option β) : Option β :=
 d45_19 C
  (
   d45_26 C a b' v a in's xs_2 xs_3
    (fun (v_98 : Bool) =>
     k0 v_98))
noncomputable abbrev q45_27 : List Code := codesAt Try.prog 45 [[1, 1, 1, 0, 1, 0, 0, 1, 1, 0, 0, 1, 1, 1, 0, 0, 1, 1, 0, 0, 1, 1, 1, 0, 0, 1, 0, 0, 1, 0, 1, 0, 1, 1, 1, 1, 1, 1, 1, 1, 1, 1, 1, 0, 0], [1, 1, 1, 0, 1, 0, 0, 1, 1, 0, 0, 1, 1, 1, 0, 0, 1, 1, 0, 0, 1, 1, 1, 0, 0, 1, 0, 0, 1, 0, 1, 0, 1, 1, 1, 1, 1, 1, 1, 1, 1, 1, 1, 0, 1]]
theorem h45_27_eq (C : CallF) (w : List UInt8) (n i a b' : Int) (v : Bool) (t22 : List V) (t23 t24 t39 t40 t59 : Int) (t135 : Bool) (gs_0 : List V) (gs_1 : Int) (in's : List V) (xs_0 xs_1 xs_2 xs_3 : Int) {β : Type} (K : Out → St → Option β) :
 execL Try.prog ann C 45 220 0 (q45_27) (z45_14 w n i a b' v t22 t23 t24 t39 t40 t59 t135 gs_0 gs_1 in's xs_0 xs_1 xs_2 xs_3) K =
  d45_27 C a b' v in's xs_2 xs_3
   (fun (v0 : Bool) => K .norm (z45_9 w n i a b' v0 t22 t23 t24 t39 t40 gs_0 gs_1 in's xs_0 xs_1 xs_2 xs_3)) := by
 refine Eq.trans (execL_app (P := Try.prog) (A := ann) (C := C) (f := 45) (n := 220) (m := 0) (q45_18) (q45_26) (st := z45_14 w n i a b' v t22 t23 t24 t39 t40 t59 t135 gs_0 gs_1 in's xs_0 xs_1 xs_2 xs_3) (K := K)) (Eq.trans (h45_19_eq C w n i a b' v t22 t23 t24 t39 t40 t59 t135 gs_0 gs_1 in's xs_0 xs_1 xs_2 xs_3 (seqK Try.prog ann C 45 220 0 (q45_26) K)) ?_)
 · exact Eq.trans (by kernel_rfl) (Eq.trans (congrArg (fun HOLE : Option β => d45_19 C HOLE) (h45_26_eq C w n i a b' v a t22 t23 t24 t39 t40 gs_0 gs_1 in's xs_0 xs_1 xs_2 xs_3 K)) ((by kernel_rfl)))
noncomputable def s_semigroupref31_Holds_28 (C : CallF) (a b' : Int) (v : Bool) (t59 : Int) (in's : List V) (xs_2 : Int) {β : Type} (k0 : Bool → Option β) : Option β :=
 bif (t59 : Int) == 8 then
  bif (decide (0 ≤ xs_2)) && (decide (xs_2 < (in's.length : Int))) then
   (in's[(xs_2 : Int).toNat]?).bind fun x99 =>
    (rowV Try.prog T_l_l_bool in's [((xs_2 : Int).toNat, 0)]).bind fun x100 =>
     bif (decide (0 ≤ a)) && (decide (a < (x100.toList.length : Int))) then
      (rowV Try.prog T_l_l_bool in's [((xs_2 : Int).toNat, 0)]).bind fun x101 =>
       (x101.toList[(a : Int).toNat]?).bind fun x102 =>
        (rowV Try.prog T_l_l_bool in's [((xs_2 : Int).toNat, 0), ((a : Int).toNat, 0)]).bind fun x103 =>
         bif (decide (0 ≤ b')) && (decide (b' < (x103.toList.length : Int))) then
          (rowV Try.prog T_l_l_bool in's [((xs_2 : Int).toNat, 0), ((a : Int).toNat, 0)]).bind fun x104 =>
           (x104.toList[(b' : Int).toNat]?).bind fun x105 =>
            k0 (!x105.toBool)
         else none
     else none
  else none
 else
  k0 v
noncomputable abbrev q45_28 : List Code := codesAt Try.prog 45 [[1, 1, 1, 0, 1, 0, 0, 1, 1, 0, 0, 1, 1, 1, 0, 0, 1, 1, 0, 0, 1, 1, 1, 0, 0, 1, 0, 0, 1, 0, 1, 0, 1, 1, 1, 1, 1, 1, 1, 1, 1, 1, 1, 1, 0], [1, 1, 1, 0, 1, 0, 0, 1, 1, 0, 0, 1, 1, 1, 0, 0, 1, 1, 0, 0, 1, 1, 1, 0, 0, 1, 0, 0, 1, 0, 1, 0, 1, 1, 1, 1, 1, 1, 1, 1, 1, 1, 1, 1, 1]]
theorem s_semigroupref31_Holds_28_eq (C : CallF) (w : List UInt8) (n i a b' : Int) (v : Bool) (t22 : List V) (t23 t24 t39 t40 t59 : Int) (t135 : Bool) (gs_0 : List V) (gs_1 : Int) (in's : List V) (xs_0 xs_1 xs_2 xs_3 : Int) {β : Type} (K : Out → St → Option β) :
 execL Try.prog ann C 45 220 0 (q45_28) (z45_14 w n i a b' v t22 t23 t24 t39 t40 t59 t135 gs_0 gs_1 in's xs_0 xs_1 xs_2 xs_3) K =
  s_semigroupref31_Holds_28 C a b' v t59 in's xs_2
   (fun (v0 : Bool) => K .norm (z45_9 w n i a b' v0 t22 t23 t24 t39 t40 gs_0 gs_1 in's xs_0 xs_1 xs_2 xs_3)) := by kernel_rfl
noncomputable def d45_29 (C : CallF) (a b' : Int) (v : Bool) (t59 : Int) (t135 : Bool) (in's : List V) (xs_2 xs_3 : Int) {β : Type} (k0 : Bool → Option β) : Option β :=
 bif t135 then
  d45_27 C a b' v in's xs_2 xs_3
   (fun (v_106 : Bool) =>
    k0 v_106)
 else
  s_semigroupref31_Holds_28 C a b' v t59 in's xs_2
   (fun (v_107 : Bool) =>
    k0 v_107)
noncomputable abbrev q45_29 : List Code := codesAt Try.prog 45 [[1, 1, 1, 0, 1, 0, 0, 1, 1, 0, 0, 1, 1, 1, 0, 0, 1, 1, 0, 0, 1, 1, 1, 0, 0, 1, 0, 0, 1, 0, 1, 0, 1, 1, 1, 1, 1, 1, 1, 1, 1, 1, 1]]
theorem h45_29_eq (C : CallF) (w : List UInt8) (n i a b' : Int) (v : Bool) (t22 : List V) (t23 t24 t39 t40 t59 : Int) (t135 : Bool) (gs_0 : List V) (gs_1 : Int) (in's : List V) (xs_0 xs_1 xs_2 xs_3 : Int) {β : Type} (K : Out → St → Option β) :
 execL Try.prog ann C 45 220 0 (q45_29) (z45_14 w n i a b' v t22 t23 t24 t39 t40 t59 t135 gs_0 gs_1 in's xs_0 xs_1 xs_2 xs_3) K =
  d45_29 C a b' v t59 t135 in's xs_2 xs_3
   (fun (v0 : Bool) => K .norm (z45_9 w n i a b' v0 t22 t23 t24 t39 t40 gs_0 gs_1 in's xs_0 xs_1 xs_2 xs_3)) := by
 cases t135 with
 | true => exact Eq.trans (execL_true (P := Try.prog) (A := ann) (C := C) (f := 45) (n := 220) (m := 0) (t := 135) (c := codeAt [1, 1, 1, 0, 1, 0, 0, 1, 1, 0, 0, 1, 1, 1, 0, 0, 1, 1, 0, 0, 1, 1, 1, 0, 0, 1, 0, 0, 1, 0, 1, 0, 1, 1, 1, 1, 1, 1, 1, 1, 1, 1, 1] (bodyOf Try.prog 45)) (x := codeAt [1, 1, 1, 0, 1, 0, 0, 1, 1, 0, 0, 1, 1, 1, 0, 0, 1, 1, 0, 0, 1, 1, 1, 0, 0, 1, 0, 0, 1, 0, 1, 0, 1, 1, 1, 1, 1, 1, 1, 1, 1, 1, 1, 0] (bodyOf Try.prog 45)) (y := codeAt [1, 1, 1, 0, 1, 0, 0, 1, 1, 0, 0, 1, 1, 1, 0, 0, 1, 1, 0, 0, 1, 1, 1, 0, 0, 1, 0, 0, 1, 0, 1, 0, 1, 1, 1, 1, 1, 1, 1, 1, 1, 1, 1, 1] (bodyOf Try.prog 45)) (l := q45_27) (st := z45_14 w n i a b' v t22 t23 t24 t39 t40 t59 true gs_0 gs_1 in's xs_0 xs_1 xs_2 xs_3) (K := K) (by kernel_rfl) (by kernel_rfl) (by kernel_rfl)) (Eq.trans (h45_27_eq C w n i a b' v t22 t23 t24 t39 t40 t59 true gs_0 gs_1 in's xs_0 xs_1 xs_2 xs_3 (joinK ann 45 0 135 K)) (by kernel_rfl))
 | false => exact Eq.trans (execL_false (P := Try.prog) (A := ann) (C := C) (f := 45) (n := 220) (m := 0) (t := 135) (c := codeAt [1, 1, 1, 0, 1, 0, 0, 1, 1, 0, 0, 1, 1, 1, 0, 0, 1, 1, 0, 0, 1, 1, 1, 0, 0, 1, 0, 0, 1, 0, 1, 0, 1, 1, 1, 1, 1, 1, 1, 1, 1, 1, 1] (bodyOf Try.prog 45)) (x := codeAt [1, 1, 1, 0, 1, 0, 0, 1, 1, 0, 0, 1, 1, 1, 0, 0, 1, 1, 0, 0, 1, 1, 1, 0, 0, 1, 0, 0, 1, 0, 1, 0, 1, 1, 1, 1, 1, 1, 1, 1, 1, 1, 1, 0] (bodyOf Try.prog 45)) (y := codeAt [1, 1, 1, 0, 1, 0, 0, 1, 1, 0, 0, 1, 1, 1, 0, 0, 1, 1, 0, 0, 1, 1, 1, 0, 0, 1, 0, 0, 1, 0, 1, 0, 1, 1, 1, 1, 1, 1, 1, 1, 1, 1, 1, 1] (bodyOf Try.prog 45)) (l := q45_28) (st := z45_14 w n i a b' v t22 t23 t24 t39 t40 t59 false gs_0 gs_1 in's xs_0 xs_1 xs_2 xs_3) (K := K) (by kernel_rfl) (by kernel_rfl) (by kernel_rfl)) (Eq.trans (s_semigroupref31_Holds_28_eq C w n i a b' v t22 t23 t24 t39 t40 t59 false gs_0 gs_1 in's xs_0 xs_1 xs_2 xs_3 (joinK ann 45 0 135 K)) (by kernel_rfl))
noncomputable def d45_30 (C : CallF) (a b' : Int) (v : Bool) (t59 : Int) (in's : List V) (xs_2 xs_3 : Int) {β : Type} (k0 : Bool → Option β) : Option β :=
 d45_18 C
  (
   d45_29 C a b' v t59 ((t59 : Int) == 7) in's xs_2 xs_3
    (fun (v_109 : Bool) =>
     k0 v_109))
noncomputable abbrev q45_30 : List Code := codesAt Try.prog 45 [[1, 1, 1, 0, 1, 0, 0, 1, 1, 0, 0, 1, 1, 1, 0, 0, 1, 1, 0, 0, 1, 1, 1, 0, 0, 1, 0, 0, 1, 0, 1, 0, 1, 1, 1, 1, 1, 1, 1, 1, 1, 1, 0], [1, 1, 1, 0, 1, 0, 0, 1, 1, 0, 0, 1, 1, 1, 0, 0, 1, 1, 0, 0, 1, 1, 1, 0, 0, 1, 0, 0, 1, 0, 1, 0, 1, 1, 1, 1, 1, 1, 1, 1, 1, 1, 1]]
theorem h45_30_eq (C : CallF) (w : List UInt8) (n i a b' : Int) (v : Bool) (t22 : List V) (t23 t24 t39 t40 t59 : Int) (t109 : Bool) (gs_0 : List V) (gs_1 : Int) (in's : List V) (xs_0 xs_1 xs_2 xs_3 : Int) {β : Type} (K : Out → St → Option β) :
 execL Try.prog ann C 45 220 0 (q45_30) (z45_13 w n i a b' v t22 t23 t24 t39 t40 t59 t109 gs_0 gs_1 in's xs_0 xs_1 xs_2 xs_3) K =
  d45_30 C a b' v t59 in's xs_2 xs_3
   (fun (v0 : Bool) => K .norm (z45_9 w n i a b' v0 t22 t23 t24 t39 t40 gs_0 gs_1 in's xs_0 xs_1 xs_2 xs_3)) := by
 refine Eq.trans (execL_app (P := Try.prog) (A := ann) (C := C) (f := 45) (n := 220) (m := 0) (q45_17) (q45_29) (st := z45_13 w n i a b' v t22 t23 t24 t39 t40 t59 t109 gs_0 gs_1 in's xs_0 xs_1 xs_2 xs_3) (K := K)) (Eq.trans (h45_18_eq C w n i a b' v t22 t23 t24 t39 t40 t59 t109 gs_0 gs_1 in's xs_0 xs_1 xs_2 xs_3 (seqK Try.prog ann C 45 220 0 (q45_29) K)) ?_)
 · exact Eq.trans (by kernel_rfl) (Eq.trans (congrArg (fun HOLE : Option β => d45_18 C HOLE) (h45_29_eq C w n i a b' v t22 t23 t24 t39 t40 t59 ((t59 : Int) == 7) gs_0 gs_1 in's xs_0 xs_1 xs_2 xs_3 K)) ((by kernel_rfl)))
noncomputable def d45_31 (C : CallF) (a b' : Int) (v : Bool) (t59 : Int) (t109 : Bool) (in's : List V) (xs_2 xs_3 : Int) {β : Type} (k0 : Bool → Option β) : Option β :=
 bif t109 then
  s_semigroupref31_Holds_17 C a b' in's xs_2 xs_3
   (fun (v_110 : Bool) =>
    k0 v_110)
 else
  d45_30 C a b' v t59 in's xs_2 xs_3
   (fun (v_111 : Bool) =>
    k0 v_111)
noncomputable abbrev q45_31 : List Code := codesAt Try.prog 45 [[1, 1, 1, 0, 1, 0, 0, 1, 1, 0, 0, 1, 1, 1, 0, 0, 1, 1, 0, 0, 1, 1, 1, 0, 0, 1, 0, 0, 1, 0, 1, 0, 1, 1, 1, 1, 1, 1, 1, 1, 1]]
theorem h45_31_eq (C : CallF) (w : List UInt8) (n i a b' : Int) (v : Bool) (t22 : List V) (t23 t24 t39 t40 t59 : Int) (t109 : Bool) (gs_0 : List V) (gs_1 : Int) (in's : List V) (xs_0 xs_1 xs_2 xs_3 : Int) {β : Type} (K : Out → St → Option β) :
 execL Try.prog ann C 45 220 0 (q45_31) (z45_13 w n i a b' v t22 t23 t24 t39 t40 t59 t109 gs_0 gs_1 in's xs_0 xs_1 xs_2 xs_3) K =
  d45_31 C a b' v t59 t109 in's xs_2 xs_3
   (fun (v0 : Bool) => K .norm (z45_9 w n i a b' v0 t22 t23 t24 t39 t40 gs_0 gs_1 in's xs_0 xs_1 xs_2 xs_3)) := by
 cases t109 with
 | true => exact Eq.trans (execL_true (P := Try.prog) (A := ann) (C := C) (f := 45) (n := 220) (m := 0) (t := 109) (c := codeAt [1, 1, 1, 0, 1, 0, 0, 1, 1, 0, 0, 1, 1, 1, 0, 0, 1, 1, 0, 0, 1, 1, 1, 0, 0, 1, 0, 0, 1, 0, 1, 0, 1, 1, 1, 1, 1, 1, 1, 1, 1] (bodyOf Try.prog 45)) (x := codeAt [1, 1, 1, 0, 1, 0, 0, 1, 1, 0, 0, 1, 1, 1, 0, 0, 1, 1, 0, 0, 1, 1, 1, 0, 0, 1, 0, 0, 1, 0, 1, 0, 1, 1, 1, 1, 1, 1, 1, 1, 1, 0] (bodyOf Try.prog 45)) (y := codeAt [1, 1, 1, 0, 1, 0, 0, 1, 1, 0, 0, 1, 1, 1, 0, 0, 1, 1, 0, 0, 1, 1, 1, 0, 0, 1, 0, 0, 1, 0, 1, 0, 1, 1, 1, 1, 1, 1, 1, 1, 1, 1] (bodyOf Try.prog 45)) (l := q45_16) (st := z45_13 w n i a b' v t22 t23 t24 t39 t40 t59 true gs_0 gs_1 in's xs_0 xs_1 xs_2 xs_3) (K := K) (by kernel_rfl) (by kernel_rfl) (by kernel_rfl)) (Eq.trans (s_semigroupref31_Holds_17_eq C w n i a b' v t22 t23 t24 t39 t40 t59 true gs_0 gs_1 in's xs_0 xs_1 xs_2 xs_3 (joinK ann 45 0 109 K)) (by kernel_rfl))
 | false => exact Eq.trans (execL_false (P := Try.prog) (A := ann) (C := C) (f := 45) (n := 220) (m := 0) (t := 109) (c := codeAt [1, 1, 1, 0, 1, 0, 0, 1, 1, 0, 0, 1, 1, 1, 0, 0, 1, 1, 0, 0, 1, 1, 1, 0, 0, 1, 0, 0, 1, 0, 1, 0, 1, 1, 1, 1, 1, 1, 1, 1, 1] (bodyOf Try.prog 45)) (x := codeAt [1, 1, 1, 0, 1, 0, 0, 1, 1, 0, 0, 1, 1, 1, 0, 0, 1, 1, 0, 0, 1, 1, 1, 0, 0, 1, 0, 0, 1, 0, 1, 0, 1, 1, 1, 1, 1, 1, 1, 1, 1, 0] (bodyOf Try.prog 45)) (y := codeAt [1, 1, 1, 0, 1, 0, 0, 1, 1, 0, 0, 1, 1, 1, 0, 0, 1, 1, 0, 0, 1, 1, 1, 0, 0, 1, 0, 0, 1, 0, 1, 0, 1, 1, 1, 1, 1, 1, 1, 1, 1, 1] (bodyOf Try.prog 45)) (l := q45_30) (st := z45_13 w n i a b' v t22 t23 t24 t39 t40 t59 false gs_0 gs_1 in's xs_0 xs_1 xs_2 xs_3) (K := K) (by kernel_rfl) (by kernel_rfl) (by kernel_rfl)) (Eq.trans (h45_30_eq C w n i a b' v t22 t23 t24 t39 t40 t59 false gs_0 gs_1 in's xs_0 xs_1 xs_2 xs_3 (joinK ann 45 0 109 K)) (by kernel_rfl))
noncomputable def d45_32 (C : CallF) (a b' : Int) (v : Bool) (t59 : Int) (in's : List V) (xs_2 xs_3 : Int) {β : Type} (k0 : Bool → Option β) : Option β :=
 d45_16 C
  (
   d45_31 C a b' v t59 ((t59 : Int) == 6) in's xs_2 xs_3
    (fun (v_113 : Bool) =>
     k0 v_113))
noncomputable abbrev q45_32 : List Code := codesAt Try.prog 45 [[1, 1, 1, 0, 1, 0, 0, 1, 1, 0, 0, 1, 1, 1, 0, 0, 1, 1, 0, 0, 1, 1, 1, 0, 0, 1, 0, 0, 1, 0, 1, 0, 1, 1, 1, 1, 1, 1, 1, 1, 0], [1, 1, 1, 0, 1, 0, 0, 1, 1, 0, 0, 1, 1, 1, 0, 0, 1, 1, 0, 0, 1, 1, 1, 0, 0, 1, 0, 0, 1, 0, 1, 0, 1, 1, 1, 1, 1, 1, 1, 1, 1]]
theorem h45_32_eq (C : CallF) (w : List UInt8) (n i a b' : Int) (v : Bool) (t22 : List V) (t23 t24 t39 t40 t59 : Int) (t83 : Bool) (gs_0 : List V) (gs_1 : Int) (in's : List V) (xs_0 xs_1 xs_2 xs_3 : Int) {β : Type} (K : Out → St → Option β) :
 execL Try.prog ann C 45 220 0 (q45_32) (z45_12 w n i a b' v t22 t23 t24 t39 t40 t59 t83 gs_0 gs_1 in's xs_0 xs_1 xs_2 xs_3) K =
  d45_32 C a b' v t59 in's xs_2 xs_3
   (fun (v0 : Bool) => K .norm (z45_9 w n i a b' v0 t22 t23 t24 t39 t40 gs_0 gs_1 in's xs_0 xs_1 xs_2 xs_3)) := by
 refine Eq.trans (execL_app (P := Try.prog) (A := ann) (C := C) (f := 45) (n := 220) (m := 0) (q45_15) (q45_31) (st := z45_12 w n i a b' v t22 t23 t24 t39 t40 t59 t83 gs_0 gs_1 in's xs_0 xs_1 xs_2 xs_3) (K := K)) (Eq.trans (h45_16_eq C w n i a b' v t22 t23 t24 t39 t40 t59 t83 gs_0 gs_1 in's xs_0 xs_1 xs_2 xs_3 (seqK Try.prog ann C 45 220 0 (q45_31) K)) ?_)
 · exact Eq.trans (by kernel_rfl) (Eq.trans (congrArg (fun HOLE : Option β => d45_16 C HOLE) (h45_31_eq C w n i a b' v t22 t23 t24 t39 t40 t59 ((t59 : Int) == 6) gs_0 gs_1 in's xs_0 xs_1 xs_2 xs_3 K)) ((by kernel_rfl)))
noncomputable def d45_33 (C : CallF) (a b' : Int) (v : Bool) (t59 : Int) (t83 : Bool) (in's : List V) (xs_2 xs_3 : Int) {β : Type} (k0 : Bool → Option β) : Option β :=
 bif t83 then
  s_semigroupref31_Holds_15 C a b' in's xs_2 xs_3
   (fun (v_114 : Bool) =>
    k0 v_114)
 else
  d45_32 C a b' v t59 in's xs_2 xs_3
   (fun (v_115 : Bool) =>
    k0 v_115)
noncomputable abbrev q45_33 : List Code := codesAt Try.prog 45 [[1, 1, 1, 0, 1, 0, 0, 1, 1, 0, 0, 1, 1, 1, 0, 0, 1, 1, 0, 0, 1, 1, 1, 0, 0, 1, 0, 0, 1, 0, 1, 0, 1, 1, 1, 1, 1, 1, 1]]
theorem h45_33_eq (C : CallF) (w : List UInt8) (n i a b' : Int) (v : Bool) (t22 : List V) (t23 t24 t39 t40 t59 : Int) (t83 : Bool) (gs_0 : List V) (gs_1 : Int) (in's : List V) (xs_0 xs_1 xs_2 xs_3 : Int) {β : Type} (K : Out → St → Option β) :
 execL Try.prog ann C 45 220 0 (q45_33) (z45_12 w n i a b' v t22 t23 t24 t39 t40 t59 t83 gs_0 gs_1 in's xs_0 xs_1 xs_2 xs_3) K =
  d45_33 C a b' v t59 t83 in's xs_2 xs_3
   (fun (v0 : Bool) => K .norm (z45_9 w n i a b' v0 t22 t23 t24 t39 t40 gs_0 gs_1 in's xs_0 xs_1 xs_2 xs_3)) := by
 cases t83 with
 | true => exact Eq.trans (execL_true (P := Try.prog) (A := ann) (C := C) (f := 45) (n := 220) (m := 0) (t := 83) (c := codeAt [1, 1, 1, 0, 1, 0, 0, 1, 1, 0, 0, 1, 1, 1, 0, 0, 1, 1, 0, 0, 1, 1, 1, 0, 0, 1, 0, 0, 1, 0, 1, 0, 1, 1, 1, 1, 1, 1, 1] (bodyOf Try.prog 45)) (x := codeAt [1, 1, 1, 0, 1, 0, 0, 1, 1, 0, 0, 1, 1, 1, 0, 0, 1, 1, 0, 0, 1, 1, 1, 0, 0, 1, 0, 0, 1, 0, 1, 0, 1, 1, 1, 1, 1, 1, 1, 0] (bodyOf Try.prog 45)) (y := codeAt [1, 1, 1, 0, 1, 0, 0, 1, 1, 0, 0, 1, 1, 1, 0, 0, 1, 1, 0, 0, 1, 1, 1, 0, 0, 1, 0, 0, 1, 0, 1, 0, 1, 1, 1, 1, 1, 1, 1, 1] (bodyOf Try.prog 45)) (l := q45_14) (st := z45_12 w n i a b' v t22 t23 t24 t39 t40 t59 true gs_0 gs_1 in's xs_0 xs_1 xs_2 xs_3) (K := K) (by kernel_rfl) (by kernel_rfl) (by kernel_rfl)) (Eq.trans (s_semigroupref31_Holds_15_eq C w n i a b' v t22 t23 t24 t39 t40 t59 true gs_0 gs_1 in's xs_0 xs_1 xs_2 xs_3 (joinK ann 45 0 83 K)) (by kernel_rfl))
 | false => exact Eq.trans (execL_false (P := Try.prog) (A := ann) (C := C) (f := 45) (n := 220) (m := 0) (t := 83) (c := codeAt [1, 1, 1, 0, 1, 0, 0, 1, 1, 0, 0, 1, 1, 1, 0, 0, 1, 1, 0, 0, 1, 1, 1, 0, 0, 1, 0, 0, 1, 0, 1, 0, 1, 1, 1, 1, 1, 1, 1] (bodyOf Try.prog 45)) (x := codeAt [1, 1, 1, 0, 1, 0, 0, 1, 1, 0, 0, 1, 1, 1, 0, 0, 1, 1, 0, 0, 1, 1, 1, 0, 0, 1, 0, 0, 1, 0, 1, 0, 1, 1, 1, 1, 1, 1, 1, 0] (bodyOf Try.prog 45)) (y := codeAt [1, 1, 1, 0, 1, 0, 0, 1, 1, 0, 0, 1, 1, 1, 0, 0, 1, 1, 0, 0, 1, 1, 1, 0, 0, 1, 0, 0, 1, 0, 1, 0, 1, 1, 1, 1, 1, 1, 1, 1] (bodyOf Try.prog 45)) (l := q45_32) (st := z45_12 w n i a b' v t22 t23 t24 t39 t40 t59 false gs_0 gs_1 in's xs_0 xs_1 xs_2 xs_3) (K := K) (by kernel_rfl) (by kernel_rfl) (by kernel_rfl)) (Eq.trans (h45_32_eq C w n i a b' v t22 t23 t24 t39 t40 t59 false gs_0 gs_1 in's xs_0 xs_1 xs_2 xs_3 (joinK ann 45 0 83 K)) (by kernel_rfl))
noncomputable def d45_34 (C : CallF) (a b' : Int) (v : Bool) (t59 : Int) (in's : List V) (xs_2 xs_3 : Int) {β : Type} (k0 : Bool → Option β) : Option β :=
 d45_14 C
  (
   d45_33 C a b' v t59 ((t59 : Int) == 5) in's xs_2 xs_3
    (fun (v_117 : Bool) =>
     k0 v_117))
noncomputable abbrev q45_34 : List Code := codesAt Try.prog 45 [[1, 1, 1, 0, 1, 0, 0, 1, 1, 0, 0, 1, 1, 1, 0, 0, 1, 1, 0, 0, 1, 1, 1, 0, 0, 1, 0, 0, 1, 0, 1, 0, 1, 1, 1, 1, 1, 1, 0], [1, 1, 1, 0, 1, 0, 0, 1, 1, 0, 0, 1, 1, 1, 0, 0, 1, 1, 0, 0, 1, 1, 1, 0, 0, 1, 0, 0, 1, 0, 1, 0, 1, 1, 1, 1, 1, 1, 1]]
theorem h45_34_eq (C : CallF) (w : List UInt8) (n i a b' : Int) (v : Bool) (t22 : List V) (t23 t24 t39 t40 t59 : Int) (t81 : Bool) (gs_0 : List V) (gs_1 : Int) (in's : List V) (xs_0 xs_1 xs_2 xs_3 : Int) {β : Type} (K : Out → St → Option β) :
 execL Try.prog ann C 45 220 0 (q45_34) (z45_11 w n i a b' v t22 t23 t24 t39 t40 t59 t81 gs_0 gs_1 in's xs_0 xs_1 xs_2 xs_3) K =
  d45_34 C a b' v t59 in's xs_2 xs_3
   (fun (v0 : Bool) => K .norm (z45_9 w n i a b' v0 t22 t23 t24 t39 t40 gs_0 gs_1 in's xs_0 xs_1 xs_2 xs_3)) := by
 refine Eq.trans (execL_app (P := Try.prog) (A := ann) (C := C) (f := 45) (n := 220) (m := 0) (q45_13) (q45_33) (st := z45_11 w n i a b' v t22 t23 t24 t39 t40 t59 t81 gs_0 gs_1 in's xs_0 xs_1 xs_2 xs_3) (K := K)) (Eq.trans (h45_14_eq C w n i a b' v t22 t23 t24 t39 t40 t59 t81 gs_0 gs_1 in's xs_0 xs_1 xs_2 xs_3 (seqK Try.prog ann C 45 220 0 (q45_33) K)) ?_)
 · exact Eq.trans (by kernel_rfl) (Eq.trans (congrArg (fun HOLE : Option β => d45_14 C HOLE) (h45_33_eq C w n i a b' v t22 t23 t24 t39 t40 t59 ((t59 : Int) == 5) gs_0 gs_1 in's xs_0 xs_1 xs_2 xs_3 K)) ((by kernel_rfl)))
noncomputable def d45_35 (C : CallF) (a b' : Int) (v : Bool) (t59 : Int) (t81 : Bool) (in's : List V) (xs_2 xs_3 : Int) {β : Type} (k0 : Bool → Option β) : Option β :=
 bif t81 then
  d45_13 C
   (fun (v_118 : Bool) =>
    k0 v_118)
 else
  d45_34 C a b' v t59 in's xs_2 xs_3
   (fun (v_119 : Bool) =>
    k0 v_119)
noncomputable abbrev q45_35 : List Code := codesAt Try.prog 45 [[1, 1, 1, 0, 1, 0, 0, 1, 1, 0, 0, 1, 1, 1, 0, 0, 1, 1, 0, 0, 1, 1, 1, 0, 0, 1, 0, 0, 1, 0, 1, 0, 1, 1, 1, 1, 1]]
theorem h45_35_eq (C : CallF) (w : List UInt8) (n i a b' : Int) (v : Bool) (t22 : List V) (t23 t24 t39 t40 t59 : Int) (t81 : Bool) (gs_0 : List V) (gs_1 : Int) (in's : List V) (xs_0 xs_1 xs_2 xs_3 : Int) {β : Type} (K : Out → St → Option β) :
 execL Try.prog ann C 45 220 0 (q45_35) (z45_11 w n i a b' v t22 t23 t24 t39 t40 t59 t81 gs_0 gs_1 in's xs_0 xs_1 xs_2 xs_3) K =
  d45_35 C a b' v t59 t81 in's xs_2 xs_3
   (fun (v0 : Bool) => K .norm (z45_9 w n i a b' v0 t22 t23 t24 t39 t40 gs_0 gs_1 in's xs_0 xs_1 xs_2 xs_3)) := by
 cases t81 with
 | true => exact Eq.trans (execL_true (P := Try.prog) (A := ann) (C := C) (f := 45) (n := 220) (m := 0) (t := 81) (c := codeAt [1, 1, 1, 0, 1, 0, 0, 1, 1, 0, 0, 1, 1, 1, 0, 0, 1, 1, 0, 0, 1, 1, 1, 0, 0, 1, 0, 0, 1, 0, 1, 0, 1, 1, 1, 1, 1] (bodyOf Try.prog 45)) (x := codeAt [1, 1, 1, 0, 1, 0, 0, 1, 1, 0, 0, 1, 1, 1, 0, 0, 1, 1, 0, 0, 1, 1, 1, 0, 0, 1, 0, 0, 1, 0, 1, 0, 1, 1, 1, 1, 1, 0] (bodyOf Try.prog 45)) (y := codeAt [1, 1, 1, 0, 1, 0, 0, 1, 1, 0, 0, 1, 1, 1, 0, 0, 1, 1, 0, 0, 1, 1, 1, 0, 0, 1, 0, 0, 1, 0, 1, 0, 1, 1, 1, 1, 1, 1] (bodyOf Try.prog 45)) (l := q45_12) (st := z45_11 w n i a b' v t22 t23 t24 t39 t40 t59 true gs_0 gs_1 in's xs_0 xs_1 xs_2 xs_3) (K := K) (by kernel_rfl) (by kernel_rfl) (by kernel_rfl)) (Eq.trans (h45_13_eq C w n i a b' v t22 t23 t24 t39 t40 t59 true gs_0 gs_1 in's xs_0 xs_1 xs_2 xs_3 (joinK ann 45 0 81 K)) (by kernel_rfl))
 | false => exact Eq.trans (execL_false (P := Try.prog) (A := ann) (C := C) (f := 45) (n := 220) (m := 0) (t := 81) (c := codeAt [1, 1, 1, 0, 1, 0, 0, 1, 1, 0, 0, 1, 1, 1, 0, 0, 1, 1, 0, 0, 1, 1, 1, 0, 0, 1, 0, 0, 1, 0, 1, 0, 1, 1, 1, 1, 1] (bodyOf Try.prog 45)) (x := codeAt [1, 1, 1, 0, 1, 0, 0, 1, 1, 0, 0, 1, 1, 1, 0, 0, 1, 1, 0, 0, 1, 1, 1, 0, 0, 1, 0, 0, 1, 0, 1, 0, 1, 1, 1, 1, 1, 0] (bodyOf Try.prog 45)) (y := codeAt [1, 1, 1, 0, 1, 0, 0, 1, 1, 0, 0, 1, 1, 1, 0, 0, 1, 1, 0, 0, 1, 1, 1, 0, 0, 1, 0, 0, 1, 0, 1, 0, 1, 1, 1, 1, 1, 1] (bodyOf Try.prog 45)) (l := q45_34) (st := z45_11 w n i a b' v t22 t23 t24 t39 t40 t59 false gs_0 gs_1 in's xs_0 xs_1 xs_2 xs_3) (K := K) (by kernel_rfl) (by kernel_rfl) (by kernel_rfl)) (Eq.trans (h45_34_eq C w n i a b' v t22 t23 t24 t39 t40 t59 false gs_0 gs_1 in's xs_0 xs_1 xs_2 xs_3 (joinK ann 45 0 81 K)) (by kernel_rfl))
noncomputable def d45_36 (C : CallF) (a b' : Int) (v : Bool) (t59 : Int) (in's : List V) (xs_2 xs_3 : Int) {β : Type} (k0 : Bool → Option β) : Option β :=
 d45_12 C
  (
   d45_35 C a b' v t59 ((t59 : Int) == 4) in's xs_2 xs_3
    (fun (v_120 : Bool) =>
     k0 v_120))
noncomputable abbrev q45_36 : List Code := codesAt Try.prog 45 [[1, 1, 1, 0, 1, 0, 0, 1, 1, 0, 0, 1, 1, 1, 0, 0, 1, 1, 0, 0, 1, 1, 1, 0, 0, 1, 0, 0, 1, 0, 1, 0, 1, 1, 1, 1, 0], [1, 1, 1, 0, 1, 0, 0, 1, 1, 0, 0, 1, 1, 1, 0, 0, 1, 1, 0, 0, 1, 1, 1, 0, 0, 1, 0, 0, 1, 0, 1, 0, 1, 1, 1, 1, 1]]
theorem h45_36_eq (C : CallF) (w : List UInt8) (n i a b' : Int) (v : Bool) (t22 : List V) (t23 t24 t39 t40 t59 : Int) (t65 : Bool) (gs_0 : List V) (gs_1 : Int) (in's : List V) (xs_0 xs_1 xs_2 xs_3 : Int) {β : Type} (K : Out → St → Option β) :
 execL Try.prog ann C 45 220 0 (q45_36) (z45_10 w n i a b' v t22 t23 t24 t39 t40 t59 t65 gs_0 gs_1 in's xs_0 xs_1 xs_2 xs_3) K =
  d45_36 C a b' v t59 in's xs_2 xs_3
   (fun (v0 : Bool) => K .norm (z45_9 w n i a b' v0 t22 t23 t24 t39 t40 gs_0 gs_1 in's xs_0 xs_1 xs_2 xs_3)) := by
 refine Eq.trans (execL_app (P := Try.prog) (A := ann) (C := C) (f := 45) (n := 220) (m := 0) (q45_11) (q45_35) (st := z45_10 w n i a b' v t22 t23 t24 t39 t40 t59 t65 gs_0 gs_1 in's xs_0 xs_1 xs_2 xs_3) (K := K)) (Eq.trans (h45_12_eq C w n i a b' v t22 t23 t24 t39 t40 t59 t65 gs_0 gs_1 in's xs_0 xs_1 xs_2 xs_3 (seqK Try.prog ann C 45 220 0 (q45_35) K)) ?_)
 · exact Eq.trans (by kernel_rfl) (Eq.trans (congrArg (fun HOLE : Option β => d45_12 C HOLE) (h45_35_eq C w n i a b' v t22 t23 t24 t39 t40 t59 ((t59 : Int) == 4) gs_0 gs_1 in's xs_0 xs_1 xs_2 xs_3 K)) ((by kernel_rfl)))
noncomputable def d45_37 (C : CallF) (w : List UInt8) (a b' : Int) (v : Bool) (t59 : Int) (t65 : Bool) (in's : List V) (xs_1 xs_2 xs_3 : Int) {β : Type} (k0 : Bool → Option β) : Option β :=
 bif t65 then
  s_semigroupref31_Holds_11 C w a b' xs_1
   (fun (v_121 : Bool) =>
    k0 v_121)
 else
  d45_36 C a b' v t59 in's xs_2 xs_3
   (fun (v_122 : Bool) =>
    k0 v_122)
noncomputable abbrev q45_37 : List Code := codesAt Try.prog 45 [[1, 1, 1, 0, 1, 0, 0, 1, 1, 0, 0, 1, 1, 1, 0, 0, 1, 1, 0, 0, 1, 1, 1, 0, 0, 1, 0, 0, 1, 0, 1, 0, 1, 1, 1]]
theorem h45_37_eq (C : CallF) (w : List UInt8) (n i a b' : Int) (v : Bool) (t22 : List V) (t23 t24 t39 t40 t59 : Int) (t65 : Bool) (gs_0 : List V) (gs_1 : Int) (in's : List V) (xs_0 xs_1 xs_2 xs_3 : Int) {β : Type} (K : Out → St → Option β) :
 execL Try.prog ann C 45 220 0 (q45_37) (z45_10 w n i a b' v t22 t23 t24 t39 t40 t59 t65 gs_0 gs_1 in's xs_0 xs_1 xs_2 xs_3) K =
  d45_37 C w a b' v t59 t65 in's xs_1 xs_2 xs_3
   (fun (v0 : Bool) => K .norm (z45_9 w n i a b' v0 t22 t23 t24 t39 t40 gs_0 gs_1 in's xs_0 xs_1 xs_2 xs_3)) := by
 cases t65 with
 | true => exact Eq.trans (execL_true (P := Try.prog) (A := ann) (C := C) (f := 45) (n := 220) (m := 0) (t := 65) (c := codeAt [1, 1, 1, 0, 1, 0, 0, 1, 1, 0, 0, 1, 1, 1, 0, 0, 1, 1, 0, 0, 1, 1, 1, 0, 0, 1, 0, 0, 1, 0, 1, 0, 1, 1, 1] (bodyOf Try.prog 45)) (x := codeAt [1, 1, 1, 0, 1, 0, 0, 1, 1, 0, 0, 1, 1, 1, 0, 0, 1, 1, 0, 0, 1, 1, 1, 0, 0, 1, 0, 0, 1, 0, 1, 0, 1, 1, 1, 0] (bodyOf Try.prog 45)) (y := codeAt [1, 1, 1, 0, 1, 0, 0, 1, 1, 0, 0, 1, 1, 1, 0, 0, 1, 1, 0, 0, 1, 1, 1, 0, 0, 1, 0, 0, 1, 0, 1, 0, 1, 1, 1, 1] (bodyOf Try.prog 45)) (l := q45_10) (st := z45_10 w n i a b' v t22 t23 t24 t39 t40 t59 true gs_0 gs_1 in's xs_0 xs_1 xs_2 xs_3) (K := K) (by kernel_rfl) (by kernel_rfl) (by kernel_rfl)) (Eq.trans (s_semigroupref31_Holds_11_eq C w n i a b' v t22 t23 t24 t39 t40 t59 true gs_0 gs_1 in's xs_0 xs_1 xs_2 xs_3 (joinK ann 45 0 65 K)) (by kernel_rfl))
 | false => exact Eq.trans (execL_false (P := Try.prog) (A := ann) (C := C) (f := 45) (n := 220) (m := 0) (t := 65) (c := codeAt [1, 1, 1, 0, 1, 0, 0, 1, 1, 0, 0, 1, 1, 1, 0, 0, 1, 1, 0, 0, 1, 1, 1, 0, 0, 1, 0, 0, 1, 0, 1, 0, 1, 1, 1] (bodyOf Try.prog 45)) (x := codeAt [1, 1, 1, 0, 1, 0, 0, 1, 1, 0, 0, 1, 1, 1, 0, 0, 1, 1, 0, 0, 1, 1, 1, 0, 0, 1, 0, 0, 1, 0, 1, 0, 1, 1, 1, 0] (bodyOf Try.prog 45)) (y := codeAt [1, 1, 1, 0, 1, 0, 0, 1, 1, 0, 0, 1, 1, 1, 0, 0, 1, 1, 0, 0, 1, 1, 1, 0, 0, 1, 0, 0, 1, 0, 1, 0, 1, 1, 1, 1] (bodyOf Try.prog 45)) (l := q45_36) (st := z45_10 w n i a b' v t22 t23 t24 t39 t40 t59 false gs_0 gs_1 in's xs_0 xs_1 xs_2 xs_3) (K := K) (by kernel_rfl) (by kernel_rfl) (by kernel_rfl)) (Eq.trans (h45_36_eq C w n i a b' v t22 t23 t24 t39 t40 t59 false gs_0 gs_1 in's xs_0 xs_1 xs_2 xs_3 (joinK ann 45 0 65 K)) (by kernel_rfl))
noncomputable def d45_38 (C : CallF) (w : List UInt8) (a b' : Int) (v : Bool) (t59 : Int) (in's : List V) (xs_1 xs_2 xs_3 : Int) {β : Type} (k0 : Bool → Option β) : Option β :=
 d45_10 C
  (
   d45_37 C w a b' v t59 ((t59 : Int) == 3) in's xs_1 xs_2 xs_3
    (fun (v_124 : Bool) =>
     k0 v_124))
noncomputable abbrev q45_38 : List Code := codesAt Try.prog 45 [[1, 1, 1, 0, 1, 0, 0, 1, 1, 0, 0, 1, 1, 1, 0, 0, 1, 1, 0, 0, 1, 1, 1, 0, 0, 1, 0, 0, 1, 0, 1, 0, 1, 1, 0], [1, 1, 1, 0, 1, 0, 0, 1, 1, 0, 0, 1, 1, 1, 0, 0, 1, 1, 0, 0, 1, 1, 1, 0, 0, 1, 0, 0, 1, 0, 1, 0, 1, 1, 1]]
theorem h45_38_eq (C : CallF) (w : List UInt8) (n i a b' : Int) (v : Bool) (t22 : List V) (t23 t24 t39 t40 t59 : Int) (t60 : Bool) (gs_0 : List V) (gs_1 : Int) (in's : List V) (xs_0 xs_1 xs_2 xs_3 : Int) {β : Type} (K : Out → St → Option β) :
 execL Try.prog ann C 45 220 0 (q45_38) (z45_8 w n i a b' v t22 t23 t24 t39 t40 t59 t60 gs_0 gs_1 in's xs_0 xs_1 xs_2 xs_3) K =
  d45_38 C w a b' v t59 in's xs_1 xs_2 xs_3
   (fun (v0 : Bool) => K .norm (z45_9 w n i a b' v0 t22 t23 t24 t39 t40 gs_0 gs_1 in's xs_0 xs_1 xs_2 xs_3)) := by
 refine Eq.trans (execL_app (P := Try.prog) (A := ann) (C := C) (f := 45) (n := 220) (m := 0) (q45_9) (q45_37) (st := z45_8 w n i a b' v t22 t23 t24 t39 t40 t59 t60 gs_0 gs_1 in's xs_0 xs_1 xs_2 xs_3) (K := K)) (Eq.trans (h45_10_eq C w n i a b' v t22 t23 t24 t39 t40 t59 t60 gs_0 gs_1 in's xs_0 xs_1 xs_2 xs_3 (seqK Try.prog ann C 45 220 0 (q45_37) K)) ?_)
 · exact Eq.trans (by kernel_rfl) (Eq.trans (congrArg (fun HOLE : Option β => d45_10 C HOLE) (h45_37_eq C w n i a b' v t22 t23 t24 t39 t40 t59 ((t59 : Int) == 3) gs_0 gs_1 in's xs_0 xs_1 xs_2 xs_3 K)) ((by kernel_rfl)))
noncomputable def d45_39 (C : CallF) (w : List UInt8) (a b' : Int) (v : Bool) (t59 : Int) (t60 : Bool) (in's : List V) (xs_1 xs_2 xs_3 : Int) {β : Type} (k0 : Bool → Option β) : Option β :=
 bif t60 then
  d45_9 C
   (
    k0 ((a : Int) == b'))
 else
  d45_38 C w a b' v t59 in's xs_1 xs_2 xs_3
   (fun (v_125 : Bool) =>
    k0 v_125)
noncomputable abbrev q45_39 : List Code := codesAt Try.prog 45 [[1, 1, 1, 0, 1, 0, 0, 1, 1, 0, 0, 1, 1, 1, 0, 0, 1, 1, 0, 0, 1, 1, 1, 0, 0, 1, 0, 0, 1, 0, 1, 0, 1]]
theorem h45_39_eq (C : CallF) (w : List UInt8) (n i a b' : Int) (v : Bool) (t22 : List V) (t23 t24 t39 t40 t59 : Int) (t60 : Bool) (gs_0 : List V) (gs_1 : Int) (in's : List V) (xs_0 xs_1 xs_2 xs_3 : Int) {β : Type} (K : Out → St → Option β) :
 execL Try.prog ann C 45 220 0 (q45_39) (z45_8 w n i a b' v t22 t23 t24 t39 t40 t59 t60 gs_0 gs_1 in's xs_0 xs_1 xs_2 xs_3) K =
  d45_39 C w a b' v t59 t60 in's xs_1 xs_2 xs_3
   (fun (v0 : Bool) => K .norm (z45_9 w n i a b' v0 t22 t23 t24 t39 t40 gs_0 gs_1 in's xs_0 xs_1 xs_2 xs_3)) := by
 cases t60 with
 | true => exact Eq.trans (execL_true (P := Try.prog) (A := ann) (C := C) (f := 45) (n := 220) (m := 0) (t := 60) (c := codeAt [1, 1, 1, 0, 1, 0, 0, 1, 1, 0, 0, 1, 1, 1, 0, 0, 1, 1, 0, 0, 1, 1, 1, 0, 0, 1, 0, 0, 1, 0, 1, 0, 1] (bodyOf Try.prog 45)) (x := codeAt [1, 1, 1, 0, 1, 0, 0, 1, 1, 0, 0, 1, 1, 1, 0, 0, 1, 1, 0, 0, 1, 1, 1, 0, 0, 1, 0, 0, 1, 0, 1, 0, 1, 0] (bodyOf Try.prog 45)) (y := codeAt [1, 1, 1, 0, 1, 0, 0, 1, 1, 0, 0, 1, 1, 1, 0, 0, 1, 1, 0, 0, 1, 1, 1, 0, 0, 1, 0, 0, 1, 0, 1, 0, 1, 1] (bodyOf Try.prog 45)) (l := q45_8) (st := z45_8 w n i a b' v t22 t23 t24 t39 t40 t59 true gs_0 gs_1 in's xs_0 xs_1 xs_2 xs_3) (K := K) (by kernel_rfl) (by kernel_rfl) (by kernel_rfl)) (Eq.trans (h45_9_eq C w n i a b' v t22 t23 t24 t39 t40 t59 true gs_0 gs_1 in's xs_0 xs_1 xs_2 xs_3 (joinK ann 45 0 60 K)) (by kernel_rfl))
 | false => exact Eq.trans (execL_false (P := Try.prog) (A := ann) (C := C) (f := 45) (n := 220) (m := 0) (t := 60) (c := codeAt [1, 1, 1, 0, 1, 0, 0, 1, 1, 0, 0, 1, 1, 1, 0, 0, 1, 1, 0, 0, 1, 1, 1, 0, 0, 1, 0, 0, 1, 0, 1, 0, 1] (bodyOf Try.prog 45)) (x := codeAt [1, 1, 1, 0, 1, 0, 0, 1, 1, 0, 0, 1, 1, 1, 0, 0, 1, 1, 0, 0, 1, 1, 1, 0, 0, 1, 0, 0, 1, 0, 1, 0, 1, 0] (bodyOf Try.prog 45)) (y := codeAt [1, 1, 1, 0, 1, 0, 0, 1, 1, 0, 0, 1, 1, 1, 0, 0, 1, 1, 0, 0, 1, 1, 1, 0, 0, 1, 0, 0, 1, 0, 1, 0, 1, 1] (bodyOf Try.prog 45)) (l := q45_38) (st := z45_8 w n i a b' v t22 t23 t24 t39 t40 t59 false gs_0 gs_1 in's xs_0 xs_1 xs_2 xs_3) (K := K) (by kernel_rfl) (by kernel_rfl) (by kernel_rfl)) (Eq.trans (h45_38_eq C w n i a b' v t22 t23 t24 t39 t40 t59 false gs_0 gs_1 in's xs_0 xs_1 xs_2 xs_3 (joinK ann 45 0 60 K)) (by kernel_rfl))
noncomputable def d45_40 (C : CallF) (w : List UInt8) (a b' : Int) (v : Bool) (t59 : Int) (in's : List V) (xs_1 xs_2 xs_3 : Int) {β : Type} (k0 : Bool → Option β) : Option β :=
 d45_8 C
  (
   d45_39 C w a b' v t59 ((t59 : Int) == 2) in's xs_1 xs_2 xs_3
    (fun (v_126 : Bool) =>
     k0 v_126))
noncomputable abbrev q45_40 : List Code := codesAt Try.prog 45 [[1, 1, 1, 0, 1, 0, 0, 1, 1, 0, 0, 1, 1, 1, 0, 0, 1, 1, 0, 0, 1, 1, 1, 0, 0, 1, 0, 0, 1, 0, 1, 0, 0], [1, 1, 1, 0, 1, 0, 0, 1, 1, 0, 0, 1, 1, 1, 0, 0, 1, 1, 0, 0, 1, 1, 1, 0, 0, 1, 0, 0, 1, 0, 1, 0, 1]]
theorem h45_40_eq (C : CallF) (w : List UInt8) (n i a b' : Int) (v : Bool) (t22 : List V) (t23 t24 t39 t40 t59 : Int) (gs_0 : List V) (gs_1 : Int) (in's : List V) (xs_0 xs_1 xs_2 xs_3 : Int) {β : Type} (K : Out → St → Option β) :
 execL Try.prog ann C 45 220 0 (q45_40) (z45_7 w n i a b' v t22 t23 t24 t39 t40 t59 gs_0 gs_1 in's xs_0 xs_1 xs_2 xs_3) K =
  d45_40 C w a b' v t59 in's xs_1 xs_2 xs_3
   (fun (v0 : Bool) => K .norm (z45_9 w n i a b' v0 t22 t23 t24 t39 t40 gs_0 gs_1 in's xs_0 xs_1 xs_2 xs_3)) := by
 refine Eq.trans (execL_app (P := Try.prog) (A := ann) (C := C) (f := 45) (n := 220) (m := 0) (q45_7) (q45_39) (st := z45_7 w n i a b' v t22 t23 t24 t39 t40 t59 gs_0 gs_1 in's xs_0 xs_1 xs_2 xs_3) (K := K)) (Eq.trans (h45_8_eq C w n i a b' v t22 t23 t24 t39 t40 t59 gs_0 gs_1 in's xs_0 xs_1 xs_2 xs_3 (seqK Try.prog ann C 45 220 0 (q45_39) K)) ?_)
 · exact Eq.trans (by kernel_rfl) (Eq.trans (congrArg (fun HOLE : Option β => d45_8 C HOLE) (h45_39_eq C w n i a b' v t22 t23 t24 t39 t40 t59 ((t59 : Int) == 2) gs_0 gs_1 in's xs_0 xs_1 xs_2 xs_3 K)) ((by kernel_rfl)))
noncomputable def d45_41 (C : CallF) (w : List UInt8) (a b' : Int) (v : Bool) (t59 : Int) (in's : List V) (xs_1 xs_2 xs_3 : Int) {β : Type} (k0 : Bool → Option β) : Option β :=
 d45_40 C w a b' v t59 in's xs_1 xs_2 xs_3
  (fun (v_127 : Bool) =>
   k0 v_127)
noncomputable abbrev q45_41 : List Code := codesAt Try.prog 45 [[1, 1, 1, 0, 1, 0, 0, 1, 1, 0, 0, 1, 1, 1, 0, 0, 1, 1, 0, 0, 1, 1, 1, 0, 0, 1, 0, 0, 1, 0, 1]]
theorem h45_41_eq (C : CallF) (w : List UInt8) (n i a b' : Int) (v : Bool) (t22 : List V) (t23 t24 t39 t40 t59 : Int) (gs_0 : List V) (gs_1 : Int) (in's : List V) (xs_0 xs_1 xs_2 xs_3 : Int) {β : Type} (K : Out → St → Option β) :
 execL Try.prog ann C 45 220 0 (q45_41) (z45_7 w n i a b' v t22 t23 t24 t39 t40 t59 gs_0 gs_1 in's xs_0 xs_1 xs_2 xs_3) K =
  d45_41 C w a b' v t59 in's xs_1 xs_2 xs_3
   (fun (v0 : Bool) => K .norm (z45_9 w n i a b' v0 t22 t23 t24 t39 t40 gs_0 gs_1 in's xs_0 xs_1 xs_2 xs_3)) := Eq.trans (execL_block (P := Try.prog) (A := ann) (C := C) (f := 45) (n := 220) (m := 0) (id := 6) (c := codeAt [1, 1, 1, 0, 1, 0, 0, 1, 1, 0, 0, 1, 1, 1, 0, 0, 1, 1, 0, 0, 1, 1, 1, 0, 0, 1, 0, 0, 1, 0, 1] (bodyOf Try.prog 45)) (d := codeAt [1, 1, 1, 0, 1, 0, 0, 1, 1, 0, 0, 1, 1, 1, 0, 0, 1, 1, 0, 0, 1, 1, 1, 0, 0, 1, 0, 0, 1, 0, 1, 0] (bodyOf Try.prog 45)) (l := q45_40) (st := z45_7 w n i a b' v t22 t23 t24 t39 t40 t59 gs_0 gs_1 in's xs_0 xs_1 xs_2 xs_3) (K := K) (by kernel_rfl) (by kernel_rfl)) (Eq.trans (h45_40_eq C w n i a b' v t22 t23 t24 t39 t40 t59 gs_0 gs_1 in's xs_0 xs_1 xs_2 xs_3 (blockK ann 45 0 6 K)) (by kernel_rfl))
noncomputable def d45_42 (C : CallF) (i a b' : Int) (v : Bool) (in's : List V) {β : Type} (k0 : (List V) → Option β) : Option β :=
 bif (decide (0 ≤ i)) && (decide (i < (in's.length : Int))) then
  (in's[(i : Int).toNat]?).bind fun x128 =>
   (rowV Try.prog T_l_l_bool in's [((i : Int).toNat, 0)]).bind fun x129 =>
    bif (decide (0 ≤ a)) && (decide (a < (x129.toList.length : Int))) then
     (rowV Try.prog T_l_l_bool in's [((i : Int).toNat, 0)]).bind fun x130 =>
      (x130.toList[(a : Int).toNat]?).bind fun x131 =>
       (rowV Try.prog T_l_l_bool in's [((i : Int).toNat, 0), ((a : Int).toNat, 0)]).bind fun x132 =>
        bif (decide (0 ≤ b')) && (decide (b' < (x132.toList.length : Int))) then
         (rowV Try.prog T_l_l_bool in's [((i : Int).toNat, 0), ((a : Int).toNat, 0)]).bind fun x133 =>
          (x133.toList[(b' : Int).toNat]?).bind fun x134 =>
           k0 (setRow Try.prog (x133.toList.set ((b' : Int).toNat) (.bool v)) T_l_l_bool in's [((i : Int).toNat, 0), ((a : Int).toNat, 0)])
        else none
    else none
 else none
noncomputable abbrev q45_42 : List Code := codesAt Try.prog 45 [[1, 1, 1, 0, 1, 0, 0, 1, 1, 0, 0, 1, 1, 1, 0, 0, 1, 1, 0, 0, 1, 1, 1, 0, 0, 1, 0, 0, 1, 1]]
theorem h45_42_eq (C : CallF) (w : List UInt8) (n i a b' : Int) (v : Bool) (t22 : List V) (t23 t24 t39 t40 : Int) (gs_0 : List V) (gs_1 : Int) (in's : List V) (xs_0 xs_1 xs_2 xs_3 : Int) {β : Type} (K : Out → St → Option β) :
 execL Try.prog ann C 45 220 0 (q45_42) (z45_9 w n i a b' v t22 t23 t24 t39 t40 gs_0 gs_1 in's xs_0 xs_1 xs_2 xs_3) K =
  d45_42 C i a b' v in's
   (fun (in's0 : List V) => K .norm (z45_5 w n i a b' t22 t23 t24 t39 t40 gs_0 gs_1 in's0 xs_0 xs_1 xs_2 xs_3)) := by kernel_rfl
noncomputable def d45_43 (C : CallF) (w : List UInt8) (i a b' : Int) (v : Bool) (t59 : Int) (in's : List V) (xs_1 xs_2 xs_3 : Int) {β : Type} (k0 : (List V) → Option β) : Option β :=
 d45_41 C w a b' v t59 in's xs_1 xs_2 xs_3
  (fun (v_135 : Bool) =>
   d45_42 C i a b' v_135 in's
    (fun (in's_136 : List V) =>
     k0 in's_136))
noncomputable abbrev q45_43 : List Code := codesAt Try.prog 45 [[1, 1, 1, 0, 1, 0, 0, 1, 1, 0, 0, 1, 1, 1, 0, 0, 1, 1, 0, 0, 1, 1, 1, 0, 0, 1, 0, 0, 1, 0, 1], [1, 1, 1, 0, 1, 0, 0, 1, 1, 0, 0, 1, 1, 1, 0, 0, 1, 1, 0, 0, 1, 1, 1, 0, 0, 1, 0, 0, 1, 1]]
theorem h45_43_eq (C : CallF) (w : List UInt8) (n i a b' : Int) (v : Bool) (t22 : List V) (t23 t24 t39 t40 t59 : Int) (gs_0 : List V) (gs_1 : Int) (in's : List V) (xs_0 xs_1 xs_2 xs_3 : Int) {β : Type} (K : Out → St → Option β) :
 execL Try.prog ann C 45 220 0 (q45_43) (z45_7 w n i a b' v t22 t23 t24 t39 t40 t59 gs_0 gs_1 in's xs_0 xs_1 xs_2 xs_3) K =
  d45_43 C w i a b' v t59 in's xs_1 xs_2 xs_3
   (fun (in's0 : List V) => K .norm (z45_5 w n i a b' t22 t23 t24 t39 t40 gs_0 gs_1 in's0 xs_0 xs_1 xs_2 xs_3)) := by
 refine Eq.trans (execL_app (P := Try.prog) (A := ann) (C := C) (f := 45) (n := 220) (m := 0) (q45_41) (q45_42) (st := z45_7 w n i a b' v t22 t23 t24 t39 t40 t59 gs_0 gs_1 in's xs_0 xs_1 xs_2 xs_3) (K := K)) (Eq.trans (h45_41_eq C w n i a b' v t22 t23 t24 t39 t40 t59 gs_0 gs_1 in's xs_0 xs_1 xs_2 xs_3 (seqK Try.prog ann C 45 220 0 (q45_42) K)) ?_)
 · exact Eq.trans (by kernel_rfl) (Eq.trans (congrArg (fun HOLE : Bool → Option β => d45_41 C w a b' v t59 in's xs_1 xs_2 xs_3 HOLE) (funext fun (v0 : Bool) => h45_42_eq C w n i a b' v0 t22 t23 t24 t39 t40 gs_0 gs_1 in's xs_0 xs_1 xs_2 xs_3 K)) ((by kernel_rfl)))
noncomputable def d45_44 (C : CallF) (w : List UInt8) (i a b' : Int) (in's : List V) (xs_0 xs_1 xs_2 xs_3 : Int) {β : Type} (k0 : (List V) → Option β) : Option β :=
 d45_7 C
  (fun (v_137 : Bool) =>
   d45_43 C w i a b' v_137 xs_0 in's xs_1 xs_2 xs_3
    (fun (in's_138 : List V) =>
     k0 in's_138))
noncomputable abbrev q45_44 : List Code := codesAt Try.prog 45 [[1, 1, 1, 0, 1, 0, 0, 1, 1, 0, 0, 1, 1, 1, 0, 0, 1, 1, 0, 0, 1, 1, 1, 0, 0, 1, 0, 0, 0], [1, 1, 1, 0, 1, 0, 0, 1, 1, 0, 0, 1, 1, 1, 0, 0, 1, 1, 0, 0, 1, 1, 1, 0, 0, 1, 0, 0, 1, 0, 0], [1, 1, 1, 0, 1, 0, 0, 1, 1, 0, 0, 1, 1, 1, 0, 0, 1, 1, 0, 0, 1, 1, 1, 0, 0, 1, 0, 0, 1, 0, 1], [1, 1, 1, 0, 1, 0, 0, 1, 1, 0, 0, 1, 1, 1, 0, 0, 1, 1, 0, 0, 1, 1, 1, 0, 0, 1, 0, 0, 1, 1]]
theorem h45_44_eq (C : CallF) (w : List UInt8) (n i a b' : Int) (t22 : List V) (t23 t24 t39 t40 : Int) (gs_0 : List V) (gs_1 : Int) (in's : List V) (xs_0 xs_1 xs_2 xs_3 : Int) {β : Type} (K : Out → St → Option β) :
 execL Try.prog ann C 45 220 0 (q45_44) (z45_5 w n i a b' t22 t23 t24 t39 t40 gs_0 gs_1 in's xs_0 xs_1 xs_2 xs_3) K =
  d45_44 C w i a b' in's xs_0 xs_1 xs_2 xs_3
   (fun (in's0 : List V) => K .norm (z45_5 w n i a b' t22 t23 t24 t39 t40 gs_0 gs_1 in's0 xs_0 xs_1 xs_2 xs_3)) := by
 refine Eq.trans (execL_app (P := Try.prog) (A := ann) (C := C) (f := 45) (n := 220) (m := 0) (q45_6) (q45_43) (st := z45_5 w n i a b' t22 t23 t24 t39 t40 gs_0 gs_1 in's xs_0 xs_1 xs_2 xs_3) (K := K)) (Eq.trans (h45_7_eq C w n i a b' t22 t23 t24 t39 t40 gs_0 gs_1 in's xs_0 xs_1 xs_2 xs_3 (seqK Try.prog ann C 45 220 0 (q45_43) K)) ?_)
 · exact Eq.trans (by kernel_rfl) (Eq.trans (congrArg (fun HOLE : Bool → Option β => d45_7 C HOLE) (funext fun (v0 : Bool) => h45_43_eq C w n i a b' v0 t22 t23 t24 t39 t40 xs_0 gs_0 gs_1 in's xs_0 xs_1 xs_2 xs_3 K)) ((by kernel_rfl)))
noncomputable def d45_45 (C : CallF) (w : List UInt8) (i a b' : Int) (in's : List V) (xs_0 xs_1 xs_2 xs_3 : Int) {β : Type} (k0 : (List V) → Option β) : Option β :=
 d45_44 C w i a b' in's xs_0 xs_1 xs_2 xs_3
  (fun (in's_139 : List V) =>
   k0 in's_139)
noncomputable abbrev q45_45 : List Code := codesAt Try.prog 45 [[1, 1, 1, 0, 1, 0, 0, 1, 1, 0, 0, 1, 1, 1, 0, 0, 1, 1, 0, 0, 1, 1, 1, 0, 0, 1, 0]]
theorem h45_45_eq (C : CallF) (w : List UInt8) (n i a b' : Int) (t22 : List V) (t23 t24 t39 t40 : Int) (gs_0 : List V) (gs_1 : Int) (in's : List V) (xs_0 xs_1 xs_2 xs_3 : Int) {β : Type} (K : Out → St → Option β) :
 execL Try.prog ann C 45 220 0 (q45_45) (z45_5 w n i a b' t22 t23 t24 t39 t40 gs_0 gs_1 in's xs_0 xs_1 xs_2 xs_3) K =
  d45_45 C w i a b' in's xs_0 xs_1 xs_2 xs_3
   (fun (in's0 : List V) => K .norm (z45_5 w n i a b' t22 t23 t24 t39 t40 gs_0 gs_1 in's0 xs_0 xs_1 xs_2 xs_3)) := Eq.trans (execL_block (P := Try.prog) (A := ann) (C := C) (f := 45) (n := 220) (m := 0) (id := 5) (c := codeAt [1, 1, 1, 0, 1, 0, 0, 1, 1, 0, 0, 1, 1, 1, 0, 0, 1, 1, 0, 0, 1, 1, 1, 0, 0, 1, 0] (bodyOf Try.prog 45)) (d := codeAt [1, 1, 1, 0, 1, 0, 0, 1, 1, 0, 0, 1, 1, 1, 0, 0, 1, 1, 0, 0, 1, 1, 1, 0, 0, 1, 0, 0] (bodyOf Try.prog 45)) (l := q45_44) (st := z45_5 w n i a b' t22 t23 t24 t39 t40 gs_0 gs_1 in's xs_0 xs_1 xs_2 xs_3) (K := K) (by kernel_rfl) (by kernel_rfl)) (Eq.trans (h45_44_eq C w n i a b' t22 t23 t24 t39 t40 gs_0 gs_1 in's xs_0 xs_1 xs_2 xs_3 (blockK ann 45 0 5 K)) (by kernel_rfl))
noncomputable def d45_46 (C : CallF)  {β : Type} (k0 : Option β) : Option β :=
 k0
noncomputable abbrev q45_46 : List Code := codesAt Try.prog 45 [[1, 1, 1, 0, 1, 0, 0, 1, 1, 0, 0, 1, 1, 1, 0, 0, 1, 1, 0, 0, 1, 1, 1, 0, 0, 1, 1]]
theorem h45_46_eq (C : CallF) (w : List UInt8) (n i a b' : Int) (t22 : List V) (t23 t24 t39 t40 : Int) (gs_0 : List V) (gs_1 : Int) (in's : List V) (xs_0 xs_1 xs_2 xs_3 : Int) {β : Type} (K : Out → St → Option β) :
 execL Try.prog ann C 45 220 0 (q45_46) (z45_5 w n i a b' t22 t23 t24 t39 t40 gs_0 gs_1 in's xs_0 xs_1 xs_2 xs_3) K =
  d45_46 C
   (K .norm (z45_5 w n i a (IntKind.wrap .i64 (b' + 1)) t22 t23 t24 t39 t40 gs_0 gs_1 in's xs_0 xs_1 xs_2 xs_3)) := by kernel_rfl
noncomputable def d45_47 (C : CallF) (w : List UInt8) (i a b' : Int) (in's : List V) (xs_0 xs_1 xs_2 xs_3 : Int) {β : Type} (k0 : (List V) → Option β) : Option β :=
 d45_45 C w i a b' in's xs_0 xs_1 xs_2 xs_3
  (fun (in's_140 : List V) =>
   d45_46 C
    (
     k0 in's_140))
noncomputable abbrev q45_47 : List Code := codesAt Try.prog 45 [[1, 1, 1, 0, 1, 0, 0, 1, 1, 0, 0, 1, 1, 1, 0, 0, 1, 1, 0, 0, 1, 1, 1, 0, 0, 1, 0], [1, 1, 1, 0, 1, 0, 0, 1, 1, 0, 0, 1, 1, 1, 0, 0, 1, 1, 0, 0, 1, 1, 1, 0, 0, 1, 1]]
theorem h45_47_eq (C : CallF) (w : List UInt8) (n i a b' : Int) (t22 : List V) (t23 t24 t39 t40 : Int) (gs_0 : List V) (gs_1 : Int) (in's : List V) (xs_0 xs_1 xs_2 xs_3 : Int) {β : Type} (K : Out → St → Option β) :
 execL Try.prog ann C 45 220 0 (q45_47) (z45_5 w n i a b' t22 t23 t24 t39 t40 gs_0 gs_1 in's xs_0 xs_1 xs_2 xs_3) K =
  d45_47 C w i a b' in's xs_0 xs_1 xs_2 xs_3
   (fun (in's0 : List V) => K .norm (z45_5 w n i a (IntKind.wrap .i64 (b' + 1)) t22 t23 t24 t39 t40 gs_0 gs_1 in's0 xs_0 xs_1 xs_2 xs_3)) := by
 refine Eq.trans (execL_app (P := Try.prog) (A := ann) (C := C) (f := 45) (n := 220) (m := 0) (q45_45) (q45_46) (st := z45_5 w n i a b' t22 t23 t24 t39 t40 gs_0 gs_1 in's xs_0 xs_1 xs_2 xs_3) (K := K)) (Eq.trans (h45_45_eq C w n i a b' t22 t23 t24 t39 t40 gs_0 gs_1 in's xs_0 xs_1 xs_2 xs_3 (seqK Try.prog ann C 45 220 0 (q45_46) K)) ?_)
 · exact Eq.trans (by kernel_rfl) (Eq.trans (congrArg (fun HOLE : (List V) → Option β => d45_45 C w i a b' in's xs_0 xs_1 xs_2 xs_3 HOLE) (funext fun (in's0 : List V) => h45_46_eq C w n i a b' t22 t23 t24 t39 t40 gs_0 gs_1 in's0 xs_0 xs_1 xs_2 xs_3 K)) ((by kernel_rfl)))
noncomputable def d45_48 (C : CallF) (w : List UInt8) (n i a b' : Int) (in's : List V) (xs_0 xs_1 xs_2 xs_3 : Int) {β : Type} (k0 : (List V) → Option β) (k1 : Option β) : Option β :=
 d45_6 C n b'
  (
   d45_47 C w i a b' in's xs_0 xs_1 xs_2 xs_3
    (fun (in's_141 : List V) =>
     k0 in's_141))
  (
   k1)
noncomputable abbrev q45_48 : List Code := codesAt Try.prog 45 [[1, 1, 1, 0, 1, 0, 0, 1, 1, 0, 0, 1, 1, 1, 0, 0, 1, 1, 0, 0, 1, 1, 1, 0, 0, 0, 0], [1, 1, 1, 0, 1, 0, 0, 1, 1, 0, 0, 1, 1, 1, 0, 0, 1, 1, 0, 0, 1, 1, 1, 0, 0, 0, 1], [1, 1, 1, 0, 1, 0, 0, 1, 1, 0, 0, 1, 1, 1, 0, 0, 1, 1, 0, 0, 1, 1, 1, 0, 0, 1, 0], [1, 1, 1, 0, 1, 0, 0, 1, 1, 0, 0, 1, 1, 1, 0, 0, 1, 1, 0, 0, 1, 1, 1, 0, 0, 1, 1]]
theorem h45_48_eq (C : CallF) (w : List UInt8) (n i a b' : Int) (t22 : List V) (t23 t24 t39 t40 : Int) (gs_0 : List V) (gs_1 : Int) (in's : List V) (xs_0 xs_1 xs_2 xs_3 : Int) {β : Type} (K : Out → St → Option β) :
 execL Try.prog ann C 45 220 0 (q45_48) (z45_5 w n i a b' t22 t23 t24 t39 t40 gs_0 gs_1 in's xs_0 xs_1 xs_2 xs_3) K =
  d45_48 C w n i a b' in's xs_0 xs_1 xs_2 xs_3
   (fun (in's0 : List V) => K .norm (z45_5 w n i a (IntKind.wrap .i64 (b' + 1)) t22 t23 t24 t39 t40 gs_0 gs_1 in's0 xs_0 xs_1 xs_2 xs_3))
   (K (.exit 4) (z45_6 w n i a b' t22 t23 t24 t39 t40 (decide ((b' : Int) ≤ n)) gs_0 gs_1 in's xs_0 xs_1 xs_2 xs_3)) := by
 refine Eq.trans (execL_app (P := Try.prog) (A := ann) (C := C) (f := 45) (n := 220) (m := 0) (q45_5) (q45_47) (st := z45_5 w n i a b' t22 t23 t24 t39 t40 gs_0 gs_1 in's xs_0 xs_1 xs_2 xs_3) (K := K)) (Eq.trans (h45_6_eq C w n i a b' t22 t23 t24 t39 t40 gs_0 gs_1 in's xs_0 xs_1 xs_2 xs_3 (seqK Try.prog ann C 45 220 0 (q45_47) K)) ?_)
 · exact Eq.trans (by kernel_rfl) (Eq.trans (congrArg (fun HOLE : Option β => d45_6 C n b' HOLE (K (.exit 4) (z45_6 w n i a b' t22 t23 t24 t39 t40 (decide ((b' : Int) ≤ n)) gs_0 gs_1 in's xs_0 xs_1 xs_2 xs_3))) (h45_47_eq C w n i a b' t22 t23 t24 t39 t40 gs_0 gs_1 in's xs_0 xs_1 xs_2 xs_3 K)) ((by kernel_rfl)))
noncomputable def s_semigroupref31_Holds_49L_step (C : CallF) (w : List UInt8) (n i a xs_0 xs_1 xs_2 xs_3 : Int) : (Int × (List V)) → Option ((Int × (List V)) ⊕ ((Int × Bool × (List V)))) := fun (b', in's) =>
 bif decide ((b' : Int) ≤ n) then
  bif ((xs_0 : Int) == 2) then
   bif (decide (0 ≤ i)) && (decide (i < (in's.length : Int))) then
    (in's[(i : Int).toNat]?).bind fun x128 =>
     (rowV Try.prog T_l_l_bool in's [((i : Int).toNat, 0)]).bind fun x129 =>
      bif (decide (0 ≤ a)) && (decide (a < (x129.toList.length : Int))) then
       (rowV Try.prog T_l_l_bool in's [((i : Int).toNat, 0)]).bind fun x130 =>
        (x130.toList[(a : Int).toNat]?).bind fun x131 =>
         (rowV Try.prog T_l_l_bool in's [((i : Int).toNat, 0), ((a : Int).toNat, 0)]).bind fun x132 =>
          bif (decide (0 ≤ b')) && (decide (b' < (x132.toList.length : Int))) then
           (rowV Try.prog T_l_l_bool in's [((i : Int).toNat, 0), ((a : Int).toNat, 0)]).bind fun x133 =>
            (x133.toList[(b' : Int).toNat]?).bind fun x134 =>
             some (.inl (IntKind.wrap .i64 (b' + 1), (setRow Try.prog (x133.toList.set ((b' : Int).toNat) (.bool ((a : Int) == b'))) T_l_l_bool in's [((i : Int).toNat, 0), ((a : Int).toNat, 0)])))
          else none
      else none
   else none
  else
   bif ((xs_0 : Int) == 3) then
    s_semigroupref31_Holds_11 C w a b' xs_1
     (fun (v_123 : Bool) =>
      bif (decide (0 ≤ i)) && (decide (i < (in's.length : Int))) then
       (in's[(i : Int).toNat]?).bind fun x128 =>
        (rowV Try.prog T_l_l_bool in's [((i : Int).toNat, 0)]).bind fun x129 =>
         bif (decide (0 ≤ a)) && (decide (a < (x129.toList.length : Int))) then
          (rowV Try.prog T_l_l_bool in's [((i : Int).toNat, 0)]).bind fun x130 =>
           (x130.toList[(a : Int).toNat]?).bind fun x131 =>
            (rowV Try.prog T_l_l_bool in's [((i : Int).toNat, 0), ((a : Int).toNat, 0)]).bind fun x132 =>
             bif (decide (0 ≤ b')) && (decide (b' < (x132.toList.length : Int))) then
              (rowV Try.prog T_l_l_bool in's [((i : Int).toNat, 0), ((a : Int).toNat, 0)]).bind fun x133 =>
               (x133.toList[(b' : Int).toNat]?).bind fun x134 =>
                some (.inl (IntKind.wrap .i64 (b' + 1), (setRow Try.prog (x133.toList.set ((b' : Int).toNat) (.bool v_123)) T_l_l_bool in's [((i : Int).toNat, 0), ((a : Int).toNat, 0)])))
             else none
         else none
      else none)
   else
    bif ((xs_0 : Int) == 4) then
     bif (decide (0 ≤ i)) && (decide (i < (in's.length : Int))) then
      (in's[(i : Int).toNat]?).bind fun x128 =>
       (rowV Try.prog T_l_l_bool in's [((i : Int).toNat, 0)]).bind fun x129 =>
        bif (decide (0 ≤ a)) && (decide (a < (x129.toList.length : Int))) then
         (rowV Try.prog T_l_l_bool in's [((i : Int).toNat, 0)]).bind fun x130 =>
          (x130.toList[(a : Int).toNat]?).bind fun x131 =>
           (rowV Try.prog T_l_l_bool in's [((i : Int).toNat, 0), ((a : Int).toNat, 0)]).bind fun x132 =>
            bif (decide (0 ≤ b')) && (decide (b' < (x132.toList.length : Int))) then
             (rowV Try.prog T_l_l_bool in's [((i : Int).toNat, 0), ((a : Int).toNat, 0)]).bind fun x133 =>
              (x133.toList[(b' : Int).toNat]?).bind fun x134 =>
               some (.inl (IntKind.wrap .i64 (b' + 1), (setRow Try.prog (x133.toList.set ((b' : Int).toNat) (.bool true)) T_l_l_bool in's [((i : Int).toNat, 0), ((a : Int).toNat, 0)])))
            else none
        else none
     else none
    else
     bif ((xs_0 : Int) == 5) then
      s_semigroupref31_Holds_15 C a b' in's xs_2 xs_3
       (fun (v_116 : Bool) =>
        bif (decide (0 ≤ i)) && (decide (i < (in's.length : Int))) then
         (in's[(i : Int).toNat]?).bind fun x128 =>
          (rowV Try.prog T_l_l_bool in's [((i : Int).toNat, 0)]).bind fun x129 =>
           bif (decide (0 ≤ a)) && (decide (a < (x129.toList.length : Int))) then
            (rowV Try.prog T_l_l_bool in's [((i : Int).toNat, 0)]).bind fun x130 =>
             (x130.toList[(a : Int).toNat]?).bind fun x131 =>
              (rowV Try.prog T_l_l_bool in's [((i : Int).toNat, 0), ((a : Int).toNat, 0)]).bind fun x132 =>
               bif (decide (0 ≤ b')) && (decide (b' < (x132.toList.length : Int))) then
                (rowV Try.prog T_l_l_bool in's [((i : Int).toNat, 0), ((a : Int).toNat, 0)]).bind fun x133 =>
                 (x133.toList[(b' : Int).toNat]?).bind fun x134 =>
                  some (.inl (IntKind.wrap .i64 (b' + 1), (setRow Try.prog (x133.toList.set ((b' : Int).toNat) (.bool v_116)) T_l_l_bool in's [((i : Int).toNat, 0), ((a : Int).toNat, 0)])))
               else none
           else none
        else none)
     else
      bif ((xs_0 : Int) == 6) then
       s_semigroupref31_Holds_17 C a b' in's xs_2 xs_3
        (fun (v_112 : Bool) =>
         bif (decide (0 ≤ i)) && (decide (i < (in's.length : Int))) then
          (in's[(i : Int).toNat]?).bind fun x128 =>
           (rowV Try.prog T_l_l_bool in's [((i : Int).toNat, 0)]).bind fun x129 =>
            bif (decide (0 ≤ a)) && (decide (a < (x129.toList.length : Int))) then
             (rowV Try.prog T_l_l_bool in's [((i : Int).toNat, 0)]).bind fun x130 =>
              (x130.toList[(a : Int).toNat]?).bind fun x131 =>
               (rowV Try.prog T_l_l_bool in's [((i : Int).toNat, 0), ((a : Int).toNat, 0)]).bind fun x132 =>
                bif (decide (0 ≤ b')) && (decide (b' < (x132.toList.length : Int))) then
                 (rowV Try.prog T_l_l_bool in's [((i : Int).toNat, 0), ((a : Int).toNat, 0)]).bind fun x133 =>
                  (x133.toList[(b' : Int).toNat]?).bind fun x134 =>
                   some (.inl (IntKind.wrap .i64 (b' + 1), (setRow Try.prog (x133.toList.set ((b' : Int).toNat) (.bool v_112)) T_l_l_bool in's [((i : Int).toNat, 0), ((a : Int).toNat, 0)])))
                else none
            else none
         else none)
      else
       bif ((xs_0 : Int) == 7) then
        s_semigroupref31_Holds_25L C a b' false a in's xs_2 xs_3
         (fun (v_95 : Bool) (c_96 : Int) (t_97 : Bool) =>
          bif (decide (0 ≤ i)) && (decide (i < (in's.length : Int))) then
           (in's[(i : Int).toNat]?).bind fun x128 =>
            (rowV Try.prog T_l_l_bool in's [((i : Int).toNat, 0)]).bind fun x129 =>
             bif (decide (0 ≤ a)) && (decide (a < (x129.toList.length : Int))) then
              (rowV Try.prog T_l_l_bool in's [((i : Int).toNat, 0)]).bind fun x130 =>
               (x130.toList[(a : Int).toNat]?).bind fun x131 =>
                (rowV Try.prog T_l_l_bool in's [((i : Int).toNat, 0), ((a : Int).toNat, 0)]).bind fun x132 =>
                 bif (decide (0 ≤ b')) && (decide (b' < (x132.toList.length : Int))) then
                  (rowV Try.prog T_l_l_bool in's [((i : Int).toNat, 0), ((a : Int).toNat, 0)]).bind fun x133 =>
                   (x133.toList[(b' : Int).toNat]?).bind fun x134 =>
                    some (.inl (IntKind.wrap .i64 (b' + 1), (setRow Try.prog (x133.toList.set ((b' : Int).toNat) (.bool v_95)) T_l_l_bool in's [((i : Int).toNat, 0), ((a : Int).toNat, 0)])))
                 else none
             else none
          else none)
       else
        s_semigroupref31_Holds_28 C a b' false xs_0 in's xs_2
         (fun (v_108 : Bool) =>
          bif (decide (0 ≤ i)) && (decide (i < (in's.length : Int))) then
           (in's[(i : Int).toNat]?).bind fun x128 =>
            (rowV Try.prog T_l_l_bool in's [((i : Int).toNat, 0)]).bind fun x129 =>
             bif (decide (0 ≤ a)) && (decide (a < (x129.toList.length : Int))) then
              (rowV Try.prog T_l_l_bool in's [((i : Int).toNat, 0)]).bind fun x130 =>
               (x130.toList[(a : Int).toNat]?).bind fun x131 =>
                (rowV Try.prog T_l_l_bool in's [((i : Int).toNat, 0), ((a : Int).toNat, 0)]).bind fun x132 =>
                 bif (decide (0 ≤ b')) && (decide (b' < (x132.toList.length : Int))) then
                  (rowV Try.prog T_l_l_bool in's [((i : Int).toNat, 0), ((a : Int).toNat, 0)]).bind fun x133 =>
                   (x133.toList[(b' : Int).toNat]?).bind fun x134 =>
                    some (.inl (IntKind.wrap .i64 (b' + 1), (setRow Try.prog (x133.toList.set ((b' : Int).toNat) (.bool v_108)) T_l_l_bool in's [((i : Int).toNat, 0), ((a : Int).toNat, 0)])))
                 else none
             else none
          else none)
 else
  some (.inr (b', decide ((b' : Int) ≤ n), in's))
noncomputable def s_semigroupref31_Holds_49L (C : CallF) (w : List UInt8) (n i a b' : Int) (in's : List V) (xs_0 xs_1 xs_2 xs_3 : Int) {β : Type} (k0 : Int → Bool → (List V) → Option β) : Option β :=
 (Loop (s_semigroupref31_Holds_49L_step C w n i a xs_0 xs_1 xs_2 xs_3) (b', in's)).bind fun (b'0, t550, in's0) => k0 b'0 t550 in's0
noncomputable def s_semigroupref31_Holds_49L_dec : Out → St → Option ((Int × (List V)) ⊕ ((Int × Bool × (List V)))) := fun o st => match o with
 | .norm => some (.inl (V.toInt (st.sl 10), arrOf (st.hp 1)))
 | .exit q => bif Nat.beq q 4 then some (.inr (V.toInt (st.sl 10), V.toBool (st.sl 55), arrOf (st.hp 1))) else none
 | .ret => none
noncomputable def s_semigroupref31_Holds_49L_hd (w : List UInt8) (n i a : Int) (t22 : List V) (t23 t24 t39 t40 : Int) (gs_0 : List V) (gs_1 xs_0 xs_1 xs_2 xs_3 : Int) : (Int × (List V)) → St := fun (b', in's) => z45_5 w n i a b' t22 t23 t24 t39 t40 gs_0 gs_1 in's xs_0 xs_1 xs_2 xs_3
noncomputable def s_semigroupref31_Holds_49L_enc (w : List UInt8) (n i a : Int) (t22 : List V) (t23 t24 t39 t40 : Int) (gs_0 : List V) (gs_1 xs_0 xs_1 xs_2 xs_3 : Int) : ((Int × Bool × (List V))) → Out × St := fun (b'0, t550, in's0) => (.exit 4, z45_6 w n i a b'0 t22 t23 t24 t39 t40 t550 gs_0 gs_1 in's0 xs_0 xs_1 xs_2 xs_3)
noncomputable abbrev q45_49 : List Code := codesAt Try.prog 45 [[1, 1, 1, 0, 1, 0, 0, 1, 1, 0, 0, 1, 1, 1, 0, 0, 1, 1, 0, 0, 1, 1, 1, 0, 0]]
noncomputable abbrev q45_50 : List Code := codesAt Try.prog 45 [[1, 1, 1, 0, 1, 0, 0, 1, 1, 0, 0, 1, 1, 1, 0, 0, 1, 1, 0, 0, 1, 1, 1, 0]]
theorem s_semigroupref31_Holds_49L_eq (C : CallF) (w : List UInt8) (n i a b' : Int) (t22 : List V) (t23 t24 t39 t40 : Int) (gs_0 : List V) (gs_1 : Int) (in's : List V) (xs_0 xs_1 xs_2 xs_3 : Int) {β : Type} (K : Out → St → Option β) :
 execL Try.prog ann C 45 220 0 (q45_50) (z45_5 w n i a b' t22 t23 t24 t39 t40 gs_0 gs_1 in's xs_0 xs_1 xs_2 xs_3) K =
  s_semigroupref31_Holds_49L C w n i a b' in's xs_0 xs_1 xs_2 xs_3
   (fun (b'0 : Int) (t550 : Bool) (in's0 : List V) => K (.exit 4) (z45_6 w n i a b'0 t22 t23 t24 t39 t40 t550 gs_0 gs_1 in's0 xs_0 xs_1 xs_2 xs_3)) := by
 have hitems : flatC (codeAt [1, 1, 1, 0, 1, 0, 0, 1, 1, 0, 0, 1, 1, 1, 0, 0, 1, 1, 0, 0, 1, 1, 1, 0, 0] (bodyOf Try.prog 45)) = q45_48 := by kernel_rfl
 have hloop : [codeAt [1, 1, 1, 0, 1, 0, 0, 1, 1, 0, 0, 1, 1, 1, 0, 0, 1, 1, 0, 0, 1, 1, 1, 0] (bodyOf Try.prog 45)] = [Code.loop (codeAt [1, 1, 1, 0, 1, 0, 0, 1, 1, 0, 0, 1, 1, 1, 0, 0, 1, 1, 0, 0, 1, 1, 1, 0, 0] (bodyOf Try.prog 45))] := by kernel_rfl
 have h := loopK_eq (P := Try.prog) (A := ann) (C := C) (f := 45) (n := 220) (m := 0) (c := codeAt [1, 1, 1, 0, 1, 0, 0, 1, 1, 0, 0, 1, 1, 1, 0, 0, 1, 1, 0, 0, 1, 1, 1, 0, 0] (bodyOf Try.prog 45)) (s_semigroupref31_Holds_49L_hd w n i a t22 t23 t24 t39 t40 gs_0 gs_1 xs_0 xs_1 xs_2 xs_3) (s_semigroupref31_Holds_49L_enc w n i a t22 t23 t24 t39 t40 gs_0 gs_1 xs_0 xs_1 xs_2 xs_3) s_semigroupref31_Holds_49L_dec (s_semigroupref31_Holds_49L_step C w n i a xs_0 xs_1 xs_2 xs_3)
  (by rintro ⟨b', in's⟩; exact Eq.trans (execK_items hitems) (Eq.trans (h45_48_eq C w n i a b' t22 t23 t24 t39 t40 gs_0 gs_1 in's xs_0 xs_1 xs_2 xs_3 s_semigroupref31_Holds_49L_dec) (by kernel_rfl)))
  (by rintro ⟨b', in's⟩; exact Eq.trans (execK_items hitems) (Eq.trans (h45_48_eq C w n i a b' t22 t23 t24 t39 t40 gs_0 gs_1 in's xs_0 xs_1 xs_2 xs_3 (fun o st => some (o, st))) (Eq.trans (by kernel_rfl) (Eq.trans (h45_48_eq C w n i a b' t22 t23 t24 t39 t40 gs_0 gs_1 in's xs_0 xs_1 xs_2 xs_3 (fun o st => (s_semigroupref31_Holds_49L_dec o st).map (outS (s_semigroupref31_Holds_49L_hd w n i a t22 t23 t24 t39 t40 gs_0 gs_1 xs_0 xs_1 xs_2 xs_3) (s_semigroupref31_Holds_49L_enc w n i a t22 t23 t24 t39 t40 gs_0 gs_1 xs_0 xs_1 xs_2 xs_3)))).symm (execK_items hitems).symm))))
  (by intro r; intro h; cases h) (b', in's) K
 refine Eq.trans (congrArg (fun l => execL Try.prog ann C 45 220 0 l (z45_5 w n i a b' t22 t23 t24 t39 t40 gs_0 gs_1 in's xs_0 xs_1 xs_2 xs_3) K) hloop) (Eq.trans h ?_)
 · refine congrArg _ (funext fun r => ?_)
   rfl
noncomputable def d45_50 (C : CallF) (w : List UInt8) (n i a b' : Int) (in's : List V) (xs_0 xs_1 xs_2 xs_3 : Int) {β : Type} (k0 : (List V) → Option β) : Option β :=
 s_semigroupref31_Holds_49L C w n i a b' in's xs_0 xs_1 xs_2 xs_3
  (fun (b_142 : Int) (t_143 : Bool) (in's_144 : List V) =>
   k0 in's_144)
noncomputable abbrev q45_51 : List Code := codesAt Try.prog 45 [[1, 1, 1, 0, 1, 0, 0, 1, 1, 0, 0, 1, 1, 1, 0, 0, 1, 1, 0, 0, 1, 1, 1]]
theorem h45_50_eq (C : CallF) (w : List UInt8) (n i a b' : Int) (t22 : List V) (t23 t24 t39 t40 : Int) (gs_0 : List V) (gs_1 : Int) (in's : List V) (xs_0 xs_1 xs_2 xs_3 : Int) {β : Type} (K : Out → St → Option β) :
 execL Try.prog ann C 45 220 0 (q45_51) (z45_5 w n i a b' t22 t23 t24 t39 t40 gs_0 gs_1 in's xs_0 xs_1 xs_2 xs_3) K =
  d45_50 C w n i a b' in's xs_0 xs_1 xs_2 xs_3
   (fun (in's0 : List V) => K .norm (z45_3 w n i t22 t23 t24 t39 t40 gs_0 gs_1 in's0 xs_0 xs_1 xs_2 xs_3)) := Eq.trans (execL_block (P := Try.prog) (A := ann) (C := C) (f := 45) (n := 220) (m := 0) (id := 4) (c := codeAt [1, 1, 1, 0, 1, 0, 0, 1, 1, 0, 0, 1, 1, 1, 0, 0, 1, 1, 0, 0, 1, 1, 1] (bodyOf Try.prog 45)) (d := codeAt [1, 1, 1, 0, 1, 0, 0, 1, 1, 0, 0, 1, 1, 1, 0, 0, 1, 1, 0, 0, 1, 1, 1, 0] (bodyOf Try.prog 45)) (l := q45_50) (st := z45_5 w n i a b' t22 t23 t24 t39 t40 gs_0 gs_1 in's xs_0 xs_1 xs_2 xs_3) (K := K) (by kernel_rfl) (by kernel_rfl)) (Eq.trans (s_semigroupref31_Holds_49L_eq C w n i a b' t22 t23 t24 t39 t40 gs_0 gs_1 in's xs_0 xs_1 xs_2 xs_3 (blockK ann 45 0 4 K)) (by kernel_rfl))
noncomputable def d45_51 (C : CallF) (w : List UInt8) (n i t40 : Int) (in's : List V) (xs_0 xs_1 xs_2 xs_3 : Int) {β : Type} (k0 : (List V) → Option β) : Option β :=
 d45_5 C n i t40 in's
  (fun (in's_148 : List V) =>
   d45_50 C w n i t40 t40 in's_148 xs_0 xs_1 xs_2 xs_3
    (fun (in's_149 : List V) =>
     k0 in's_149))
noncomputable abbrev q45_52 : List Code := codesAt Try.prog 45 [[1, 1, 1, 0, 1, 0, 0, 1, 1, 0, 0, 1, 1, 1, 0, 0, 1, 1, 0, 0, 0], [1, 1, 1, 0, 1, 0, 0, 1, 1, 0, 0, 1, 1, 1, 0, 0, 1, 1, 0, 0, 1, 0], [1, 1, 1, 0, 1, 0, 0, 1, 1, 0, 0, 1, 1, 1, 0, 0, 1, 1, 0, 0, 1, 1, 0], [1, 1, 1, 0, 1, 0, 0, 1, 1, 0, 0, 1, 1, 1, 0, 0, 1, 1, 0, 0, 1, 1, 1]]
theorem h45_51_eq (C : CallF) (w : List UInt8) (n i : Int) (t22 : List V) (t23 t24 t39 t40 : Int) (gs_0 : List V) (gs_1 : Int) (in's : List V) (xs_0 xs_1 xs_2 xs_3 : Int) {β : Type} (K : Out → St → Option β) :
 execL Try.prog ann C 45 220 0 (q45_52) (z45_3 w n i t22 t23 t24 t39 t40 gs_0 gs_1 in's xs_0 xs_1 xs_2 xs_3) K =
  d45_51 C w n i t40 in's xs_0 xs_1 xs_2 xs_3
   (fun (in's0 : List V) => K .norm (z45_3 w n i t22 t23 t24 t39 t40 gs_0 gs_1 in's0 xs_0 xs_1 xs_2 xs_3)) := by
 refine Eq.trans (execL_app (P := Try.prog) (A := ann) (C := C) (f := 45) (n := 220) (m := 0) (q45_4) (q45_51) (st := z45_3 w n i t22 t23 t24 t39 t40 gs_0 gs_1 in's xs_0 xs_1 xs_2 xs_3) (K := K)) (Eq.trans (h45_5_eq C w n i t22 t23 t24 t39 t40 gs_0 gs_1 in's xs_0 xs_1 xs_2 xs_3 (seqK Try.prog ann C 45 220 0 (q45_51) K)) ?_)
 · exact Eq.trans (by kernel_rfl) (Eq.trans (congrArg (fun HOLE : (List V) → Option β => d45_5 C n i t40 in's HOLE) (funext fun (in's0 : List V) => h45_50_eq C w n i t40 t40 t22 t23 t24 t39 t40 gs_0 gs_1 in's0 xs_0 xs_1 xs_2 xs_3 K)) ((by kernel_rfl)))
noncomputable def d45_52 (C : CallF) (w : List UInt8) (n i t40 : Int) (in's : List V) (xs_0 xs_1 xs_2 xs_3 : Int) {β : Type} (k0 : (List V) → Option β) : Option β :=
 d45_51 C w n i t40 in's xs_0 xs_1 xs_2 xs_3
  (fun (in's_150 : List V) =>
   k0 in's_150)
noncomputable abbrev q45_53 : List Code := codesAt Try.prog 45 [[1, 1, 1, 0, 1, 0, 0, 1, 1, 0, 0, 1, 1, 1, 0, 0, 1, 1, 0]]
theorem h45_52_eq (C : CallF) (w : List UInt8) (n i : Int) (t22 : List V) (t23 t24 t39 t40 : Int) (gs_0 : List V) (gs_1 : Int) (in's : List V) (xs_0 xs_1 xs_2 xs_3 : Int) {β : Type} (K : Out → St → Option β) :
 execL Try.prog ann C 45 220 0 (q45_53) (z45_3 w n i t22 t23 t24 t39 t40 gs_0 gs_1 in's xs_0 xs_1 xs_2 xs_3) K =
  d45_52 C w n i t40 in's xs_0 xs_1 xs_2 xs_3
   (fun (in's0 : List V) => K .norm (z45_3 w n i t22 t23 t24 t39 t40 gs_0 gs_1 in's0 xs_0 xs_1 xs_2 xs_3)) := Eq.trans (execL_block (P := Try.prog) (A := ann) (C := C) (f := 45) (n := 220) (m := 0) (id := 3) (c := codeAt [1, 1, 1, 0, 1, 0, 0, 1, 1, 0, 0, 1, 1, 1, 0, 0, 1, 1, 0] (bodyOf Try.prog 45)) (d := codeAt [1, 1, 1, 0, 1, 0, 0, 1, 1, 0, 0, 1, 1, 1, 0, 0, 1, 1, 0, 0] (bodyOf Try.prog 45)) (l := q45_52) (st := z45_3 w n i t22 t23 t24 t39 t40 gs_0 gs_1 in's xs_0 xs_1 xs_2 xs_3) (K := K) (by kernel_rfl) (by kernel_rfl)) (Eq.trans (h45_51_eq C w n i t22 t23 t24 t39 t40 gs_0 gs_1 in's xs_0 xs_1 xs_2 xs_3 (blockK ann 45 0 3 K)) (by kernel_rfl))
noncomputable def d45_53 (C : CallF)  {β : Type} (k0 : Option β) : Option β :=
 k0
noncomputable abbrev q45_54 : List Code := codesAt Try.prog 45 [[1, 1, 1, 0, 1, 0, 0, 1, 1, 0, 0, 1, 1, 1, 0, 0, 1, 1, 1]]
theorem h45_53_eq (C : CallF) (w : List UInt8) (n i : Int) (t22 : List V) (t23 t24 t39 t40 : Int) (gs_0 : List V) (gs_1 : Int) (in's : List V) (xs_0 xs_1 xs_2 xs_3 : Int) {β : Type} (K : Out → St → Option β) :
 execL Try.prog ann C 45 220 0 (q45_54) (z45_3 w n i t22 t23 t24 t39 t40 gs_0 gs_1 in's xs_0 xs_1 xs_2 xs_3) K =
  d45_53 C
   (K .norm (z45_3 w n i t22 t23 t24 t39 (IntKind.wrap .i64 (t40 + 1)) gs_0 gs_1 in's xs_0 xs_1 xs_2 xs_3)) := by kernel_rfl
noncomputable def d45_54 (C : CallF) (w : List UInt8) (n i t40 : Int) (in's : List V) (xs_0 xs_1 xs_2 xs_3 : Int) {β : Type} (k0 : (List V) → Option β) : Option β :=
 d45_52 C w n i t40 in's xs_0 xs_1 xs_2 xs_3
  (fun (in's_151 : List V) =>
   d45_53 C
    (
     k0 in's_151))
noncomputable abbrev q45_55 : List Code := codesAt Try.prog 45 [[1, 1, 1, 0, 1, 0, 0, 1, 1, 0, 0, 1, 1, 1, 0, 0, 1, 1, 0], [1, 1, 1, 0, 1, 0, 0, 1, 1, 0, 0, 1, 1, 1, 0, 0, 1, 1, 1]]
theorem h45_54_eq (C : CallF) (w : List UInt8) (n i : Int) (t22 : List V) (t23 t24 t39 t40 : Int) (gs_0 : List V) (gs_1 : Int) (in's : List V) (xs_0 xs_1 xs_2 xs_3 : Int) {β : Type} (K : Out → St → Option β) :
 execL Try.prog ann C 45 220 0 (q45_55) (z45_3 w n i t22 t23 t24 t39 t40 gs_0 gs_1 in's xs_0 xs_1 xs_2 xs_3) K =
  d45_54 C w n i t40 in's xs_0 xs_1 xs_2 xs_3
   (fun (in's0 : List V) => K .norm (z45_3 w n i t22 t23 t24 t39 (IntKind.wrap .i64 (t40 + 1)) gs_0 gs_1 in's0 xs_0 xs_1 xs_2 xs_3)) := by
 refine Eq.trans (execL_app (P := Try.prog) (A := ann) (C := C) (f := 45) (n := 220) (m := 0) (q45_53) (q45_54) (st := z45_3 w n i t22 t23 t24 t39 t40 gs_0 gs_1 in's xs_0 xs_1 xs_2 xs_3) (K := K)) (Eq.trans (h45_52_eq C w n i t22 t23 t24 t39 t40 gs_0 gs_1 in's xs_0 xs_1 xs_2 xs_3 (seqK Try.prog ann C 45 220 0 (q45_54) K)) ?_)
 · exact Eq.trans (by kernel_rfl) (Eq.trans (congrArg (fun HOLE : (List V) → Option β => d45_52 C w n i t40 in's xs_0 xs_1 xs_2 xs_3 HOLE) (funext fun (in's0 : List V) => h45_53_eq C w n i t22 t23 t24 t39 t40 gs_0 gs_1 in's0 xs_0 xs_1 xs_2 xs_3 K)) ((by kernel_rfl)))
noncomputable def d45_55 (C : CallF) (w : List UInt8) (n i t39 t40 : Int) (in's : List V) (xs_0 xs_1 xs_2 xs_3 : Int) {β : Type} (k0 : (List V) → Option β) (k1 : Option β) : Option β :=
 d45_4 C t39 t40
  (
   d45_54 C w n i t40 in's xs_0 xs_1 xs_2 xs_3
    (fun (in's_152 : List V) =>
     k0 in's_152))
  (
   k1)
noncomputable abbrev q45_56 : List Code := codesAt Try.prog 45 [[1, 1, 1, 0, 1, 0, 0, 1, 1, 0, 0, 1, 1, 1, 0, 0, 0], [1, 1, 1, 0, 1, 0, 0, 1, 1, 0, 0, 1, 1, 1, 0, 0, 1, 0], [1, 1, 1, 0, 1, 0, 0, 1, 1, 0, 0, 1, 1, 1, 0, 0, 1, 1, 0], [1, 1, 1, 0, 1, 0, 0, 1, 1, 0, 0, 1, 1, 1, 0, 0, 1, 1, 1]]
theorem h45_55_eq (C : CallF) (w : List UInt8) (n i : Int) (t22 : List V) (t23 t24 t39 t40 : Int) (gs_0 : List V) (gs_1 : Int) (in's : List V) (xs_0 xs_1 xs_2 xs_3 : Int) {β : Type} (K : Out → St → Option β) :
 execL Try.prog ann C 45 220 0 (q45_56) (z45_3 w n i t22 t23 t24 t39 t40 gs_0 gs_1 in's xs_0 xs_1 xs_2 xs_3) K =
  d45_55 C w n i t39 t40 in's xs_0 xs_1 xs_2 xs_3
   (fun (in's0 : List V) => K .norm (z45_3 w n i t22 t23 t24 t39 (IntKind.wrap .i64 (t40 + 1)) gs_0 gs_1 in's0 xs_0 xs_1 xs_2 xs_3))
   (K (.exit 2) (z45_4 w n i t22 t23 t24 t39 t40 (decide ((t40 : Int) < t39)) gs_0 gs_1 in's xs_0 xs_1 xs_2 xs_3)) := by
 refine Eq.trans (execL_app (P := Try.prog) (A := ann) (C := C) (f := 45) (n := 220) (m := 0) (q45_3) (q45_55) (st := z45_3 w n i t22 t23 t24 t39 t40 gs_0 gs_1 in's xs_0 xs_1 xs_2 xs_3) (K := K)) (Eq.trans (h45_4_eq C w n i t22 t23 t24 t39 t40 gs_0 gs_1 in's xs_0 xs_1 xs_2 xs_3 (seqK Try.prog ann C 45 220 0 (q45_55) K)) ?_)
 · exact Eq.trans (by kernel_rfl) (Eq.trans (congrArg (fun HOLE : Option β => d45_4 C t39 t40 HOLE (K (.exit 2) (z45_4 w n i t22 t23 t24 t39 t40 (decide ((t40 : Int) < t39)) gs_0 gs_1 in's xs_0 xs_1 xs_2 xs_3))) (h45_54_eq C w n i t22 t23 t24 t39 t40 gs_0 gs_1 in's xs_0 xs_1 xs_2 xs_3 K)) ((by kernel_rfl)))
noncomputable def s_semigroupref31_Holds_56L_step (C : CallF) (w : List UInt8) (n i t39 xs_0 xs_1 xs_2 xs_3 : Int) : (Int × (List V)) → Option ((Int × (List V)) ⊕ ((Int × Bool × (List V)))) := fun (t40, in's) =>
 bif decide ((t40 : Int) < t39) then
  bif (decide (0 ≤ i)) && (decide (i < (in's.length : Int))) then
   (in's[(i : Int).toNat]?).bind fun x12 =>
    bif (decide (0 ≤ (IntKind.wrap .i64 (n + 1)))) && ((decide ((IntKind.wrap .i64 (n + 1)) ≤ (IntKind.wrap .i64 (n + 1)))) && (Nat.ble (((IntKind.wrap .i64 (n + 1) : Int).toNat) * 1) maxBytes)) then
     (rowV Try.prog T_l_l_bool in's [((i : Int).toNat, 0)]).bind fun x13 =>
      bif (decide (0 ≤ t40)) && (decide (t40 < (x13.toList.length : Int))) then
       (rowV Try.prog T_l_l_bool in's [((i : Int).toNat, 0)]).bind fun x14 =>
        (x14.toList[(t40 : Int).toNat]?).bind fun x15 =>
         s_semigroupref31_Holds_49L C w n i t40 t40 (setRow Try.prog (x14.toList.set ((t40 : Int).toNat) (.list T_bool (List.replicate ((IntKind.wrap .i64 (n + 1) : Int).toNat) (V.bool false)))) T_l_l_bool in's [((i : Int).toNat, 0)]) xs_0 xs_1 xs_2 xs_3
          (fun (b_145 : Int) (t_146 : Bool) (in's_147 : List V) =>
           some (.inl (IntKind.wrap .i64 (t40 + 1), in's_147)))
      else none
    else none
  else none
 else
  some (.inr (t40, decide ((t40 : Int) < t39), in's))
noncomputable def s_semigroupref31_Holds_56L (C : CallF) (w : List UInt8) (n i t39 t40 : Int) (in's : List V) (xs_0 xs_1 xs_2 xs_3 : Int) {β : Type} (k0 : Int → Bool → (List V) → Option β) : Option β :=
 (Loop (s_semigroupref31_Holds_56L_step C w n i t39 xs_0 xs_1 xs_2 xs_3) (t40, in's)).bind fun (t400, t410, in's0) => k0 t400 t410 in's0
noncomputable def s_semigroupref31_Holds_56L_dec : Out → St → Option ((Int × (List V)) ⊕ ((Int × Bool × (List V)))) := fun o st => match o with
 | .norm => some (.inl (V.toInt (st.sl 40), arrOf (st.hp 1)))
 | .exit q => bif Nat.beq q 2 then some (.inr (V.toInt (st.sl 40), V.toBool (st.sl 41), arrOf (st.hp 1))) else none
 | .ret => none
noncomputable def s_semigroupref31_Holds_56L_hd (w : List UInt8) (n i : Int) (t22 : List V) (t23 t24 t39 : Int) (gs_0 : List V) (gs_1 xs_0 xs_1 xs_2 xs_3 : Int) : (Int × (List V)) → St := fun (t40, in's) => z45_3 w n i t22 t23 t24 t39 t40 gs_0 gs_1 in's xs_0 xs_1 xs_2 xs_3
noncomputable def s_semigroupref31_Holds_56L_enc (w : List UInt8) (n i : Int) (t22 : List V) (t23 t24 t39 : Int) (gs_0 : List V) (gs_1 xs_0 xs_1 xs_2 xs_3 : Int) : ((Int × Bool × (List V))) → Out × St := fun (t400, t410, in's0) => (.exit 2, z45_4 w n i t22 t23 t24 t39 t400 t410 gs_0 gs_1 in's0 xs_0 xs_1 xs_2 xs_3)
noncomputable abbrev q45_57 : List Code := codesAt Try.prog 45 [[1, 1, 1, 0, 1, 0, 0, 1, 1, 0, 0, 1, 1, 1, 0, 0]]
noncomputable abbrev q45_58 : List Code := codesAt Try.prog 45 [[1, 1, 1, 0, 1, 0, 0, 1, 1, 0, 0, 1, 1, 1, 0]]
theorem s_semigroupref31_Holds_56L_eq (C : CallF) (w : List UInt8) (n i : Int) (t22 : List V) (t23 t24 t39 t40 : Int) (gs_0 : List V) (gs_1 : Int) (in's : List V) (xs_0 xs_1 xs_2 xs_3 : Int) {β : Type} (K : Out → St → Option β) :
 execL Try.prog ann C 45 220 0 (q45_58) (z45_3 w n i t22 t23 t24 t39 t40 gs_0 gs_1 in's xs_0 xs_1 xs_2 xs_3) K =
  s_semigroupref31_Holds_56L C w n i t39 t40 in's xs_0 xs_1 xs_2 xs_3
   (fun (t400 : Int) (t410 : Bool) (in's0 : List V) => K (.exit 2) (z45_4 w n i t22 t23 t24 t39 t400 t410 gs_0 gs_1 in's0 xs_0 xs_1 xs_2 xs_3)) := by
 have hitems : flatC (codeAt [1, 1, 1, 0, 1, 0, 0, 1, 1, 0, 0, 1, 1, 1, 0, 0] (bodyOf Try.prog 45)) = q45_56 := by kernel_rfl
 have hloop : [codeAt [1, 1, 1, 0, 1, 0, 0, 1, 1, 0, 0, 1, 1, 1, 0] (bodyOf Try.prog 45)] = [Code.loop (codeAt [1, 1, 1, 0, 1, 0, 0, 1, 1, 0, 0, 1, 1, 1, 0, 0] (bodyOf Try.prog 45))] := by kernel_rfl
 have h := loopK_eq (P := Try.prog) (A := ann) (C := C) (f := 45) (n := 220) (m := 0) (c := codeAt [1, 1, 1, 0, 1, 0, 0, 1, 1, 0, 0, 1, 1, 1, 0, 0] (bodyOf Try.prog 45)) (s_semigroupref31_Holds_56L_hd w n i t22 t23 t24 t39 gs_0 gs_1 xs_0 xs_1 xs_2 xs_3) (s_semigroupref31_Holds_56L_enc w n i t22 t23 t24 t39 gs_0 gs_1 xs_0 xs_1 xs_2 xs_3) s_semigroupref31_Holds_56L_dec (s_semigroupref31_Holds_56L_step C w n i t39 xs_0 xs_1 xs_2 xs_3)
  (by rintro ⟨t40, in's⟩; exact Eq.trans (execK_items hitems) (Eq.trans (h45_55_eq C w n i t22 t23 t24 t39 t40 gs_0 gs_1 in's xs_0 xs_1 xs_2 xs_3 s_semigroupref31_Holds_56L_dec) (by kernel_rfl)))
  (by rintro ⟨t40, in's⟩; exact Eq.trans (execK_items hitems) (Eq.trans (h45_55_eq C w n i t22 t23 t24 t39 t40 gs_0 gs_1 in's xs_0 xs_1 xs_2 xs_3 (fun o st => some (o, st))) (Eq.trans (by kernel_rfl) (Eq.trans (h45_55_eq C w n i t22 t23 t24 t39 t40 gs_0 gs_1 in's xs_0 xs_1 xs_2 xs_3 (fun o st => (s_semigroupref31_Holds_56L_dec o st).map (outS (s_semigroupref31_Holds_56L_hd w n i t22 t23 t24 t39 gs_0 gs_1 xs_0 xs_1 xs_2 xs_3) (s_semigroupref31_Holds_56L_enc w n i t22 t23 t24 t39 gs_0 gs_1 xs_0 xs_1 xs_2 xs_3)))).symm (execK_items hitems).symm))))
  (by intro r; intro h; cases h) (t40, in's) K
 refine Eq.trans (congrArg (fun l => execL Try.prog ann C 45 220 0 l (z45_3 w n i t22 t23 t24 t39 t40 gs_0 gs_1 in's xs_0 xs_1 xs_2 xs_3) K) hloop) (Eq.trans h ?_)
 · refine congrArg _ (funext fun r => ?_)
   rfl
noncomputable def d45_57 (C : CallF) (w : List UInt8) (n i t39 t40 : Int) (in's : List V) (xs_0 xs_1 xs_2 xs_3 : Int) {β : Type} (k0 : (List V) → Option β) : Option β :=
 s_semigroupref31_Holds_56L C w n i t39 t40 in's xs_0 xs_1 xs_2 xs_3
  (fun (t_153 : Int) (t_154 : Bool) (in's_155 : List V) =>
   k0 in's_155)
noncomputable abbrev q45_59 : List Code := codesAt Try.prog 45 [[1, 1, 1, 0, 1, 0, 0, 1, 1, 0, 0, 1, 1, 1]]
theorem h45_57_eq (C : CallF) (w : List UInt8) (n i : Int) (t22 : List V) (t23 t24 t39 t40 : Int) (gs_0 : List V) (gs_1 : Int) (in's : List V) (xs_0 xs_1 xs_2 xs_3 : Int) {β : Type} (K : Out → St → Option β) :
 execL Try.prog ann C 45 220 0 (q45_59) (z45_3 w n i t22 t23 t24 t39 t40 gs_0 gs_1 in's xs_0 xs_1 xs_2 xs_3) K =
  d45_57 C w n i t39 t40 in's xs_0 xs_1 xs_2 xs_3
   (fun (in's0 : List V) => K .norm (z45_0 w n t22 t23 t24 gs_0 gs_1 in's0)) := Eq.trans (execL_block (P := Try.prog) (A := ann) (C := C) (f := 45) (n := 220) (m := 0) (id := 2) (c := codeAt [1, 1, 1, 0, 1, 0, 0, 1, 1, 0, 0, 1, 1, 1] (bodyOf Try.prog 45)) (d := codeAt [1, 1, 1, 0, 1, 0, 0, 1, 1, 0, 0, 1, 1, 1, 0] (bodyOf Try.prog 45)) (l := q45_58) (st := z45_3 w n i t22 t23 t24 t39 t40 gs_0 gs_1 in's xs_0 xs_1 xs_2 xs_3) (K := K) (by kernel_rfl) (by kernel_rfl)) (Eq.trans (s_semigroupref31_Holds_56L_eq C w n i t22 t23 t24 t39 t40 gs_0 gs_1 in's xs_0 xs_1 xs_2 xs_3 (blockK ann 45 0 2 K)) (by kernel_rfl))
noncomputable def d45_58 (C : CallF) (w : List UInt8) (n : Int) (t22 : List V) (t24 : Int) (in's : List V) {β : Type} (k0 : (List V) → Option β) : Option β :=
 d45_3 C n t22 t24 in's
  (fun (t_159 : Int) (in's_160 : List V) (xs_161 : Int) (xs_162 : Int) (xs_163 : Int) (xs_164 : Int) =>
   d45_57 C w n t24 t_159 0 in's_160 xs_161 xs_162 xs_163 xs_164
    (fun (in's_165 : List V) =>
     k0 in's_165))
noncomputable abbrev q45_60 : List Code := codesAt Try.prog 45 [[1, 1, 1, 0, 1, 0, 0, 1, 1, 0, 0, 0], [1, 1, 1, 0, 1, 0, 0, 1, 1, 0, 0, 1, 0], [1, 1, 1, 0, 1, 0, 0, 1, 1, 0, 0, 1, 1, 0], [1, 1, 1, 0, 1, 0, 0, 1, 1, 0, 0, 1, 1, 1]]
theorem h45_58_eq (C : CallF) (w : List UInt8) (n : Int) (t22 : List V) (t23 t24 : Int) (gs_0 : List V) (gs_1 : Int) (in's : List V) {β : Type} (K : Out → St → Option β) :
 execL Try.prog ann C 45 220 0 (q45_60) (z45_0 w n t22 t23 t24 gs_0 gs_1 in's) K =
  d45_58 C w n t22 t24 in's
   (fun (in's0 : List V) => K .norm (z45_0 w n t22 t23 t24 gs_0 gs_1 in's0)) := by
 refine Eq.trans (execL_app (P := Try.prog) (A := ann) (C := C) (f := 45) (n := 220) (m := 0) (q45_2) (q45_59) (st := z45_0 w n t22 t23 t24 gs_0 gs_1 in's) (K := K)) (Eq.trans (h45_3_eq C w n t22 t23 t24 gs_0 gs_1 in's (seqK Try.prog ann C 45 220 0 (q45_59) K)) ?_)
 · exact Eq.trans (by kernel_rfl) (Eq.trans (congrArg (fun HOLE : Int → (List V) → Int → Int → Int → Int → Option β => d45_3 C n t22 t24 in's HOLE) (funext fun (t390 : Int) => funext fun (in's0 : List V) => funext fun (xs_00 : Int) => funext fun (xs_10 : Int) => funext fun (xs_20 : Int) => funext fun (xs_30 : Int) => h45_57_eq C w n t24 t22 t23 t24 t390 0 gs_0 gs_1 in's0 xs_00 xs_10 xs_20 xs_30 K)) ((by kernel_rfl)))
noncomputable def d45_59 (C : CallF) (w : List UInt8) (n : Int) (t22 : List V) (t24 : Int) (in's : List V) {β : Type} (k0 : (List V) → Option β) : Option β :=
 d45_58 C w n t22 t24 in's
  (fun (in's_166 : List V) =>
   k0 in's_166)
noncomputable abbrev q45_61 : List Code := codesAt Try.prog 45 [[1, 1, 1, 0, 1, 0, 0, 1, 1, 0]]
theorem h45_59_eq (C : CallF) (w : List UInt8) (n : Int) (t22 : List V) (t23 t24 : Int) (gs_0 : List V) (gs_1 : Int) (in's : List V) {β : Type} (K : Out → St → Option β) :
 execL Try.prog ann C 45 220 0 (q45_61) (z45_0 w n t22 t23 t24 gs_0 gs_1 in's) K =
  d45_59 C w n t22 t24 in's
   (fun (in's0 : List V) => K .norm (z45_0 w n t22 t23 t24 gs_0 gs_1 in's0)) := Eq.trans (execL_block (P := Try.prog) (A := ann) (C := C) (f := 45) (n := 220) (m := 0) (id := 1) (c := codeAt [1, 1, 1, 0, 1, 0, 0, 1, 1, 0] (bodyOf Try.prog 45)) (d := codeAt [1, 1, 1, 0, 1, 0, 0, 1, 1, 0, 0] (bodyOf Try.prog 45)) (l := q45_60) (st := z45_0 w n t22 t23 t24 gs_0 gs_1 in's) (K := K) (by kernel_rfl) (by kernel_rfl)) (Eq.trans (h45_58_eq C w n t22 t23 t24 gs_0 gs_1 in's (blockK ann 45 0 1 K)) (by kernel_rfl))
noncomputable def d45_60 (C : CallF)  {β : Type} (k0 : Option β) : Option β :=
 k0
noncomputable abbrev q45_62 : List Code := codesAt Try.prog 45 [[1, 1, 1, 0, 1, 0, 0, 1, 1, 1]]
theorem h45_60_eq (C : CallF) (w : List UInt8) (n : Int) (t22 : List V) (t23 t24 : Int) (gs_0 : List V) (gs_1 : Int) (in's : List V) {β : Type} (K : Out → St → Option β) :
 execL Try.prog ann C 45 220 0 (q45_62) (z45_0 w n t22 t23 t24 gs_0 gs_1 in's) K =
  d45_60 C
   (K .norm (z45_0 w n t22 t23 (IntKind.wrap .i64 (t24 + 1)) gs_0 gs_1 in's)) := by kernel_rfl
noncomputable def d45_61 (C : CallF) (w : List UInt8) (n : Int) (t22 : List V) (t24 : Int) (in's : List V) {β : Type} (k0 : (List V) → Option β) : Option β :=
 d45_59 C w n t22 t24 in's
  (fun (in's_167 : List V) =>
   d45_60 C
    (
     k0 in's_167))
noncomputable abbrev q45_63 : List Code := codesAt Try.prog 45 [[1, 1, 1, 0, 1, 0, 0, 1, 1, 0], [1, 1, 1, 0, 1, 0, 0, 1, 1, 1]]
theorem h45_61_eq (C : CallF) (w : List UInt8) (n : Int) (t22 : List V) (t23 t24 : Int) (gs_0 : List V) (gs_1 : Int) (in's : List V) {β : Type} (K : Out → St → Option β) :
 execL Try.prog ann C 45 220 0 (q45_63) (z45_0 w n t22 t23 t24 gs_0 gs_1 in's) K =
  d45_61 C w n t22 t24 in's
   (fun (in's0 : List V) => K .norm (z45_0 w n t22 t23 (IntKind.wrap .i64 (t24 + 1)) gs_0 gs_1 in's0)) := by
 refine Eq.trans (execL_app (P := Try.prog) (A := ann) (C := C) (f := 45) (n := 220) (m := 0) (q45_61) (q45_62) (st := z45_0 w n t22 t23 t24 gs_0 gs_1 in's) (K := K)) (Eq.trans (h45_59_eq C w n t22 t23 t24 gs_0 gs_1 in's (seqK Try.prog ann C 45 220 0 (q45_62) K)) ?_)
 · exact Eq.trans (by kernel_rfl) (Eq.trans (congrArg (fun HOLE : (List V) → Option β => d45_59 C w n t22 t24 in's HOLE) (funext fun (in's0 : List V) => h45_60_eq C w n t22 t23 t24 gs_0 gs_1 in's0 K)) ((by kernel_rfl)))
noncomputable def d45_62 (C : CallF) (w : List UInt8) (n : Int) (t22 : List V) (t23 t24 : Int) (in's : List V) {β : Type} (k0 : (List V) → Option β) (k1 : Option β) : Option β :=
 d45_2 C t23 t24
  (
   d45_61 C w n t22 t24 in's
    (fun (in's_168 : List V) =>
     k0 in's_168))
  (
   k1)
noncomputable abbrev q45_64 : List Code := codesAt Try.prog 45 [[1, 1, 1, 0, 1, 0, 0, 0], [1, 1, 1, 0, 1, 0, 0, 1, 0], [1, 1, 1, 0, 1, 0, 0, 1, 1, 0], [1, 1, 1, 0, 1, 0, 0, 1, 1, 1]]
theorem h45_62_eq (C : CallF) (w : List UInt8) (n : Int) (t22 : List V) (t23 t24 : Int) (gs_0 : List V) (gs_1 : Int) (in's : List V) {β : Type} (K : Out → St → Option β) :
 execL Try.prog ann C 45 220 0 (q45_64) (z45_0 w n t22 t23 t24 gs_0 gs_1 in's) K =
  d45_62 C w n t22 t23 t24 in's
   (fun (in's0 : List V) => K .norm (z45_0 w n t22 t23 (IntKind.wrap .i64 (t24 + 1)) gs_0 gs_1 in's0))
   (K (.exit 0) (z45_2 w n t22 t23 t24 (decide ((t24 : Int) < t23)) gs_0 gs_1 in's)) := by
 refine Eq.trans (execL_app (P := Try.prog) (A := ann) (C := C) (f := 45) (n := 220) (m := 0) (q45_1) (q45_63) (st := z45_0 w n t22 t23 t24 gs_0 gs_1 in's) (K := K)) (Eq.trans (h45_2_eq C w n t22 t23 t24 gs_0 gs_1 in's (seqK Try.prog ann C 45 220 0 (q45_63) K)) ?_)
 · exact Eq.trans (by kernel_rfl) (Eq.trans (congrArg (fun HOLE : Option β => d45_2 C t23 t24 HOLE (K (.exit 0) (z45_2 w n t22 t23 t24 (decide ((t24 : Int) < t23)) gs_0 gs_1 in's))) (h45_61_eq C w n t22 t23 t24 gs_0 gs_1 in's K)) ((by kernel_rfl)))
noncomputable def s_semigroupref31_Holds_63L_step (C : CallF) (w : List UInt8) (n : Int) (t22 : List V) (t23 : Int) : (Int × (List V)) → Option ((Int × (List V)) ⊕ ((Int × Bool × (List V)))) := fun (t24, in's) =>
 bif decide ((t24 : Int) < t23) then
  (idx t22 t24).bind fun x4 =>
   bif (decide (0 ≤ (IntKind.wrap .i64 (n + 1)))) && ((decide ((IntKind.wrap .i64 (n + 1)) ≤ (IntKind.wrap .i64 (n + 1)))) && (Nat.ble (((IntKind.wrap .i64 (n + 1) : Int).toNat) * 24) maxBytes)) then
    bif (decide (0 ≤ t24)) && (decide (t24 < (in's.length : Int))) then
     (in's[(t24 : Int).toNat]?).bind fun x5 =>
      bif (decide (0 ≤ t24)) && (decide (t24 < ((in's.set ((t24 : Int).toNat) (.list T_l_bool (List.replicate ((IntKind.wrap .i64 (n + 1) : Int).toNat) (V.list T_bool ([] : List V))))).length : Int))) then
       ((in's.set ((t24 : Int).toNat) (.list T_l_bool (List.replicate ((IntKind.wrap .i64 (n + 1) : Int).toNat) (V.list T_bool ([] : List V)))))[(t24 : Int).toNat]?).bind fun x6 =>
        (rowV Try.prog T_l_l_bool (in's.set ((t24 : Int).toNat) (.list T_l_bool (List.replicate ((IntKind.wrap .i64 (n + 1) : Int).toNat) (V.list T_bool ([] : List V))))) [((t24 : Int).toNat, 0)]).bind fun x7 =>
         s_semigroupref31_Holds_56L C w n t24 (x7.toList.length : Int) 0 (in's.set ((t24 : Int).toNat) (.list T_l_bool (List.replicate ((IntKind.wrap .i64 (n + 1) : Int).toNat) (V.list T_bool ([] : List V))))) ((x4.cell 0).toInt) ((x4.cell 1).toInt) ((x4.cell 2).toInt) ((x4.cell 3).toInt)
          (fun (t_156 : Int) (t_157 : Bool) (in's_158 : List V) =>
           some (.inl (IntKind.wrap .i64 (t24 + 1), in's_158)))
      else none
    else none
   else none
 else
  some (.inr (t24, decide ((t24 : Int) < t23), in's))
noncomputable def s_semigroupref31_Holds_63L (C : CallF) (w : List UInt8) (n : Int) (t22 : List V) (t23 t24 : Int) (in's : List V) {β : Type} (k0 : Int → Bool → (List V) → Option β) : Option β :=
 (Loop (s_semigroupref31_Holds_63L_step C w n t22 t23) (t24, in's)).bind fun (t240, t250, in's0) => k0 t240 t250 in's0
noncomputable def s_semigroupref31_Holds_63L_dec : Out → St → Option ((Int × (List V)) ⊕ ((Int × Bool × (List V)))) := fun o st => match o with
 | .norm => some (.inl (V.toInt (st.sl 24), arrOf (st.hp 1)))
 | .exit q => bif Nat.beq q 0 then some (.inr (V.toInt (st.sl 24), V.toBool (st.sl 25), arrOf (st.hp 1))) else none
 | .ret => none
noncomputable def s_semigroupref31_Holds_63L_hd (w : List UInt8) (n : Int) (t22 : List V) (t23 : Int) (gs_0 : List V) (gs_1 : Int) : (Int × (List V)) → St := fun (t24, in's) => z45_0 w n t22 t23 t24 gs_0 gs_1 in's
noncomputable def s_semigroupref31_Holds_63L_enc (w : List UInt8) (n : Int) (t22 : List V) (t23 : Int) (gs_0 : List V) (gs_1 : Int) : ((Int × Bool × (List V))) → Out × St := fun (t240, t250, in's0) => (.exit 0, z45_2 w n t22 t23 t240 t250 gs_0 gs_1 in's0)
theorem s_semigroupref31_Holds_63L_eq (C : CallF) (w : List UInt8) (n : Int) (t22 : List V) (t23 t24 : Int) (gs_0 : List V) (gs_1 : Int) (in's : List V) {β : Type} (K : Out → St → Option β) :
 execL Try.prog ann C 45 220 0 (codesAt Try.prog 45 [[1, 1, 1, 0, 1, 0]]) (z45_0 w n t22 t23 t24 gs_0 gs_1 in's) K =
  s_semigroupref31_Holds_63L C w n t22 t23 t24 in's
   (fun (t240 : Int) (t250 : Bool) (in's0 : List V) => K (.exit 0) (z45_2 w n t22 t23 t240 t250 gs_0 gs_1 in's0)) := by
 have hitems : flatC (codeAt [1, 1, 1, 0, 1, 0, 0] (bodyOf Try.prog 45)) = q45_64 := by kernel_rfl
 have hloop : [codeAt [1, 1, 1, 0, 1, 0] (bodyOf Try.prog 45)] = [Code.loop (codeAt [1, 1, 1, 0, 1, 0, 0] (bodyOf Try.prog 45))] := by kernel_rfl
 have h := loopK_eq (P := Try.prog) (A := ann) (C := C) (f := 45) (n := 220) (m := 0) (c := codeAt [1, 1, 1, 0, 1, 0, 0] (bodyOf Try.prog 45)) (s_semigroupref31_Holds_63L_hd w n t22 t23 gs_0 gs_1) (s_semigroupref31_Holds_63L_enc w n t22 t23 gs_0 gs_1) s_semigroupref31_Holds_63L_dec (s_semigroupref31_Holds_63L_step C w n t22 t23)
  (by rintro ⟨t24, in's⟩; exact Eq.trans (execK_items hitems) (Eq.trans (h45_62_eq C w n t22 t23 t24 gs_0 gs_1 in's s_semigroupref31_Holds_63L_dec) (by kernel_rfl)))
  (by rintro ⟨t24, in's⟩; exact Eq.trans (execK_items hitems) (Eq.trans (h45_62_eq C w n t22 t23 t24 gs_0 gs_1 in's (fun o st => some (o, st))) (Eq.trans (by kernel_rfl) (Eq.trans (h45_62_eq C w n t22 t23 t24 gs_0 gs_1 in's (fun o st => (s_semigroupref31_Holds_63L_dec o st).map (outS (s_semigroupref31_Holds_63L_hd w n t22 t23 gs_0 gs_1) (s_semigroupref31_Holds_63L_enc w n t22 t23 gs_0 gs_1)))).symm (execK_items hitems).symm))))
  (by intro r; intro h; cases h) (t24, in's) K
 refine Eq.trans (congrArg (fun l => execL Try.prog ann C 45 220 0 l (z45_0 w n t22 t23 t24 gs_0 gs_1 in's) K) hloop) (Eq.trans h ?_)
 · refine congrArg _ (funext fun r => ?_)
   rfl
noncomputable def d45_64 (C : CallF) (w : List UInt8) (n : Int) (t22 : List V) (t23 t24 : Int) (in's : List V) {β : Type} (k0 : (List V) → Option β) : Option β :=
 s_semigroupref31_Holds_63L C w n t22 t23 t24 in's
  (fun (t_169 : Int) (t_170 : Bool) (in's_171 : List V) =>
   k0 in's_171)
noncomputable abbrev z45_17 (c0 : Int) (c1 : List V) (c2 : Int) (c3 : List V) : St :=
 mk [(2, .ptr 0 0 0), (5, .int .i64 c0), (6, .whole T_l_l_bool 1)] [.var [.list T_api_SfNode c1, .int .i64 c2], .nest T_l_l_bool c3 [0, 0, 0]]
theorem h45_64_eq (C : CallF) (w : List UInt8) (n : Int) (t22 : List V) (t23 t24 : Int) (gs_0 : List V) (gs_1 : Int) (in's : List V) {β : Type} (K : Out → St → Option β) :
 execL Try.prog ann C 45 220 0 (codesAt Try.prog 45 [[1, 1, 1, 0, 1]]) (z45_0 w n t22 t23 t24 gs_0 gs_1 in's) K =
  d45_64 C w n t22 t23 t24 in's
   (fun (in's0 : List V) => K .norm (z45_17 n gs_0 gs_1 in's0)) := Eq.trans (execL_block (P := Try.prog) (A := ann) (C := C) (f := 45) (n := 220) (m := 0) (id := 0) (c := codeAt [1, 1, 1, 0, 1] (bodyOf Try.prog 45)) (d := codeAt [1, 1, 1, 0, 1, 0] (bodyOf Try.prog 45)) (l := codesAt Try.prog 45 [[1, 1, 1, 0, 1, 0]]) (st := z45_0 w n t22 t23 t24 gs_0 gs_1 in's) (K := K) (by kernel_rfl) (by kernel_rfl)) (Eq.trans (s_semigroupref31_Holds_63L_eq C w n t22 t23 t24 gs_0 gs_1 in's (blockK ann 45 0 0 K)) (by kernel_rfl))
noncomputable def d45_65 (C : CallF) (gs_0 : List V) {β : Type} (k0 : Option β) : Option β :=
 bif (decide (0 ≤ (gs_0.length : Int))) && ((decide ((gs_0.length : Int) ≤ (gs_0.length : Int))) && (Nat.ble ((((gs_0.length : Int) : Int).toNat) * 1) maxBytes)) then
  k0
 else none
noncomputable abbrev z45_18 (c0 c1 c2 : Int) (c3 c4 : List V) : St :=
 mk [(5, .int .i64 c0), (6, .whole T_l_l_bool 0), (13, .whole T_bool 1), (202, .int .i64 c1), (203, .int .i64 c2)] [.nest T_l_l_bool c3 [0, 0, 0], .arr T_bool c4 false]
noncomputable abbrev q45_65 : List Code := codesAt Try.prog 45 [[1, 1, 1, 1, 0], [1, 1, 1, 1, 1, 0, 0]]
theorem h45_65_eq (C : CallF) (n : Int) (gs_0 : List V) (gs_1 : Int) (in's : List V) {β : Type} (K : Out → St → Option β) :
 execL Try.prog ann C 45 220 0 (q45_65) (z45_17 n gs_0 gs_1 in's) K =
  d45_65 C gs_0
   (K .norm (z45_18 n ((List.replicate (((gs_0.length : Int) : Int).toNat) (V.bool false)).length : Int) 0 in's (List.replicate (((gs_0.length : Int) : Int).toNat) (V.bool false)))) := by kernel_rfl
noncomputable def d45_66 (C : CallF) (n t202 t203 : Int) (in's outs : List V) {β : Type} (k0 : (List V) → Option β) (k1 : Option β) : Option β :=
 bif decide ((t203 : Int) < t202) then
  bif (decide (0 ≤ t203)) && (decide (t203 < (in's.length : Int))) then
   (in's[(t203 : Int).toNat]?).bind fun x183 =>
    (rowV Try.prog T_l_l_bool in's [((t203 : Int).toNat, 0)]).bind fun x184 =>
     bif decide (0 < (x184.toList.length : Int)) then
      (rowV Try.prog T_l_l_bool in's [((t203 : Int).toNat, 0)]).bind fun x185 =>
       (x185.toList[0]?).bind fun x186 =>
        (rowV Try.prog T_l_l_bool in's [((t203 : Int).toNat, 0), (0, 0)]).bind fun x187 =>
         bif (decide (0 ≤ n)) && (decide (n < (x187.toList.length : Int))) then
          (rowV Try.prog T_l_l_bool in's [((t203 : Int).toNat, 0), (0, 0)]).bind fun x188 =>
           (x188.toList[(n : Int).toNat]?).bind fun x189 =>
            bif (decide (0 ≤ t203)) && (decide (t203 < (outs.length : Int))) then
             (outs[(t203 : Int).toNat]?).bind fun x190 =>
              k0 (outs.set ((t203 : Int).toNat) (.bool x189.toBool))
            else none
         else none
     else none
  else none
 else
  k1
noncomputable abbrev z45_19 (c0 c1 c2 : Int) (c3 : Bool) (c4 c5 : List V) : St :=
 mk [(5, .int .i64 c0), (6, .whole T_l_l_bool 0), (13, .whole T_bool 1), (202, .int .i64 c1), (203, .int .i64 c2), (204, .bool c3)] [.nest T_l_l_bool c4 [0, 0, 0], .arr T_bool c5 false]
noncomputable abbrev q45_66 : List Code := codesAt Try.prog 45 [[1, 1, 1, 1, 1, 0, 1, 0, 0, 0], [1, 1, 1, 1, 1, 0, 1, 0, 0, 1, 0], [1, 1, 1, 1, 1, 0, 1, 0, 0, 1, 1, 0], [1, 1, 1, 1, 1, 0, 1, 0, 0, 1, 1, 1]]
theorem h45_66_eq (C : CallF) (n t202 t203 : Int) (in's outs : List V) {β : Type} (K : Out → St → Option β) :
 execL Try.prog ann C 45 220 0 (q45_66) (z45_18 n t202 t203 in's outs) K =
  d45_66 C n t202 t203 in's outs
   (fun (outs0 : List V) => K .norm (z45_18 n t202 (IntKind.wrap .i64 (t203 + 1)) in's outs0))
   (K (.exit 9) (z45_19 n t202 t203 (decide ((t203 : Int) < t202)) in's outs)) := by kernel_rfl
noncomputable def s_semigroupref31_Holds_67L_step (C : CallF) (n t202 : Int) (in's : List V) : (Int × (List V)) → Option ((Int × (List V)) ⊕ ((Int × Bool × (List V)))) := fun (t203, outs) =>
 bif decide ((t203 : Int) < t202) then
  bif (decide (0 ≤ t203)) && (decide (t203 < (in's.length : Int))) then
   (in's[(t203 : Int).toNat]?).bind fun x183 =>
    (rowV Try.prog T_l_l_bool in's [((t203 : Int).toNat, 0)]).bind fun x184 =>
     bif decide (0 < (x184.toList.length : Int)) then
      (rowV Try.prog T_l_l_bool in's [((t203 : Int).toNat, 0)]).bind fun x185 =>
       (x185.toList[0]?).bind fun x186 =>
        (rowV Try.prog T_l_l_bool in's [((t203 : Int).toNat, 0), (0, 0)]).bind fun x187 =>
         bif (decide (0 ≤ n)) && (decide (n < (x187.toList.length : Int))) then
          (rowV Try.prog T_l_l_bool in's [((t203 : Int).toNat, 0), (0, 0)]).bind fun x188 =>
           (x188.toList[(n : Int).toNat]?).bind fun x189 =>
            bif (decide (0 ≤ t203)) && (decide (t203 < (outs.length : Int))) then
             (outs[(t203 : Int).toNat]?).bind fun x190 =>
              some (.inl (IntKind.wrap .i64 (t203 + 1), (outs.set ((t203 : Int).toNat) (.bool x189.toBool))))
            else none
         else none
     else none
  else none
 else
  some (.inr (t203, decide ((t203 : Int) < t202), outs))
noncomputable def s_semigroupref31_Holds_67L (C : CallF) (n t202 t203 : Int) (in's outs : List V) {β : Type} (k0 : Int → Bool → (List V) → Option β) : Option β :=
 (Loop (s_semigroupref31_Holds_67L_step C n t202 in's) (t203, outs)).bind fun (t2030, t2040, outs0) => k0 t2030 t2040 outs0
noncomputable def s_semigroupref31_Holds_67L_dec : Out → St → Option ((Int × (List V)) ⊕ ((Int × Bool × (List V)))) := fun o st => match o with
 | .norm => some (.inl (V.toInt (st.sl 203), arrOf (st.hp 1)))
 | .exit q => bif Nat.beq q 9 then some (.inr (V.toInt (st.sl 203), V.toBool (st.sl 204), arrOf (st.hp 1))) else none
 | .ret => none
noncomputable def s_semigroupref31_Holds_67L_hd (n t202 : Int) (in's : List V) : (Int × (List V)) → St := fun (t203, outs) => z45_18 n t202 t203 in's outs
noncomputable def s_semigroupref31_Holds_67L_enc (n t202 : Int) (in's : List V) : ((Int × Bool × (List V))) → Out × St := fun (t2030, t2040, outs0) => (.exit 9, z45_19 n t202 t2030 t2040 in's outs0)
noncomputable abbrev q45_67 : List Code := codesAt Try.prog 45 [[1, 1, 1, 1, 1, 0, 1, 0, 0]]
noncomputable abbrev q45_68 : List Code := codesAt Try.prog 45 [[1, 1, 1, 1, 1, 0, 1, 0]]
theorem s_semigroupref31_Holds_67L_eq (C : CallF) (n t202 t203 : Int) (in's outs : List V) {β : Type} (K : Out → St → Option β) :
 execL Try.prog ann C 45 220 0 (q45_68) (z45_18 n t202 t203 in's outs) K =
  s_semigroupref31_Holds_67L C n t202 t203 in's outs
   (fun (t2030 : Int) (t2040 : Bool) (outs0 : List V) => K (.exit 9) (z45_19 n t202 t2030 t2040 in's outs0)) := by
 have hitems : flatC (codeAt [1, 1, 1, 1, 1, 0, 1, 0, 0] (bodyOf Try.prog 45)) = q45_66 := by kernel_rfl
 have hloop : [codeAt [1, 1, 1, 1, 1, 0, 1, 0] (bodyOf Try.prog 45)] = [Code.loop (codeAt [1, 1, 1, 1, 1, 0, 1, 0, 0] (bodyOf Try.prog 45))] := by kernel_rfl
 have h := loopK_eq (P := Try.prog) (A := ann) (C := C) (f := 45) (n := 220) (m := 0) (c := codeAt [1, 1, 1, 1, 1, 0, 1, 0, 0] (bodyOf Try.prog 45)) (s_semigroupref31_Holds_67L_hd n t202 in's) (s_semigroupref31_Holds_67L_enc n t202 in's) s_semigroupref31_Holds_67L_dec (s_semigroupref31_Holds_67L_step C n t202 in's)
  (by rintro ⟨t203, outs⟩; exact Eq.trans (execK_items hitems) (Eq.trans (h45_66_eq C n t202 t203 in's outs s_semigroupref31_Holds_67L_dec) (by kernel_rfl)))
  (by rintro ⟨t203, outs⟩; exact Eq.trans (execK_items hitems) (Eq.trans (h45_66_eq C n t202 t203 in's outs (fun o st => some (o, st))) (Eq.trans (by kernel_rfl) (Eq.trans (h45_66_eq C n t202 t203 in's outs (fun o st => (s_semigroupref31_Holds_67L_dec o st).map (outS (s_semigroupref31_Holds_67L_hd n t202 in's) (s_semigroupref31_Holds_67L_enc n t202 in's)))).symm (execK_items hitems).symm))))
  (by intro r; intro h; cases h) (t203, outs) K
 refine Eq.trans (congrArg (fun l => execL Try.prog ann C 45 220 0 l (z45_18 n t202 t203 in's outs) K) hloop) (Eq.trans h ?_)
 · refine congrArg _ (funext fun r => ?_)
   rfl
noncomputable def d45_68 (C : CallF) (n t202 t203 : Int) (in's outs : List V) {β : Type} (k0 : (List V) → Option β) : Option β :=
 s_semigroupref31_Holds_67L C n t202 t203 in's outs
  (fun (t_191 : Int) (t_192 : Bool) (outs_193 : List V) =>
   k0 outs_193)
noncomputable abbrev z45_20 (c0 : List V) : St :=
 mk [(13, .whole T_bool 0)] [.arr T_bool c0 false]
theorem h45_68_eq (C : CallF) (n t202 t203 : Int) (in's outs : List V) {β : Type} (K : Out → St → Option β) :
 execL Try.prog ann C 45 220 0 (codesAt Try.prog 45 [[1, 1, 1, 1, 1, 0, 1]]) (z45_18 n t202 t203 in's outs) K =
  d45_68 C n t202 t203 in's outs
   (fun (outs0 : List V) => K .norm (z45_20 outs0)) := Eq.trans (execL_block (P := Try.prog) (A := ann) (C := C) (f := 45) (n := 220) (m := 0) (id := 9) (c := codeAt [1, 1, 1, 1, 1, 0, 1] (bodyOf Try.prog 45)) (d := codeAt [1, 1, 1, 1, 1, 0, 1, 0] (bodyOf Try.prog 45)) (l := q45_68) (st := z45_18 n t202 t203 in's outs) (K := K) (by kernel_rfl) (by kernel_rfl)) (Eq.trans (s_semigroupref31_Holds_67L_eq C n t202 t203 in's outs (blockK ann 45 0 9 K)) (by kernel_rfl))
noncomputable def d45_69 (C : CallF)  {β : Type} (k0 : Option β) : Option β :=
 k0
noncomputable abbrev z45_21 (c0 : List V) : St :=
 mk [(4, .whole T_bool 0)] [.arr T_bool c0 false]
noncomputable abbrev q45_69 : List Code := codesAt Try.prog 45 [[1, 1, 1, 1, 1, 1, 0], [1, 1, 1, 1, 1, 1, 1]]
theorem h45_69_eq (C : CallF) (outs : List V) {β : Type} (K : Out → St → Option β) :
 execL Try.prog ann C 45 220 0 (q45_69) (z45_20 outs) K =
  d45_69 C
   (K .ret (z45_21 outs)) := by kernel_rfl
noncomputable def d45_70 (C : CallF) (n t202 t203 : Int) (in's outs : List V) {β : Type} (k0 : (List V) → Option β) : Option β :=
 d45_68 C n t202 t203 in's outs
  (fun (outs_197 : List V) =>
   d45_69 C
    (
     k0 outs_197))
noncomputable abbrev q45_70 : List Code := codesAt Try.prog 45 [[1, 1, 1, 1, 1, 0, 1], [1, 1, 1, 1, 1, 1, 0], [1, 1, 1, 1, 1, 1, 1]]
theorem h45_70_eq (C : CallF) (n t202 t203 : Int) (in's outs : List V) {β : Type} (K : Out → St → Option β) :
 execL Try.prog ann C 45 220 0 (q45_70) (z45_18 n t202 t203 in's outs) K =
  d45_70 C n t202 t203 in's outs
   (fun (t4s0 : List V) => K .ret (z45_21 t4s0)) := by
 refine Eq.trans (execL_app (P := Try.prog) (A := ann) (C := C) (f := 45) (n := 220) (m := 0) (codesAt Try.prog 45 [[1, 1, 1, 1, 1, 0, 1]]) (q45_69) (st := z45_18 n t202 t203 in's outs) (K := K)) (Eq.trans (h45_68_eq C n t202 t203 in's outs (seqK Try.prog ann C 45 220 0 (q45_69) K)) ?_)
 · exact Eq.trans (by kernel_rfl) (Eq.trans (congrArg (fun HOLE : (List V) → Option β => d45_68 C n t202 t203 in's outs HOLE) (funext fun (outs0 : List V) => h45_69_eq C outs0 K)) ((by kernel_rfl)))
noncomputable def d45_71 (C : CallF) (n : Int) (gs_0 in's : List V) {β : Type} (k0 : (List V) → Option β) : Option β :=
 d45_65 C gs_0
  (
   d45_70 C n ((List.replicate (((gs_0.length : Int) : Int).toNat) (V.bool false)).length : Int) 0 in's (List.replicate (((gs_0.length : Int) : Int).toNat) (V.bool false))
    (fun (t4s_198 : List V) =>
     k0 t4s_198))
noncomputable abbrev q45_71 : List Code := codesAt Try.prog 45 [[1, 1, 1, 1, 0], [1, 1, 1, 1, 1, 0, 0], [1, 1, 1, 1, 1, 0, 1], [1, 1, 1, 1, 1, 1, 0], [1, 1, 1, 1, 1, 1, 1]]
theorem h45_71_eq (C : CallF) (n : Int) (gs_0 : List V) (gs_1 : Int) (in's : List V) {β : Type} (K : Out → St → Option β) :
 execL Try.prog ann C 45 220 0 (q45_71) (z45_17 n gs_0 gs_1 in's) K =
  d45_71 C n gs_0 in's
   (fun (t4s0 : List V) => K .ret (z45_21 t4s0)) := by
 refine Eq.trans (execL_app (P := Try.prog) (A := ann) (C := C) (f := 45) (n := 220) (m := 0) (q45_65) (q45_70) (st := z45_17 n gs_0 gs_1 in's) (K := K)) (Eq.trans (h45_65_eq C n gs_0 gs_1 in's (seqK Try.prog ann C 45 220 0 (q45_70) K)) ?_)
 · exact Eq.trans (by kernel_rfl) (Eq.trans (congrArg (fun HOLE : Option β => d45_65 C gs_0 HOLE) (h45_70_eq C n ((List.replicate (((gs_0.length : Int) : Int).toNat) (V.bool false)).length : Int) 0 in's (List.replicate (((gs_0.length : Int) : Int).toNat) (V.bool false)) K)) ((by kernel_rfl)))
noncomputable def d45_72 (C : CallF) (w : List UInt8) (n : Int) (t22 : List V) (t23 t24 : Int) (gs_0 in's : List V) {β : Type} (k0 : (List V) → Option β) : Option β :=
 d45_64 C w n t22 t23 t24 in's
  (fun (in's_199 : List V) =>
   d45_71 C n gs_0 in's_199
    (fun (t4s_200 : List V) =>
     k0 t4s_200))
noncomputable abbrev q45_72 : List Code := codesAt Try.prog 45 [[1, 1, 1, 0, 1], [1, 1, 1, 1, 0], [1, 1, 1, 1, 1, 0, 0], [1, 1, 1, 1, 1, 0, 1], [1, 1, 1, 1, 1, 1, 0], [1, 1, 1, 1, 1, 1, 1]]
theorem h45_72_eq (C : CallF) (w : List UInt8) (n : Int) (t22 : List V) (t23 t24 : Int) (gs_0 : List V) (gs_1 : Int) (in's : List V) {β : Type} (K : Out → St → Option β) :
 execL Try.prog ann C 45 220 0 (q45_72) (z45_0 w n t22 t23 t24 gs_0 gs_1 in's) K =
  d45_72 C w n t22 t23 t24 gs_0 in's
   (fun (t4s0 : List V) => K .ret (z45_21 t4s0)) := by
 refine Eq.trans (execL_app (P := Try.prog) (A := ann) (C := C) (f := 45) (n := 220) (m := 0) (codesAt Try.prog 45 [[1, 1, 1, 0, 1]]) (q45_71) (st := z45_0 w n t22 t23 t24 gs_0 gs_1 in's) (K := K)) (Eq.trans (h45_64_eq C w n t22 t23 t24 gs_0 gs_1 in's (seqK Try.prog ann C 45 220 0 (q45_71) K)) ?_)
 · exact Eq.trans (by kernel_rfl) (Eq.trans (congrArg (fun HOLE : (List V) → Option β => d45_64 C w n t22 t23 t24 in's HOLE) (funext fun (in's0 : List V) => h45_71_eq C n gs_0 gs_1 in's0 K)) ((by kernel_rfl)))
noncomputable def d45_73 (C : CallF) (g_Nodes : List V) (w : List UInt8) {β : Type} (k0 : (List V) → Option β) : Option β :=
 d45_1 C g_Nodes
  (fun (in's_201 : List V) =>
   d45_72 C w (w.length : Int) g_Nodes (g_Nodes.length : Int) 0 g_Nodes in's_201
    (fun (t4s_202 : List V) =>
     k0 t4s_202))
noncomputable abbrev q45_73 : List Code := codesAt Try.prog 45 [[0], [1, 0], [1, 1, 0], [1, 1, 1, 0, 0], [1, 1, 1, 0, 1], [1, 1, 1, 1, 0], [1, 1, 1, 1, 1, 0, 0], [1, 1, 1, 1, 1, 0, 1], [1, 1, 1, 1, 1, 1, 0], [1, 1, 1, 1, 1, 1, 1]]
theorem h45_73_eq (C : CallF) (g_Nodes : List V) (g_Root : Int) (w : List UInt8) {β : Type} (K : Out → St → Option β) :
 execL Try.prog ann C 45 220 0 (q45_73) (z45_1 g_Nodes g_Root w) K =
  d45_73 C g_Nodes w
   (fun (t4s0 : List V) => K .ret (z45_21 t4s0)) := by
 refine Eq.trans (execL_app (P := Try.prog) (A := ann) (C := C) (f := 45) (n := 220) (m := 0) (q45_0) (q45_72) (st := z45_1 g_Nodes g_Root w) (K := K)) (Eq.trans (h45_1_eq C g_Nodes g_Root w (seqK Try.prog ann C 45 220 0 (q45_72) K)) ?_)
 · exact Eq.trans (by kernel_rfl) (Eq.trans (congrArg (fun HOLE : (List V) → Option β => d45_1 C g_Nodes HOLE) (funext fun (in's0 : List V) => h45_72_eq C w (w.length : Int) g_Nodes (g_Nodes.length : Int) 0 g_Nodes g_Root in's0 K)) ((by kernel_rfl)))
noncomputable def f_semigroupref31_Holds (C : CallF) (g_Nodes : List V) (g_Root : Int) (w : List UInt8) : Option (V × List V) :=
 bif (decide (0 ≤ (g_Nodes.length : Int))) && ((decide ((g_Nodes.length : Int) ≤ (g_Nodes.length : Int))) && (Nat.ble ((((g_Nodes.length : Int) : Int).toNat) * 24) maxBytes)) then
  s_semigroupref31_Holds_63L C w (w.length : Int) g_Nodes (g_Nodes.length : Int) 0 (List.replicate (((g_Nodes.length : Int) : Int).toNat) (V.list T_l_bool ([] : List V)))
   (fun (t_172 : Int) (t_173 : Bool) (in's_174 : List V) =>
    bif (decide (0 ≤ (g_Nodes.length : Int))) && ((decide ((g_Nodes.length : Int) ≤ (g_Nodes.length : Int))) && (Nat.ble ((((g_Nodes.length : Int) : Int).toNat) * 1) maxBytes)) then
     s_semigroupref31_Holds_67L C (w.length : Int) ((List.replicate (((g_Nodes.length : Int) : Int).toNat) (V.bool false)).length : Int) 0 in's_174 (List.replicate (((g_Nodes.length : Int) : Int).toNat) (V.bool false))
      (fun (t_194 : Int) (t_195 : Bool) (outs_196 : List V) =>
       some (.own T_bool outs_196, []))
    else none)
 else none
theorem f_semigroupref31_Holds_eq (C : CallF) (g_Nodes : List V) (g_Root : Int) (w : List UInt8) : bodyK Try.prog ann C 45 [.agg [.list T_api_SfNode g_Nodes, .int .i64 g_Root], .str w] [] = f_semigroupref31_Holds C g_Nodes g_Root w :=
 Eq.trans (bodyK_fin (by kernel_rfl)) (Eq.trans (execK_items (by kernel_rfl)) (Eq.trans (h45_73_eq C g_Nodes g_Root w (finK Try.prog ann C 45 [])) (by kernel_rfl)))
theorem f_semigroupref31_Holds_of {g_Nodes : List V} {g_Root : Int} {w : List UInt8} {r : V × List V} (h : f_semigroupref31_Holds CC g_Nodes g_Root w = some r) : CC F_semigroupref31_Holds [.agg [.list T_api_SfNode g_Nodes, .int .i64 g_Root], .str w] [] = some r :=
 Call_of_body ((bodyK_eq ..).trans ((f_semigroupref31_Holds_eq ..).trans h))
end Go.AM

/-
 The reference's tables: Holds.
-/
namespace Go.AM
open Go.Proofs
abbrev B1 (C : List Bool) : List V := C.map .bool
abbrev B2 (R : List (List Bool)) : List V := R.map fun C => .list T_bool (B1 C)
abbrev B3 (T : List (List (List Bool))) : List V := T.map fun R => .list T_l_bool (B2 R)
theorem und_llb : Try.prog.underlying T_l_l_bool = some (.slice T_l_bool) := by kernel_rfl
theorem und_lb : Try.prog.underlying T_l_bool = some (.slice T_bool) := by kernel_rfl
theorem agg_llb : isAggT Try.prog T_l_l_bool = false := by kernel_rfl
theorem agg_lb : isAggT Try.prog T_l_bool = false := by kernel_rfl
theorem parts_list {P : Program} {e e1 : TypeId} {l : List V} (hu : P.underlying e = some (.slice e1)) (ha : isAggT P e = false) : parts P e (.list e1 l) = [.list e1 l] := by
 unfold parts; rw [ha]; simp only [cond_false, retype1, hu, V.toList_list]
theorem B3_set (T : List (List (List Bool))) (i : Nat) (R : List (List Bool)) : (B3 T).set i (.list T_l_bool (B2 R)) = B3 (T.set i R) := (List.map_set (f := fun R => V.list T_l_bool (B2 R))).symm
theorem B2_set (R : List (List Bool)) (i : Nat) (C : List Bool) : (B2 R).set i (.list T_bool (B1 C)) = B2 (R.set i C) := (List.map_set (f := fun C => V.list T_bool (B1 C))).symm
theorem B1_set (C : List Bool) (i : Nat) (b : Bool) : (B1 C).set i (.bool b) = B1 (C.set i b) := (List.map_set (f := V.bool)).symm
theorem rowV_B3_1 {T : List (List (List Bool))} {i : Nat} {R : List (List Bool)} (h : T[i]? = some R) : rowV Try.prog T_l_l_bool (B3 T) [(i, 0)] = some (.list T_l_bool (B2 R)) := by
 have e : (B3 T)[i]? = some (.list T_l_bool (B2 R)) := by rw [List.getElem?_map, h]; rfl
 simp only [rowV, e, Option.bind_some]
 rw [parts_list und_llb agg_llb]
 rfl
theorem rowV_B3_2 {T : List (List (List Bool))} {i a : Nat} {R : List (List Bool)} {C : List Bool} (h : T[i]? = some R) (h2 : R[a]? = some C) : rowV Try.prog T_l_l_bool (B3 T) [(i, 0), (a, 0)] = some (.list T_bool (B1 C)) := by
 have e : (B3 T)[i]? = some (.list T_l_bool (B2 R)) := by rw [List.getElem?_map, h]; rfl
 have e2 : (B2 R)[a]? = some (.list T_bool (B1 C)) := by rw [List.getElem?_map, h2]; rfl
 simp only [rowV, e, Option.bind_some]
 rw [parts_list und_llb agg_llb]
 simp only [List.getElem?_cons_zero, e2, Option.bind_some]
 rw [parts_list und_lb agg_lb]
 rfl
theorem setRow_B3_1 {T : List (List (List Bool))} {i : Nat} {R R' : List (List Bool)} (h : T[i]? = some R) : setRow Try.prog (B2 R') T_l_l_bool (B3 T) [(i, 0)] = B3 (T.set i R') := by
 have e : (B3 T)[i]? = some (.list T_l_bool (B2 R)) := by rw [List.getElem?_map, h]; rfl
 simp only [setRow, e]
 rw [parts_list und_llb agg_llb]
 simp only [List.getElem?_cons_zero, List.set_cons_zero, mkElem, agg_llb, cond_false, V.nth_zero]
 exact B3_set T i R'
theorem setRow_B3_2 {T : List (List (List Bool))} {i a : Nat} {R : List (List Bool)} {C C' : List Bool} (h : T[i]? = some R) (h2 : R[a]? = some C) :
 setRow Try.prog (B1 C') T_l_l_bool (B3 T) [(i, 0), (a, 0)] = B3 (T.set i (R.set a C')) := by
 have e : (B3 T)[i]? = some (.list T_l_bool (B2 R)) := by rw [List.getElem?_map, h]; rfl
 have e2 : (B2 R)[a]? = some (.list T_bool (B1 C)) := by rw [List.getElem?_map, h2]; rfl
 simp only [setRow, e]
 rw [parts_list und_llb agg_llb]
 simp only [List.getElem?_cons_zero, List.set_cons_zero, mkElem, agg_llb, cond_false, V.nth_zero, e2]
 rw [parts_list und_lb agg_lb]
 simp only [List.getElem?_cons_zero, List.set_cons_zero, agg_lb, cond_false, V.nth_zero]
 rw [B2_set]
 exact B3_set T i _
theorem get_B3 {T : List (List (List Bool))} {i : Nat} {R : List (List Bool)} (h : T[i]? = some R) : (B3 T)[i]? = some (.list T_l_bool (B2 R)) := by rw [List.getElem?_map, h]; rfl
theorem get_B2 {R : List (List Bool)} {i : Nat} {C : List Bool} (h : R[i]? = some C) : (B2 R)[i]? = some (.list T_bool (B1 C)) := by rw [List.getElem?_map, h]; rfl
theorem get_B1 {C : List Bool} {i : Nat} {b : Bool} (h : C[i]? = some b) : (B1 C)[i]? = some (.bool b) := by rw [List.getElem?_map, h]; rfl
/-- The table of a node. -/
def HasTab (l : List Node) (w : List UInt8) (T : List (List (List Bool))) (j : Nat) : Prop :=
 ∃ R, T[j]? = some R ∧ R.length = w.length + 1 ∧ ∀ a, a ≤ w.length → ∃ C, R[a]? = some C ∧ C.length = w.length + 1 ∧ ∀ b, a ≤ b → b ≤ w.length → C[b]? = some (lang l j (sub w a b))
section
variable {l : List Node} {w : List UInt8} {β : Type} {T : List (List (List Bool))}
/-- Reading a cell of a table. -/
noncomputable def getX (T : List V) (j a b : Int) (k : V → Option β) : Option β :=
 bif (decide (0 ≤ j)) && (decide (j < (T.length : Int))) then
  (T[(j : Int).toNat]?).bind fun x17 =>
   (rowV Try.prog T_l_l_bool T [((j : Int).toNat, 0)]).bind fun x18 =>
    bif (decide (0 ≤ a)) && (decide (a < (x18.toList.length : Int))) then
     (rowV Try.prog T_l_l_bool T [((j : Int).toNat, 0)]).bind fun x19 =>
      (x19.toList[(a : Int).toNat]?).bind fun x20 =>
       (rowV Try.prog T_l_l_bool T [((j : Int).toNat, 0), ((a : Int).toNat, 0)]).bind fun x21 =>
        bif (decide (0 ≤ b)) && (decide (b < (x21.toList.length : Int))) then
         (rowV Try.prog T_l_l_bool T [((j : Int).toNat, 0), ((a : Int).toNat, 0)]).bind fun x22 =>
          (x22.toList[(b : Int).toNat]?).bind fun x23 => k x23
        else none
    else none
 else none
/-- Writing one. -/
noncomputable def putX {X : Type} (T : List V) (i a b : Int) (k : List V → Option X) (v : Bool) : Option X :=
 bif (decide (0 ≤ i)) && (decide (i < (T.length : Int))) then
  (T[(i : Int).toNat]?).bind fun x103 =>
   (rowV Try.prog T_l_l_bool T [((i : Int).toNat, 0)]).bind fun x104 =>
    bif (decide (0 ≤ a)) && (decide (a < (x104.toList.length : Int))) then
     (rowV Try.prog T_l_l_bool T [((i : Int).toNat, 0)]).bind fun x105 =>
      (x105.toList[(a : Int).toNat]?).bind fun x106 =>
       (rowV Try.prog T_l_l_bool T [((i : Int).toNat, 0), ((a : Int).toNat, 0)]).bind fun x107 =>
        bif (decide (0 ≤ b)) && (decide (b < (x107.toList.length : Int))) then
         (rowV Try.prog T_l_l_bool T [((i : Int).toNat, 0), ((a : Int).toNat, 0)]).bind fun x108 =>
          (x108.toList[(b : Int).toNat]?).bind fun x109 =>
           k (setRow Try.prog (x108.toList.set ((b : Int).toNat) (.bool v)) T_l_l_bool T [((i : Int).toNat, 0), ((a : Int).toNat, 0)])
        else none
    else none
 else none
noncomputable def retX (T : List V) (b : Int) : Option ((Int × List V) ⊕ (Int × Bool × List V)) := some (.inl (IntKind.wrap .i64 (b + 1), T))
theorem step49 (C : CallF) (w : List UInt8) (n i a x0 x1 x2 x3 b : Int) (T : List V) : s_semigroupref31_Holds_49L_step C w n i a x0 x1 x2 x3 (b, T) =
 bif decide (b ≤ n) then
  bif x0 == 2 then putX T i a b (fun t => retX t b) (a == b)
  else bif x0 == 3 then s_semigroupref31_Holds_11 C w a b x1 (putX T i a b (fun t => retX t b))
  else bif x0 == 4 then putX T i a b (fun t => retX t b) true
  else bif x0 == 5 then getX T x2 a b (fun x => bif x.toBool then putX T i a b (fun t => retX t b) true else getX T x3 a b (fun x => putX T i a b (fun t => retX t b) x.toBool))
  else bif x0 == 6 then getX T x2 a b (fun x => bif x.toBool then getX T x3 a b (fun x => putX T i a b (fun t => retX t b) x.toBool) else putX T i a b (fun t => retX t b) false)
  else bif x0 == 7 then (Loop (s_semigroupref31_Holds_25L_step C a b T x2 x3) (false, a)).bind fun r => putX T i a b (fun t => retX t b) r.1
  else bif x0 == 8 then getX T x2 a b (fun x => putX T i a b (fun t => retX t b) (!x.toBool)) else putX T i a b (fun t => retX t b) false
 else some (.inr (b, decide (b ≤ n), T)) := rfl
theorem tab_read {j a b : Nat} (h : HasTab l w T j) (ha : a ≤ w.length) (hab : a ≤ b) (hb : b ≤ w.length) (k : V → Option β) : getX (B3 T) (j : Int) (a : Int) (b : Int) k = k (.bool (lang l j (sub w a b))) := by
 obtain ⟨R, h1, h2, h3⟩ := h
 obtain ⟨C, c1, c2, c3⟩ := h3 a ha
 have hj : j < T.length := (List.getElem?_eq_some_iff.1 h1).1
 unfold getX
 simp only [Int.toNat_natCast, bif_and, bif_decide, List.length_map]
 rw [if_pos (by omega), if_pos (by omega), get_B3 h1]
 simp only [Option.bind_some, rowV_B3_1 h1, V.toList_list, List.length_map]
 rw [if_pos (by omega), if_pos (by omega), get_B2 c1]
 simp only [Option.bind_some, rowV_B3_2 h1 c1, V.toList_list, List.length_map]
 rw [if_pos (by omega), if_pos (by omega), get_B1 (c3 b hab hb)]
 rfl
theorem tab_write {X : Type} {i a b : Nat} {R : List (List Bool)} {C : List Bool} (h1 : T[i]? = some R) (h2 : R[a]? = some C) (hb : b < C.length) (v : Bool) (k : List V → Option X) :
 putX (B3 T) (i : Int) (a : Int) (b : Int) k v = k (B3 (T.set i (R.set a (C.set b v)))) := by
 have hj : i < T.length := (List.getElem?_eq_some_iff.1 h1).1
 have ha : a < R.length := (List.getElem?_eq_some_iff.1 h2).1
 unfold putX
 simp only [Int.toNat_natCast, bif_and, bif_decide, List.length_map]
 rw [if_pos (by omega), if_pos (by omega), get_B3 h1]
 simp only [Option.bind_some, rowV_B3_1 h1, V.toList_list, List.length_map]
 rw [if_pos (by omega), if_pos (by omega), get_B2 h2]
 simp only [Option.bind_some, rowV_B3_2 h1 h2, V.toList_list, List.length_map]
 rw [if_pos (by omega), if_pos (by omega), get_B1 (List.getElem?_eq_getElem hb)]
 simp only [Option.bind_some, B1_set, setRow_B3_2 h1 h2]
theorem catL {ia ib a b : Nat} (hA : HasTab l w T ia) (hB : HasTab l w T ib) (hab : a ≤ b) (hb : b ≤ w.length) (hn : w.length ≤ 64) :
 ∃ (c : Int) (t : Bool), Loop (s_semigroupref31_Holds_25L_step CC (a : Int) (b : Int) (B3 T) (ia : Int) (ib : Int)) (false, (a : Int)) = some ((List.range (b - a + 1)).any fun k => lang l ia (sub w a (a + k)) && lang l ib (sub w (a + k) b), c, t) := by
 have key := Loop_inv (step := s_semigroupref31_Holds_25L_step CC (a : Int) (b : Int) (B3 T) (ia : Int) (ib : Int))
  (fun s => ∃ c : Nat, a ≤ c ∧ c ≤ b + 1 ∧ s = ((List.range (c - a)).any fun k => lang l ia (sub w a (a + k)) && lang l ib (sub w (a + k) b), (c : Int)))
  (fun s => ((b + 1 : Int) - s.2).toNat)
  (fun r => ∃ (c : Int) (t : Bool), r = ((List.range (b - a + 1)).any fun k => lang l ia (sub w a (a + k)) && lang l ib (sub w (a + k) b), c, t)) (by
   rintro s ⟨c, h1, h2, rfl⟩
   unfold s_semigroupref31_Holds_25L_step s_semigroupref31_Holds_20
   simp only
   rw [bif_decide]
   by_cases hc : c ≤ b
   · rw [if_pos (by omega)]
     cases hv : (List.range (c - a)).any fun k => lang l ia (sub w a (a + k)) && lang l ib (sub w (a + k) b) with
     | true =>
      right
      refine ⟨_, rfl, (c : Int), !true, ?_⟩
      rw [Prod.mk.injEq]
      refine ⟨?_, rfl⟩
      rw [List.any_eq_true] at hv
      obtain ⟨k, hk, h⟩ := hv
      symm
      rw [List.any_eq_true]
      exact ⟨k, by simp only [List.mem_range] at hk ⊢; omega, h⟩
     | false =>
      left
      have grow : ((List.range (c + 1 - a)).any fun k => lang l ia (sub w a (a + k)) && lang l ib (sub w (a + k) b)) = (lang l ia (sub w a c) && lang l ib (sub w c b)) := by
       rw [show c + 1 - a = (c - a) + 1 by omega, List.range_succ, List.any_append, hv]
       have e : a + (c - a) = c := by omega
       simp [e]
      unfold s_semigroupref31_Holds_21
      simp only [Bool.not_false, cond_true]
      refine ⟨((lang l ia (sub w a c) && lang l ib (sub w c b)), ((c + 1 : Nat) : Int)), ?_, ⟨c + 1, by omega, by omega, by rw [grow]⟩, by simp; omega⟩
      refine Eq.trans (tab_read hA (by omega) h1 (by omega) _) ?_
      simp only [V.toBool_bool]
      cases hla : lang l ia (sub w a c) with
      | true =>
       simp only [cond_true]
       refine Eq.trans (tab_read hB (by omega) hc hb _) ?_
       simp (disch := omega) only [V.toBool_bool, wrap64, Bool.true_and]
       rfl
      | false =>
       simp (disch := omega) only [cond_false, wrap64, Bool.false_and]
       rfl
   · rw [if_neg (by omega)]
     right
     refine ⟨_, rfl, (c : Int), false, ?_⟩
     have : c - a = b - a + 1 := by omega
     rw [this])
 obtain ⟨r, hr, c, t, rfl⟩ := key (false, (a : Int)) ⟨a, Nat.le_refl _, by omega, by simp⟩
 exact ⟨c, t, hr⟩
theorem isLetter_sub {x : Node} {p q : Nat} (hq1 : p ≤ q) (hq2 : q ≤ w.length) : isLetter x (sub w p q) = if h : q = p + 1 then decide (((w[p]'(by omega)).toNat : Int) - 97 = x.letter) else false := by
 by_cases h : q = p + 1
 · subst h
   rw [dif_pos rfl, sub_one (by omega)]
   rfl
 · rw [dif_neg h]
   cases hs : isLetter x (sub w p q) with
   | false => rfl
   | true =>
    obtain ⟨c, hc1, hc2⟩ := isLetter_iff.1 hs
    have := sub_length hq1 hq2
    rw [hc1] at this
    simp only [List.length_singleton] at this
    omega
/-- One cell more. -/
theorem row_round {letters : Int} (hl : Valid letters l) {i : Nat} {x : Node} (hx : l[i]? = some x) (hw : wordB 6 w = true) (hn : w.length ≤ 64) {a b : Nat} (hab : a ≤ b) (hb : b ≤ w.length)
 (hT : ∀ j, j < i → HasTab l w T j) {R : List (List Bool)} {C : List Bool} (h1 : T[i]? = some R) (h2 : R[a]? = some C) (hC : C.length = w.length + 1) :
 s_semigroupref31_Holds_49L_step CC w (w.length : Int) (i : Int) (a : Int) x.op x.letter x.a x.b ((b : Int), B3 T) = some (.inl (((b + 1 : Nat) : Int), B3 (T.set i (R.set a (C.set b (lang l i (sub w a b))))))) := by
 have ok := nodeOk_iff.1 (hl.node hx)
 have hle := lang_eq hl hx (sub w a b)
 have wr : IntKind.wrap .i64 ((b : Int) + 1) = ((b + 1 : Nat) : Int) := by rw [wrap64 (by omega) (by omega)]; rfl
 have wput : ∀ v : Bool, v = lang l i (sub w a b) → putX (B3 T) (i : Int) (a : Int) (b : Int) (fun t => retX t (b : Int)) v = some (.inl (((b + 1 : Nat) : Int), B3 (T.set i (R.set a (C.set b (lang l i (sub w a b))))))) := by
  intro v hv
  rw [tab_write h1 h2 (show b < C.length by omega), retX, wr, hv]
 rw [step49, bif_decide, if_pos (by omega), bif_beq]
 by_cases c2 : x.op = 2
 · rw [if_pos c2]
   refine wput _ ?_
   rw [hle, if_pos c2]
   have hlen := sub_length hab hb
   rw [Bool.eq_iff_iff]
   simp only [beq_iff_eq, List.isEmpty_iff]
   constructor
   · intro h; exact List.eq_nil_of_length_eq_zero (by omega)
   · intro h; rw [h] at hlen; simp only [List.length_nil] at hlen; omega
 rw [if_neg c2, bif_beq]
 rw [if_neg c2] at hle
 by_cases c3 : x.op = 3
 · rw [if_pos c3]
   rw [if_pos c3, isLetter_sub hab hb] at hle
   unfold s_semigroupref31_Holds_11
   rw [bif_beq, wrap64 (by omega) (by omega)]
   by_cases hq : b = a + 1
   · have ha : a < w.length := by omega
     have hc := List.all_eq_true.1 hw w[a] (List.getElem_mem _)
     simp only [decide_eq_true_eq] at hc
     rw [dif_pos hq] at hle
     rw [if_pos (by omega), bif_decide, if_pos (by omega), Int.toNat_natCast, List.getElem?_eq_getElem ha]
     simp (disch := omega) only [Option.map_some, Option.bind_some, V.toInt_int, wrap8, wrap64]
     refine wput _ ?_
     rw [hle]
     rfl
   · rw [dif_neg hq] at hle
     rw [if_neg (by omega)]
     exact wput _ hle.symm
 rw [if_neg c3, bif_beq]
 rw [if_neg c3] at hle
 by_cases c4 : x.op = 4
 · rw [if_pos c4]
   rw [if_pos c4] at hle
   exact wput _ hle.symm
 rw [if_neg c4, bif_beq]
 rw [if_neg c4] at hle
 have oa : 5 ≤ x.op → ∃ ia : Nat, x.a = ia ∧ HasTab l w T ia := fun h => by
  have := ok.a h
  obtain ⟨ia, hia⟩ : ∃ ia : Nat, x.a = ia := ⟨x.a.toNat, by omega⟩
  exact ⟨ia, hia, hT ia (by omega)⟩
 have ob : 5 ≤ x.op → x.op ≠ 8 → ∃ ib : Nat, x.b = ib ∧ HasTab l w T ib := fun h h' => by
  have := ok.b h h'
  obtain ⟨ib, hib⟩ : ∃ ib : Nat, x.b = ib := ⟨x.b.toNat, by omega⟩
  exact ⟨ib, hib, hT ib (by omega)⟩
 by_cases c5 : x.op = 5
 · obtain ⟨ia, ea, ta⟩ := oa (by omega)
   obtain ⟨ib, eb, tb⟩ := ob (by omega) (by omega)
   rw [if_pos c5, ea, eb]
   rw [if_pos c5, ea, eb, Int.toNat_natCast, Int.toNat_natCast] at hle
   rw [tab_read ta (by omega) hab hb, V.toBool_bool]
   cases hla : lang l ia (sub w a b) with
   | true =>
    rw [hla, Bool.true_or] at hle
    exact wput _ hle.symm
   | false =>
    rw [hla, Bool.false_or] at hle
    simp only [cond_false]
    rw [tab_read tb (by omega) hab hb, V.toBool_bool]
    exact wput _ hle.symm
 rw [if_neg c5, bif_beq]
 rw [if_neg c5] at hle
 by_cases c6 : x.op = 6
 · obtain ⟨ia, ea, ta⟩ := oa (by omega)
   obtain ⟨ib, eb, tb⟩ := ob (by omega) (by omega)
   rw [if_pos c6, ea, eb]
   rw [if_pos c6, ea, eb, Int.toNat_natCast, Int.toNat_natCast] at hle
   rw [tab_read ta (by omega) hab hb, V.toBool_bool]
   cases hla : lang l ia (sub w a b) with
   | true =>
    rw [hla, Bool.true_and] at hle
    simp only [cond_true]
    rw [tab_read tb (by omega) hab hb, V.toBool_bool]
    exact wput _ hle.symm
   | false =>
    rw [hla, Bool.false_and] at hle
    exact wput _ hle.symm
 rw [if_neg c6, bif_beq]
 rw [if_neg c6] at hle
 by_cases c7 : x.op = 7
 · obtain ⟨ia, ea, ta⟩ := oa (by omega)
   obtain ⟨ib, eb, tb⟩ := ob (by omega) (by omega)
   rw [if_pos c7, ea, eb]
   rw [if_pos c7, ea, eb, Int.toNat_natCast, Int.toNat_natCast, sub_length hab hb] at hle
   obtain ⟨c, t, hL⟩ := catL ta tb hab hb hn
   rw [hL]
   simp only [Option.bind_some]
   refine wput _ ?_
   rw [hle, Bool.eq_iff_iff, List.any_eq_true, List.any_eq_true]
   constructor
   · rintro ⟨k, hk, h⟩
     simp only [List.mem_range] at hk
     refine ⟨k, by simp only [List.mem_range]; omega, ?_⟩
     rw [sub_take (by omega), sub_drop (by omega)]; exact h
   · rintro ⟨k, hk, h⟩
     simp only [List.mem_range] at hk
     refine ⟨k, by simp only [List.mem_range]; omega, ?_⟩
     rw [sub_take (by omega), sub_drop (by omega)] at h; exact h
 rw [if_neg c7] at hle ⊢
 rw [bif_beq]
 by_cases c8 : x.op = 8
 · obtain ⟨ia, ea, ta⟩ := oa (by omega)
   rw [if_pos c8, ea]
   rw [if_pos c8, ea, Int.toNat_natCast] at hle
   rw [tab_read ta (by omega) hab hb, V.toBool_bool]
   exact wput _ hle.symm
 · rw [if_neg c8]
   rw [if_neg c8] at hle
   exact wput _ hle.symm
theorem set_same {α : Type} {l : List α} {i : Nat} {x : α} (h : l[i]? = some x) : l.set i x = l := by
 obtain ⟨h1, h2⟩ := List.getElem?_eq_some_iff.1 h
 subst h2
 exact List.set_getElem_self h1
/-- A row is filled. -/
theorem row_loop {letters : Int} (hl : Valid letters l) {i : Nat} {x : Node} (hx : l[i]? = some x) (hw : wordB 6 w = true) (hn : w.length ≤ 64) {a : Nat} (ha : a ≤ w.length)
 (hT : ∀ j, j < i → HasTab l w T j) {R : List (List Bool)} {C : List Bool} (h1 : T[i]? = some R) (h2 : R[a]? = some C) (hC : C.length = w.length + 1) :
 ∃ (b : Int) (t : Bool) (C' : List Bool), C'.length = w.length + 1 ∧ (∀ b, a ≤ b → b ≤ w.length → C'[b]? = some (lang l i (sub w a b))) ∧
  Loop (s_semigroupref31_Holds_49L_step CC w (w.length : Int) (i : Int) (a : Int) x.op x.letter x.a x.b) ((a : Int), B3 T) = some (b, t, B3 (T.set i (R.set a C'))) := by
 have hi : i < T.length := (List.getElem?_eq_some_iff.1 h1).1
 have haR : a < R.length := (List.getElem?_eq_some_iff.1 h2).1
 have key := Loop_inv (step := s_semigroupref31_Holds_49L_step CC w (w.length : Int) (i : Int) (a : Int) x.op x.letter x.a x.b)
  (fun s => ∃ (b : Nat) (C' : List Bool), a ≤ b ∧ b ≤ w.length + 1 ∧ C'.length = w.length + 1 ∧ (∀ q, a ≤ q → q < b → C'[q]? = some (lang l i (sub w a q))) ∧ s = ((b : Int), B3 (T.set i (R.set a C'))))
  (fun s => ((w.length + 1 : Int) - s.1).toNat)
  (fun r => ∃ (b : Int) (t : Bool) (C' : List Bool), C'.length = w.length + 1 ∧ (∀ q, a ≤ q → q ≤ w.length → C'[q]? = some (lang l i (sub w a q))) ∧ r = (b, t, B3 (T.set i (R.set a C')))) (by
   rintro s ⟨b, C', g1, g2, g3, g4, rfl⟩
   by_cases hb : b ≤ w.length
   · left
     refine ⟨_, row_round (T := T.set i (R.set a C')) hl hx hw hn g1 hb (fun j hj => ?_) (List.getElem?_set_self hi) (List.getElem?_set_self haR) g3, ⟨b + 1, C'.set b (lang l i (sub w a b)), by omega, by omega, by simpa using g3, fun q q1 q2 => ?_, ?_⟩, by simp; omega⟩
     · obtain ⟨R0, r1, r2⟩ := hT j hj
       exact ⟨R0, by rw [List.getElem?_set_ne (by omega)]; exact r1, r2⟩
     · by_cases hqb : q = b
       · subst hqb; exact List.getElem?_set_self (by omega)
       · rw [List.getElem?_set_ne (by omega)]; exact g4 q q1 (by omega)
     · simp only [List.set_set]
   · right
     rw [step49, bif_decide, if_neg (by omega)]
     exact ⟨_, rfl, _, _, C', g3, fun q q1 q2 => g4 q q1 (by omega), rfl⟩)
 obtain ⟨r, hr, b, t, C', k1, k2, rfl⟩ := key ((a : Int), B3 T) ⟨a, C, Nat.le_refl _, by omega, hC, fun q q1 q2 => by omega, by
  rw [set_same h2, set_same h1]⟩
 exact ⟨b, t, C', k1, k2, hr⟩
def RowsOk (l : List Node) (w : List UInt8) (i : Nat) (R : List (List Bool)) (a : Nat) : Prop :=
 ∃ C, R[a]? = some C ∧ C.length = w.length + 1 ∧ ∀ b, a ≤ b → b ≤ w.length → C[b]? = some (lang l i (sub w a b))
/-- The rows of a node are filled. -/
theorem rows_loop {letters : Int} (hl : Valid letters l) {i : Nat} {x : Node} (hx : l[i]? = some x) (hw : wordB 6 w = true) (hn : w.length ≤ 64)
 (hT : ∀ j, j < i → HasTab l w T j) {R : List (List Bool)} (h1 : T[i]? = some R) (hR : R.length = w.length + 1) :
 ∃ (a : Int) (t : Bool) (R' : List (List Bool)), R'.length = w.length + 1 ∧ (∀ a, a ≤ w.length → RowsOk l w i R' a) ∧
  Loop (s_semigroupref31_Holds_56L_step CC w (w.length : Int) (i : Int) ((w.length + 1 : Nat) : Int) x.op x.letter x.a x.b) (0, B3 T) = some (a, t, B3 (T.set i R')) := by
 have hi : i < T.length := (List.getElem?_eq_some_iff.1 h1).1
 have wr : IntKind.wrap .i64 ((w.length : Int) + 1) = ((w.length + 1 : Nat) : Int) := by rw [wrap64 (by omega) (by omega)]; rfl
 have key := Loop_inv (step := s_semigroupref31_Holds_56L_step CC w (w.length : Int) (i : Int) ((w.length + 1 : Nat) : Int) x.op x.letter x.a x.b)
  (fun s => ∃ (a : Nat) (R' : List (List Bool)), a ≤ w.length + 1 ∧ R'.length = w.length + 1 ∧ (∀ q, q < a → RowsOk l w i R' q) ∧ s = ((a : Int), B3 (T.set i R')))
  (fun s => ((w.length + 1 : Int) - s.1).toNat)
  (fun r => ∃ (a : Int) (t : Bool) (R' : List (List Bool)), R'.length = w.length + 1 ∧ (∀ a, a ≤ w.length → RowsOk l w i R' a) ∧ r = (a, t, B3 (T.set i R'))) (by
   rintro s ⟨a, R', g2, g3, g4, rfl⟩
   unfold s_semigroupref31_Holds_56L_step
   simp only
   rw [bif_decide]
   have hTi : (T.set i R')[i]? = some R' := List.getElem?_set_self hi
   by_cases ha : a < w.length + 1
   · left
     rw [if_pos (by omega)]
     have hra : R'[a]? = some (R'[a]'(by omega)) := List.getElem?_eq_getElem _
     simp only [bif_and, bif_decide, Int.toNat_natCast, List.length_map, List.length_set, wr, bif_ble]
     rw [if_pos (by omega), if_pos (by omega), get_B3 hTi]
     simp only [Option.bind_some]
     rw [if_pos (by omega), if_pos (by omega), if_pos (by unfold maxBytes; omega)]
     simp only [Option.bind_some, rowV_B3_1 hTi, V.toList_list, List.length_map]
     rw [if_pos (by omega), if_pos (by omega), get_B2 hra]
     simp only [Option.bind_some]
     have e1 : V.list T_bool (List.replicate (w.length + 1) (V.bool false)) = V.list T_bool (B1 (List.replicate (w.length + 1) false)) := by
      rw [B1, List.map_replicate]
     rw [e1, B2_set, setRow_B3_1 hTi, List.set_set]
     unfold s_semigroupref31_Holds_49L
     obtain ⟨b, t, C', k1, k2, k3⟩ := row_loop (T := T.set i (R'.set a (List.replicate (w.length + 1) false))) hl hx hw hn (show a ≤ w.length by omega) (fun j hj => by
      obtain ⟨R0, r1, r2⟩ := hT j hj
      exact ⟨R0, by rw [List.getElem?_set_ne (by omega)]; exact r1, r2⟩) (List.getElem?_set_self hi) (List.getElem?_set_self (by omega)) (by simp)
     rw [k3]
     simp only [Option.bind_some, List.set_set]
     refine ⟨(((a + 1 : Nat) : Int), B3 (T.set i (R'.set a C'))), ?_, ⟨a + 1, R'.set a C', by omega, by simpa using g3, fun q hq => ?_, rfl⟩, by simp; omega⟩
     · rw [wrap64 (by omega) (by omega)]; rfl
     · by_cases hqa : q = a
       · subst hqa; exact ⟨C', List.getElem?_set_self (by omega), k1, k2⟩
       · obtain ⟨C0, z1, z2⟩ := g4 q (by omega)
         exact ⟨C0, by rw [List.getElem?_set_ne (by omega)]; exact z1, z2⟩
   · right
     rw [if_neg (by omega)]
     exact ⟨_, rfl, _, _, R', g3, fun q hq => g4 q (by omega), rfl⟩)
 obtain ⟨r, hr, b, t, R', k1, k2, rfl⟩ := key ((0 : Nat), B3 T) ⟨0, R, by omega, hR, fun q hq => by omega, by rw [set_same h1]⟩
 exact ⟨b, t, R', k1, k2, hr⟩
/-- All nodes' tables. -/
theorem nodes_loop {letters : Int} (hl : Valid letters l) (hw : wordB 6 w = true) (hn : w.length ≤ 64) (hlen : l.length ≤ 20000) :
 ∃ (a : Int) (t : Bool) (T : List (List (List Bool))), T.length = l.length ∧ (∀ j, j < l.length → HasTab l w T j) ∧
  Loop (s_semigroupref31_Holds_63L_step CC w (w.length : Int) (nodesV l) (l.length : Int)) (0, B3 (List.replicate l.length [])) = some (a, t, B3 T) := by
 have wr : IntKind.wrap .i64 ((w.length : Int) + 1) = ((w.length + 1 : Nat) : Int) := by rw [wrap64 (by omega) (by omega)]; rfl
 have key := Loop_inv (step := s_semigroupref31_Holds_63L_step CC w (w.length : Int) (nodesV l) (l.length : Int))
  (fun s => ∃ (i : Nat) (T : List (List (List Bool))), i ≤ l.length ∧ T.length = l.length ∧ (∀ j, j < i → HasTab l w T j) ∧ s = ((i : Int), B3 T))
  (fun s => ((l.length : Int) - s.1).toNat)
  (fun r => ∃ (a : Int) (t : Bool) (T : List (List (List Bool))), T.length = l.length ∧ (∀ j, j < l.length → HasTab l w T j) ∧ r = (a, t, B3 T)) (by
   rintro s ⟨i, T, g1, g2, g3, rfl⟩
   unfold s_semigroupref31_Holds_63L_step
   simp only
   rw [bif_decide]
   by_cases hi : i < l.length
   · left
     have hx : l[i]? = some l[i] := List.getElem?_eq_getElem hi
     have hTi : T[i]? = some (T[i]'(by omega)) := List.getElem?_eq_getElem _
     rw [if_pos (by omega), idx_map (n := i) rfl hi]
     simp only [bif_and, bif_decide, Int.toNat_natCast, List.length_map, List.length_set, wr, bif_ble, Option.bind_some]
     rw [if_pos (by omega), if_pos (by omega), if_pos (by unfold maxBytes; omega), if_pos (by omega), if_pos (by omega), get_B3 hTi]
     have e1 : V.list T_l_bool (List.replicate (w.length + 1) (V.list T_bool [])) = V.list T_l_bool (B2 (List.replicate (w.length + 1) [])) := by
      rw [B2, List.map_replicate]; rfl
     have hT2 : (T.set i (List.replicate (w.length + 1) []))[i]? = some (List.replicate (w.length + 1) []) := List.getElem?_set_self (by omega)
     simp only [Option.bind_some, e1, B3_set]
     rw [if_pos (by omega), if_pos (by omega), get_B3 hT2]
     simp only [Option.bind_some, rowV_B3_1 hT2, V.toList_list, List.length_map, List.length_replicate]
     unfold s_semigroupref31_Holds_56L
     obtain ⟨a, t, R', k1, k2, k3⟩ := rows_loop (T := T.set i (List.replicate (w.length + 1) [])) hl hx hw hn (fun j hj => by
      obtain ⟨R0, r1, r2⟩ := g3 j hj
      exact ⟨R0, by rw [List.getElem?_set_ne (by omega)]; exact r1, r2⟩) hT2 (by simp)
     simp only [Node.v, V.cell_agg, V.nth_zero, V.nth_one, V.nth_two, V.nth_three, V.toInt_int]
     rw [k3]
     simp only [Option.bind_some, List.set_set]
     refine ⟨(((i + 1 : Nat) : Int), B3 (T.set i R')), ?_, ⟨i + 1, T.set i R', by omega, by simpa using g2, fun q hq => ?_, rfl⟩, by simp; omega⟩
     · rw [wrap64 (by omega) (by omega)]; rfl
     · by_cases hqa : q = i
       · subst hqa; exact ⟨R', List.getElem?_set_self (by omega), k1, k2⟩
       · obtain ⟨C0, z1, z2⟩ := g3 q (by omega)
         exact ⟨C0, by rw [List.getElem?_set_ne (by omega)]; exact z1, z2⟩
   · right
     rw [if_neg (by omega)]
     exact ⟨_, rfl, _, _, T, g2, fun q hq => g3 q (by omega), rfl⟩)
 obtain ⟨r, hr, b, t, T, k1, k2, rfl⟩ := key ((0 : Nat), B3 (List.replicate l.length [])) ⟨0, _, by omega, by simp, fun q hq => by omega, rfl⟩
 exact ⟨b, t, T, k1, k2, hr⟩
theorem out_loop {T : List (List (List Bool))} (hT : ∀ j, j < l.length → HasTab l w T j) (hTl : T.length = l.length) (hn : w.length ≤ 64) (hlen : l.length ≤ 20000) :
 ∃ (a : Int) (t : Bool), Loop (s_semigroupref31_Holds_67L_step CC (w.length : Int) (l.length : Int) (B3 T)) (0, boolsV (List.replicate l.length false)) = some (a, t, boolsV ((List.range l.length).map fun i => lang l i w)) := by
 have key := Loop_inv (step := s_semigroupref31_Holds_67L_step CC (w.length : Int) (l.length : Int) (B3 T))
  (fun s => ∃ (i : Nat) (m : List Bool), i ≤ l.length ∧ m.length = l.length ∧ (∀ j, j < i → m[j]? = some (lang l j w)) ∧ s = ((i : Int), boolsV m))
  (fun s => ((l.length : Int) - s.1).toNat)
  (fun r => ∃ (a : Int) (t : Bool), r = (a, t, boolsV ((List.range l.length).map fun i => lang l i w))) (by
   rintro s ⟨i, m, g1, g2, g3, rfl⟩
   unfold s_semigroupref31_Holds_67L_step
   simp only
   rw [bif_decide]
   by_cases hi : i < l.length
   · left
     obtain ⟨R, r1, r2, r3⟩ := hT i hi
     obtain ⟨C, c1, c2, c3⟩ := r3 0 (by omega)
     have c4 := c3 w.length (by omega) (by omega)
     rw [sub_all] at c4
     have hR0 : (B2 R)[0]? = some (.list T_bool (B1 C)) := get_B2 c1
     simp only [bif_and, bif_decide, Int.toNat_natCast, List.length_map]
     rw [if_pos (by omega), if_pos (by omega), if_pos (by omega), get_B3 r1]
     simp only [Option.bind_some, rowV_B3_1 r1, V.toList_list, List.length_map]
     rw [if_pos (by omega), hR0]
     simp only [Option.bind_some, rowV_B3_2 r1 c1, V.toList_list, List.length_map]
     rw [if_pos (by omega), if_pos (by omega), get_B1 c4]
     simp only [Option.bind_some, V.toBool_bool]
     rw [if_pos (by omega), if_pos (by omega), boolsV_get (show i < m.length by omega)]
     simp only [Option.bind_some]
     refine ⟨(((i + 1 : Nat) : Int), boolsV (m.set i (lang l i w))), ?_, ⟨i + 1, m.set i (lang l i w), by omega, by simpa using g2, fun q hq => ?_, rfl⟩, by simp; omega⟩
     · rw [wrap64 (by omega) (by omega), B1_set]; rfl
     · by_cases hqa : q = i
       · subst hqa; exact List.getElem?_set_self (by omega)
       · rw [List.getElem?_set_ne (by omega)]; exact g3 q (by omega)
   · right
     rw [if_neg (by omega)]
     refine ⟨_, rfl, (i : Int), decide ((i : Int) < (l.length : Int)), ?_⟩
     have : m = (List.range l.length).map fun i => lang l i w := by
      refine List.ext_getElem? fun q => ?_
      by_cases hq : q < l.length
      · rw [g3 q (by omega)]; simp [hq]
      · rw [List.getElem?_eq_none (by omega), List.getElem?_eq_none (by simp; omega)]
     rw [this])
 obtain ⟨r, hr, b, t, rfl⟩ := key ((0 : Nat), boolsV (List.replicate l.length false)) ⟨0, _, by omega, by simp, fun q hq => by omega, rfl⟩
 exact ⟨b, t, hr⟩
theorem holds_spec {letters : Int} (hl : Valid letters l) (root : Int) (hw : wordB 6 w = true) (hn : w.length ≤ 64) (hlen : l.length ≤ 20000) :
 CC F_semigroupref31_Holds [graphV l root, .str w] [] = some (.own T_bool (boolsV ((List.range l.length).map fun i => lang l i w)), []) := by
 refine f_semigroupref31_Holds_of ?_
 unfold f_semigroupref31_Holds s_semigroupref31_Holds_63L s_semigroupref31_Holds_67L
 obtain ⟨a, t, T, k1, k2, k3⟩ := nodes_loop hl hw hn hlen
 obtain ⟨a2, t2, k4⟩ := out_loop k2 k1 hn hlen
 have e1 : List.replicate l.length (V.list T_l_bool []) = B3 (List.replicate l.length []) := by rw [B3, List.map_replicate]; rfl
 have e2 : List.replicate l.length (V.bool false) = boolsV (List.replicate l.length false) := (List.map_replicate (f := V.bool)).symm
 simp only [bif_and, bif_decide, Int.toNat_natCast, List.length_map, bif_ble, List.length_replicate, e1]
 rw [if_pos (by omega), if_pos (by omega), if_pos (by unfold maxBytes; omega), k3]
 simp only [Option.bind_some]
 rw [if_pos (by omega), if_pos (by omega), if_pos (by unfold maxBytes; omega), e2, k4]
 rfl
end
end Go.AM

set_option maxRecDepth 100000
namespace Go.AM
open Go.Proofs
/-! semigroup/starfree.operation -/
noncomputable def s_starfree_operation_1 (C : CallF) (op : Int) {β : Type} (k0 : Int → Option β) : Option β :=
 bif (op : Int) == 1 then
  k0 1
 else
  bif (op : Int) == 2 then
   k0 2
  else
   bif (op : Int) == 3 then
    k0 3
   else
    bif (op : Int) == 5 then
     k0 4
    else
     bif (op : Int) == 6 then
      k0 6
     else
      bif (op : Int) == 7 then
       k0 5
      else
       k0 8
noncomputable abbrev z48_0 (c0 : Int) : St :=
 mk [(2, .int .i64 c0)] []
noncomputable abbrev q48_0 : List Code := codesAt Try.prog 48 [[0], [1, 0, 0], [1, 0, 1], [1, 1, 0], [1, 1, 1]]
noncomputable abbrev z48_1 (c0 : Int) : St :=
 mk [(0, .int .i64 c0)] []
theorem s_starfree_operation_1_eq (C : CallF) (op : Int) {β : Type} (K : Out → St → Option β) :
 execL Try.prog ann C 48 16 0 (q48_0) (z48_1 op) K =
  s_starfree_operation_1 C op
   (fun (t20 : Int) => K .ret (z48_0 t20)) := by kernel_rfl
noncomputable def f_starfree_operation (C : CallF) (op : Int) : Option (V × List V) :=
 s_starfree_operation_1 C op
  (fun (t_1 : Int) =>
   some (.int .i64 t_1, []))
theorem f_starfree_operation_eq (C : CallF) (op : Int) : bodyK Try.prog ann C 48 [.int .i64 op] [] = f_starfree_operation C op :=
 Eq.trans (bodyK_fin (by kernel_rfl)) (Eq.trans (execK_items (by kernel_rfl)) (Eq.trans (s_starfree_operation_1_eq C op (finK Try.prog ann C 48 [])) (by kernel_rfl)))
theorem f_starfree_operation_of {op : Int} {r : V × List V} (h : f_starfree_operation CC op = some r) : CC F_starfree_operation [.int .i64 op] [] = some r :=
 Call_of_body ((bodyK_eq ..).trans ((f_starfree_operation_eq ..).trans h))
end Go.AM
