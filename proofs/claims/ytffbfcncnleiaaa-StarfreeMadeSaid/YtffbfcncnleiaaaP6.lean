/-
  Functions of the program, lifted to plain data.
-/
import Derived.Test.YtffbfcncnleiaaaP5
set_option linter.unusedVariables false
set_option maxRecDepth 100000
namespace Go.AM
open Go.Proofs
/-! semigroup/starfree.expression -/
noncomputable def s_starfree_expression_1 (C : CallF) (nodes : List V) (i : Int) {β : Type} (k0 : Int → Int → Int → Int → Int → Int → (List V) → Option β) : Option β :=
 (idx nodes i).bind fun x6 =>
  (C F_starfree_operation [.int .i64 ((x6.cell 0).toInt)] []).bind fun r7 =>
   bif (((x6.cell 0).toInt) : Int) == 4 then
    k0 ((x6.cell 0).toInt) ((x6.cell 1).toInt) ((x6.cell 2).toInt) ((x6.cell 3).toInt) r7.1.toInt ((x6.cell 1).toInt) ([.agg [.int .i64 1, .int .i64 0, .list T_api_Expr ([] : List V)]] : List V)
   else
    k0 ((x6.cell 0).toInt) ((x6.cell 1).toInt) ((x6.cell 2).toInt) ((x6.cell 3).toInt) r7.1.toInt ((x6.cell 1).toInt) ([] : List V)
noncomputable abbrev z40_0 (c0 : List V) (c1 c2 c3 c4 c5 c6 c7 c8 : Int) (c9 c10 : List V) : St :=
 mk [(0, .list T_api_SfNode c0), (4, .ptr 0 0 0), (5, .ptr 1 0 0), (6, .ptr 2 0 0)] [.var [.int .i64 c1, .int .i64 c2, .whole T_api_Expr 3], .var [.int .i64 c3, .int .i64 c4, .int .i64 c5, .int .i64 c6], .var [.int .i64 c7, .int .i64 c8, .whole T_api_Expr 4], .arr T_api_Expr c9 false, .arr T_api_Expr c10 false]
noncomputable abbrev q40_0 : List Code := codesAt Try.prog 40 [[0], [1, 0], [1, 1, 0], [1, 1, 1, 0, 0], [1, 1, 1, 0, 1]]
noncomputable abbrev z40_1 (c0 : List V) (c1 : Int) : St :=
 mk [(0, .list T_api_SfNode c0), (1, .int .i64 c1)] []
theorem s_starfree_expression_1_eq (C : CallF) (nodes : List V) (i : Int) {β : Type} (K : Out → St → Option β) :
 execL Try.prog ann C 40 50 0 (q40_0) (z40_1 nodes i) K =
  s_starfree_expression_1 C nodes i
   (fun (ns_00 : Int) (ns_10 : Int) (ns_20 : Int) (ns_30 : Int) (es_00 : Int) (es_10 : Int) (e_2s0 : List V) => K .norm (z40_0 nodes 0 0 ns_00 ns_10 ns_20 ns_30 es_00 es_10 ([] : List V) e_2s0)) := by kernel_rfl
noncomputable def s_starfree_expression_2 (C : CallF) (nodes : List V) (ns_0 ns_2 : Int) (e_2s : List V) {β : Type} (k0 : (List V) → Option β) : Option β :=
 (C F_starfree_parts [.int .i64 ns_0] []).bind fun r23 =>
  bif decide ((r23.1.toInt : Int) ≥ 1) then
   (C F_starfree_expression [.list T_api_SfNode nodes, .int .i64 ns_2] []).bind fun r24 =>
    bif Nat.ble ((e_2s.length + ([.agg [.int .i64 ((r24.1.cell 0).toInt), .int .i64 ((r24.1.cell 1).toInt), .list T_api_Expr ((r24.1.cell 2).toList)]] : List V).length) * 40) maxBytes then
     k0 (e_2s ++ ([.agg [.int .i64 ((r24.1.cell 0).toInt), .int .i64 ((r24.1.cell 1).toInt), .list T_api_Expr ((r24.1.cell 2).toList)]] : List V))
    else none
  else
   k0 e_2s
noncomputable abbrev q40_1 : List Code := codesAt Try.prog 40 [[1, 1, 1, 1, 0, 0], [1, 1, 1, 1, 0, 1]]
theorem s_starfree_expression_2_eq (C : CallF) (nodes : List V) (t4s_0 t4s_1 ns_0 ns_1 ns_2 ns_3 es_0 es_1 : Int) (t4_2s e_2s : List V) {β : Type} (K : Out → St → Option β) :
 execL Try.prog ann C 40 50 0 (q40_1) (z40_0 nodes t4s_0 t4s_1 ns_0 ns_1 ns_2 ns_3 es_0 es_1 t4_2s e_2s) K =
  s_starfree_expression_2 C nodes ns_0 ns_2 e_2s
   (fun (e_2s0 : List V) => K .norm (z40_0 nodes t4s_0 t4s_1 ns_0 ns_1 ns_2 ns_3 es_0 es_1 t4_2s e_2s0)) := by kernel_rfl
noncomputable def s_starfree_expression_3 (C : CallF) (nodes : List V) (ns_0 ns_3 : Int) (e_2s : List V) {β : Type} (k0 : (List V) → Option β) : Option β :=
 (C F_starfree_parts [.int .i64 ns_0] []).bind fun r34 =>
  bif (r34.1.toInt : Int) == 2 then
   (C F_starfree_expression [.list T_api_SfNode nodes, .int .i64 ns_3] []).bind fun r35 =>
    bif Nat.ble ((e_2s.length + ([.agg [.int .i64 ((r35.1.cell 0).toInt), .int .i64 ((r35.1.cell 1).toInt), .list T_api_Expr ((r35.1.cell 2).toList)]] : List V).length) * 40) maxBytes then
     k0 (e_2s ++ ([.agg [.int .i64 ((r35.1.cell 0).toInt), .int .i64 ((r35.1.cell 1).toInt), .list T_api_Expr ((r35.1.cell 2).toList)]] : List V))
    else none
  else
   k0 e_2s
noncomputable abbrev z40_2 (c0 c1 : Int) (c2 : List V) : St :=
 mk [(4, .ptr 0 0 0)] [.var [.int .i64 c0, .int .i64 c1, .whole T_api_Expr 1], .arr T_api_Expr c2 false]
noncomputable abbrev q40_2 : List Code := codesAt Try.prog 40 [[1, 1, 1, 1, 1, 0, 0], [1, 1, 1, 1, 1, 0, 1], [1, 1, 1, 1, 1, 1, 0], [1, 1, 1, 1, 1, 1, 1]]
theorem s_starfree_expression_3_eq (C : CallF) (nodes : List V) (t4s_0 t4s_1 ns_0 ns_1 ns_2 ns_3 es_0 es_1 : Int) (t4_2s e_2s : List V) {β : Type} (K : Out → St → Option β) :
 execL Try.prog ann C 40 50 0 (q40_2) (z40_0 nodes t4s_0 t4s_1 ns_0 ns_1 ns_2 ns_3 es_0 es_1 t4_2s e_2s) K =
  s_starfree_expression_3 C nodes ns_0 ns_3 e_2s
   (fun (t4_2s0 : List V) => K .ret (z40_2 es_0 es_1 t4_2s0)) := by kernel_rfl
noncomputable def d40_4 (C : CallF) (nodes : List V) (ns_0 ns_2 ns_3 : Int) (e_2s : List V) {β : Type} (k0 : (List V) → Option β) : Option β :=
 s_starfree_expression_2 C nodes ns_0 ns_2 e_2s
  (fun (e_2s_36 : List V) =>
   s_starfree_expression_3 C nodes ns_0 ns_3 e_2s_36
    (fun (t4_2s_37 : List V) =>
     k0 t4_2s_37))
noncomputable abbrev q40_3 : List Code := codesAt Try.prog 40 [[1, 1, 1, 1, 0, 0], [1, 1, 1, 1, 0, 1], [1, 1, 1, 1, 1, 0, 0], [1, 1, 1, 1, 1, 0, 1], [1, 1, 1, 1, 1, 1, 0], [1, 1, 1, 1, 1, 1, 1]]
theorem h40_4_eq (C : CallF) (nodes : List V) (t4s_0 t4s_1 ns_0 ns_1 ns_2 ns_3 es_0 es_1 : Int) (t4_2s e_2s : List V) {β : Type} (K : Out → St → Option β) :
 execL Try.prog ann C 40 50 0 (q40_3) (z40_0 nodes t4s_0 t4s_1 ns_0 ns_1 ns_2 ns_3 es_0 es_1 t4_2s e_2s) K =
  d40_4 C nodes ns_0 ns_2 ns_3 e_2s
   (fun (t4_2s0 : List V) => K .ret (z40_2 es_0 es_1 t4_2s0)) := by
 refine Eq.trans (execL_app (P := Try.prog) (A := ann) (C := C) (f := 40) (n := 50) (m := 0) (q40_1) (q40_2) (st := z40_0 nodes t4s_0 t4s_1 ns_0 ns_1 ns_2 ns_3 es_0 es_1 t4_2s e_2s) (K := K)) (Eq.trans (s_starfree_expression_2_eq C nodes t4s_0 t4s_1 ns_0 ns_1 ns_2 ns_3 es_0 es_1 t4_2s e_2s (seqK Try.prog ann C 40 50 0 (q40_2) K)) ?_)
 · exact Eq.trans (by kernel_rfl) (Eq.trans (congrArg (fun HOLE : (List V) → Option β => s_starfree_expression_2 C nodes ns_0 ns_2 e_2s HOLE) (funext fun (e_2s0 : List V) => s_starfree_expression_3_eq C nodes t4s_0 t4s_1 ns_0 ns_1 ns_2 ns_3 es_0 es_1 t4_2s e_2s0 K)) ((by kernel_rfl)))
noncomputable def d40_5 (C : CallF) (nodes : List V) (i : Int) {β : Type} (k0 : Int → Int → (List V) → Option β) : Option β :=
 s_starfree_expression_1 C nodes i
  (fun (ns_40 : Int) (ns_41 : Int) (ns_42 : Int) (ns_43 : Int) (es_44 : Int) (es_45 : Int) (e_2s_46 : List V) =>
   d40_4 C nodes ns_40 ns_42 ns_43 e_2s_46
    (fun (t4_2s_47 : List V) =>
     k0 es_44 es_45 t4_2s_47))
noncomputable abbrev q40_4 : List Code := codesAt Try.prog 40 [[0], [1, 0], [1, 1, 0], [1, 1, 1, 0, 0], [1, 1, 1, 0, 1], [1, 1, 1, 1, 0, 0], [1, 1, 1, 1, 0, 1], [1, 1, 1, 1, 1, 0, 0], [1, 1, 1, 1, 1, 0, 1], [1, 1, 1, 1, 1, 1, 0], [1, 1, 1, 1, 1, 1, 1]]
theorem h40_5_eq (C : CallF) (nodes : List V) (i : Int) {β : Type} (K : Out → St → Option β) :
 execL Try.prog ann C 40 50 0 (q40_4) (z40_1 nodes i) K =
  d40_5 C nodes i
   (fun (t4s_00 : Int) (t4s_10 : Int) (t4_2s0 : List V) => K .ret (z40_2 t4s_00 t4s_10 t4_2s0)) := by
 refine Eq.trans (execL_app (P := Try.prog) (A := ann) (C := C) (f := 40) (n := 50) (m := 0) (q40_0) (q40_3) (st := z40_1 nodes i) (K := K)) (Eq.trans (s_starfree_expression_1_eq C nodes i (seqK Try.prog ann C 40 50 0 (q40_3) K)) ?_)
 · exact Eq.trans (by kernel_rfl) (Eq.trans (congrArg (fun HOLE : Int → Int → Int → Int → Int → Int → (List V) → Option β => s_starfree_expression_1 C nodes i HOLE) (funext fun (ns_00 : Int) => funext fun (ns_10 : Int) => funext fun (ns_20 : Int) => funext fun (ns_30 : Int) => funext fun (es_00 : Int) => funext fun (es_10 : Int) => funext fun (e_2s0 : List V) => h40_4_eq C nodes 0 0 ns_00 ns_10 ns_20 ns_30 es_00 es_10 ([] : List V) e_2s0 K)) ((by kernel_rfl)))
noncomputable def f_starfree_expression (C : CallF) (nodes : List V) (i : Int) : Option (V × List V) :=
 s_starfree_expression_1 C nodes i
  (fun (ns_48 : Int) (ns_49 : Int) (ns_50 : Int) (ns_51 : Int) (es_52 : Int) (es_53 : Int) (e_2s_54 : List V) =>
   s_starfree_expression_2 C nodes ns_48 ns_50 e_2s_54
    (fun (e_2s_38 : List V) =>
     s_starfree_expression_3 C nodes ns_48 ns_51 e_2s_38
      (fun (t4_2s_39 : List V) =>
       some (.agg [.int .i64 es_52, .int .i64 es_53, .own T_api_Expr t4_2s_39], []))))
theorem f_starfree_expression_eq (C : CallF) (nodes : List V) (i : Int) : bodyK Try.prog ann C 40 [.list T_api_SfNode nodes, .int .i64 i] [] = f_starfree_expression C nodes i :=
 Eq.trans (bodyK_fin (by kernel_rfl)) (Eq.trans (execK_items (by kernel_rfl)) (Eq.trans (h40_5_eq C nodes i (finK Try.prog ann C 40 [])) (by kernel_rfl)))
theorem f_starfree_expression_of {nodes : List V} {i : Int} {r : V × List V} (h : f_starfree_expression CC nodes i = some r) : CC F_starfree_expression [.list T_api_SfNode nodes, .int .i64 i] [] = some r :=
 Call_of_body ((bodyK_eq ..).trans ((f_starfree_expression_eq ..).trans h))
end Go.AM

set_option maxRecDepth 100000
namespace Go.AM
open Go.Proofs
/-! semigroup/semigroupref31.expression -/
noncomputable def s_semigroupref31_expression_1 (C : CallF) (g_Nodes : List V) (g_Root i : Int) {β : Type} (k0 : Int → Int → (List V) → Option β) (k1 : Int → Int → Int → Int → Int → Option β) : Option β :=
 (idx g_Nodes i).bind fun x9 =>
  bif (((x9.cell 0).toInt) : Int) == 1 then
   k0 1 0 ([] : List V)
  else
   bif (((x9.cell 0).toInt) : Int) == 2 then
    k0 2 0 ([] : List V)
   else
    bif (((x9.cell 0).toInt) : Int) == 3 then
     k0 3 ((x9.cell 1).toInt) ([] : List V)
    else
     bif (((x9.cell 0).toInt) : Int) == 4 then
      k0 8 0 ([.agg [.int .i64 1, .int .i64 0, .list T_api_Expr ([] : List V)]] : List V)
     else
      bif (((x9.cell 0).toInt) : Int) == 8 then
       (C F_semigroupref31_expression [.agg [.list T_api_SfNode g_Nodes, .int .i64 g_Root], .int .i64 ((x9.cell 2).toInt)] []).bind fun r10 =>
        k0 8 0 ([.agg [.int .i64 ((r10.1.cell 0).toInt), .int .i64 ((r10.1.cell 1).toInt), .list T_api_Expr ((r10.1.cell 2).toList)]] : List V)
      else
       bif (((x9.cell 0).toInt) : Int) == 5 then
        k1 4 ((x9.cell 0).toInt) ((x9.cell 1).toInt) ((x9.cell 2).toInt) ((x9.cell 3).toInt)
       else
        k1 5 ((x9.cell 0).toInt) ((x9.cell 1).toInt) ((x9.cell 2).toInt) ((x9.cell 3).toInt)
noncomputable abbrev z42_0 (c0 c1 : Int) (c2 : List V) : St :=
 mk [(4, .ptr 0 0 0)] [.var [.int .i64 c0, .int .i64 c1, .whole T_api_Expr 1], .arr T_api_Expr c2 false]
noncomputable abbrev z42_1 (c0 : Int) (c1 : List V) (c2 c3 c4 c5 c6 c7 c8 : Int) (c9 : List V) : St :=
 mk [(2, .ptr 0 0 0), (4, .ptr 1 0 0), (5, .ptr 2 0 0), (6, .int .i64 c0)] [.var [.list T_api_SfNode c1, .int .i64 c2], .var [.int .i64 c3, .int .i64 c4, .whole T_api_Expr 3], .var [.int .i64 c5, .int .i64 c6, .int .i64 c7, .int .i64 c8], .arr T_api_Expr c9 false]
noncomputable abbrev q42_0 : List Code := codesAt Try.prog 42 [[0], [1, 0], [1, 1, 0, 0], [1, 1, 0, 1], [1, 1, 1, 0], [1, 1, 1, 1, 0, 0], [1, 1, 1, 1, 0, 1]]
noncomputable abbrev z42_2 (c0 : List V) (c1 c2 : Int) : St :=
 mk [(0, .agg [.list T_api_SfNode c0, .int .i64 c1]), (1, .int .i64 c2)] []
theorem s_semigroupref31_expression_1_eq (C : CallF) (g_Nodes : List V) (g_Root i : Int) {β : Type} (K : Out → St → Option β) :
 execL Try.prog ann C 42 55 0 (q42_0) (z42_2 g_Nodes g_Root i) K =
  s_semigroupref31_expression_1 C g_Nodes g_Root i
   (fun (t4s_00 : Int) (t4s_10 : Int) (t4_2s0 : List V) => K .ret (z42_0 t4s_00 t4s_10 t4_2s0))
   (fun (op1 : Int) (xs_01 : Int) (xs_11 : Int) (xs_21 : Int) (xs_31 : Int) => K .norm (z42_1 op1 g_Nodes g_Root 0 0 xs_01 xs_11 xs_21 xs_31 ([] : List V))) := by kernel_rfl
noncomputable def s_semigroupref31_expression_2 (C : CallF) (op : Int) (gs_0 : List V) (gs_1 xs_0 xs_2 xs_3 : Int) {β : Type} (k0 : Int → (List V) → Option β) : Option β :=
 bif (xs_0 : Int) == 6 then
  (C F_semigroupref31_expression [.agg [.list T_api_SfNode gs_0, .int .i64 gs_1], .int .i64 xs_2] []).bind fun r17 =>
   (C F_semigroupref31_expression [.agg [.list T_api_SfNode gs_0, .int .i64 gs_1], .int .i64 xs_3] []).bind fun r18 =>
    k0 6 ([.agg [.int .i64 ((r17.1.cell 0).toInt), .int .i64 ((r17.1.cell 1).toInt), .list T_api_Expr ((r17.1.cell 2).toList)], .agg [.int .i64 ((r18.1.cell 0).toInt), .int .i64 ((r18.1.cell 1).toInt), .list T_api_Expr ((r18.1.cell 2).toList)]] : List V)
 else
  (C F_semigroupref31_expression [.agg [.list T_api_SfNode gs_0, .int .i64 gs_1], .int .i64 xs_2] []).bind fun r19 =>
   (C F_semigroupref31_expression [.agg [.list T_api_SfNode gs_0, .int .i64 gs_1], .int .i64 xs_3] []).bind fun r20 =>
    k0 op ([.agg [.int .i64 ((r19.1.cell 0).toInt), .int .i64 ((r19.1.cell 1).toInt), .list T_api_Expr ((r19.1.cell 2).toList)], .agg [.int .i64 ((r20.1.cell 0).toInt), .int .i64 ((r20.1.cell 1).toInt), .list T_api_Expr ((r20.1.cell 2).toList)]] : List V)
noncomputable abbrev q42_1 : List Code := codesAt Try.prog 42 [[1, 1, 1, 1, 1, 0, 0], [1, 1, 1, 1, 1, 0, 1], [1, 1, 1, 1, 1, 1, 0], [1, 1, 1, 1, 1, 1, 1]]
theorem s_semigroupref31_expression_2_eq (C : CallF) (op : Int) (gs_0 : List V) (gs_1 t4s_0 t4s_1 xs_0 xs_1 xs_2 xs_3 : Int) (t4_2s : List V) {β : Type} (K : Out → St → Option β) :
 execL Try.prog ann C 42 55 0 (q42_1) (z42_1 op gs_0 gs_1 t4s_0 t4s_1 xs_0 xs_1 xs_2 xs_3 t4_2s) K =
  s_semigroupref31_expression_2 C op gs_0 gs_1 xs_0 xs_2 xs_3
   (fun (t4s_00 : Int) (t4_2s0 : List V) => K .ret (z42_0 t4s_00 0 t4_2s0)) := by kernel_rfl
noncomputable def d42_3 (C : CallF) (g_Nodes : List V) (g_Root i : Int) {β : Type} (k0 : Int → Int → (List V) → Option β) : Option β :=
 s_semigroupref31_expression_1 C g_Nodes g_Root i
  (fun (t4s_21 : Int) (t4s_22 : Int) (t4_2s_23 : List V) =>
   k0 t4s_21 t4s_22 t4_2s_23)
  (fun (op_24 : Int) (xs_25 : Int) (xs_26 : Int) (xs_27 : Int) (xs_28 : Int) =>
   s_semigroupref31_expression_2 C op_24 g_Nodes g_Root xs_25 xs_27 xs_28
    (fun (t4s_29 : Int) (t4_2s_30 : List V) =>
     k0 t4s_29 0 t4_2s_30))
noncomputable abbrev q42_2 : List Code := codesAt Try.prog 42 [[0], [1, 0], [1, 1, 0, 0], [1, 1, 0, 1], [1, 1, 1, 0], [1, 1, 1, 1, 0, 0], [1, 1, 1, 1, 0, 1], [1, 1, 1, 1, 1, 0, 0], [1, 1, 1, 1, 1, 0, 1], [1, 1, 1, 1, 1, 1, 0], [1, 1, 1, 1, 1, 1, 1]]
theorem h42_3_eq (C : CallF) (g_Nodes : List V) (g_Root i : Int) {β : Type} (K : Out → St → Option β) :
 execL Try.prog ann C 42 55 0 (q42_2) (z42_2 g_Nodes g_Root i) K =
  d42_3 C g_Nodes g_Root i
   (fun (t4s_00 : Int) (t4s_10 : Int) (t4_2s0 : List V) => K .ret (z42_0 t4s_00 t4s_10 t4_2s0)) := by
 refine Eq.trans (execL_app (P := Try.prog) (A := ann) (C := C) (f := 42) (n := 55) (m := 0) (q42_0) (q42_1) (st := z42_2 g_Nodes g_Root i) (K := K)) (Eq.trans (s_semigroupref31_expression_1_eq C g_Nodes g_Root i (seqK Try.prog ann C 42 55 0 (q42_1) K)) ?_)
 · exact Eq.trans (by kernel_rfl) (Eq.trans (congrArg (fun HOLE : Int → Int → Int → Int → Int → Option β => s_semigroupref31_expression_1 C g_Nodes g_Root i (fun (t4s_00 : Int) (t4s_10 : Int) (t4_2s0 : List V) => K .ret (z42_0 t4s_00 t4s_10 t4_2s0)) HOLE) (funext fun (op1 : Int) => funext fun (xs_01 : Int) => funext fun (xs_11 : Int) => funext fun (xs_21 : Int) => funext fun (xs_31 : Int) => s_semigroupref31_expression_2_eq C op1 g_Nodes g_Root 0 0 xs_01 xs_11 xs_21 xs_31 ([] : List V) K)) ((by kernel_rfl)))
noncomputable def f_semigroupref31_expression (C : CallF) (g_Nodes : List V) (g_Root i : Int) : Option (V × List V) :=
 s_semigroupref31_expression_1 C g_Nodes g_Root i
  (fun (t4s_31 : Int) (t4s_32 : Int) (t4_2s_33 : List V) =>
   some (.agg [.int .i64 t4s_31, .int .i64 t4s_32, .own T_api_Expr t4_2s_33], []))
  (fun (op_34 : Int) (xs_35 : Int) (xs_36 : Int) (xs_37 : Int) (xs_38 : Int) =>
   s_semigroupref31_expression_2 C op_34 g_Nodes g_Root xs_35 xs_37 xs_38
    (fun (t4s_39 : Int) (t4_2s_40 : List V) =>
     some (.agg [.int .i64 t4s_39, .int .i64 0, .own T_api_Expr t4_2s_40], [])))
theorem f_semigroupref31_expression_eq (C : CallF) (g_Nodes : List V) (g_Root i : Int) : bodyK Try.prog ann C 42 [.agg [.list T_api_SfNode g_Nodes, .int .i64 g_Root], .int .i64 i] [] = f_semigroupref31_expression C g_Nodes g_Root i :=
 Eq.trans (bodyK_fin (by kernel_rfl)) (Eq.trans (execK_items (by kernel_rfl)) (Eq.trans (h42_3_eq C g_Nodes g_Root i (finK Try.prog ann C 42 [])) (by kernel_rfl)))
theorem f_semigroupref31_expression_of {g_Nodes : List V} {g_Root : Int} {i : Int} {r : V × List V} (h : f_semigroupref31_expression CC g_Nodes g_Root i = some r) : CC F_semigroupref31_expression [.agg [.list T_api_SfNode g_Nodes, .int .i64 g_Root], .int .i64 i] [] = some r :=
 Call_of_body ((bodyK_eq ..).trans ((f_semigroupref31_expression_eq ..).trans h))
end Go.AM

set_option maxRecDepth 100000
namespace Go.AM
open Go.Proofs
/-! semigroup/starfree.ToExpr -/
noncomputable def s_starfree_ToExpr_1 (C : CallF) (g_Nodes : List V) (g_Root letters : Int) {β : Type} (k0 : Int → Int → Int → (List V) → Option β) : Option β :=
 (C F_starfree_Validate [.agg [.list T_api_SfNode g_Nodes, .int .i64 g_Root], .int .i64 letters] []).bind fun r8 =>
  bif (r8.1.toInt : Int) != 0 then
   k0 r8.1.toInt 0 0 ([] : List V)
  else
   (C F_starfree_measure [.agg [.list T_api_SfNode g_Nodes, .int .i64 g_Root]] []).bind fun r9 =>
    bif decide ((((r9.1.comp 0).toInt) : Int) > 400) then
     k0 3 0 0 ([] : List V)
    else
     bif decide ((((r9.1.comp 1).toInt) : Int) > 40) then
      k0 3 0 0 ([] : List V)
     else
      (C F_starfree_expression [.list T_api_SfNode g_Nodes, .int .i64 g_Root] []).bind fun r10 =>
       k0 0 ((r10.1.cell 0).toInt) ((r10.1.cell 1).toInt) ((r10.1.cell 2).toList)
noncomputable abbrev z27_0 (c0 c1 c2 : Int) (c3 : List V) : St :=
 mk [(4, .ptr 0 0 0), (5, .int .i64 c0)] [.var [.int .i64 c1, .int .i64 c2, .whole T_api_Expr 1], .arr T_api_Expr c3 false]
noncomputable abbrev q27_0 : List Code := codesAt Try.prog 27 [[0], [1, 0, 0], [1, 0, 1, 0], [1, 0, 1, 1], [1, 1, 0, 0], [1, 1, 0, 1, 0], [1, 1, 0, 1, 1], [1, 1, 1, 0], [1, 1, 1, 1]]
noncomputable abbrev z27_1 (c0 : List V) (c1 c2 : Int) : St :=
 mk [(0, .agg [.list T_api_SfNode c0, .int .i64 c1]), (1, .int .i64 c2)] []
theorem s_starfree_ToExpr_1_eq (C : CallF) (g_Nodes : List V) (g_Root letters : Int) {β : Type} (K : Out → St → Option β) :
 execL Try.prog ann C 27 33 0 (q27_0) (z27_1 g_Nodes g_Root letters) K =
  s_starfree_ToExpr_1 C g_Nodes g_Root letters
   (fun (t50 : Int) (t4s_00 : Int) (t4s_10 : Int) (t4_2s0 : List V) => K .ret (z27_0 t50 t4s_00 t4s_10 t4_2s0)) := by kernel_rfl
noncomputable def f_starfree_ToExpr (C : CallF) (g_Nodes : List V) (g_Root letters : Int) : Option (V × List V) :=
 s_starfree_ToExpr_1 C g_Nodes g_Root letters
  (fun (t_11 : Int) (t4s_12 : Int) (t4s_13 : Int) (t4_2s_14 : List V) =>
   some (.tup [.agg [.int .i64 t4s_12, .int .i64 t4s_13, .own T_api_Expr t4_2s_14], .int .i64 t_11], []))
theorem f_starfree_ToExpr_eq (C : CallF) (g_Nodes : List V) (g_Root letters : Int) : bodyK Try.prog ann C 27 [.agg [.list T_api_SfNode g_Nodes, .int .i64 g_Root], .int .i64 letters] [] = f_starfree_ToExpr C g_Nodes g_Root letters :=
 Eq.trans (bodyK_fin (by kernel_rfl)) (Eq.trans (execK_items (by kernel_rfl)) (Eq.trans (s_starfree_ToExpr_1_eq C g_Nodes g_Root letters (finK Try.prog ann C 27 [])) (by kernel_rfl)))
theorem f_starfree_ToExpr_of {g_Nodes : List V} {g_Root : Int} {letters : Int} {r : V × List V} (h : f_starfree_ToExpr CC g_Nodes g_Root letters = some r) : CC F_starfree_ToExpr [.agg [.list T_api_SfNode g_Nodes, .int .i64 g_Root], .int .i64 letters] [] = some r :=
 Call_of_body ((bodyK_eq ..).trans ((f_starfree_ToExpr_eq ..).trans h))
end Go.AM

set_option maxRecDepth 100000
namespace Go.AM
open Go.Proofs
/-! semigroup/semigroupref31.ToExpr -/
noncomputable def s_semigroupref31_ToExpr_1 (C : CallF) (g_Nodes : List V) (g_Root letters : Int) {β : Type} (k0 : Int → Int → Int → (List V) → Option β) : Option β :=
 (C F_semigroupref31_Validate [.agg [.list T_api_SfNode g_Nodes, .int .i64 g_Root], .int .i64 letters] []).bind fun r8 =>
  bif (r8.1.toInt : Int) != 0 then
   k0 r8.1.toInt 0 0 ([] : List V)
  else
   (C F_semigroupref31_Measure [.agg [.list T_api_SfNode g_Nodes, .int .i64 g_Root]] []).bind fun r9 =>
    bif decide ((((r9.1.comp 0).toInt) : Int) > 400) then
     k0 3 0 0 ([] : List V)
    else
     bif decide ((((r9.1.comp 1).toInt) : Int) > 40) then
      k0 3 0 0 ([] : List V)
     else
      (C F_semigroupref31_expression [.agg [.list T_api_SfNode g_Nodes, .int .i64 g_Root], .int .i64 g_Root] []).bind fun r10 =>
       k0 0 ((r10.1.cell 0).toInt) ((r10.1.cell 1).toInt) ((r10.1.cell 2).toList)
noncomputable abbrev z28_0 (c0 c1 c2 : Int) (c3 : List V) : St :=
 mk [(4, .ptr 0 0 0), (5, .int .i64 c0)] [.var [.int .i64 c1, .int .i64 c2, .whole T_api_Expr 1], .arr T_api_Expr c3 false]
noncomputable abbrev q28_0 : List Code := codesAt Try.prog 28 [[0], [1, 0, 0], [1, 0, 1, 0], [1, 0, 1, 1], [1, 1, 0, 0], [1, 1, 0, 1, 0], [1, 1, 0, 1, 1], [1, 1, 1, 0], [1, 1, 1, 1]]
noncomputable abbrev z28_1 (c0 : List V) (c1 c2 : Int) : St :=
 mk [(0, .agg [.list T_api_SfNode c0, .int .i64 c1]), (1, .int .i64 c2)] []
theorem s_semigroupref31_ToExpr_1_eq (C : CallF) (g_Nodes : List V) (g_Root letters : Int) {β : Type} (K : Out → St → Option β) :
 execL Try.prog ann C 28 32 0 (q28_0) (z28_1 g_Nodes g_Root letters) K =
  s_semigroupref31_ToExpr_1 C g_Nodes g_Root letters
   (fun (t50 : Int) (t4s_00 : Int) (t4s_10 : Int) (t4_2s0 : List V) => K .ret (z28_0 t50 t4s_00 t4s_10 t4_2s0)) := by kernel_rfl
noncomputable def f_semigroupref31_ToExpr (C : CallF) (g_Nodes : List V) (g_Root letters : Int) : Option (V × List V) :=
 s_semigroupref31_ToExpr_1 C g_Nodes g_Root letters
  (fun (t_11 : Int) (t4s_12 : Int) (t4s_13 : Int) (t4_2s_14 : List V) =>
   some (.tup [.agg [.int .i64 t4s_12, .int .i64 t4s_13, .own T_api_Expr t4_2s_14], .int .i64 t_11], []))
theorem f_semigroupref31_ToExpr_eq (C : CallF) (g_Nodes : List V) (g_Root letters : Int) : bodyK Try.prog ann C 28 [.agg [.list T_api_SfNode g_Nodes, .int .i64 g_Root], .int .i64 letters] [] = f_semigroupref31_ToExpr C g_Nodes g_Root letters :=
 Eq.trans (bodyK_fin (by kernel_rfl)) (Eq.trans (execK_items (by kernel_rfl)) (Eq.trans (s_semigroupref31_ToExpr_1_eq C g_Nodes g_Root letters (finK Try.prog ann C 28 [])) (by kernel_rfl)))
theorem f_semigroupref31_ToExpr_of {g_Nodes : List V} {g_Root : Int} {letters : Int} {r : V × List V} (h : f_semigroupref31_ToExpr CC g_Nodes g_Root letters = some r) : CC F_semigroupref31_ToExpr [.agg [.list T_api_SfNode g_Nodes, .int .i64 g_Root], .int .i64 letters] [] = some r :=
 Call_of_body ((bodyK_eq ..).trans ((f_semigroupref31_ToExpr_eq ..).trans h))
end Go.AM

/-
 Expressions as trees, and the expression of a node.
-/
namespace Go.AM
open Go.Proofs
inductive Ex where
 | mk (op letter : Int) (kids : List Ex)
mutual
def Ex.v : Ex → V
 | .mk op letter kids => .agg [.int .i64 op, .int .i64 letter, .list T_api_Expr (exsV kids)]
def exsV : List Ex → List V
 | [] => []
 | e :: es => e.v :: exsV es
end
/-- The value of a fresh expression. -/
def Ex.o : Ex → V
 | .mk op letter kids => .agg [.int .i64 op, .int .i64 letter, .own T_api_Expr (exsV kids)]
theorem exsV_map (es : List Ex) : exsV es = es.map Ex.v := by
 induction es with
 | nil => simp only [exsV, List.map_nil]
 | cons e es ih => simp only [exsV, List.map_cons, ih]
theorem exsV_append (a b : List Ex) : exsV (a ++ b) = exsV a ++ exsV b := by simp only [exsV_map, List.map_append]
theorem Ex.frz (e : Ex) : V.agg [.int .i64 ((e.o.cell 0).toInt), .int .i64 ((e.o.cell 1).toInt), .list T_api_Expr ((e.o.cell 2).toList)] = e.v := by
 cases e
 simp only [Ex.o, Ex.v, V.cell_agg, V.nth_zero, V.nth_one, V.nth_two, V.toInt_int]
 rfl
def opN (op : Int) : Int := if op = 1 then 1 else if op = 2 then 2 else if op = 3 then 3 else if op = 5 then 4 else if op = 6 then 6 else if op = 7 then 5 else 8
def exF (l : List Node) : Nat → Nat → Ex
 | 0, _ => .mk 0 0 []
 | n + 1, i =>
  match l[i]? with
  | none => .mk 0 0 []
  | some x => .mk (opN x.op) x.letter ((if x.op = 4 then [.mk 1 0 []] else []) ++ (if 5 ≤ x.op then [exF l n x.a.toNat] else []) ++ (if 5 ≤ x.op ∧ x.op ≠ 8 then [exF l n x.b.toNat] else []))
def ex (l : List Node) (i : Nat) : Ex := exF l (i + 1) i
section
variable {letters : Int} {l : List Node}
theorem exF_stable (hl : Valid letters l) : ∀ (n m i : Nat), i < n → i < m → exF l n i = exF l m i := by
 intro n
 induction n with
 | zero => intro m i h; omega
 | succ n ih =>
  intro m i h1 h2
  obtain ⟨m, rfl⟩ : ∃ k, m = k + 1 := ⟨m - 1, by omega⟩
  unfold exF
  cases hx : l[i]? with
  | none => rfl
  | some x =>
   have ok := nodeOk_iff.1 (hl.node hx)
   simp only
   have ha : (if 5 ≤ x.op then [exF l n x.a.toNat] else []) = (if 5 ≤ x.op then [exF l m x.a.toNat] else []) := by
    split
    · rename_i h; have := ok.a h; rw [ih m _ (by omega) (by omega)]
    · rfl
   have hb : (if 5 ≤ x.op ∧ x.op ≠ 8 then [exF l n x.b.toNat] else []) = (if 5 ≤ x.op ∧ x.op ≠ 8 then [exF l m x.b.toNat] else []) := by
    split
    · rename_i h; have := ok.b h.1 h.2; rw [ih m _ (by omega) (by omega)]
    · rfl
   rw [ha, hb]
theorem ex_eq (hl : Valid letters l) {i : Nat} {x : Node} (hx : l[i]? = some x) :
 ex l i = .mk (opN x.op) x.letter ((if x.op = 4 then [.mk 1 0 []] else []) ++ (if 5 ≤ x.op then [ex l x.a.toNat] else []) ++ (if 5 ≤ x.op ∧ x.op ≠ 8 then [ex l x.b.toNat] else [])) := by
 have ok := nodeOk_iff.1 (hl.node hx)
 conv => lhs; unfold ex exF
 rw [hx]
 simp only
 have ha : (if 5 ≤ x.op then [exF l i x.a.toNat] else []) = (if 5 ≤ x.op then [ex l x.a.toNat] else []) := by
  split
  · rename_i h; have := ok.a h; rw [exF_stable hl i (x.a.toNat + 1) _ (by omega) (by omega)]; rfl
  · rfl
 have hb : (if 5 ≤ x.op ∧ x.op ≠ 8 then [exF l i x.b.toNat] else []) = (if 5 ≤ x.op ∧ x.op ≠ 8 then [ex l x.b.toNat] else []) := by
  split
  · rename_i h; have := ok.b h.1 h.2; rw [exF_stable hl i (x.b.toNat + 1) _ (by omega) (by omega)]; rfl
  · rfl
 rw [ha, hb]
end
theorem operation_spec (op : Int) : CC F_starfree_operation [.int .i64 op] [] = some (.int .i64 (opN op), []) := by
 refine f_starfree_operation_of ?_
 unfold f_starfree_operation s_starfree_operation_1 opN
 simp only [bif_beq]
 repeat' split
 all_goals rfl
theorem expression_spec {letters : Int} {l : List Node} (hl : Valid letters l) (i : Nat) (hi : i < l.length) :
 CC F_starfree_expression [.list T_api_SfNode (nodesV l), .int .i64 (i : Int)] [] = some ((ex l i).o, []) := by
 induction i using Nat.strongRecOn with
 | ind i ih =>
  have hx : l[i]? = some l[i] := List.getElem?_eq_getElem hi
  have ok := nodeOk_iff.1 (hl.node hx)
  generalize l[i] = x at hx ok
  rw [ex_eq hl hx]
  refine f_starfree_expression_of ?_
  unfold f_starfree_expression
  have hidx : idx (nodesV l) (i : Int) = some x.v := by
   rw [idx_map (n := i) rfl hi]
   rw [List.getElem?_eq_getElem hi] at hx
   rw [Option.some.inj hx]
  have k1 : ∀ {β : Type} (k : Int → Int → Int → Int → Int → Int → List V → Option β), s_starfree_expression_1 CC (nodesV l) (i : Int) k = k x.op x.letter x.a x.b (opN x.op) x.letter (exsV (if x.op = 4 then [.mk 1 0 []] else [])) := by
   intro β k
   unfold s_starfree_expression_1
   rw [hidx]
   simp only [Option.bind_some, Node.v, V.cell_agg, V.nth_zero, V.nth_one, V.nth_two, V.nth_three, V.toInt_int, bif_beq, operation_spec]
   split
   · simp only [exsV, Ex.v]
   · simp only [exsV]
  have k2 : ∀ {β : Type} (es : List Ex) (k : List V → Option β), es.length ≤ 1 → s_starfree_expression_2 CC (nodesV l) x.op x.a (exsV es) k = k (exsV (es ++ (if 5 ≤ x.op then [ex l x.a.toNat] else []))) := by
   intro β es k hes
   unfold s_starfree_expression_2
   simp only [parts_spec, Option.bind_some, V.toInt_int, bif_decide, bif_ble]
   by_cases h5 : 5 ≤ x.op
   · have oa := ok.a h5
     have e : ((x.a.toNat : Nat) : Int) = x.a := by omega
     have hc := ih x.a.toNat (by omega) (by omega)
     rw [e] at hc
     rw [if_pos (by rw [ge_iff_le, partsN_one ok.op]; exact h5), hc, Option.bind_some, Ex.frz, if_pos (by simp [exsV_map, maxBytes]; omega), if_pos h5, exsV_append]
     rfl
   · rw [if_neg (by rw [ge_iff_le, partsN_one ok.op]; exact h5), if_neg h5, List.append_nil]
  have k3 : ∀ {β : Type} (es : List Ex) (k : List V → Option β), es.length ≤ 2 → s_starfree_expression_3 CC (nodesV l) x.op x.b (exsV es) k = k (exsV (es ++ (if 5 ≤ x.op ∧ x.op ≠ 8 then [ex l x.b.toNat] else []))) := by
   intro β es k hes
   unfold s_starfree_expression_3
   simp only [parts_spec, Option.bind_some, V.toInt_int, bif_beq, bif_ble]
   by_cases h5 : 5 ≤ x.op ∧ x.op ≠ 8
   · have ob := ok.b h5.1 h5.2
     have e : ((x.b.toNat : Nat) : Int) = x.b := by omega
     have hc := ih x.b.toNat (by omega) (by omega)
     rw [e] at hc
     rw [if_pos (by rw [partsN_two ok.op]; exact h5), hc, Option.bind_some, Ex.frz, if_pos (by simp [exsV_map, maxBytes]; omega), if_pos h5, exsV_append]
     rfl
   · rw [if_neg (by rw [partsN_two ok.op]; exact h5), if_neg h5, List.append_nil]
  rw [k1, k2 _ _ (by split <;> simp), k3 _ _ (by split <;> split <;> simp)]
  rfl
theorem refExpression_spec {letters : Int} {l : List Node} (root : Int) (hl : Valid letters l) (i : Nat) (hi : i < l.length) :
 CC F_semigroupref31_expression [graphV l root, .int .i64 (i : Int)] [] = some ((ex l i).o, []) := by
 induction i using Nat.strongRecOn with
 | ind i ih =>
  have hx : l[i]? = some l[i] := List.getElem?_eq_getElem hi
  have ok := nodeOk_iff.1 (hl.node hx)
  generalize l[i] = x at hx ok
  rw [ex_eq hl hx]
  refine f_semigroupref31_expression_of ?_
  unfold f_semigroupref31_expression s_semigroupref31_expression_1
  have hidx : idx (nodesV l) (i : Int) = some x.v := by
   rw [idx_map (n := i) rfl hi]
   rw [List.getElem?_eq_getElem hi] at hx
   rw [Option.some.inj hx]
  rw [hidx]
  have ca : 5 ≤ x.op → CC F_semigroupref31_expression [graphV l root, .int .i64 x.a] [] = some ((ex l x.a.toNat).o, []) := by
   intro h5
   have oa := ok.a h5
   have hc := ih x.a.toNat (by omega) (by omega)
   rwa [show ((x.a.toNat : Nat) : Int) = x.a by omega] at hc
  have cb : 5 ≤ x.op → x.op ≠ 8 → CC F_semigroupref31_expression [graphV l root, .int .i64 x.b] [] = some ((ex l x.b.toNat).o, []) := by
   intro h5 h8
   have oa := ok.b h5 h8
   have hc := ih x.b.toNat (by omega) (by omega)
   rwa [show ((x.b.toNat : Nat) : Int) = x.b by omega] at hc
  simp only [Option.bind_some, Node.v, V.cell_agg, V.nth_zero, V.nth_one, V.nth_two, V.nth_three, V.toInt_int, bif_beq]
  have hop := ok.op
  have hlet := ok.noLetter
  have hcases : x.op = 1 ∨ x.op = 2 ∨ x.op = 3 ∨ x.op = 4 ∨ x.op = 5 ∨ x.op = 6 ∨ x.op = 7 ∨ x.op = 8 := by omega
  rcases hcases with h | h | h | h | h | h | h | h
  · have h0 := hlet (by omega)
    simp [h, h0, opN, Ex.o, exsV]
  · have h0 := hlet (by omega)
    simp [h, h0, opN, Ex.o, exsV]
  · simp [h, opN, Ex.o, exsV]
  · have h0 := hlet (by omega)
    simp [h, h0, opN, Ex.o, exsV, Ex.v]
  · have h0 := hlet (by omega)
    have ca := ca (by omega)
    have cb := cb (by omega) (by omega)
    unfold s_semigroupref31_expression_2
    simp only [h, h0, ca, cb, Option.bind_some, Ex.frz, bif_beq]
    simp [opN, Ex.o, exsV]
  · have h0 := hlet (by omega)
    have ca := ca (by omega)
    have cb := cb (by omega) (by omega)
    unfold s_semigroupref31_expression_2
    simp only [h, h0, ca, cb, Option.bind_some, Ex.frz, bif_beq]
    simp [opN, Ex.o, exsV]
  · have h0 := hlet (by omega)
    have ca := ca (by omega)
    have cb := cb (by omega) (by omega)
    unfold s_semigroupref31_expression_2
    simp only [h, h0, ca, cb, Option.bind_some, Ex.frz, bif_beq]
    simp [opN, Ex.o, exsV]
  · have h0 := hlet (by omega)
    have ca := ca (by omega)
    simp only [h, h0, ca, Option.bind_some, Ex.frz]
    simp [opN, Ex.o, exsV]
end Go.AM

set_option maxRecDepth 100000
namespace Go.AM
open Go.Proofs
/-! semigroup/semigroupref04.Compare -/
noncomputable def s_semigroupref04_Compare_1 (C : CallF) (a_Op a_Letter b_Op b_Letter : Int) {β : Type} (k0 : Int → Option β) (k1 : Option β) : Option β :=
 bif (a_Op : Int) != b_Op then
  (C F_semigroupref04_sign [.bool (decide ((a_Op : Int) < b_Op))] []).bind fun r3 =>
   k0 r3.1.toInt
 else
  bif (a_Letter : Int) != b_Letter then
   (C F_semigroupref04_sign [.bool (decide ((a_Letter : Int) < b_Letter))] []).bind fun r4 =>
    k0 r4.1.toInt
  else
   k1
noncomputable abbrev z32_0 (c0 : Int) : St :=
 mk [(4, .int .i64 c0)] []
noncomputable abbrev z32_1 (c0 c1 c2 : Int) (c3 : List V) (c4 c5 : Int) (c6 : List V) : St :=
 mk [(2, .ptr 0 0 0), (3, .ptr 1 0 0), (5, .int .i64 c0)] [.var [.int .i64 c1, .int .i64 c2, .list T_api_Expr c3], .var [.int .i64 c4, .int .i64 c5, .list T_api_Expr c6]]
noncomputable abbrev q32_0 : List Code := codesAt Try.prog 32 [[0], [1, 0], [1, 1, 0, 0]]
noncomputable abbrev z32_2 (c0 c1 : Int) (c2 : List V) (c3 c4 : Int) (c5 : List V) : St :=
 mk [(0, .agg [.int .i64 c0, .int .i64 c1, .list T_api_Expr c2]), (1, .agg [.int .i64 c3, .int .i64 c4, .list T_api_Expr c5])] []
theorem s_semigroupref04_Compare_1_eq (C : CallF) (a_Op a_Letter : Int) (a_Kids : List V) (b_Op b_Letter : Int) (b_Kids : List V) {β : Type} (K : Out → St → Option β) :
 execL Try.prog ann C 32 74 0 (q32_0) (z32_2 a_Op a_Letter a_Kids b_Op b_Letter b_Kids) K =
  s_semigroupref04_Compare_1 C a_Op a_Letter b_Op b_Letter
   (fun (t40 : Int) => K .ret (z32_0 t40))
   (K .norm (z32_1 0 a_Op a_Letter a_Kids b_Op b_Letter b_Kids)) := by kernel_rfl
noncomputable def s_semigroupref04_Compare_2 (C : CallF) (i : Int) (as_2 b's_2 : List V) {β : Type} (k0 : Int → Option β) (k1 : Option β) (k2 : Bool → Option β) : Option β :=
 bif decide ((i : Int) < (as_2.length : Int)) then
  bif decide ((i : Int) < (b's_2.length : Int)) then
   (idx as_2 i).bind fun x5 =>
    (idx b's_2 i).bind fun x6 =>
     (C F_semigroupref04_Compare [.agg [.int .i64 ((x5.cell 0).toInt), .int .i64 ((x5.cell 1).toInt), .list T_api_Expr ((x5.cell 2).toList)], .agg [.int .i64 ((x6.cell 0).toInt), .int .i64 ((x6.cell 1).toInt), .list T_api_Expr ((x6.cell 2).toList)]] []).bind fun r7 =>
      bif (r7.1.toInt : Int) != 0 then
       k0 r7.1.toInt
      else
       k1
  else
   k2 (decide ((i : Int) < (b's_2.length : Int)))
 else
  k2 false
noncomputable abbrev z32_3 (c0 : Int) (c1 : Bool) (c2 c3 : Int) (c4 : List V) (c5 c6 : Int) (c7 : List V) : St :=
 mk [(2, .ptr 0 0 0), (3, .ptr 1 0 0), (5, .int .i64 c0), (42, .bool c1)] [.var [.int .i64 c2, .int .i64 c3, .list T_api_Expr c4], .var [.int .i64 c5, .int .i64 c6, .list T_api_Expr c7]]
noncomputable abbrev q32_1 : List Code := codesAt Try.prog 32 [[1, 1, 0, 1, 0, 0, 0, 0], [1, 1, 0, 1, 0, 0, 0, 1], [1, 1, 0, 1, 0, 0, 1, 0], [1, 1, 0, 1, 0, 0, 1, 1]]
theorem s_semigroupref04_Compare_2_eq (C : CallF) (i as_0 as_1 : Int) (as_2 : List V) (b's_0 b's_1 : Int) (b's_2 : List V) {β : Type} (K : Out → St → Option β) :
 execL Try.prog ann C 32 74 0 (q32_1) (z32_1 i as_0 as_1 as_2 b's_0 b's_1 b's_2) K =
  s_semigroupref04_Compare_2 C i as_2 b's_2
   (fun (t40 : Int) => K .ret (z32_0 t40))
   (K .norm (z32_1 (IntKind.wrap .i64 (i + 1)) as_0 as_1 as_2 b's_0 b's_1 b's_2))
   (fun (t422 : Bool) => K (.exit 1) (z32_3 i t422 as_0 as_1 as_2 b's_0 b's_1 b's_2)) := by kernel_rfl
noncomputable def s_semigroupref04_Compare_3L_step (C : CallF) (as_2 b's_2 : List V) : (Int) → Option ((Int) ⊕ ((Int) ⊕ (Int × Bool))) := fun i =>
 s_semigroupref04_Compare_2 C i as_2 b's_2
  (fun (t_8 : Int) =>
   some (.inr (.inl t_8)))
  (
   some (.inl (IntKind.wrap .i64 (i + 1))))
  (fun (t_9 : Bool) =>
   some (.inr (.inr (i, t_9))))
noncomputable def s_semigroupref04_Compare_3L (C : CallF) (i : Int) (as_2 b's_2 : List V) {β : Type} (k0 : Int → Option β) (k1 : Int → Bool → Option β) : Option β :=
 (Loop (s_semigroupref04_Compare_3L_step C as_2 b's_2) i).bind fun
  | (.inl t40) => k0 t40
  | (.inr (i1, t421)) => k1 i1 t421
noncomputable def s_semigroupref04_Compare_3L_dec : Out → St → Option ((Int) ⊕ ((Int) ⊕ (Int × Bool))) := fun o st => match o with
 | .norm => some (.inl (V.toInt (st.sl 5)))
 | .exit q => bif Nat.beq q 1 then some (.inr (.inr (V.toInt (st.sl 5), V.toBool (st.sl 42)))) else none
 | .ret => some (.inr (.inl (V.toInt (st.sl 4))))
noncomputable def s_semigroupref04_Compare_3L_hd (as_0 as_1 : Int) (as_2 : List V) (b's_0 b's_1 : Int) (b's_2 : List V) : (Int) → St := fun i => z32_1 i as_0 as_1 as_2 b's_0 b's_1 b's_2
noncomputable def s_semigroupref04_Compare_3L_enc (as_0 as_1 : Int) (as_2 : List V) (b's_0 b's_1 : Int) (b's_2 : List V) : ((Int) ⊕ (Int × Bool)) → Out × St := fun
 | (.inl t40) => (.ret, z32_0 t40)
 | (.inr (i1, t421)) => (.exit 1, z32_3 i1 t421 as_0 as_1 as_2 b's_0 b's_1 b's_2)
theorem s_semigroupref04_Compare_3L_eq (C : CallF) (i as_0 as_1 : Int) (as_2 : List V) (b's_0 b's_1 : Int) (b's_2 : List V) {β : Type} (K : Out → St → Option β) :
 execL Try.prog ann C 32 74 0 (codesAt Try.prog 32 [[1, 1, 0, 1, 0]]) (z32_1 i as_0 as_1 as_2 b's_0 b's_1 b's_2) K =
  s_semigroupref04_Compare_3L C i as_2 b's_2
   (fun (t40 : Int) => K .ret (z32_0 t40))
   (fun (i1 : Int) (t421 : Bool) => K (.exit 1) (z32_3 i1 t421 as_0 as_1 as_2 b's_0 b's_1 b's_2)) := by
 have hitems : flatC (codeAt [1, 1, 0, 1, 0, 0] (bodyOf Try.prog 32)) = q32_1 := by kernel_rfl
 have hloop : [codeAt [1, 1, 0, 1, 0] (bodyOf Try.prog 32)] = [Code.loop (codeAt [1, 1, 0, 1, 0, 0] (bodyOf Try.prog 32))] := by kernel_rfl
 have h := loopK_eq (P := Try.prog) (A := ann) (C := C) (f := 32) (n := 74) (m := 0) (c := codeAt [1, 1, 0, 1, 0, 0] (bodyOf Try.prog 32)) (s_semigroupref04_Compare_3L_hd as_0 as_1 as_2 b's_0 b's_1 b's_2) (s_semigroupref04_Compare_3L_enc as_0 as_1 as_2 b's_0 b's_1 b's_2) s_semigroupref04_Compare_3L_dec (s_semigroupref04_Compare_3L_step C as_2 b's_2)
  (by rintro i; exact Eq.trans (execK_items hitems) (Eq.trans (s_semigroupref04_Compare_2_eq C i as_0 as_1 as_2 b's_0 b's_1 b's_2 s_semigroupref04_Compare_3L_dec) (by kernel_rfl)))
  (by rintro i; exact Eq.trans (execK_items hitems) (Eq.trans (s_semigroupref04_Compare_2_eq C i as_0 as_1 as_2 b's_0 b's_1 b's_2 (fun o st => some (o, st))) (Eq.trans (by kernel_rfl) (Eq.trans (s_semigroupref04_Compare_2_eq C i as_0 as_1 as_2 b's_0 b's_1 b's_2 (fun o st => (s_semigroupref04_Compare_3L_dec o st).map (outS (s_semigroupref04_Compare_3L_hd as_0 as_1 as_2 b's_0 b's_1 b's_2) (s_semigroupref04_Compare_3L_enc as_0 as_1 as_2 b's_0 b's_1 b's_2)))).symm (execK_items hitems).symm))))
  (by intro r; rcases r with r | r <;> intro h <;> cases h) i K
 refine Eq.trans (congrArg (fun l => execL Try.prog ann C 32 74 0 l (z32_1 i as_0 as_1 as_2 b's_0 b's_1 b's_2) K) hloop) (Eq.trans h ?_)
 · refine congrArg _ (funext fun r => ?_)
   rcases r with r | r <;> rfl
noncomputable def d32_4 (C : CallF) (i : Int) (as_2 b's_2 : List V) {β : Type} (k0 : Int → Option β) (k1 : Option β) : Option β :=
 s_semigroupref04_Compare_3L C i as_2 b's_2
  (fun (t_10 : Int) =>
   k0 t_10)
  (fun (i_11 : Int) (t_12 : Bool) =>
   k1)
noncomputable abbrev z32_4 (c0 c1 : Int) (c2 : List V) (c3 c4 : Int) (c5 : List V) : St :=
 mk [(2, .ptr 0 0 0), (3, .ptr 1 0 0)] [.var [.int .i64 c0, .int .i64 c1, .list T_api_Expr c2], .var [.int .i64 c3, .int .i64 c4, .list T_api_Expr c5]]
theorem h32_4_eq (C : CallF) (i as_0 as_1 : Int) (as_2 : List V) (b's_0 b's_1 : Int) (b's_2 : List V) {β : Type} (K : Out → St → Option β) :
 execL Try.prog ann C 32 74 0 (codesAt Try.prog 32 [[1, 1, 0, 1]]) (z32_1 i as_0 as_1 as_2 b's_0 b's_1 b's_2) K =
  d32_4 C i as_2 b's_2
   (fun (t40 : Int) => K .ret (z32_0 t40))
   (K .norm (z32_4 as_0 as_1 as_2 b's_0 b's_1 b's_2)) := Eq.trans (execL_block (P := Try.prog) (A := ann) (C := C) (f := 32) (n := 74) (m := 0) (id := 1) (c := codeAt [1, 1, 0, 1] (bodyOf Try.prog 32)) (d := codeAt [1, 1, 0, 1, 0] (bodyOf Try.prog 32)) (l := codesAt Try.prog 32 [[1, 1, 0, 1, 0]]) (st := z32_1 i as_0 as_1 as_2 b's_0 b's_1 b's_2) (K := K) (by kernel_rfl) (by kernel_rfl)) (Eq.trans (s_semigroupref04_Compare_3L_eq C i as_0 as_1 as_2 b's_0 b's_1 b's_2 (blockK ann 32 0 1 K)) (by kernel_rfl))
noncomputable def s_semigroupref04_Compare_5 (C : CallF) (as_2 b's_2 : List V) {β : Type} (k0 : Int → Option β) : Option β :=
 bif ((as_2.length : Int) : Int) == (b's_2.length : Int) then
  k0 0
 else
  (C F_semigroupref04_sign [.bool (decide (((as_2.length : Int) : Int) < (b's_2.length : Int)))] []).bind fun r17 =>
   k0 r17.1.toInt
noncomputable abbrev q32_2 : List Code := codesAt Try.prog 32 [[1, 1, 1, 0, 0], [1, 1, 1, 0, 1], [1, 1, 1, 1, 0], [1, 1, 1, 1, 1]]
theorem s_semigroupref04_Compare_5_eq (C : CallF) (as_0 as_1 : Int) (as_2 : List V) (b's_0 b's_1 : Int) (b's_2 : List V) {β : Type} (K : Out → St → Option β) :
 execL Try.prog ann C 32 74 0 (q32_2) (z32_4 as_0 as_1 as_2 b's_0 b's_1 b's_2) K =
  s_semigroupref04_Compare_5 C as_2 b's_2
   (fun (t40 : Int) => K .ret (z32_0 t40)) := by kernel_rfl
noncomputable def d32_6 (C : CallF) (i : Int) (as_2 b's_2 : List V) {β : Type} (k0 : Int → Option β) : Option β :=
 d32_4 C i as_2 b's_2
  (fun (t_18 : Int) =>
   k0 t_18)
  (
   s_semigroupref04_Compare_5 C as_2 b's_2
    (fun (t_19 : Int) =>
     k0 t_19))
noncomputable abbrev q32_3 : List Code := codesAt Try.prog 32 [[1, 1, 0, 1], [1, 1, 1, 0, 0], [1, 1, 1, 0, 1], [1, 1, 1, 1, 0], [1, 1, 1, 1, 1]]
theorem h32_6_eq (C : CallF) (i as_0 as_1 : Int) (as_2 : List V) (b's_0 b's_1 : Int) (b's_2 : List V) {β : Type} (K : Out → St → Option β) :
 execL Try.prog ann C 32 74 0 (q32_3) (z32_1 i as_0 as_1 as_2 b's_0 b's_1 b's_2) K =
  d32_6 C i as_2 b's_2
   (fun (t40 : Int) => K .ret (z32_0 t40)) := by
 refine Eq.trans (execL_app (P := Try.prog) (A := ann) (C := C) (f := 32) (n := 74) (m := 0) (codesAt Try.prog 32 [[1, 1, 0, 1]]) (q32_2) (st := z32_1 i as_0 as_1 as_2 b's_0 b's_1 b's_2) (K := K)) (Eq.trans (h32_4_eq C i as_0 as_1 as_2 b's_0 b's_1 b's_2 (seqK Try.prog ann C 32 74 0 (q32_2) K)) ?_)
 · exact Eq.trans (by kernel_rfl) (Eq.trans (congrArg (fun HOLE : Option β => d32_4 C i as_2 b's_2 (fun (t40 : Int) => K .ret (z32_0 t40)) HOLE) (s_semigroupref04_Compare_5_eq C as_0 as_1 as_2 b's_0 b's_1 b's_2 K)) ((by kernel_rfl)))
noncomputable def d32_7 (C : CallF) (a_Op a_Letter : Int) (a_Kids : List V) (b_Op b_Letter : Int) (b_Kids : List V) {β : Type} (k0 : Int → Option β) : Option β :=
 s_semigroupref04_Compare_1 C a_Op a_Letter b_Op b_Letter
  (fun (t_21 : Int) =>
   k0 t_21)
  (
   d32_6 C 0 a_Kids b_Kids
    (fun (t_22 : Int) =>
     k0 t_22))
noncomputable abbrev q32_4 : List Code := codesAt Try.prog 32 [[0], [1, 0], [1, 1, 0, 0], [1, 1, 0, 1], [1, 1, 1, 0, 0], [1, 1, 1, 0, 1], [1, 1, 1, 1, 0], [1, 1, 1, 1, 1]]
theorem h32_7_eq (C : CallF) (a_Op a_Letter : Int) (a_Kids : List V) (b_Op b_Letter : Int) (b_Kids : List V) {β : Type} (K : Out → St → Option β) :
 execL Try.prog ann C 32 74 0 (q32_4) (z32_2 a_Op a_Letter a_Kids b_Op b_Letter b_Kids) K =
  d32_7 C a_Op a_Letter a_Kids b_Op b_Letter b_Kids
   (fun (t40 : Int) => K .ret (z32_0 t40)) := by
 refine Eq.trans (execL_app (P := Try.prog) (A := ann) (C := C) (f := 32) (n := 74) (m := 0) (q32_0) (q32_3) (st := z32_2 a_Op a_Letter a_Kids b_Op b_Letter b_Kids) (K := K)) (Eq.trans (s_semigroupref04_Compare_1_eq C a_Op a_Letter a_Kids b_Op b_Letter b_Kids (seqK Try.prog ann C 32 74 0 (q32_3) K)) ?_)
 · exact Eq.trans (by kernel_rfl) (Eq.trans (congrArg (fun HOLE : Option β => s_semigroupref04_Compare_1 C a_Op a_Letter b_Op b_Letter (fun (t40 : Int) => K .ret (z32_0 t40)) HOLE) (h32_6_eq C 0 a_Op a_Letter a_Kids b_Op b_Letter b_Kids K)) ((by kernel_rfl)))
noncomputable def f_semigroupref04_Compare (C : CallF) (a_Op a_Letter : Int) (a_Kids : List V) (b_Op b_Letter : Int) (b_Kids : List V) : Option (V × List V) :=
 s_semigroupref04_Compare_1 C a_Op a_Letter b_Op b_Letter
  (fun (t_23 : Int) =>
   some (.int .i64 t_23, []))
  (
   s_semigroupref04_Compare_3L C 0 a_Kids b_Kids
    (fun (t_13 : Int) =>
     some (.int .i64 t_13, []))
    (fun (i_14 : Int) (t_15 : Bool) =>
     s_semigroupref04_Compare_5 C a_Kids b_Kids
      (fun (t_20 : Int) =>
       some (.int .i64 t_20, []))))
theorem f_semigroupref04_Compare_eq (C : CallF) (a_Op a_Letter : Int) (a_Kids : List V) (b_Op b_Letter : Int) (b_Kids : List V) : bodyK Try.prog ann C 32 [.agg [.int .i64 a_Op, .int .i64 a_Letter, .list T_api_Expr a_Kids], .agg [.int .i64 b_Op, .int .i64 b_Letter, .list T_api_Expr b_Kids]] [] = f_semigroupref04_Compare C a_Op a_Letter a_Kids b_Op b_Letter b_Kids :=
 Eq.trans (bodyK_fin (by kernel_rfl)) (Eq.trans (execK_items (by kernel_rfl)) (Eq.trans (h32_7_eq C a_Op a_Letter a_Kids b_Op b_Letter b_Kids (finK Try.prog ann C 32 [])) (by kernel_rfl)))
theorem f_semigroupref04_Compare_of {a_Op : Int} {a_Letter : Int} {a_Kids : List V} {b_Op : Int} {b_Letter : Int} {b_Kids : List V} {r : V × List V} (h : f_semigroupref04_Compare CC a_Op a_Letter a_Kids b_Op b_Letter b_Kids = some r) : CC F_semigroupref04_Compare [.agg [.int .i64 a_Op, .int .i64 a_Letter, .list T_api_Expr a_Kids], .agg [.int .i64 b_Op, .int .i64 b_Letter, .list T_api_Expr b_Kids]] [] = some r :=
 Call_of_body ((bodyK_eq ..).trans ((f_semigroupref04_Compare_eq ..).trans h))
end Go.AM

/-
 ToExpr, twice, and Compare of equal trees.
-/
namespace Go.AM
open Go.Proofs
theorem Valid.up {k m : Int} {l : List Node} (h : Valid k l) (hkm : k ≤ m) : Valid m l := by
 refine validFrom_iff.2 fun j n hj => ?_
 have := nodeOk_iff.1 (h.node hj)
 rw [Nat.zero_add]
 exact nodeOk_iff.2 ⟨this.op, fun h => ⟨(this.letter h).1, by have := (this.letter h).2; omega⟩, this.noLetter, this.a, this.b, this.noA, this.noB⟩
def noEx : Ex := .mk 0 0 []
/-- What both ToExpr return. -/
def toExprN (l : List Node) (root letters : Int) : Ex × Int :=
 if validateN l root letters ≠ 0 then (noEx, validateN l root letters)
 else if 400 < sizeC 401 l root.toNat then (noEx, 3)
 else if 40 < deep l root.toNat then (noEx, 3)
 else (ex l root.toNat, 0)
theorem toExpr_spec (l : List Node) (root letters : Int) (hlen : l.length < 9223372036854775807) :
 CC F_starfree_ToExpr [graphV l root, .int .i64 letters] [] = some (.tup [(toExprN l root letters).1.o, .int .i64 (toExprN l root letters).2], []) := by
 refine f_starfree_ToExpr_of ?_
 unfold f_starfree_ToExpr s_starfree_ToExpr_1 toExprN
 simp only [validate_spec l root letters hlen, Option.bind_some, V.toInt_int, bif_bne]
 by_cases hv : validateN l root letters = 0
 · rw [if_pos hv, if_neg (by simp [hv])]
   obtain ⟨h1, h2, h3, h4, h5⟩ := validateN_zero.1 hv
   obtain ⟨r, rfl⟩ : ∃ r : Nat, root = r := ⟨root.toNat, by omega⟩
   rw [measure_spec l r (h3.up h1.2) h2 (by omega)]
   have hc := expression_spec h3 r (by omega)
   simp only [Option.bind_some, V.comp, V.nth_zero, V.nth_one, V.toInt_int, bif_decide, hc, Int.toNat_natCast]
   by_cases s1 : 400 < sizeC 401 l r
   · rw [if_pos (by omega), if_pos s1]; rfl
   · rw [if_neg (by omega), if_neg s1]
     by_cases s2 : 40 < deep l r
     · rw [if_pos (by omega), if_pos s2]; rfl
     · rw [if_neg (by omega), if_neg s2]
       cases ex l r
       rfl
 · rw [if_neg hv, if_pos hv]
   rfl
theorem refToExpr_spec (l : List Node) (root letters : Int) (hlen : l.length < 9223372036854775807) :
 CC F_semigroupref31_ToExpr [graphV l root, .int .i64 letters] [] = some (.tup [(toExprN l root letters).1.o, .int .i64 (toExprN l root letters).2], []) := by
 refine f_semigroupref31_ToExpr_of ?_
 unfold f_semigroupref31_ToExpr s_semigroupref31_ToExpr_1 toExprN
 simp only [refValidate_spec l root letters hlen, Option.bind_some, V.toInt_int, bif_bne]
 by_cases hv : validateN l root letters = 0
 · rw [if_pos hv, if_neg (by simp [hv])]
   obtain ⟨h1, h2, h3, h4, h5⟩ := validateN_zero.1 hv
   obtain ⟨r, rfl⟩ : ∃ r : Nat, root = r := ⟨root.toNat, by omega⟩
   rw [refMeasure_spec l r (h3.up h1.2) h2 (by omega)]
   have hc := refExpression_spec (r : Int) h3 r (by omega)
   have hcap := size_cap h3 (show 401 ≤ 1073741824 by omega) r (by omega)
   simp only [Option.bind_some, V.comp, V.nth_zero, V.nth_one, V.toInt_int, bif_decide, hc, Int.toNat_natCast]
   by_cases s1 : 400 < sizeC 401 l r
   · rw [if_pos (by omega), if_pos s1]; rfl
   · rw [if_neg (by omega), if_neg s1]
     by_cases s2 : 40 < deep l r
     · rw [if_pos (by omega), if_pos s2]; rfl
     · rw [if_neg (by omega), if_neg s2]
       cases ex l r
       rfl
 · rw [if_neg hv, if_pos hv]
   rfl
mutual
/-- No list of kids is beyond int. -/
def Ex.small : Ex → Prop
 | .mk _ _ kids => kids.length < 9223372036854775807 ∧ smalls kids
def smalls : List Ex → Prop
 | [] => True
 | e :: es => e.small ∧ smalls es
end
theorem smalls_mem {es : List Ex} : smalls es ↔ ∀ e ∈ es, e.small := by
 induction es with
 | nil => simp [smalls]
 | cons e es ih => simp [smalls, ih]
theorem Ex.v_eta (e : Ex) : V.agg [.int .i64 ((e.v.cell 0).toInt), .int .i64 ((e.v.cell 1).toInt), .list T_api_Expr ((e.v.cell 2).toList)] = e.v := by
 cases e; simp only [Ex.v, V.cell_agg, V.nth_zero, V.nth_one, V.nth_two, V.toInt_int]; rfl
mutual
theorem compare_self : (e : Ex) → e.small → CC F_semigroupref04_Compare [e.v, e.v] [] = some (.int .i64 0, [])
 | .mk op letter kids, hs => by
  have hlen := hs.1
  have hk := compare_kids kids hs.2
  unfold Ex.v
  refine f_semigroupref04_Compare_of ?_
  unfold f_semigroupref04_Compare s_semigroupref04_Compare_1 s_semigroupref04_Compare_3L
  simp only [bif_bne, ne_eq, not_true, if_false]
  obtain ⟨r, hr, b, rfl⟩ := Loop_inv (step := s_semigroupref04_Compare_3L_step CC (exsV kids) (exsV kids))
   (fun s => ∃ i : Nat, i ≤ kids.length ∧ s = (i : Int))
   (fun s => ((kids.length : Int) - s).toNat)
   (fun s => ∃ b : Bool, s = .inr ((kids.length : Int), b)) (by
    rintro s ⟨i, hi, rfl⟩
    unfold s_semigroupref04_Compare_3L_step s_semigroupref04_Compare_2
    simp only [bif_decide, exsV_map, List.length_map]
    by_cases hlt : i < kids.length
    · left
      have := hk _ (List.getElem_mem hlt)
      rw [if_pos (by omega), if_pos (by omega), idx_map (n := i) rfl hlt]
      simp only [Option.bind_some, Ex.v_eta, this, V.toInt_int, bif_bne, ne_eq, not_true, if_false]
      refine ⟨_, rfl, ⟨i + 1, by omega, ?_⟩, ?_⟩
      · rw [wrap64 (by omega) (by omega)]; rfl
      · rw [wrap64 (by omega) (by omega)]; omega
    · right
      rw [if_neg (by omega)]
      have : i = kids.length := by omega
      exact ⟨_, rfl, false, by rw [this]⟩) 0 ⟨0, by omega, rfl⟩
  rw [hr]
  simp [s_semigroupref04_Compare_5]
theorem compare_kids : (es : List Ex) → smalls es → ∀ e ∈ es, CC F_semigroupref04_Compare [e.v, e.v] [] = some (.int .i64 0, [])
 | [], _ => fun e h => by cases h
 | e :: es, hs => fun x h => by
  rcases List.mem_cons.1 h with h | h
  · rw [h]; exact compare_self e hs.1
  · exact compare_kids es hs.2 x h
end
theorem exF_small (l : List Node) : ∀ n i, (exF l n i).small := by
 intro n
 induction n with
 | zero => intro i; unfold exF; exact ⟨by simp, trivial⟩
 | succ n ih =>
  intro i
  unfold exF
  split
  · exact ⟨by simp, trivial⟩
  · refine ⟨?_, smalls_mem.2 fun e he => ?_⟩
    · repeat' split
      all_goals simp
    · simp only [List.mem_append] at he
      rcases he with (he | he) | he
      · split at he
        · rw [List.mem_singleton.1 he]; exact ⟨by simp, trivial⟩
        · cases he
      · split at he
        · rw [List.mem_singleton.1 he]; exact ih _
        · cases he
      · split at he
        · rw [List.mem_singleton.1 he]; exact ih _
        · cases he
theorem toExprN_small (l : List Node) (root letters : Int) : (toExprN l root letters).1.small := by
 unfold toExprN
 repeat' split
 all_goals first
  | exact exF_small _ _ _
  | exact ⟨by simp, trivial⟩
end Go.AM

set_option maxRecDepth 100000
namespace Go.AM
open Go.Proofs
/-! semigroup/semigroupref31.Accepts -/
noncomputable def s_semigroupref31_Accepts_1 (C : CallF) (g_Nodes : List V) (g_Root : Int) (w : List UInt8) {β : Type} (k0 : Bool → Option β) : Option β :=
 (C F_semigroupref31_Validate [.agg [.list T_api_SfNode g_Nodes, .int .i64 g_Root], .int .i64 6] []).bind fun r5 =>
  bif (r5.1.toInt : Int) == 0 then
   (C F_semigroupref01_Valid [.str w, .int .i64 6] []).bind fun r6 =>
    bif r6.1.toBool then
     bif decide (((w.length : Int) : Int) ≤ 64) then
      (C F_semigroupref31_Holds [.agg [.list T_api_SfNode g_Nodes, .int .i64 g_Root], .str w] []).bind fun r7 =>
       bif (decide (0 ≤ g_Root)) && (decide (g_Root < (r7.1.toList.length : Int))) then
        (r7.1.toList[(g_Root : Int).toNat]?).bind fun x8 =>
         k0 x8.toBool
       else none
     else
      k0 false
    else
     k0 false
  else
   k0 false
noncomputable abbrev z30_0 (c0 : Bool) : St :=
 mk [(4, .bool c0)] []
noncomputable abbrev z30_1 (c0 : List V) (c1 : Int) (c2 : List UInt8) : St :=
 mk [(0, .agg [.list T_api_SfNode c0, .int .i64 c1]), (1, .str c2)] []
theorem s_semigroupref31_Accepts_1_eq (C : CallF) (g_Nodes : List V) (g_Root : Int) (w : List UInt8) {β : Type} (K : Out → St → Option β) :
 execL Try.prog ann C 30 26 0 (codesAt Try.prog 30 [[0], [1, 0], [1, 1]]) (z30_1 g_Nodes g_Root w) K =
  s_semigroupref31_Accepts_1 C g_Nodes g_Root w
   (fun (t40 : Bool) => K .ret (z30_0 t40)) := by kernel_rfl
noncomputable def f_semigroupref31_Accepts (C : CallF) (g_Nodes : List V) (g_Root : Int) (w : List UInt8) : Option (V × List V) :=
 s_semigroupref31_Accepts_1 C g_Nodes g_Root w
  (fun (t_9 : Bool) =>
   some (.bool t_9, []))
theorem f_semigroupref31_Accepts_eq (C : CallF) (g_Nodes : List V) (g_Root : Int) (w : List UInt8) : bodyK Try.prog ann C 30 [.agg [.list T_api_SfNode g_Nodes, .int .i64 g_Root], .str w] [] = f_semigroupref31_Accepts C g_Nodes g_Root w :=
 Eq.trans (bodyK_fin (by kernel_rfl)) (Eq.trans (execK_items (by kernel_rfl)) (Eq.trans (s_semigroupref31_Accepts_1_eq C g_Nodes g_Root w (finK Try.prog ann C 30 [])) (by kernel_rfl)))
theorem f_semigroupref31_Accepts_of {g_Nodes : List V} {g_Root : Int} {w : List UInt8} {r : V × List V} (h : f_semigroupref31_Accepts CC g_Nodes g_Root w = some r) : CC F_semigroupref31_Accepts [.agg [.list T_api_SfNode g_Nodes, .int .i64 g_Root], .str w] [] = some r :=
 Call_of_body ((bodyK_eq ..).trans ((f_semigroupref31_Accepts_eq ..).trans h))
end Go.AM

set_option maxRecDepth 100000
namespace Go.AM
open Go.Proofs
/-! semigroup/semigrouplaw31.all -/
noncomputable def s_semigrouplaw31_all_1 (C : CallF) (g_Nodes : List V) (g_Root letters : Int) (w : List UInt8) {β : Type} (k0 : Bool → Option β) : Option β :=
 (C F_starfree_Cut [.agg [.list T_api_SfNode g_Nodes, .int .i64 g_Root]] []).bind fun r11 =>
  (C F_semigroupref31_Cut [.agg [.list T_api_SfNode g_Nodes, .int .i64 g_Root]] []).bind fun r12 =>
   (C F_starfree_ToExpr [.agg [.list T_api_SfNode g_Nodes, .int .i64 g_Root], .int .i64 letters] []).bind fun r13 =>
    (C F_semigroupref31_ToExpr [.agg [.list T_api_SfNode g_Nodes, .int .i64 g_Root], .int .i64 letters] []).bind fun r14 =>
     (C F_starfree_Validate [.agg [.list T_api_SfNode g_Nodes, .int .i64 g_Root], .int .i64 letters] []).bind fun r15 =>
      (C F_semigroupref31_Validate [.agg [.list T_api_SfNode g_Nodes, .int .i64 g_Root], .int .i64 letters] []).bind fun r16 =>
       bif (r15.1.toInt : Int) == r16.1.toInt then
        (C F_starfree_Accepts [.agg [.list T_api_SfNode g_Nodes, .int .i64 g_Root], .str w] []).bind fun r17 =>
         (C F_semigroupref31_Accepts [.agg [.list T_api_SfNode g_Nodes, .int .i64 g_Root], .str w] []).bind fun r18 =>
          bif r17.1.toBool == r18.1.toBool then
           (C F_starfree_Depth [.agg [.list T_api_SfNode g_Nodes, .int .i64 g_Root]] []).bind fun r19 =>
            (C F_semigroupref31_Depth [.agg [.list T_api_SfNode g_Nodes, .int .i64 g_Root]] []).bind fun r20 =>
             bif (r19.1.toInt : Int) == r20.1.toInt then
              bif (((r11.1.comp 1).toInt) : Int) == ((r12.1.comp 1).toInt) then
               (C F_semigroupref31_Same [.agg [.list T_api_SfNode (((r11.1.comp 0).cell 0).toList), .int .i64 (((r11.1.comp 0).cell 1).toInt)], .agg [.list T_api_SfNode (((r12.1.comp 0).cell 0).toList), .int .i64 (((r12.1.comp 0).cell 1).toInt)]] []).bind fun r21 =>
                bif r21.1.toBool then
                 bif (((r13.1.comp 1).toInt) : Int) == ((r14.1.comp 1).toInt) then
                  bif (((r13.1.comp 1).toInt) : Int) != 0 then
                   k0 true
                  else
                   (C F_semigroupref04_Compare [.agg [.int .i64 (((r13.1.comp 0).cell 0).toInt), .int .i64 (((r13.1.comp 0).cell 1).toInt), .list T_api_Expr (((r13.1.comp 0).cell 2).toList)], .agg [.int .i64 (((r14.1.comp 0).cell 0).toInt), .int .i64 (((r14.1.comp 0).cell 1).toInt), .list T_api_Expr (((r14.1.comp 0).cell 2).toList)]] []).bind fun r22 =>
                    k0 ((r22.1.toInt : Int) == 0)
                 else
                  k0 false
                else
                 k0 false
              else
               k0 false
             else
              k0 false
          else
           k0 false
       else
        k0 false
noncomputable abbrev z18_0 (c0 : Bool) : St :=
 mk [(6, .bool c0)] []
noncomputable abbrev q18_0 : List Code := codesAt Try.prog 18 [[0], [1, 0], [1, 1, 0], [1, 1, 1, 0], [1, 1, 1, 1, 0], [1, 1, 1, 1, 1, 0]]
noncomputable abbrev z18_1 (c0 : List V) (c1 c2 : Int) (c3 : List UInt8) : St :=
 mk [(0, .agg [.list T_api_SfNode c0, .int .i64 c1]), (1, .int .i64 c2), (2, .str c3)] []
theorem s_semigrouplaw31_all_1_eq (C : CallF) (g_Nodes : List V) (g_Root letters : Int) (w : List UInt8) {β : Type} (K : Out → St → Option β) :
 execL Try.prog ann C 18 85 0 (q18_0) (z18_1 g_Nodes g_Root letters w) K =
  s_semigrouplaw31_all_1 C g_Nodes g_Root letters w
   (fun (t60 : Bool) => K .norm (z18_0 t60)) := by kernel_rfl
noncomputable def d18_2 (C : CallF)  {β : Type} (k0 : Option β) : Option β :=
 k0
theorem h18_2_eq (C : CallF) (t6 : Bool) {β : Type} (K : Out → St → Option β) :
 execL Try.prog ann C 18 85 0 (codesAt Try.prog 18 [[1, 1, 1, 1, 1, 1]]) (z18_0 t6) K =
  d18_2 C
   (K .ret (z18_0 t6)) := by kernel_rfl
noncomputable def d18_3 (C : CallF) (g_Nodes : List V) (g_Root letters : Int) (w : List UInt8) {β : Type} (k0 : Bool → Option β) : Option β :=
 s_semigrouplaw31_all_1 C g_Nodes g_Root letters w
  (fun (t_35 : Bool) =>
   d18_2 C
    (
     k0 t_35))
noncomputable abbrev q18_1 : List Code := codesAt Try.prog 18 [[0], [1, 0], [1, 1, 0], [1, 1, 1, 0], [1, 1, 1, 1, 0], [1, 1, 1, 1, 1, 0], [1, 1, 1, 1, 1, 1]]
theorem h18_3_eq (C : CallF) (g_Nodes : List V) (g_Root letters : Int) (w : List UInt8) {β : Type} (K : Out → St → Option β) :
 execL Try.prog ann C 18 85 0 (q18_1) (z18_1 g_Nodes g_Root letters w) K =
  d18_3 C g_Nodes g_Root letters w
   (fun (t60 : Bool) => K .ret (z18_0 t60)) := by
 refine Eq.trans (execL_app (P := Try.prog) (A := ann) (C := C) (f := 18) (n := 85) (m := 0) (q18_0) (codesAt Try.prog 18 [[1, 1, 1, 1, 1, 1]]) (st := z18_1 g_Nodes g_Root letters w) (K := K)) (Eq.trans (s_semigrouplaw31_all_1_eq C g_Nodes g_Root letters w (seqK Try.prog ann C 18 85 0 (codesAt Try.prog 18 [[1, 1, 1, 1, 1, 1]]) K)) ?_)
 · exact Eq.trans (by kernel_rfl) (Eq.trans (congrArg (fun HOLE : Bool → Option β => s_semigrouplaw31_all_1 C g_Nodes g_Root letters w HOLE) (funext fun (t60 : Bool) => h18_2_eq C t60 K)) ((by kernel_rfl)))
noncomputable def f_semigrouplaw31_all (C : CallF) (g_Nodes : List V) (g_Root letters : Int) (w : List UInt8) : Option (V × List V) :=
 s_semigrouplaw31_all_1 C g_Nodes g_Root letters w
  (fun (t_36 : Bool) =>
   some (.bool t_36, []))
theorem f_semigrouplaw31_all_eq (C : CallF) (g_Nodes : List V) (g_Root letters : Int) (w : List UInt8) : bodyK Try.prog ann C 18 [.agg [.list T_api_SfNode g_Nodes, .int .i64 g_Root], .int .i64 letters, .str w] [] = f_semigrouplaw31_all C g_Nodes g_Root letters w :=
 Eq.trans (bodyK_fin (by kernel_rfl)) (Eq.trans (execK_items (by kernel_rfl)) (Eq.trans (h18_3_eq C g_Nodes g_Root letters w (finK Try.prog ann C 18 [])) (by kernel_rfl)))
theorem f_semigrouplaw31_all_of {g_Nodes : List V} {g_Root : Int} {letters : Int} {w : List UInt8} {r : V × List V} (h : f_semigrouplaw31_all CC g_Nodes g_Root letters w = some r) : CC F_semigrouplaw31_all [.agg [.list T_api_SfNode g_Nodes, .int .i64 g_Root], .int .i64 letters, .str w] [] = some r :=
 Call_of_body ((bodyK_eq ..).trans ((f_semigrouplaw31_all_eq ..).trans h))
end Go.AM

/-
 The reference's acceptance; the two sides compared; the raw and the made law.
-/
namespace Go.AM
open Go.Proofs
theorem refAccepts_spec (l : List Node) (root : Int) (w : List UInt8) (hlen : l.length < 9223372036854775807) :
 CC F_semigroupref31_Accepts [graphV l root, .str w] [] = some (.bool (acceptsB l root w), []) := by
 refine f_semigroupref31_Accepts_of ?_
 unfold f_semigroupref31_Accepts s_semigroupref31_Accepts_1 acceptsB
 simp only [refValidate_spec l root 6 hlen, refValid_spec, Option.bind_some, V.toInt_int, V.toBool_bool, bif_beq, bif_decide]
 by_cases hv : validateN l root 6 = 0
 · rw [if_pos hv]
   simp only [hv, decide_true, Bool.true_and]
   cases hw : wordValidB w 6 with
   | false => rfl
   | true =>
    simp only [cond_true, Bool.true_and]
    by_cases hn : w.length ≤ 64
    · rw [if_pos (by omega)]
      obtain ⟨_, hl20, hval, hr0, hr1⟩ := validateN_zero.1 hv
      obtain ⟨r, rfl⟩ : ∃ r : Nat, root = r := ⟨root.toNat, by omega⟩
      have hwb : wordB 6 w = true := by
       unfold wordValidB at hw
       simp only [Bool.and_eq_true] at hw
       exact hw.2
      simp only [holds_spec hval (r : Int) hwb hn hl20, Option.bind_some, V.toList_own, List.length_map, List.length_range, bif_and, bif_decide, Int.toNat_natCast]
      rw [if_pos (by omega), if_pos (by omega)]
      have : (List.map V.bool (List.map (fun i => lang l i w) (List.range l.length)))[r]? = some (.bool (lang l r w)) := by
       have : r < l.length := by omega
       simp [this]
      rw [this]
      simp [hn]
    · rw [if_neg (by omega)]
      simp [hn]
 · rw [if_neg hv]
   simp [hv]
theorem cut_bad (l : List Node) (root : Int) (hlen : l.length < 9223372036854775807) (hv : validateN l root 6 ≠ 0) :
 CC F_starfree_Cut [graphV l root] [] = some (.tup [.agg [.own T_api_SfNode (nodesV []), .int .i64 0], .int .i64 (validateN l root 6)], []) := by
 refine f_starfree_Cut_of ?_
 unfold f_starfree_Cut
 simp only [validate_spec l root 6 hlen, Option.bind_some, V.toInt_int, bif_bne]
 rw [if_neg hv]
 rfl
theorem refCut_bad (l : List Node) (root : Int) (hlen : l.length < 9223372036854775807) (hv : validateN l root 6 ≠ 0) :
 CC F_semigroupref31_Cut [graphV l root] [] = some (.tup [.agg [.own T_api_SfNode (nodesV []), .int .i64 0], .int .i64 (validateN l root 6)], []) := by
 refine f_semigroupref31_Cut_of ?_
 unfold f_semigroupref31_Cut
 simp only [refValidate_spec l root 6 hlen, Option.bind_some, V.toInt_int, bif_bne]
 rw [if_neg hv]
 rfl
/-- Both cuts. -/
theorem cuts (l : List Node) (root : Int) (hlen : l.length < 9223372036854775807) :
 ∃ (c : List Node) (r e : Int), c.length < 9223372036854775807 ∧ CC F_starfree_Cut [graphV l root] [] = some (.tup [.agg [.own T_api_SfNode (nodesV c), .int .i64 r], .int .i64 e], []) ∧
  CC F_semigroupref31_Cut [graphV l root] [] = some (.tup [.agg [.own T_api_SfNode (nodesV c), .int .i64 r], .int .i64 e], []) := by
 by_cases hv : validateN l root 6 = 0
 · obtain ⟨_, hl20, hval, hr0, hr1⟩ := validateN_zero.1 hv
   obtain ⟨r, rfl⟩ : ∃ r : Nat, root = r := ⟨root.toNat, by omega⟩
   obtain ⟨m, a1, a2, a3⟩ := cut_spec l r hv
   obtain ⟨m', b1, b2, b3⟩ := refCut_spec l r hv
   have hm : m' = m := by
    refine List.ext_getElem (by omega) fun i h1 h2 => ?_
    have := (b2 i).trans (a2 i).symm
    rw [List.getElem?_eq_getElem h1, List.getElem?_eq_getElem h2] at this
    simp only [Option.some.injEq] at this
    rw [Bool.eq_iff_iff]
    exact this
   subst hm
   refine ⟨_, _, _, ?_, a3, b3⟩
   have := cutUpto_length (m := m') (Nat.le_refl l.length)
   have := num_le m' l.length
   omega
 · exact ⟨[], 0, validateN l root 6, by simp, cut_bad l root hlen hv, refCut_bad l root hlen hv⟩
theorem all_spec (l : List Node) (root letters : Int) (w : List UInt8) (hlen : l.length < 9223372036854775807) :
 CC F_semigrouplaw31_all [graphV l root, .int .i64 letters, .str w] [] = some (.bool true, []) := by
 refine f_semigrouplaw31_all_of ?_
 obtain ⟨c, r, e, h1, h2, h3⟩ := cuts l root hlen
 unfold f_semigrouplaw31_all s_semigrouplaw31_all_1
 simp only [h2, h3, toExpr_spec l root letters hlen, refToExpr_spec l root letters hlen, validate_spec l root letters hlen, refValidate_spec l root letters hlen, accepts_spec l root w hlen, refAccepts_spec l root w hlen, depth_spec l root hlen, refDepth_spec l root hlen,
  Option.bind_some, V.toInt_int, V.toBool_bool, bif_beq, if_true, V.comp_tup, V.nth_zero, V.nth_one, V.cell_agg, V.toList_own, same_spec c r h1, beq_self_eq_true, cond_true, bif_bne]
 by_cases he : (toExprN l root letters).2 = 0
 · rw [if_pos he]
   simp only [Ex.frz, compare_self _ (toExprN_small l root letters), Option.bind_some, V.toInt_int]
   rfl
 · rw [if_neg he]
end Go.AM

set_option maxRecDepth 100000
namespace Go.AM
open Go.Proofs
/-! semigroup/semigrouplaw31.StarfreeMade -/
noncomputable def s_semigrouplaw31_StarfreeMade_1 (C : CallF) (l : List V) (how at' v : Int) {β : Type} (k0 : Bool → Option β) (k1 : Int → (List UInt8) → Int → (List V) → Option β) : Option β :=
 (C F_semigroupmade_New [.list T_int l] []).bind fun r42 =>
  (C F_semigroupmade_Tape_Next [.ptr 0 0 0, .int .i64 3] [.agg [.list T_int ((r42.1.cell 0).toList), .int .i64 ((r42.1.cell 1).toInt)]]).bind fun r43 =>
   (C F_semigroupmade_Tape_Graph [.ptr 0 0 0, .int .i64 (IntKind.wrap .i64 (1 + r43.1.toInt)), .int .i64 14] [.agg [.list T_int (((V.nth r43.2 0).cell 0).toList), .int .i64 (((V.nth r43.2 0).cell 1).toInt)]]).bind fun r44 =>
    (C F_semigroupmade_Tape_Word [.ptr 0 0 0, .int .i64 (IntKind.wrap .i64 (1 + r43.1.toInt)), .int .i64 7] [.agg [.list T_int (((V.nth r44.2 0).cell 0).toList), .int .i64 (((V.nth r44.2 0).cell 1).toInt)]]).bind fun r45 =>
     (C F_semigrouplaw31_all [.agg [.list T_api_SfNode ((r44.1.cell 0).toList), .int .i64 ((r44.1.cell 1).toInt)], .int .i64 (IntKind.wrap .i64 (1 + r43.1.toInt)), .str r45.1.toStr] []).bind fun r46 =>
      bif !r46.1.toBool then
       k0 false
      else
       (C F_semigroupmade_Mod [.int .i64 at', .int .i64 (((r44.1.cell 0).toList).length : Int)] []).bind fun r47 =>
        bif (decide (0 ≤ r47.1.toInt)) && (decide (r47.1.toInt < (((r44.1.cell 0).toList).length : Int))) then
         (C F_semigroupmade_Mod [.int .i64 v, .int .i64 12] []).bind fun r48 =>
          (C F_semigroupmade_Mod [.int .i64 how, .int .i64 5] []).bind fun r49 =>
           bif (r49.1.toInt : Int) == 0 then
            (((r44.1.cell 0).toList)[(r47.1.toInt : Int).toNat]?).bind fun x50 =>
             k1 (IntKind.wrap .i64 (1 + r43.1.toInt)) r45.1.toStr ((r44.1.cell 1).toInt) (((r44.1.cell 0).toList).set ((r47.1.toInt : Int).toNat) (.agg [.int .i64 (IntKind.wrap .i64 (r48.1.toInt - 1)), .int .i64 ((x50.cell 1).toInt), .int .i64 ((x50.cell 2).toInt), .int .i64 ((x50.cell 3).toInt)]))
           else
            bif (r49.1.toInt : Int) == 1 then
             (((r44.1.cell 0).toList)[(r47.1.toInt : Int).toNat]?).bind fun x51 =>
              k1 (IntKind.wrap .i64 (1 + r43.1.toInt)) r45.1.toStr ((r44.1.cell 1).toInt) (((r44.1.cell 0).toList).set ((r47.1.toInt : Int).toNat) (.agg [.int .i64 ((x51.cell 0).toInt), .int .i64 (IntKind.wrap .i64 (r48.1.toInt - 1)), .int .i64 ((x51.cell 2).toInt), .int .i64 ((x51.cell 3).toInt)]))
            else
             bif (r49.1.toInt : Int) == 2 then
              (((r44.1.cell 0).toList)[(r47.1.toInt : Int).toNat]?).bind fun x52 =>
               k1 (IntKind.wrap .i64 (1 + r43.1.toInt)) r45.1.toStr ((r44.1.cell 1).toInt) (((r44.1.cell 0).toList).set ((r47.1.toInt : Int).toNat) (.agg [.int .i64 ((x52.cell 0).toInt), .int .i64 ((x52.cell 1).toInt), .int .i64 (IntKind.wrap .i64 (r48.1.toInt - 1)), .int .i64 ((x52.cell 3).toInt)]))
             else
              bif (r49.1.toInt : Int) == 3 then
               (((r44.1.cell 0).toList)[(r47.1.toInt : Int).toNat]?).bind fun x53 =>
                k1 (IntKind.wrap .i64 (1 + r43.1.toInt)) r45.1.toStr ((r44.1.cell 1).toInt) (((r44.1.cell 0).toList).set ((r47.1.toInt : Int).toNat) (.agg [.int .i64 ((x53.cell 0).toInt), .int .i64 ((x53.cell 1).toInt), .int .i64 ((x53.cell 2).toInt), .int .i64 (IntKind.wrap .i64 (r48.1.toInt - 1))]))
              else
               bif (r49.1.toInt : Int) == 4 then
                k1 (IntKind.wrap .i64 (1 + r43.1.toInt)) r45.1.toStr (IntKind.wrap .i64 (r48.1.toInt - 1)) ((r44.1.cell 0).toList)
               else
                k1 (IntKind.wrap .i64 (1 + r43.1.toInt)) r45.1.toStr ((r44.1.cell 1).toInt) ((r44.1.cell 0).toList)
        else none
noncomputable abbrev z6_0 (c0 : Bool) : St :=
 mk [(8, .bool c0)] []
noncomputable abbrev z6_1 (c0 : Int) (c1 : List UInt8) (c2 : Int) (c3 : List V) : St :=
 mk [(10, .int .i64 c0), (11, .ptr 0 0 0), (12, .str c1)] [.var [.whole T_api_SfNode 1, .int .i64 c2], .arr T_api_SfNode c3 false]
noncomputable abbrev q6_0 : List Code := codesAt Try.prog 6 [[0], [1, 0], [1, 1, 0], [1, 1, 1, 0], [1, 1, 1, 1, 0], [1, 1, 1, 1, 1, 0, 0], [1, 1, 1, 1, 1, 0, 1], [1, 1, 1, 1, 1, 1, 0], [1, 1, 1, 1, 1, 1, 1, 0], [1, 1, 1, 1, 1, 1, 1, 1, 0, 0], [1, 1, 1, 1, 1, 1, 1, 1, 0, 1]]
noncomputable abbrev z6_2 (c0 : List V) (c1 c2 c3 : Int) : St :=
 mk [(0, .list T_int c0), (1, .int .i64 c1), (2, .int .i64 c2), (3, .int .i64 c3)] []
theorem s_semigrouplaw31_StarfreeMade_1_eq (C : CallF) (l : List V) (how at' v : Int) {β : Type} (K : Out → St → Option β) :
 execL Try.prog ann C 6 78 0 (q6_0) (z6_2 l how at' v) K =
  s_semigrouplaw31_StarfreeMade_1 C l how at' v
   (fun (t80 : Bool) => K .ret (z6_0 t80))
   (fun (letters1 : Int) (w1 : List UInt8) (gs_11 : Int) (g_0s1 : List V) => K .norm (z6_1 letters1 w1 gs_11 g_0s1)) := by kernel_rfl
noncomputable def s_semigrouplaw31_StarfreeMade_2 (C : CallF) (letters : Int) (w : List UInt8) (gs_1 : Int) (g_0s : List V) {β : Type} (k0 : Bool → Option β) : Option β :=
 (C F_semigrouplaw31_all [.agg [.list T_api_SfNode g_0s, .int .i64 gs_1], .int .i64 letters, .str w] []).bind fun r73 =>
  bif r73.1.toBool then
   (C F_semigrouplaw31_known [] []).bind fun r74 =>
    k0 r74.1.toBool
  else
   k0 false
noncomputable abbrev q6_1 : List Code := codesAt Try.prog 6 [[1, 1, 1, 1, 1, 1, 1, 1, 1, 0], [1, 1, 1, 1, 1, 1, 1, 1, 1, 1]]
theorem s_semigrouplaw31_StarfreeMade_2_eq (C : CallF) (letters : Int) (w : List UInt8) (gs_1 : Int) (g_0s : List V) {β : Type} (K : Out → St → Option β) :
 execL Try.prog ann C 6 78 0 (q6_1) (z6_1 letters w gs_1 g_0s) K =
  s_semigrouplaw31_StarfreeMade_2 C letters w gs_1 g_0s
   (fun (t80 : Bool) => K .ret (z6_0 t80)) := by kernel_rfl
noncomputable def d6_3 (C : CallF) (l : List V) (how at' v : Int) {β : Type} (k0 : Bool → Option β) : Option β :=
 s_semigrouplaw31_StarfreeMade_1 C l how at' v
  (fun (t_75 : Bool) =>
   k0 t_75)
  (fun (letters_76 : Int) (w_77 : List UInt8) (gs_78 : Int) (g_0s_79 : List V) =>
   s_semigrouplaw31_StarfreeMade_2 C letters_76 w_77 gs_78 g_0s_79
    (fun (t_80 : Bool) =>
     k0 t_80))
noncomputable abbrev q6_2 : List Code := codesAt Try.prog 6 [[0], [1, 0], [1, 1, 0], [1, 1, 1, 0], [1, 1, 1, 1, 0], [1, 1, 1, 1, 1, 0, 0], [1, 1, 1, 1, 1, 0, 1], [1, 1, 1, 1, 1, 1, 0], [1, 1, 1, 1, 1, 1, 1, 0], [1, 1, 1, 1, 1, 1, 1, 1, 0, 0], [1, 1, 1, 1, 1, 1, 1, 1, 0, 1], [1, 1, 1, 1, 1, 1, 1, 1, 1, 0], [1, 1, 1, 1, 1, 1, 1, 1, 1, 1]]
theorem h6_3_eq (C : CallF) (l : List V) (how at' v : Int) {β : Type} (K : Out → St → Option β) :
 execL Try.prog ann C 6 78 0 (q6_2) (z6_2 l how at' v) K =
  d6_3 C l how at' v
   (fun (t80 : Bool) => K .ret (z6_0 t80)) := by
 refine Eq.trans (execL_app (P := Try.prog) (A := ann) (C := C) (f := 6) (n := 78) (m := 0) (q6_0) (q6_1) (st := z6_2 l how at' v) (K := K)) (Eq.trans (s_semigrouplaw31_StarfreeMade_1_eq C l how at' v (seqK Try.prog ann C 6 78 0 (q6_1) K)) ?_)
 · exact Eq.trans (by kernel_rfl) (Eq.trans (congrArg (fun HOLE : Int → (List UInt8) → Int → (List V) → Option β => s_semigrouplaw31_StarfreeMade_1 C l how at' v (fun (t80 : Bool) => K .ret (z6_0 t80)) HOLE) (funext fun (letters1 : Int) => funext fun (w1 : List UInt8) => funext fun (gs_11 : Int) => funext fun (g_0s1 : List V) => s_semigrouplaw31_StarfreeMade_2_eq C letters1 w1 gs_11 g_0s1 K)) ((by kernel_rfl)))
noncomputable def f_semigrouplaw31_StarfreeMade (C : CallF) (l : List V) (how at' v : Int) : Option (V × List V) :=
 s_semigrouplaw31_StarfreeMade_1 C l how at' v
  (fun (t_81 : Bool) =>
   some (.bool t_81, []))
  (fun (letters_82 : Int) (w_83 : List UInt8) (gs_84 : Int) (g_0s_85 : List V) =>
   s_semigrouplaw31_StarfreeMade_2 C letters_82 w_83 gs_84 g_0s_85
    (fun (t_86 : Bool) =>
     some (.bool t_86, [])))
theorem f_semigrouplaw31_StarfreeMade_eq (C : CallF) (l : List V) (how at' v : Int) : bodyK Try.prog ann C 6 [.list T_int l, .int .i64 how, .int .i64 at', .int .i64 v] [] = f_semigrouplaw31_StarfreeMade C l how at' v :=
 Eq.trans (bodyK_fin (by kernel_rfl)) (Eq.trans (execK_items (by kernel_rfl)) (Eq.trans (h6_3_eq C l how at' v (finK Try.prog ann C 6 [])) (by kernel_rfl)))
theorem f_semigrouplaw31_StarfreeMade_of {l : List V} {how : Int} {at' : Int} {v : Int} {r : V × List V} (h : f_semigrouplaw31_StarfreeMade CC l how at' v = some r) : CC F_semigrouplaw31_StarfreeMade [.list T_int l, .int .i64 how, .int .i64 at', .int .i64 v] [] = some r :=
 Call_of_body ((bodyK_eq ..).trans ((f_semigrouplaw31_StarfreeMade_eq ..).trans h))
end Go.AM

/-
 The made law.
-/
namespace Go.AM
open Go.Proofs
theorem starfreeMade (l : List Int) (how at' v : Int) : CC F_semigrouplaw31_StarfreeMade [.list T_int (vIs l), .int .i64 how, .int .i64 at', .int .i64 v] [] = some (.bool true, []) := by
 refine f_semigrouplaw31_StarfreeMade_of ?_
 obtain ⟨k, a1, t1, k0, k1, _, c1⟩ := next_spec _ _ 3 (new_ok l) (by omega)
 have k2 := k1 (by omega)
 obtain ⟨ns, a2, t2, n0, n1, n2, c2⟩ := graph_spec _ _ (k + 1) 14 t1 (by omega) (by omega)
 obtain ⟨x, a5, t5, w1, w2, c5⟩ := word_spec _ _ (k + 1) 7 t2 (by omega) (by omega)
 have ek : IntKind.wrap .i64 (1 + k) = k + 1 := by rw [wrap64 (by omega) (by omega)]; omega
 have hL : ns.length < 9223372036854775807 := by omega
 have m1 := modI_nonneg at' (ns.length : Int)
 have m2 := modI_lt at' (n := (ns.length : Int)) (by omega)
 obtain ⟨r, hr⟩ : ∃ r : Nat, modI at' (ns.length : Int) = r := ⟨(modI at' (ns.length : Int)).toNat, by omega⟩
 have hrl : r < ns.length := by omega
 have v1 := modI_nonneg v 12
 have v2 := modI_lt v (n := 12) (by omega)
 have ev : IntKind.wrap .i64 (modI v 12 - 1) = modI v 12 - 1 := wrap64 (by omega) (by omega)
 have hget : (nodesV ns)[r]? = some (ns[r]).v := by simp [hrl]
 unfold f_semigrouplaw31_StarfreeMade s_semigrouplaw31_StarfreeMade_1
 unfold tapeV at c1 c2 c5
 have fin : ∀ (m : List Node) (root : Int), m.length = ns.length → s_semigrouplaw31_StarfreeMade_2 CC (k + 1) x root (nodesV m) (fun (t_80 : Bool) => some (V.bool t_80, ([] : List V))) = some (.bool true, []) := by
  intro m root hm
  unfold s_semigrouplaw31_StarfreeMade_2
  simp only [all_spec m root (k + 1) x (by omega), Option.bind_some, V.toBool_bool, cond_true, known_spec]
 have set : ∀ (o le a b : Int), (nodesV ns).set r (.agg [.int .i64 o, .int .i64 le, .int .i64 a, .int .i64 b]) = nodesV (ns.set r ⟨o, le, a, b⟩) := by
  intro o le a b
  exact (List.map_set (f := Node.v) (a := ⟨o, le, a, b⟩)).symm
 simp only [new_spec, tapeV, Option.bind_some, V.cell_agg, V.nth_zero, V.nth_one, V.toList_list, V.toList_own, V.toInt_int, V.toStr_str, V.toBool_bool, c1, ek, c2, List.length_map, c5, all_spec ns _ (k + 1) x hL, bif_not, cond_true,
  mod_spec _ _ (show (ns.length : Int) < 9223372036854775808 by omega), hr, mod_spec v 12 (by omega), mod_spec how 5 (by omega), bif_and, bif_decide, bif_beq, Int.toNat_natCast, hget, Node.v, V.nth_two, V.nth_three, ev, set]
 rw [if_pos (by omega), if_pos (by omega)]
 repeat' split
 all_goals exact fin _ _ (by simp)
end Go.AM
