/-
  Functions of the program, lifted to plain data.
-/
import Derived.Test.YtffbfcncnleiaaaP4
set_option linter.unusedVariables false
set_option maxRecDepth 100000
namespace Go.AM
open Go.Proofs
/-! semigroup/starfree.Depth -/
theorem s_starfree_Depth_1d_eq (C : CallF) (g_Nodes : List V) (g_Root : Int) {β : Type} (K : Out → St → Option β) :
    execL Try.prog ann C 17 69 0 (codesAt Try.prog 17 [[0], [1, 0, 0], [1, 0, 1], [1, 1, 0], [1, 1, 1, 0, 0]]) (mk [(0, .agg [.list T_api_SfNode g_Nodes, .int .i64 g_Root])] []) K =
      (C F_starfree_Validate [.agg [.list T_api_SfNode g_Nodes, .int .i64 g_Root], .int .i64 6] []).bind fun r4 =>
        bif (r4.1.toInt : Int) != 0 then
          K .ret (mk [(2, .int .i64 0)] [])
        else
          bif (decide (0 ≤ (IntKind.wrap .i64 (g_Root + 1)))) && ((decide ((IntKind.wrap .i64 (g_Root + 1)) ≤ (IntKind.wrap .i64 (g_Root + 1)))) && (Nat.ble (((IntKind.wrap .i64 (g_Root + 1) : Int).toNat) * 8) maxBytes)) then
            bif (decide (0 ≤ (IntKind.wrap .i64 (g_Root + 1)))) && (decide ((IntKind.wrap .i64 (g_Root + 1)) ≤ (g_Nodes.length : Int))) then
              K .norm (mk [(1, .ptr 0 0 0), (3, .whole T_int 1), (18, .list T_api_SfNode ((g_Nodes.drop 0).take (((IntKind.wrap .i64 (g_Root + 1) : Int).toNat) - 0))), (19, .int .i64 (((g_Nodes.drop 0).take (((IntKind.wrap .i64 (g_Root + 1) : Int).toNat) - 0)).length : Int)), (20, .int .i64 0)] [.var [.list T_api_SfNode g_Nodes, .int .i64 g_Root], .arr T_int (List.replicate ((IntKind.wrap .i64 (g_Root + 1) : Int).toNat) (V.int .i64 0)) false])
            else none
          else none := by kernel_rfl

noncomputable def s_starfree_Depth_2 (C : CallF) (t18 : List V) (t19 : Int) (t20 : Int) (depths : List V) {β : Type} (k0 : (List V) → Option β) (k1 : Option β) : Option β :=
  bif decide ((t20 : Int) < t19) then
    (idx t18 t20).bind fun x5 =>
      (C F_starfree_parts [.int .i64 ((x5.cell 0).toInt)] []).bind fun r6 =>
        bif decide ((r6.1.toInt : Int) ≥ 1) then
          bif (decide (0 ≤ ((x5.cell 2).toInt))) && (decide (((x5.cell 2).toInt) < (depths.length : Int))) then
            (depths[((x5.cell 2).toInt : Int).toNat]?).bind fun x7 =>
              bif (decide (0 ≤ t20)) && (decide (t20 < (depths.length : Int))) then
                (depths[(t20 : Int).toNat]?).bind fun x8 =>
                  (C F_starfree_parts [.int .i64 ((x5.cell 0).toInt)] []).bind fun r9 =>
                    bif (r9.1.toInt : Int) == 2 then
                      bif (decide (0 ≤ t20)) && (decide (t20 < ((depths.set ((t20 : Int).toNat) (.int .i64 x7.toInt)).length : Int))) then
                        ((depths.set ((t20 : Int).toNat) (.int .i64 x7.toInt))[(t20 : Int).toNat]?).bind fun x10 =>
                          bif (decide (0 ≤ ((x5.cell 3).toInt))) && (decide (((x5.cell 3).toInt) < ((depths.set ((t20 : Int).toNat) (.int .i64 x7.toInt)).length : Int))) then
                            ((depths.set ((t20 : Int).toNat) (.int .i64 x7.toInt))[((x5.cell 3).toInt : Int).toNat]?).bind fun x11 =>
                              bif (decide (0 ≤ t20)) && (decide (t20 < ((depths.set ((t20 : Int).toNat) (.int .i64 x7.toInt)).length : Int))) then
                                ((depths.set ((t20 : Int).toNat) (.int .i64 x7.toInt))[(t20 : Int).toNat]?).bind fun x12 =>
                                  bif (((x5.cell 0).toInt) : Int) == 7 then
                                    bif (decide (0 ≤ t20)) && (decide (t20 < (((depths.set ((t20 : Int).toNat) (.int .i64 x7.toInt)).set ((t20 : Int).toNat) (.int .i64 (if x11.toInt > x10.toInt then x11.toInt else x10.toInt))).length : Int))) then
                                      (((depths.set ((t20 : Int).toNat) (.int .i64 x7.toInt)).set ((t20 : Int).toNat) (.int .i64 (if x11.toInt > x10.toInt then x11.toInt else x10.toInt)))[(t20 : Int).toNat]?).bind fun x13 =>
                                        bif (decide (0 ≤ t20)) && (decide (t20 < (((depths.set ((t20 : Int).toNat) (.int .i64 x7.toInt)).set ((t20 : Int).toNat) (.int .i64 (if x11.toInt > x10.toInt then x11.toInt else x10.toInt))).length : Int))) then
                                          (((depths.set ((t20 : Int).toNat) (.int .i64 x7.toInt)).set ((t20 : Int).toNat) (.int .i64 (if x11.toInt > x10.toInt then x11.toInt else x10.toInt)))[(t20 : Int).toNat]?).bind fun x14 =>
                                            k0 (((depths.set ((t20 : Int).toNat) (.int .i64 x7.toInt)).set ((t20 : Int).toNat) (.int .i64 (if x11.toInt > x10.toInt then x11.toInt else x10.toInt))).set ((t20 : Int).toNat) (.int .i64 (IntKind.wrap .i64 (x13.toInt + 1))))
                                        else none
                                    else none
                                  else
                                    k0 ((depths.set ((t20 : Int).toNat) (.int .i64 x7.toInt)).set ((t20 : Int).toNat) (.int .i64 (if x11.toInt > x10.toInt then x11.toInt else x10.toInt)))
                              else none
                          else none
                      else none
                    else
                      bif (((x5.cell 0).toInt) : Int) == 7 then
                        bif (decide (0 ≤ t20)) && (decide (t20 < ((depths.set ((t20 : Int).toNat) (.int .i64 x7.toInt)).length : Int))) then
                          ((depths.set ((t20 : Int).toNat) (.int .i64 x7.toInt))[(t20 : Int).toNat]?).bind fun x15 =>
                            bif (decide (0 ≤ t20)) && (decide (t20 < ((depths.set ((t20 : Int).toNat) (.int .i64 x7.toInt)).length : Int))) then
                              ((depths.set ((t20 : Int).toNat) (.int .i64 x7.toInt))[(t20 : Int).toNat]?).bind fun x16 =>
                                k0 ((depths.set ((t20 : Int).toNat) (.int .i64 x7.toInt)).set ((t20 : Int).toNat) (.int .i64 (IntKind.wrap .i64 (x15.toInt + 1))))
                            else none
                        else none
                      else
                        k0 (depths.set ((t20 : Int).toNat) (.int .i64 x7.toInt))
              else none
          else none
        else
          (C F_starfree_parts [.int .i64 ((x5.cell 0).toInt)] []).bind fun r17 =>
            bif (r17.1.toInt : Int) == 2 then
              bif (decide (0 ≤ t20)) && (decide (t20 < (depths.length : Int))) then
                (depths[(t20 : Int).toNat]?).bind fun x18 =>
                  bif (decide (0 ≤ ((x5.cell 3).toInt))) && (decide (((x5.cell 3).toInt) < (depths.length : Int))) then
                    (depths[((x5.cell 3).toInt : Int).toNat]?).bind fun x19 =>
                      bif (decide (0 ≤ t20)) && (decide (t20 < (depths.length : Int))) then
                        (depths[(t20 : Int).toNat]?).bind fun x20 =>
                          bif (((x5.cell 0).toInt) : Int) == 7 then
                            bif (decide (0 ≤ t20)) && (decide (t20 < ((depths.set ((t20 : Int).toNat) (.int .i64 (if x19.toInt > x18.toInt then x19.toInt else x18.toInt))).length : Int))) then
                              ((depths.set ((t20 : Int).toNat) (.int .i64 (if x19.toInt > x18.toInt then x19.toInt else x18.toInt)))[(t20 : Int).toNat]?).bind fun x21 =>
                                bif (decide (0 ≤ t20)) && (decide (t20 < ((depths.set ((t20 : Int).toNat) (.int .i64 (if x19.toInt > x18.toInt then x19.toInt else x18.toInt))).length : Int))) then
                                  ((depths.set ((t20 : Int).toNat) (.int .i64 (if x19.toInt > x18.toInt then x19.toInt else x18.toInt)))[(t20 : Int).toNat]?).bind fun x22 =>
                                    k0 ((depths.set ((t20 : Int).toNat) (.int .i64 (if x19.toInt > x18.toInt then x19.toInt else x18.toInt))).set ((t20 : Int).toNat) (.int .i64 (IntKind.wrap .i64 (x21.toInt + 1))))
                                else none
                            else none
                          else
                            k0 (depths.set ((t20 : Int).toNat) (.int .i64 (if x19.toInt > x18.toInt then x19.toInt else x18.toInt)))
                      else none
                  else none
              else none
            else
              bif (((x5.cell 0).toInt) : Int) == 7 then
                bif (decide (0 ≤ t20)) && (decide (t20 < (depths.length : Int))) then
                  (depths[(t20 : Int).toNat]?).bind fun x23 =>
                    bif (decide (0 ≤ t20)) && (decide (t20 < (depths.length : Int))) then
                      (depths[(t20 : Int).toNat]?).bind fun x24 =>
                        k0 (depths.set ((t20 : Int).toNat) (.int .i64 (IntKind.wrap .i64 (x23.toInt + 1))))
                    else none
                else none
              else
                k0 depths
  else
    k1

theorem s_starfree_Depth_2_eq (C : CallF) (t18 : List V) (t19 : Int) (t20 : Int) (gs_0 : List V) (gs_1 : Int) (depths : List V) {β : Type} (K : Out → St → Option β) :
    execL Try.prog ann C 17 69 0 (codesAt Try.prog 17 [[1, 1, 1, 0, 1, 0, 0, 0], [1, 1, 1, 0, 1, 0, 0, 1, 0], [1, 1, 1, 0, 1, 0, 0, 1, 1, 0]]) (mk [(1, .ptr 0 0 0), (3, .whole T_int 1), (18, .list T_api_SfNode t18), (19, .int .i64 t19), (20, .int .i64 t20)] [.var [.list T_api_SfNode gs_0, .int .i64 gs_1], .arr T_int depths false]) K =
      s_starfree_Depth_2 C t18 t19 t20 depths
        (fun (depths0 : List V) => K .norm (mk [(1, .ptr 0 0 0), (3, .whole T_int 1), (18, .list T_api_SfNode t18), (19, .int .i64 t19), (20, .int .i64 t20)] [.var [.list T_api_SfNode gs_0, .int .i64 gs_1], .arr T_int depths0 false]))
        (K (.exit 0) (mk [(1, .ptr 0 0 0), (3, .whole T_int 1), (18, .list T_api_SfNode t18), (19, .int .i64 t19), (20, .int .i64 t20), (21, .bool (decide ((t20 : Int) < t19)))] [.var [.list T_api_SfNode gs_0, .int .i64 gs_1], .arr T_int depths false])) := by kernel_rfl

theorem s_starfree_Depth_3d_eq (C : CallF) (t18 : List V) (t19 : Int) (t20 : Int) (gs_0 : List V) (gs_1 : Int) (depths : List V) {β : Type} (K : Out → St → Option β) :
    execL Try.prog ann C 17 69 0 (codesAt Try.prog 17 [[1, 1, 1, 0, 1, 0, 0, 1, 1, 1]]) (mk [(1, .ptr 0 0 0), (3, .whole T_int 1), (18, .list T_api_SfNode t18), (19, .int .i64 t19), (20, .int .i64 t20)] [.var [.list T_api_SfNode gs_0, .int .i64 gs_1], .arr T_int depths false]) K =
      K .norm (mk [(1, .ptr 0 0 0), (3, .whole T_int 1), (18, .list T_api_SfNode t18), (19, .int .i64 t19), (20, .int .i64 (IntKind.wrap .i64 (t20 + 1)))] [.var [.list T_api_SfNode gs_0, .int .i64 gs_1], .arr T_int depths false]) := by kernel_rfl

theorem s_starfree_Depth_4c_eq (C : CallF) (t18 : List V) (t19 : Int) (t20 : Int) (gs_0 : List V) (gs_1 : Int) (depths : List V) {β : Type} (K : Out → St → Option β) :
    execL Try.prog ann C 17 69 0 (codesAt Try.prog 17 [[1, 1, 1, 0, 1, 0, 0, 0], [1, 1, 1, 0, 1, 0, 0, 1, 0], [1, 1, 1, 0, 1, 0, 0, 1, 1, 0], [1, 1, 1, 0, 1, 0, 0, 1, 1, 1]]) (mk [(1, .ptr 0 0 0), (3, .whole T_int 1), (18, .list T_api_SfNode t18), (19, .int .i64 t19), (20, .int .i64 t20)] [.var [.list T_api_SfNode gs_0, .int .i64 gs_1], .arr T_int depths false]) K =
      s_starfree_Depth_2 C t18 t19 t20 depths
        (fun (depths_45 : List V) =>
          K .norm (mk [(1, .ptr 0 0 0), (3, .whole T_int 1), (18, .list T_api_SfNode t18), (19, .int .i64 t19), (20, .int .i64 (IntKind.wrap .i64 (t20 + 1)))] [.var [.list T_api_SfNode gs_0, .int .i64 gs_1], .arr T_int depths_45 false]))
        (
          K (.exit 0) (mk [(1, .ptr 0 0 0), (3, .whole T_int 1), (18, .list T_api_SfNode t18), (19, .int .i64 t19), (20, .int .i64 t20), (21, .bool (decide ((t20 : Int) < t19)))] [.var [.list T_api_SfNode gs_0, .int .i64 gs_1], .arr T_int depths false])) := by
  refine Eq.trans (execL_app (P := Try.prog) (A := ann) (C := C) (f := 17) (n := 69) (m := 0) (codesAt Try.prog 17 [[1, 1, 1, 0, 1, 0, 0, 0], [1, 1, 1, 0, 1, 0, 0, 1, 0], [1, 1, 1, 0, 1, 0, 0, 1, 1, 0]]) (codesAt Try.prog 17 [[1, 1, 1, 0, 1, 0, 0, 1, 1, 1]]) (st := mk [(1, .ptr 0 0 0), (3, .whole T_int 1), (18, .list T_api_SfNode t18), (19, .int .i64 t19), (20, .int .i64 t20)] [.var [.list T_api_SfNode gs_0, .int .i64 gs_1], .arr T_int depths false]) (K := K)) (Eq.trans (s_starfree_Depth_2_eq C t18 t19 t20 gs_0 gs_1 depths (seqK Try.prog ann C 17 69 0 (codesAt Try.prog 17 [[1, 1, 1, 0, 1, 0, 0, 1, 1, 1]]) K)) ?_)
  · exact Eq.trans (by kernel_rfl) (Eq.trans (congrArg (fun HOLE : (List V) → Option β => s_starfree_Depth_2 C t18 t19 t20 depths HOLE (K (.exit 0) (mk [(1, .ptr 0 0 0), (3, .whole T_int 1), (18, .list T_api_SfNode t18), (19, .int .i64 t19), (20, .int .i64 t20), (21, .bool (decide ((t20 : Int) < t19)))] [.var [.list T_api_SfNode gs_0, .int .i64 gs_1], .arr T_int depths false]))) (funext fun (depths0 : List V) => s_starfree_Depth_3d_eq C t18 t19 t20 gs_0 gs_1 depths0 K)) ((by kernel_rfl)))


noncomputable def s_starfree_Depth_5L_step (C : CallF) (t18 : List V) (t19 : Int) : (Int × (List V)) → Option ((Int × (List V)) ⊕ ((Int × Bool × (List V)))) := fun (t20, depths) =>
  s_starfree_Depth_2 C t18 t19 t20 depths
    (fun (depths_45 : List V) =>
      some (.inl (IntKind.wrap .i64 (t20 + 1), depths_45)))
    (
      some (.inr (t20, decide ((t20 : Int) < t19), depths)))

noncomputable def s_starfree_Depth_5L (C : CallF) (t18 : List V) (t19 : Int) (t20 : Int) (depths : List V) {β : Type} (k0 : Int → Bool → (List V) → Option β) : Option β :=
  (Loop (s_starfree_Depth_5L_step C t18 t19) (t20, depths)).bind fun (t200, t210, depths0) => k0 t200 t210 depths0

def s_starfree_Depth_5L_dec : Out → St → Option ((Int × (List V)) ⊕ ((Int × Bool × (List V)))) := fun o st => match o with
    | .norm => some (.inl (V.toInt (st.sl 20), arrOf (st.hp 1)))
    | .exit q => bif Nat.beq q 0 then some (.inr (V.toInt (st.sl 20), V.toBool (st.sl 21), arrOf (st.hp 1))) else none
    | .ret => none

def s_starfree_Depth_5L_hd (t18 : List V) (t19 : Int) (gs_0 : List V) (gs_1 : Int) : (Int × (List V)) → St := fun (t20, depths) => mk [(1, .ptr 0 0 0), (3, .whole T_int 1), (18, .list T_api_SfNode t18), (19, .int .i64 t19), (20, .int .i64 t20)] [.var [.list T_api_SfNode gs_0, .int .i64 gs_1], .arr T_int depths false]

def s_starfree_Depth_5L_enc (t18 : List V) (t19 : Int) (gs_0 : List V) (gs_1 : Int) : ((Int × Bool × (List V))) → Out × St := fun (t200, t210, depths0) => (.exit 0, mk [(1, .ptr 0 0 0), (3, .whole T_int 1), (18, .list T_api_SfNode t18), (19, .int .i64 t19), (20, .int .i64 t200), (21, .bool t210)] [.var [.list T_api_SfNode gs_0, .int .i64 gs_1], .arr T_int depths0 false])

theorem s_starfree_Depth_5L_eq (C : CallF) (t18 : List V) (t19 : Int) (t20 : Int) (gs_0 : List V) (gs_1 : Int) (depths : List V) {β : Type} (K : Out → St → Option β) :
    execL Try.prog ann C 17 69 0 (codesAt Try.prog 17 [[1, 1, 1, 0, 1, 0]]) (mk [(1, .ptr 0 0 0), (3, .whole T_int 1), (18, .list T_api_SfNode t18), (19, .int .i64 t19), (20, .int .i64 t20)] [.var [.list T_api_SfNode gs_0, .int .i64 gs_1], .arr T_int depths false]) K =
      s_starfree_Depth_5L C t18 t19 t20 depths
        (fun (t200 : Int) (t210 : Bool) (depths0 : List V) => K (.exit 0) (mk [(1, .ptr 0 0 0), (3, .whole T_int 1), (18, .list T_api_SfNode t18), (19, .int .i64 t19), (20, .int .i64 t200), (21, .bool t210)] [.var [.list T_api_SfNode gs_0, .int .i64 gs_1], .arr T_int depths0 false])) := by
  have hitems : flatC (codeAt [1, 1, 1, 0, 1, 0, 0] (bodyOf Try.prog 17)) = codesAt Try.prog 17 [[1, 1, 1, 0, 1, 0, 0, 0], [1, 1, 1, 0, 1, 0, 0, 1, 0], [1, 1, 1, 0, 1, 0, 0, 1, 1, 0], [1, 1, 1, 0, 1, 0, 0, 1, 1, 1]] := by kernel_rfl
  have hloop : [codeAt [1, 1, 1, 0, 1, 0] (bodyOf Try.prog 17)] = [Code.loop (codeAt [1, 1, 1, 0, 1, 0, 0] (bodyOf Try.prog 17))] := by kernel_rfl
  have h := loopK_eq (P := Try.prog) (A := ann) (C := C) (f := 17) (n := 69) (m := 0) (c := codeAt [1, 1, 1, 0, 1, 0, 0] (bodyOf Try.prog 17)) (s_starfree_Depth_5L_hd t18 t19 gs_0 gs_1) (s_starfree_Depth_5L_enc t18 t19 gs_0 gs_1) s_starfree_Depth_5L_dec (s_starfree_Depth_5L_step C t18 t19)
    (by rintro ⟨t20, depths⟩; exact Eq.trans (execK_items hitems) (Eq.trans (s_starfree_Depth_4c_eq C t18 t19 t20 gs_0 gs_1 depths s_starfree_Depth_5L_dec) (by kernel_rfl)))
    (by rintro ⟨t20, depths⟩; exact Eq.trans (execK_items hitems) (Eq.trans (s_starfree_Depth_4c_eq C t18 t19 t20 gs_0 gs_1 depths (fun o st => some (o, st))) (Eq.trans (by kernel_rfl) (Eq.trans (s_starfree_Depth_4c_eq C t18 t19 t20 gs_0 gs_1 depths (fun o st => (s_starfree_Depth_5L_dec o st).map (outS (s_starfree_Depth_5L_hd t18 t19 gs_0 gs_1) (s_starfree_Depth_5L_enc t18 t19 gs_0 gs_1)))).symm (execK_items hitems).symm))))
    (by intro r; intro h; cases h) (t20, depths) K
  refine Eq.trans (congrArg (fun l => execL Try.prog ann C 17 69 0 l (mk [(1, .ptr 0 0 0), (3, .whole T_int 1), (18, .list T_api_SfNode t18), (19, .int .i64 t19), (20, .int .i64 t20)] [.var [.list T_api_SfNode gs_0, .int .i64 gs_1], .arr T_int depths false]) K) hloop) (Eq.trans h ?_)
  · refine congrArg _ (funext fun r => ?_)
    rfl

theorem s_starfree_Depth_6b_eq (C : CallF) (t18 : List V) (t19 : Int) (t20 : Int) (gs_0 : List V) (gs_1 : Int) (depths : List V) {β : Type} (K : Out → St → Option β) :
    execL Try.prog ann C 17 69 0 (codesAt Try.prog 17 [[1, 1, 1, 0, 1]]) (mk [(1, .ptr 0 0 0), (3, .whole T_int 1), (18, .list T_api_SfNode t18), (19, .int .i64 t19), (20, .int .i64 t20)] [.var [.list T_api_SfNode gs_0, .int .i64 gs_1], .arr T_int depths false]) K =
      s_starfree_Depth_5L C t18 t19 t20 depths
        (fun (t_46 : Int) (t_47 : Bool) (depths_48 : List V) =>
          K .norm (mk [(1, .ptr 0 0 0), (3, .whole T_int 1)] [.var [.list T_api_SfNode gs_0, .int .i64 gs_1], .arr T_int depths_48 false])) := Eq.trans (execL_block (P := Try.prog) (A := ann) (C := C) (f := 17) (n := 69) (m := 0) (id := 0) (c := codeAt [1, 1, 1, 0, 1] (bodyOf Try.prog 17)) (d := codeAt [1, 1, 1, 0, 1, 0] (bodyOf Try.prog 17)) (l := codesAt Try.prog 17 [[1, 1, 1, 0, 1, 0]]) (st := mk [(1, .ptr 0 0 0), (3, .whole T_int 1), (18, .list T_api_SfNode t18), (19, .int .i64 t19), (20, .int .i64 t20)] [.var [.list T_api_SfNode gs_0, .int .i64 gs_1], .arr T_int depths false]) (K := K) (by kernel_rfl) (by kernel_rfl)) (Eq.trans (s_starfree_Depth_5L_eq C t18 t19 t20 gs_0 gs_1 depths (blockK ann 17 0 0 K)) (by kernel_rfl))

theorem s_starfree_Depth_7d_eq (C : CallF) (gs_0 : List V) (gs_1 : Int) (depths : List V) {β : Type} (K : Out → St → Option β) :
    execL Try.prog ann C 17 69 0 (codesAt Try.prog 17 [[1, 1, 1, 1, 0], [1, 1, 1, 1, 1]]) (mk [(1, .ptr 0 0 0), (3, .whole T_int 1)] [.var [.list T_api_SfNode gs_0, .int .i64 gs_1], .arr T_int depths false]) K =
      bif (decide (0 ≤ gs_1)) && (decide (gs_1 < (depths.length : Int))) then
        (depths[(gs_1 : Int).toNat]?).bind fun x50 =>
          K .ret (mk [(2, .int .i64 x50.toInt)] [])
      else none := by kernel_rfl

theorem s_starfree_Depth_8c_eq (C : CallF) (t18 : List V) (t19 : Int) (t20 : Int) (gs_0 : List V) (gs_1 : Int) (depths : List V) {β : Type} (K : Out → St → Option β) :
    execL Try.prog ann C 17 69 0 (codesAt Try.prog 17 [[1, 1, 1, 0, 1], [1, 1, 1, 1, 0], [1, 1, 1, 1, 1]]) (mk [(1, .ptr 0 0 0), (3, .whole T_int 1), (18, .list T_api_SfNode t18), (19, .int .i64 t19), (20, .int .i64 t20)] [.var [.list T_api_SfNode gs_0, .int .i64 gs_1], .arr T_int depths false]) K =
      s_starfree_Depth_5L C t18 t19 t20 depths
        (fun (t_46 : Int) (t_47 : Bool) (depths_48 : List V) =>
          bif (decide (0 ≤ gs_1)) && (decide (gs_1 < (depths_48.length : Int))) then
            (depths_48[(gs_1 : Int).toNat]?).bind fun x50 =>
              K .ret (mk [(2, .int .i64 x50.toInt)] [])
          else none) := by
  refine Eq.trans (execL_app (P := Try.prog) (A := ann) (C := C) (f := 17) (n := 69) (m := 0) (codesAt Try.prog 17 [[1, 1, 1, 0, 1]]) (codesAt Try.prog 17 [[1, 1, 1, 1, 0], [1, 1, 1, 1, 1]]) (st := mk [(1, .ptr 0 0 0), (3, .whole T_int 1), (18, .list T_api_SfNode t18), (19, .int .i64 t19), (20, .int .i64 t20)] [.var [.list T_api_SfNode gs_0, .int .i64 gs_1], .arr T_int depths false]) (K := K)) (Eq.trans (s_starfree_Depth_6b_eq C t18 t19 t20 gs_0 gs_1 depths (seqK Try.prog ann C 17 69 0 (codesAt Try.prog 17 [[1, 1, 1, 1, 0], [1, 1, 1, 1, 1]]) K)) ?_)
  · exact Eq.trans (by kernel_rfl) (Eq.trans (congrArg (fun HOLE : (List V) → Option β => (s_starfree_Depth_5L C t18 t19 t20 depths
        (fun (t_46 : Int) (t_47 : Bool) (depths_48 : List V) =>
          HOLE depths_48))) (funext fun (depths0 : List V) => s_starfree_Depth_7d_eq C gs_0 gs_1 depths0 K)) ((by kernel_rfl)))


theorem s_starfree_Depth_9c_eq (C : CallF) (g_Nodes : List V) (g_Root : Int) {β : Type} (K : Out → St → Option β) :
    execL Try.prog ann C 17 69 0 (codesAt Try.prog 17 [[0], [1, 0, 0], [1, 0, 1], [1, 1, 0], [1, 1, 1, 0, 0], [1, 1, 1, 0, 1], [1, 1, 1, 1, 0], [1, 1, 1, 1, 1]]) (mk [(0, .agg [.list T_api_SfNode g_Nodes, .int .i64 g_Root])] []) K =
      (C F_starfree_Validate [.agg [.list T_api_SfNode g_Nodes, .int .i64 g_Root], .int .i64 6] []).bind fun r4 =>
        bif (r4.1.toInt : Int) != 0 then
          K .ret (mk [(2, .int .i64 0)] [])
        else
          bif (decide (0 ≤ (IntKind.wrap .i64 (g_Root + 1)))) && ((decide ((IntKind.wrap .i64 (g_Root + 1)) ≤ (IntKind.wrap .i64 (g_Root + 1)))) && (Nat.ble (((IntKind.wrap .i64 (g_Root + 1) : Int).toNat) * 8) maxBytes)) then
            bif (decide (0 ≤ (IntKind.wrap .i64 (g_Root + 1)))) && (decide ((IntKind.wrap .i64 (g_Root + 1)) ≤ (g_Nodes.length : Int))) then
              s_starfree_Depth_5L C ((g_Nodes.drop 0).take (((IntKind.wrap .i64 (g_Root + 1) : Int).toNat) - 0)) (((g_Nodes.drop 0).take (((IntKind.wrap .i64 (g_Root + 1) : Int).toNat) - 0)).length : Int) 0 (List.replicate ((IntKind.wrap .i64 (g_Root + 1) : Int).toNat) (V.int .i64 0))
                (fun (t_46 : Int) (t_47 : Bool) (depths_48 : List V) =>
                  bif (decide (0 ≤ g_Root)) && (decide (g_Root < (depths_48.length : Int))) then
                    (depths_48[(g_Root : Int).toNat]?).bind fun x50 =>
                      K .ret (mk [(2, .int .i64 x50.toInt)] [])
                  else none)
            else none
          else none := by
  refine Eq.trans (execL_app (P := Try.prog) (A := ann) (C := C) (f := 17) (n := 69) (m := 0) (codesAt Try.prog 17 [[0], [1, 0, 0], [1, 0, 1], [1, 1, 0], [1, 1, 1, 0, 0]]) (codesAt Try.prog 17 [[1, 1, 1, 0, 1], [1, 1, 1, 1, 0], [1, 1, 1, 1, 1]]) (st := mk [(0, .agg [.list T_api_SfNode g_Nodes, .int .i64 g_Root])] []) (K := K)) (Eq.trans (s_starfree_Depth_1d_eq C g_Nodes g_Root (seqK Try.prog ann C 17 69 0 (codesAt Try.prog 17 [[1, 1, 1, 0, 1], [1, 1, 1, 1, 0], [1, 1, 1, 1, 1]]) K)) ?_)
  · exact Eq.trans (by kernel_rfl) (Eq.trans (congrArg (fun HOLE : Option β => ((C F_starfree_Validate [.agg [.list T_api_SfNode g_Nodes, .int .i64 g_Root], .int .i64 6] []).bind fun r4 =>
        bif (r4.1.toInt : Int) != 0 then
          (K .ret (mk [(2, .int .i64 0)] []))
        else
          bif (decide (0 ≤ (IntKind.wrap .i64 (g_Root + 1)))) && ((decide ((IntKind.wrap .i64 (g_Root + 1)) ≤ (IntKind.wrap .i64 (g_Root + 1)))) && (Nat.ble (((IntKind.wrap .i64 (g_Root + 1) : Int).toNat) * 8) maxBytes)) then
            bif (decide (0 ≤ (IntKind.wrap .i64 (g_Root + 1)))) && (decide ((IntKind.wrap .i64 (g_Root + 1)) ≤ (g_Nodes.length : Int))) then
              HOLE
            else none
          else none)) (s_starfree_Depth_8c_eq C ((g_Nodes.drop 0).take (((IntKind.wrap .i64 (g_Root + 1) : Int).toNat) - 0)) (((g_Nodes.drop 0).take (((IntKind.wrap .i64 (g_Root + 1) : Int).toNat) - 0)).length : Int) 0 g_Nodes g_Root (List.replicate ((IntKind.wrap .i64 (g_Root + 1) : Int).toNat) (V.int .i64 0)) K)) ((by kernel_rfl)))


theorem f_starfree_Depth_all (C : CallF) (g_Nodes : List V) (g_Root : Int) {β : Type} (K : Out → St → Option β) : execK Try.prog ann C 17 (ntmpsOf Try.prog 17) ([] : List V).length (bodyOf Try.prog 17) (enter [.agg [.list T_api_SfNode g_Nodes, .int .i64 g_Root]] []) K =
      (C F_starfree_Validate [.agg [.list T_api_SfNode g_Nodes, .int .i64 g_Root], .int .i64 6] []).bind fun r4 =>
        bif (r4.1.toInt : Int) != 0 then
          K .ret (mk [(2, .int .i64 0)] [])
        else
          bif (decide (0 ≤ (IntKind.wrap .i64 (g_Root + 1)))) && ((decide ((IntKind.wrap .i64 (g_Root + 1)) ≤ (IntKind.wrap .i64 (g_Root + 1)))) && (Nat.ble (((IntKind.wrap .i64 (g_Root + 1) : Int).toNat) * 8) maxBytes)) then
            bif (decide (0 ≤ (IntKind.wrap .i64 (g_Root + 1)))) && (decide ((IntKind.wrap .i64 (g_Root + 1)) ≤ (g_Nodes.length : Int))) then
              s_starfree_Depth_5L C ((g_Nodes.drop 0).take (((IntKind.wrap .i64 (g_Root + 1) : Int).toNat) - 0)) (((g_Nodes.drop 0).take (((IntKind.wrap .i64 (g_Root + 1) : Int).toNat) - 0)).length : Int) 0 (List.replicate ((IntKind.wrap .i64 (g_Root + 1) : Int).toNat) (V.int .i64 0))
                (fun (t_46 : Int) (t_47 : Bool) (depths_48 : List V) =>
                  bif (decide (0 ≤ g_Root)) && (decide (g_Root < (depths_48.length : Int))) then
                    (depths_48[(g_Root : Int).toNat]?).bind fun x50 =>
                      K .ret (mk [(2, .int .i64 x50.toInt)] [])
                  else none)
            else none
          else none :=
  Eq.trans (execK_items (by kernel_rfl)) (s_starfree_Depth_9c_eq C g_Nodes g_Root K)

noncomputable def f_starfree_Depth (C : CallF) (g_Nodes : List V) (g_Root : Int) : Option (V × List V) :=
  (C F_starfree_Validate [.agg [.list T_api_SfNode g_Nodes, .int .i64 g_Root], .int .i64 6] []).bind fun r4 =>
    bif (r4.1.toInt : Int) != 0 then
      some (.int .i64 0, [])
    else
      bif (decide (0 ≤ (IntKind.wrap .i64 (g_Root + 1)))) && ((decide ((IntKind.wrap .i64 (g_Root + 1)) ≤ (IntKind.wrap .i64 (g_Root + 1)))) && (Nat.ble (((IntKind.wrap .i64 (g_Root + 1) : Int).toNat) * 8) maxBytes)) then
        bif (decide (0 ≤ (IntKind.wrap .i64 (g_Root + 1)))) && (decide ((IntKind.wrap .i64 (g_Root + 1)) ≤ (g_Nodes.length : Int))) then
          s_starfree_Depth_5L C ((g_Nodes.drop 0).take (((IntKind.wrap .i64 (g_Root + 1) : Int).toNat) - 0)) (((g_Nodes.drop 0).take (((IntKind.wrap .i64 (g_Root + 1) : Int).toNat) - 0)).length : Int) 0 (List.replicate ((IntKind.wrap .i64 (g_Root + 1) : Int).toNat) (V.int .i64 0))
            (fun (t_46 : Int) (t_47 : Bool) (depths_48 : List V) =>
              bif (decide (0 ≤ g_Root)) && (decide (g_Root < (depths_48.length : Int))) then
                (depths_48[(g_Root : Int).toNat]?).bind fun x50 =>
                  some (.int .i64 x50.toInt, [])
              else none)
        else none
      else none

theorem f_starfree_Depth_eq (C : CallF) (g_Nodes : List V) (g_Root : Int) : bodyK Try.prog ann C 17 [.agg [.list T_api_SfNode g_Nodes, .int .i64 g_Root]] [] = f_starfree_Depth C g_Nodes g_Root :=
  Eq.trans (bodyK_fin (by kernel_rfl)) (Eq.trans (f_starfree_Depth_all C g_Nodes g_Root (finK Try.prog ann C 17 [])) (by kernel_rfl))

theorem f_starfree_Depth_of {g_Nodes : List V} {g_Root : Int} {r : V × List V} (h : f_starfree_Depth CC g_Nodes g_Root = some r) : CC F_starfree_Depth [.agg [.list T_api_SfNode g_Nodes, .int .i64 g_Root]] [] = some r :=
  Call_of_body ((bodyK_eq ..).trans ((f_starfree_Depth_eq ..).trans h))

end Go.AM

set_option maxRecDepth 100000
namespace Go.AM
open Go.Proofs
/-! semigroup/semigrouplaw31.known -/
noncomputable def s_semigrouplaw31_known_1 (C : CallF)  {β : Type} (k0 : Bool → Option β) : Option β :=
  (C F_semigrouplaw31_example [] []).bind fun r8 =>
    (C F_starfree_Accepts [.agg [.list T_api_SfNode ((r8.1.cell 0).toList), .int .i64 ((r8.1.cell 1).toInt)], .str [97, 97, 97]] []).bind fun r9 =>
      bif r9.1.toBool then
        (C F_starfree_Accepts [.agg [.list T_api_SfNode ((r8.1.cell 0).toList), .int .i64 ((r8.1.cell 1).toInt)], .str [97, 98, 97]] []).bind fun r10 =>
          bif !r10.1.toBool then
            (C F_starfree_Depth [.agg [.list T_api_SfNode ((r8.1.cell 0).toList), .int .i64 ((r8.1.cell 1).toInt)]] []).bind fun r11 =>
              bif (r11.1.toInt : Int) == 2 then
                (C F_starfree_Validate [.agg [.list T_api_SfNode ((r8.1.cell 0).toList), .int .i64 ((r8.1.cell 1).toInt)], .int .i64 2] []).bind fun r12 =>
                  bif (r12.1.toInt : Int) == 0 then
                    (C F_starfree_Validate [.agg [.list T_api_SfNode ((r8.1.cell 0).toList), .int .i64 ((r8.1.cell 1).toInt)], .int .i64 1] []).bind fun r13 =>
                      k0 ((r13.1.toInt : Int) == 22)
                  else
                    k0 false
              else
                k0 false
          else
            k0 false
      else
        k0 false

theorem s_semigrouplaw31_known_1_eq (C : CallF)  {β : Type} (K : Out → St → Option β) :
    execL Try.prog ann C 12 25 0 (codesAt Try.prog 12 [[0], [1, 0], [1, 1, 0], [1, 1, 1]]) (mk [] []) K =
      s_semigrouplaw31_known_1 C
        (fun (t00 : Bool) => K .ret (mk [(0, .bool t00)] [])) := by kernel_rfl

theorem f_semigrouplaw31_known_all (C : CallF)  {β : Type} (K : Out → St → Option β) : execK Try.prog ann C 12 (ntmpsOf Try.prog 12) ([] : List V).length (bodyOf Try.prog 12) (enter [] []) K =
      s_semigrouplaw31_known_1 C
        (fun (t_15 : Bool) =>
          K .ret (mk [(0, .bool t_15)] [])) :=
  Eq.trans (execK_items (by kernel_rfl)) (s_semigrouplaw31_known_1_eq C K)

noncomputable def f_semigrouplaw31_known (C : CallF)  : Option (V × List V) :=
  s_semigrouplaw31_known_1 C
    (fun (t_14 : Bool) =>
      some (.bool t_14, []))

theorem f_semigrouplaw31_known_eq (C : CallF)  : bodyK Try.prog ann C 12 [] [] = f_semigrouplaw31_known C :=
  Eq.trans (bodyK_fin (by kernel_rfl)) (Eq.trans (f_semigrouplaw31_known_all C (finK Try.prog ann C 12 [])) (by kernel_rfl))

theorem f_semigrouplaw31_known_of  {r : V × List V} (h : f_semigrouplaw31_known CC = some r) : CC F_semigrouplaw31_known [] [] = some r :=
  Call_of_body ((bodyK_eq ..).trans ((f_semigrouplaw31_known_eq ..).trans h))

end Go.AM

set_option maxRecDepth 100000
namespace Go.AM
open Go.Proofs
/-! semigroup/semigrouplaw31.example -/
theorem s_semigrouplaw31_example_1d_eq (C : CallF)  {β : Type} (K : Out → St → Option β) :
    execL Try.prog ann C 19 8 0 (codesAt Try.prog 19 [[0], [1, 0], [1, 1]]) (mk [] []) K =
      K .ret (mk [(0, .ptr 0 0 0)] [.var [.whole T_api_SfNode 1, .int .i64 4], .arr T_api_SfNode ([.agg [.int .i64 4, .int .i64 0, .int .i64 0, .int .i64 0], .agg [.int .i64 3, .int .i64 1, .int .i64 0, .int .i64 0], .agg [.int .i64 7, .int .i64 0, .int .i64 0, .int .i64 1], .agg [.int .i64 7, .int .i64 0, .int .i64 2, .int .i64 0], .agg [.int .i64 8, .int .i64 0, .int .i64 3, .int .i64 0]] : List V) false]) := by kernel_rfl

theorem f_semigrouplaw31_example_all (C : CallF)  {β : Type} (K : Out → St → Option β) : execK Try.prog ann C 19 (ntmpsOf Try.prog 19) ([] : List V).length (bodyOf Try.prog 19) (enter [] []) K =
      K .ret (mk [(0, .ptr 0 0 0)] [.var [.whole T_api_SfNode 1, .int .i64 4], .arr T_api_SfNode ([.agg [.int .i64 4, .int .i64 0, .int .i64 0, .int .i64 0], .agg [.int .i64 3, .int .i64 1, .int .i64 0, .int .i64 0], .agg [.int .i64 7, .int .i64 0, .int .i64 0, .int .i64 1], .agg [.int .i64 7, .int .i64 0, .int .i64 2, .int .i64 0], .agg [.int .i64 8, .int .i64 0, .int .i64 3, .int .i64 0]] : List V) false]) :=
  Eq.trans (execK_items (by kernel_rfl)) (s_semigrouplaw31_example_1d_eq C K)

noncomputable def f_semigrouplaw31_example (C : CallF)  : Option (V × List V) :=
  some (.agg [.own T_api_SfNode ([.agg [.int .i64 4, .int .i64 0, .int .i64 0, .int .i64 0], .agg [.int .i64 3, .int .i64 1, .int .i64 0, .int .i64 0], .agg [.int .i64 7, .int .i64 0, .int .i64 0, .int .i64 1], .agg [.int .i64 7, .int .i64 0, .int .i64 2, .int .i64 0], .agg [.int .i64 8, .int .i64 0, .int .i64 3, .int .i64 0]] : List V), .int .i64 4], [])

theorem f_semigrouplaw31_example_eq (C : CallF)  : bodyK Try.prog ann C 19 [] [] = f_semigrouplaw31_example C :=
  Eq.trans (bodyK_fin (by kernel_rfl)) (Eq.trans (f_semigrouplaw31_example_all C (finK Try.prog ann C 19 [])) (by kernel_rfl))

theorem f_semigrouplaw31_example_of  {r : V × List V} (h : f_semigrouplaw31_example CC = some r) : CC F_semigrouplaw31_example [] [] = some r :=
  Call_of_body ((bodyK_eq ..).trans ((f_semigrouplaw31_example_eq ..).trans h))

end Go.AM

/-
  Depth of a star-free graph; the example of the chapter.
-/
namespace Go.AM
open Go.Proofs

def depthF (l : List Node) : Nat → Nat → Nat
  | 0, _ => 0
  | n + 1, i =>
    match l[i]? with
    | none => 0
    | some x =>
      if x.op = 5 ∨ x.op = 6 then max (depthF l n x.a.toNat) (depthF l n x.b.toNat)
      else if x.op = 7 then max (depthF l n x.a.toNat) (depthF l n x.b.toNat) + 1
      else if x.op = 8 then depthF l n x.a.toNat else 0
def depth (l : List Node) (i : Nat) : Nat := depthF l (i + 1) i

theorem depthF_stable {letters : Int} {l : List Node} (hl : Valid letters l) : ∀ (n m i : Nat), i < n → i < m → depthF l n i = depthF l m i := by
  intro n
  induction n with
  | zero => intro m i h; omega
  | succ n ih =>
    intro m i h1 h2
    obtain ⟨m, rfl⟩ : ∃ k, m = k + 1 := ⟨m - 1, by omega⟩
    unfold depthF
    cases hx : l[i]? with
    | none => rfl
    | some x =>
      have ok := nodeOk_iff.1 (hl.node hx)
      have ha : 5 ≤ x.op → depthF l n x.a.toNat = depthF l m x.a.toNat := fun h => by
        have := ok.a h
        exact ih m _ (by omega) (by omega)
      have hb : 5 ≤ x.op → x.op ≠ 8 → depthF l n x.b.toNat = depthF l m x.b.toNat := fun h h' => by
        have := ok.b h h'
        exact ih m _ (by omega) (by omega)
      simp only
      by_cases h5 : x.op = 5
      · simp [h5, ha (by omega), hb (by omega) (by omega)]
      by_cases h6 : x.op = 6
      · simp [h6, ha (by omega), hb (by omega) (by omega)]
      by_cases h7 : x.op = 7
      · simp [h7, ha (by omega), hb (by omega) (by omega)]
      by_cases h8 : x.op = 8
      · simp [h8, ha (by omega)]
      simp [h5, h6, h7, h8]

theorem depth_eq {letters : Int} {l : List Node} (hl : Valid letters l) {i : Nat} {x : Node} (hx : l[i]? = some x) :
    depth l i = if x.op = 5 ∨ x.op = 6 then max (depth l x.a.toNat) (depth l x.b.toNat)
      else if x.op = 7 then max (depth l x.a.toNat) (depth l x.b.toNat) + 1
      else if x.op = 8 then depth l x.a.toNat else 0 := by
  have ok := nodeOk_iff.1 (hl.node hx)
  have ha : 5 ≤ x.op → depthF l i x.a.toNat = depth l x.a.toNat := fun h => by
    have := ok.a h
    exact depthF_stable hl _ _ _ (by omega) (by omega)
  have hb : 5 ≤ x.op → x.op ≠ 8 → depthF l i x.b.toNat = depth l x.b.toNat := fun h h' => by
    have := ok.b h h'
    exact depthF_stable hl _ _ _ (by omega) (by omega)
  conv => lhs; unfold depth depthF
  rw [hx]
  simp only
  by_cases h5 : x.op = 5
  · simp [h5, ha (by omega), hb (by omega) (by omega)]
  by_cases h6 : x.op = 6
  · simp [h6, ha (by omega), hb (by omega) (by omega)]
  by_cases h7 : x.op = 7
  · simp [h7, ha (by omega), hb (by omega) (by omega)]
  by_cases h8 : x.op = 8
  · simp [h8, ha (by omega)]
  simp [h5, h6, h7, h8]

theorem depth_le {letters : Int} {l : List Node} (hl : Valid letters l) : ∀ (i : Nat), depth l i ≤ i := by
  intro i
  induction i using Nat.strongRecOn with
  | ind i ih =>
    cases hx : l[i]? with
    | none => unfold depth depthF; rw [hx]; exact Nat.zero_le _
    | some x =>
      have ok := nodeOk_iff.1 (hl.node hx)
      rw [depth_eq hl hx]
      have ha : 5 ≤ x.op → depth l x.a.toNat < i := fun h => by
        have := ok.a h
        have := ih x.a.toNat (by omega)
        omega
      have hb : 5 ≤ x.op → x.op ≠ 8 → depth l x.b.toNat < i := fun h h' => by
        have := ok.b h h'
        have := ih x.b.toNat (by omega)
        omega
      split
      · have := ha (by omega); have := hb (by omega) (by omega); omega
      · split
        · have := ha (by omega); have := hb (by omega) (by omega); omega
        · split
          · have := ha (by omega); omega
          · omega

abbrev natsV (l : List Nat) : List V := l.map fun n : Nat => V.int .i64 (n : Int)
theorem natsV_get {m : List Nat} {i : Nat} (h : i < m.length) : (natsV m)[i]? = some (.int .i64 (m[i] : Int)) := by simp [h]
theorem natsV_of {m : List Nat} {i n : Nat} (h : m[i]? = some n) : (natsV m)[i]? = some (.int .i64 (n : Int)) := by rw [List.getElem?_map, h]; rfl
theorem natsV_set (m : List Nat) (k n : Nat) : (natsV m).set k (.int .i64 (n : Int)) = natsV (m.set k n) := by simp [List.map_set]

theorem depth_spec (l : List Node) (root : Int) (hlen : l.length < 9223372036854775807) :
    CC F_starfree_Depth [graphV l root] [] = some (.int .i64 ((if validateN l root 6 = 0 then depth l root.toNat else 0 : Nat) : Int), []) := by
  refine f_starfree_Depth_of ?_
  unfold f_starfree_Depth s_starfree_Depth_5L
  simp only [validate_spec l root 6 hlen, Option.bind_some, V.toInt_int, bif_bne, bif_decide, bif_and, bif_ble]
  by_cases hv : ¬ validateN l root 6 = 0
  · rw [if_neg hv, if_neg hv]; rfl
  replace hv : validateN l root 6 = 0 := by omega
  rw [if_pos hv, if_pos hv]
  obtain ⟨_, hl20, hval, hr0, hr1⟩ := validateN_zero.1 hv
  obtain ⟨r, rfl⟩ : ∃ r : Nat, root = r := ⟨root.toNat, by omega⟩
  have hr : r < l.length := by omega
  have e1 : IntKind.wrap .i64 ((r : Int) + 1) = ((r + 1 : Nat) : Int) := by rw [wrap64 (by omega) (by omega)]; rfl
  have e2 : ((nodesV l).drop 0).take (r + 1 - 0) = nodesV (l.take (r + 1)) := by simp [List.map_take]
  simp only [e1, Int.toNat_natCast, e2, List.length_map, List.length_take]
  rw [if_pos (by omega), if_pos (by omega), if_pos (by unfold maxBytes; omega), if_pos (by omega), if_pos (by omega)]
  have key := Loop_inv (step := s_starfree_Depth_5L_step CC (nodesV (l.take (r + 1))) ((min (r + 1) l.length : Nat) : Int))
    (fun s => ∃ (i : Nat) (D : List Nat), i ≤ r + 1 ∧ D.length = r + 1 ∧ (∀ j, j < i → D[j]? = some (depth l j)) ∧ (∀ j, i ≤ j → j < r + 1 → D[j]? = some 0) ∧ s = ((i : Int), natsV D))
    (fun s => ((r + 1 : Int) - s.1).toNat)
    (fun s => ∃ (j : Int) (b : Bool) (D : List Nat), D.length = r + 1 ∧ (∀ j, j < r + 1 → D[j]? = some (depth l j)) ∧ s = (j, b, natsV D)) (by
      rintro s ⟨i, D, h1, h2, h3, h4, rfl⟩
      have hmin : min (r + 1) l.length = r + 1 := by omega
      unfold s_starfree_Depth_5L_step s_starfree_Depth_2
      rw [hmin]
      simp only [bif_and, bif_decide, bif_beq, List.length_set]
      by_cases hi : i < r + 1
      · left
        have hil : i < l.length := by omega
        have hx : l[i]? = some l[i] := List.getElem?_eq_getElem hil
        have ok := nodeOk_iff.1 (hval.node hx)
        have hget : (l.take (r + 1))[i]'(by simp; omega) = l[i] := by simp
        rw [if_pos (by omega), idx_map (n := i) rfl (by simp; omega), hget]
        simp only [Option.bind_some, Node.v, V.cell_agg, V.nth_zero, V.nth_two, V.nth_three, V.toInt_int, parts_spec, Int.toNat_natCast, List.length_map]
        have hde := depth_eq hval hx
        have hDi : D[i]? = some 0 := h4 i (Nat.le_refl _) hi
        have hDi' : (natsV D)[i]? = some (.int .i64 ((0 : Nat) : Int)) := by simp [hDi]
        have fin : ∀ d, d = depth l i → (∃ y, some (Sum.inl (IntKind.wrap .i64 ((i : Int) + 1), natsV (D.set i d))) = some (Sum.inl (β := Int × Bool × List V) y) ∧
            (∃ (i' : Nat) (D' : List Nat), i' ≤ r + 1 ∧ D'.length = r + 1 ∧ (∀ j, j < i' → D'[j]? = some (depth l j)) ∧ (∀ j, i' ≤ j → j < r + 1 → D'[j]? = some 0) ∧ y = ((i' : Int), natsV D')) ∧ ((r + 1 : Int) - y.1).toNat < ((r + 1 : Int) - (i : Int)).toNat) := by
          rintro d rfl
          refine ⟨_, rfl, ⟨i + 1, D.set i (depth l i), by omega, by simp [h2], fun j hj => ?_, fun j hj hj2 => ?_, ?_⟩, ?_⟩
          · by_cases hji : j = i
            · subst hji; exact List.getElem?_set_self (by omega)
            · rw [List.getElem?_set_ne (by omega)]; exact h3 j (by omega)
          · rw [List.getElem?_set_ne (by omega)]; exact h4 j (by omega) hj2
          · rw [wrap64 (by omega) (by omega)]; rfl
          · rw [wrap64 (by omega) (by omega)]; simp; omega
        have same : natsV D = natsV (D.set i 0) := by
          have : D.set i 0 = D := by
            apply List.ext_getElem?
            intro j
            by_cases hji : j = i
            · subst hji; rw [List.getElem?_set_self (by omega), hDi]
            · rw [List.getElem?_set_ne (by omega)]
          rw [this]
        by_cases g5 : 5 ≤ l[i].op
        · have oa := ok.a g5
          have hDa : (natsV D)[l[i].a.toNat]? = some (.int .i64 ((depth l l[i].a.toNat : Nat) : Int)) := by
            have := h3 l[i].a.toNat (by omega)
            simp [this]
          have hla : l[i].a.toNat ≤ r := by omega
          rw [if_pos (by rw [ge_iff_le, partsN_one ok.op]; exact g5), if_pos oa.1, if_pos (by omega), hDa, hDi']
          simp only [Option.bind_some, V.toInt_int]
          rw [if_pos (by omega), if_pos (by omega), natsV_set]
          have hself : ∀ d, (natsV (D.set i d))[i]? = some (.int .i64 ((d : Nat) : Int)) := by
            intro d
            exact natsV_of (List.getElem?_set_self (by omega))
          by_cases g8 : l[i].op = 8
          · rw [if_neg (by rw [partsN_two ok.op]; omega), if_neg (by omega)]
            exact fin _ (by rw [hde, if_neg (by omega), if_neg (by omega), if_pos g8])
          · have ob := ok.b g5 g8
            have hDb : (natsV (D.set i (depth l l[i].a.toNat)))[l[i].b.toNat]? = some (.int .i64 ((depth l l[i].b.toNat : Nat) : Int)) := by
              have := h3 l[i].b.toNat (by omega)
              have : (D.set i (depth l l[i].a.toNat))[l[i].b.toNat]? = some (depth l l[i].b.toNat) := by rw [List.getElem?_set_ne (by omega)]; exact this
              exact natsV_of this
            rw [if_pos (by rw [partsN_two ok.op]; exact ⟨g5, g8⟩), if_pos (by omega), if_pos (by omega), hself, Option.bind_some, if_pos ob.1, if_pos (by omega), hDb]
            simp only [Option.bind_some, V.toInt_int]
            have emax : (if ((depth l l[i].b.toNat : Nat) : Int) > ((depth l l[i].a.toNat : Nat) : Int) then ((depth l l[i].b.toNat : Nat) : Int) else ((depth l l[i].a.toNat : Nat) : Int)) =
                ((max (depth l l[i].a.toNat) (depth l l[i].b.toNat) : Nat) : Int) := by
              split <;> omega
            rw [if_pos (by omega), if_pos (by omega), emax, natsV_set, List.set_set, hself]
            simp only [Option.bind_some, V.toInt_int]
            by_cases g7 : l[i].op = 7
            · have hlt : ((max (depth l l[i].a.toNat) (depth l l[i].b.toNat) : Nat) : Int) < 9223372036854775807 := by
                have := depth_le hval l[i].a.toNat
                have := depth_le hval l[i].b.toNat
                omega
              rw [if_pos g7, if_pos (by omega), if_pos (by omega)]
              have ew : IntKind.wrap .i64 (((max (depth l l[i].a.toNat) (depth l l[i].b.toNat) : Nat) : Int) + 1) = ((max (depth l l[i].a.toNat) (depth l l[i].b.toNat) + 1 : Nat) : Int) := by
                rw [wrap64 (by omega) (by omega)]; rfl
              rw [if_pos (by omega), if_pos (by omega), ew, natsV_set, List.set_set]
              exact fin _ (by rw [hde, if_neg (by omega), if_pos g7])
            · rw [if_neg g7]
              exact fin _ (by rw [hde, if_pos (by have := ok.op; omega)])
        · rw [if_neg (by rw [ge_iff_le, partsN_one ok.op]; exact g5), if_neg (by rw [partsN_two ok.op]; omega), if_neg (by omega), same]
          exact fin _ (by rw [hde, if_neg (by omega), if_neg (by omega), if_neg (by omega)])
      · right
        rw [if_neg (by omega)]
        exact ⟨_, rfl, _, _, D, h2, fun j hj => h3 j (by omega), rfl⟩)
  have e3 : List.replicate (r + 1) (V.int .i64 0) = natsV (List.replicate (r + 1) 0) := by simp
  obtain ⟨s, hs, j, b, D, hD1, hD2, rfl⟩ := key ((0 : Int), natsV (List.replicate (r + 1) 0)) ⟨0, List.replicate (r + 1) 0, by omega, by simp, fun j hj => by omega, fun j _ hj => by rw [List.getElem?_replicate, if_pos hj], rfl⟩
  rw [e3, hs]
  simp only [Option.bind_some, List.length_map, hD1]
  have := hD2 r (by omega)
  have : (natsV D)[r]? = some (.int .i64 ((depth l r : Nat) : Int)) := by simp [this]
  rw [if_pos (by omega), if_pos (by omega), this]
  simp
end Go.AM

set_option maxRecDepth 100000
namespace Go.AM
open Go.Proofs
/-! semigroup/semigrouplaw31.at -/
theorem s_semigrouplaw31_at_1d_eq (C : CallF) (g_Nodes : List V) (g_Root : Int) (root : Int) (w : List UInt8) {β : Type} (K : Out → St → Option β) :
    execL Try.prog ann C 11 12 0 (codesAt Try.prog 11 [[0], [1, 0], [1, 1, 0], [1, 1, 1]]) (mk [(0, .agg [.list T_api_SfNode g_Nodes, .int .i64 g_Root]), (1, .int .i64 root), (2, .str w)] []) K =
      (C F_starfree_Accepts [.agg [.list T_api_SfNode g_Nodes, .int .i64 root], .str w] []).bind fun r2 =>
        K .ret (mk [(6, .bool r2.1.toBool)] []) := by kernel_rfl

theorem f_semigrouplaw31_at_all (C : CallF) (g_Nodes : List V) (g_Root : Int) (root : Int) (w : List UInt8) {β : Type} (K : Out → St → Option β) : execK Try.prog ann C 11 (ntmpsOf Try.prog 11) ([] : List V).length (bodyOf Try.prog 11) (enter [.agg [.list T_api_SfNode g_Nodes, .int .i64 g_Root], .int .i64 root, .str w] []) K =
      (C F_starfree_Accepts [.agg [.list T_api_SfNode g_Nodes, .int .i64 root], .str w] []).bind fun r2 =>
        K .ret (mk [(6, .bool r2.1.toBool)] []) :=
  Eq.trans (execK_items (by kernel_rfl)) (s_semigrouplaw31_at_1d_eq C g_Nodes g_Root root w K)

noncomputable def f_semigrouplaw31_at (C : CallF) (g_Nodes : List V) (g_Root : Int) (root : Int) (w : List UInt8) : Option (V × List V) :=
  (C F_starfree_Accepts [.agg [.list T_api_SfNode g_Nodes, .int .i64 root], .str w] []).bind fun r2 =>
    some (.bool r2.1.toBool, [])

theorem f_semigrouplaw31_at_eq (C : CallF) (g_Nodes : List V) (g_Root : Int) (root : Int) (w : List UInt8) : bodyK Try.prog ann C 11 [.agg [.list T_api_SfNode g_Nodes, .int .i64 g_Root], .int .i64 root, .str w] [] = f_semigrouplaw31_at C g_Nodes g_Root root w :=
  Eq.trans (bodyK_fin (by kernel_rfl)) (Eq.trans (f_semigrouplaw31_at_all C g_Nodes g_Root root w (finK Try.prog ann C 11 [])) (by kernel_rfl))

theorem f_semigrouplaw31_at_of {g_Nodes : List V} {g_Root : Int} {root : Int} {w : List UInt8} {r : V × List V} (h : f_semigrouplaw31_at CC g_Nodes g_Root root w = some r) : CC F_semigrouplaw31_at [.agg [.list T_api_SfNode g_Nodes, .int .i64 g_Root], .int .i64 root, .str w] [] = some r :=
  Call_of_body ((bodyK_eq ..).trans ((f_semigrouplaw31_at_eq ..).trans h))

end Go.AM

/-
  The chapter's example.
-/
namespace Go.AM
open Go.Proofs

def exampleN : List Node := [⟨4, 0, 0, 0⟩, ⟨3, 1, 0, 0⟩, ⟨7, 0, 0, 1⟩, ⟨7, 0, 2, 0⟩, ⟨8, 0, 3, 0⟩]
theorem example_spec : CC F_semigrouplaw31_example [] [] = some (.agg [.own T_api_SfNode (nodesV exampleN), .int .i64 4], []) := f_semigrouplaw31_example_of rfl

theorem known_spec : CC F_semigrouplaw31_known [] [] = some (.bool true, []) := by
  refine f_semigrouplaw31_known_of ?_
  unfold f_semigrouplaw31_known s_semigrouplaw31_known_1
  have hl : exampleN.length < 9223372036854775807 := by decide
  have a1 : acceptsB exampleN 4 [97, 97, 97] = true := by decide +kernel
  have a2 : acceptsB exampleN 4 [97, 98, 97] = false := by decide +kernel
  have d1 : (if validateN exampleN 4 6 = 0 then depth exampleN (4 : Int).toNat else 0) = 2 := by decide +kernel
  have v1 : validateN exampleN 4 2 = 0 := by decide +kernel
  have v2 : validateN exampleN 4 1 = 22 := by decide +kernel
  simp only [example_spec, Option.bind_some, V.cell_agg, V.nth_zero, V.nth_one, V.toList_own, V.toInt_int, accepts_spec _ _ _ hl, V.toBool_bool, a1, a2, cond_true, bif_not, cond_false, depth_spec _ _ hl, d1, validate_spec _ _ _ hl, v1, v2]
  rfl

theorem at_spec (l : List Node) (root k : Int) (w : List UInt8) (hlen : l.length < 9223372036854775807) :
    CC F_semigrouplaw31_at [graphV l root, .int .i64 k, .str w] [] = some (.bool (acceptsB l k w), []) := by
  refine f_semigrouplaw31_at_of ?_
  unfold f_semigrouplaw31_at
  rw [accepts_spec l k w hlen]
  rfl
end Go.AM

set_option maxRecDepth 100000
namespace Go.AM
open Go.Proofs
/-! semigroup/semigrouplaw31.StarfreeBoolean -/
theorem s_semigrouplaw31_StarfreeBoolean_1d_eq (C : CallF) (l : List V) (v : List V) (w : List V) {β : Type} (K : Out → St → Option β) :
    execL Try.prog ann C 3 119 0 (codesAt Try.prog 3 [[0], [1, 0], [1, 1, 0], [1, 1, 1, 0], [1, 1, 1, 1, 0], [1, 1, 1, 1, 1, 0], [1, 1, 1, 1, 1, 1, 0], [1, 1, 1, 1, 1, 1, 1, 0], [1, 1, 1, 1, 1, 1, 1, 1, 0]]) (mk [(0, .list T_int l), (1, .list T_int v), (2, .list T_int w)] []) K =
      (C F_semigroupmade_New [.list T_int l] []).bind fun r29 =>
        (C F_semigroupmade_Tape_Next [.ptr 0 0 0, .int .i64 2] [.agg [.list T_int ((r29.1.cell 0).toList), .int .i64 ((r29.1.cell 1).toInt)]]).bind fun r30 =>
          (C F_semigroupmade_Tape_Graph [.ptr 0 0 0, .int .i64 (IntKind.wrap .i64 (1 + r30.1.toInt)), .int .i64 8] [.agg [.list T_int (((V.nth r30.2 0).cell 0).toList), .int .i64 (((V.nth r30.2 0).cell 1).toInt)]]).bind fun r31 =>
            (C F_semigroupmade_Tape_Next [.ptr 0 0 0, .int .i64 (((r31.1.cell 0).toList).length : Int)] [.agg [.list T_int (((V.nth r31.2 0).cell 0).toList), .int .i64 (((V.nth r31.2 0).cell 1).toInt)]]).bind fun r32 =>
              (C F_semigroupmade_Tape_Next [.ptr 0 0 0, .int .i64 (((r31.1.cell 0).toList).length : Int)] [.agg [.list T_int (((V.nth r32.2 0).cell 0).toList), .int .i64 (((V.nth r32.2 0).cell 1).toInt)]]).bind fun r33 =>
                bif Nat.ble ((((r31.1.cell 0).toList).length + ([.agg [.int .i64 5, .int .i64 0, .int .i64 r32.1.toInt, .int .i64 r33.1.toInt], .agg [.int .i64 6, .int .i64 0, .int .i64 r32.1.toInt, .int .i64 r33.1.toInt], .agg [.int .i64 8, .int .i64 0, .int .i64 r32.1.toInt, .int .i64 0], .agg [.int .i64 7, .int .i64 0, .int .i64 r32.1.toInt, .int .i64 r33.1.toInt]] : List V).length) * 32) maxBytes then
                  (C F_semigroupmade_New [.list T_int v] []).bind fun r34 =>
                    (C F_semigroupmade_Tape_Word [.ptr 0 0 0, .int .i64 (IntKind.wrap .i64 (1 + r30.1.toInt)), .int .i64 5] [.agg [.list T_int ((r34.1.cell 0).toList), .int .i64 ((r34.1.cell 1).toInt)]]).bind fun r35 =>
                      (C F_semigroupmade_New [.list T_int w] []).bind fun r36 =>
                        (C F_semigroupmade_Tape_Word [.ptr 0 0 0, .int .i64 (IntKind.wrap .i64 (1 + r30.1.toInt)), .int .i64 5] [.agg [.list T_int ((r36.1.cell 0).toList), .int .i64 ((r36.1.cell 1).toInt)]]).bind fun r37 =>
                          (C F_semigrouplaw31_at [.agg [.list T_api_SfNode (((r31.1.cell 0).toList) ++ ([.agg [.int .i64 5, .int .i64 0, .int .i64 r32.1.toInt, .int .i64 r33.1.toInt], .agg [.int .i64 6, .int .i64 0, .int .i64 r32.1.toInt, .int .i64 r33.1.toInt], .agg [.int .i64 8, .int .i64 0, .int .i64 r32.1.toInt, .int .i64 0], .agg [.int .i64 7, .int .i64 0, .int .i64 r32.1.toInt, .int .i64 r33.1.toInt]] : List V)), .int .i64 ((r31.1.cell 1).toInt)], .int .i64 r32.1.toInt, .str r35.1.toStr] []).bind fun r38 =>
                            (C F_semigrouplaw31_at [.agg [.list T_api_SfNode (((r31.1.cell 0).toList) ++ ([.agg [.int .i64 5, .int .i64 0, .int .i64 r32.1.toInt, .int .i64 r33.1.toInt], .agg [.int .i64 6, .int .i64 0, .int .i64 r32.1.toInt, .int .i64 r33.1.toInt], .agg [.int .i64 8, .int .i64 0, .int .i64 r32.1.toInt, .int .i64 0], .agg [.int .i64 7, .int .i64 0, .int .i64 r32.1.toInt, .int .i64 r33.1.toInt]] : List V)), .int .i64 ((r31.1.cell 1).toInt)], .int .i64 r33.1.toInt, .str r35.1.toStr] []).bind fun r39 =>
                              K .norm (mk [(9, .ptr 0 0 0), (10, .int .i64 (((r31.1.cell 0).toList).length : Int)), (12, .int .i64 r33.1.toInt), (13, .str r35.1.toStr), (14, .str r37.1.toStr), (15, .bool r38.1.toBool), (16, .bool r39.1.toBool)] [.var [.whole T_api_SfNode 1, .int .i64 ((r31.1.cell 1).toInt)], .arr T_api_SfNode (((r31.1.cell 0).toList) ++ ([.agg [.int .i64 5, .int .i64 0, .int .i64 r32.1.toInt, .int .i64 r33.1.toInt], .agg [.int .i64 6, .int .i64 0, .int .i64 r32.1.toInt, .int .i64 r33.1.toInt], .agg [.int .i64 8, .int .i64 0, .int .i64 r32.1.toInt, .int .i64 0], .agg [.int .i64 7, .int .i64 0, .int .i64 r32.1.toInt, .int .i64 r33.1.toInt]] : List V)) false])
                else none := by kernel_rfl

noncomputable def s_semigrouplaw31_StarfreeBoolean_2 (C : CallF) (n : Int) (b : Int) (x : List UInt8) (y : List UInt8) (p : Bool) (q : Bool) (gs_1 : Int) (g_0s : List V) {β : Type} (k0 : Bool → Option β) : Option β :=
  (C F_semigrouplaw31_at [.agg [.list T_api_SfNode g_0s, .int .i64 gs_1], .int .i64 n, .str x] []).bind fun r78 =>
    bif p then
      bif r78.1.toBool == true then
        (C F_semigrouplaw31_at [.agg [.list T_api_SfNode g_0s, .int .i64 gs_1], .int .i64 (IntKind.wrap .i64 (n + 1)), .str x] []).bind fun r79 =>
          bif p then
            bif r79.1.toBool == q then
              (C F_semigrouplaw31_at [.agg [.list T_api_SfNode g_0s, .int .i64 gs_1], .int .i64 (IntKind.wrap .i64 (n + 2)), .str x] []).bind fun r80 =>
                bif !(r80.1.toBool == p) then
                  bif !p then
                    (C F_semigrouplaw31_known [] []).bind fun r81 =>
                      k0 r81.1.toBool
                  else
                    (C F_semigrouplaw31_at [.agg [.list T_api_SfNode g_0s, .int .i64 gs_1], .int .i64 b, .str y] []).bind fun r82 =>
                      bif !r82.1.toBool then
                        (C F_semigrouplaw31_known [] []).bind fun r83 =>
                          k0 r83.1.toBool
                      else
                        bif Nat.ble (x.length + y.length) maxStr then
                          (C F_semigrouplaw31_at [.agg [.list T_api_SfNode g_0s, .int .i64 gs_1], .int .i64 (IntKind.wrap .i64 (n + 3)), .str (x ++ y)] []).bind fun r84 =>
                            bif r84.1.toBool then
                              (C F_semigrouplaw31_known [] []).bind fun r85 =>
                                k0 r85.1.toBool
                            else
                              k0 false
                        else none
                else none
            else none
          else
            bif r79.1.toBool == false then
              (C F_semigrouplaw31_at [.agg [.list T_api_SfNode g_0s, .int .i64 gs_1], .int .i64 (IntKind.wrap .i64 (n + 2)), .str x] []).bind fun r86 =>
                bif !(r86.1.toBool == p) then
                  bif !p then
                    (C F_semigrouplaw31_known [] []).bind fun r87 =>
                      k0 r87.1.toBool
                  else
                    (C F_semigrouplaw31_at [.agg [.list T_api_SfNode g_0s, .int .i64 gs_1], .int .i64 b, .str y] []).bind fun r88 =>
                      bif !r88.1.toBool then
                        (C F_semigrouplaw31_known [] []).bind fun r89 =>
                          k0 r89.1.toBool
                      else
                        bif Nat.ble (x.length + y.length) maxStr then
                          (C F_semigrouplaw31_at [.agg [.list T_api_SfNode g_0s, .int .i64 gs_1], .int .i64 (IntKind.wrap .i64 (n + 3)), .str (x ++ y)] []).bind fun r90 =>
                            bif r90.1.toBool then
                              (C F_semigrouplaw31_known [] []).bind fun r91 =>
                                k0 r91.1.toBool
                            else
                              k0 false
                        else none
                else none
            else none
      else none
    else
      bif r78.1.toBool == q then
        (C F_semigrouplaw31_at [.agg [.list T_api_SfNode g_0s, .int .i64 gs_1], .int .i64 (IntKind.wrap .i64 (n + 1)), .str x] []).bind fun r92 =>
          bif p then
            bif r92.1.toBool == q then
              (C F_semigrouplaw31_at [.agg [.list T_api_SfNode g_0s, .int .i64 gs_1], .int .i64 (IntKind.wrap .i64 (n + 2)), .str x] []).bind fun r93 =>
                bif !(r93.1.toBool == p) then
                  bif !p then
                    (C F_semigrouplaw31_known [] []).bind fun r94 =>
                      k0 r94.1.toBool
                  else
                    (C F_semigrouplaw31_at [.agg [.list T_api_SfNode g_0s, .int .i64 gs_1], .int .i64 b, .str y] []).bind fun r95 =>
                      bif !r95.1.toBool then
                        (C F_semigrouplaw31_known [] []).bind fun r96 =>
                          k0 r96.1.toBool
                      else
                        bif Nat.ble (x.length + y.length) maxStr then
                          (C F_semigrouplaw31_at [.agg [.list T_api_SfNode g_0s, .int .i64 gs_1], .int .i64 (IntKind.wrap .i64 (n + 3)), .str (x ++ y)] []).bind fun r97 =>
                            bif r97.1.toBool then
                              (C F_semigrouplaw31_known [] []).bind fun r98 =>
                                k0 r98.1.toBool
                            else
                              k0 false
                        else none
                else none
            else none
          else
            bif r92.1.toBool == false then
              (C F_semigrouplaw31_at [.agg [.list T_api_SfNode g_0s, .int .i64 gs_1], .int .i64 (IntKind.wrap .i64 (n + 2)), .str x] []).bind fun r99 =>
                bif !(r99.1.toBool == p) then
                  bif !p then
                    (C F_semigrouplaw31_known [] []).bind fun r100 =>
                      k0 r100.1.toBool
                  else
                    (C F_semigrouplaw31_at [.agg [.list T_api_SfNode g_0s, .int .i64 gs_1], .int .i64 b, .str y] []).bind fun r101 =>
                      bif !r101.1.toBool then
                        (C F_semigrouplaw31_known [] []).bind fun r102 =>
                          k0 r102.1.toBool
                      else
                        bif Nat.ble (x.length + y.length) maxStr then
                          (C F_semigrouplaw31_at [.agg [.list T_api_SfNode g_0s, .int .i64 gs_1], .int .i64 (IntKind.wrap .i64 (n + 3)), .str (x ++ y)] []).bind fun r103 =>
                            bif r103.1.toBool then
                              (C F_semigrouplaw31_known [] []).bind fun r104 =>
                                k0 r104.1.toBool
                            else
                              k0 false
                        else none
                else none
            else none
      else none

theorem s_semigrouplaw31_StarfreeBoolean_2_eq (C : CallF) (n : Int) (b : Int) (x : List UInt8) (y : List UInt8) (p : Bool) (q : Bool) (gs_1 : Int) (g_0s : List V) {β : Type} (K : Out → St → Option β) :
    execL Try.prog ann C 3 119 0 (codesAt Try.prog 3 [[1, 1, 1, 1, 1, 1, 1, 1, 1, 0]]) (mk [(9, .ptr 0 0 0), (10, .int .i64 n), (12, .int .i64 b), (13, .str x), (14, .str y), (15, .bool p), (16, .bool q)] [.var [.whole T_api_SfNode 1, .int .i64 gs_1], .arr T_api_SfNode g_0s false]) K =
      s_semigrouplaw31_StarfreeBoolean_2 C n b x y p q gs_1 g_0s
        (fun (t60 : Bool) => K .norm (mk [(6, .bool t60)] [])) := by kernel_rfl

theorem s_semigrouplaw31_StarfreeBoolean_3d_eq (C : CallF) (t6 : Bool) {β : Type} (K : Out → St → Option β) :
    execL Try.prog ann C 3 119 0 (codesAt Try.prog 3 [[1, 1, 1, 1, 1, 1, 1, 1, 1, 1]]) (mk [(6, .bool t6)] []) K =
      K .ret (mk [(6, .bool t6)] []) := by kernel_rfl

theorem s_semigrouplaw31_StarfreeBoolean_4c_eq (C : CallF) (n : Int) (b : Int) (x : List UInt8) (y : List UInt8) (p : Bool) (q : Bool) (gs_1 : Int) (g_0s : List V) {β : Type} (K : Out → St → Option β) :
    execL Try.prog ann C 3 119 0 (codesAt Try.prog 3 [[1, 1, 1, 1, 1, 1, 1, 1, 1, 0], [1, 1, 1, 1, 1, 1, 1, 1, 1, 1]]) (mk [(9, .ptr 0 0 0), (10, .int .i64 n), (12, .int .i64 b), (13, .str x), (14, .str y), (15, .bool p), (16, .bool q)] [.var [.whole T_api_SfNode 1, .int .i64 gs_1], .arr T_api_SfNode g_0s false]) K =
      s_semigrouplaw31_StarfreeBoolean_2 C n b x y p q gs_1 g_0s
        (fun (t_119 : Bool) =>
          K .ret (mk [(6, .bool t_119)] [])) := by
  refine Eq.trans (execL_app (P := Try.prog) (A := ann) (C := C) (f := 3) (n := 119) (m := 0) (codesAt Try.prog 3 [[1, 1, 1, 1, 1, 1, 1, 1, 1, 0]]) (codesAt Try.prog 3 [[1, 1, 1, 1, 1, 1, 1, 1, 1, 1]]) (st := mk [(9, .ptr 0 0 0), (10, .int .i64 n), (12, .int .i64 b), (13, .str x), (14, .str y), (15, .bool p), (16, .bool q)] [.var [.whole T_api_SfNode 1, .int .i64 gs_1], .arr T_api_SfNode g_0s false]) (K := K)) (Eq.trans (s_semigrouplaw31_StarfreeBoolean_2_eq C n b x y p q gs_1 g_0s (seqK Try.prog ann C 3 119 0 (codesAt Try.prog 3 [[1, 1, 1, 1, 1, 1, 1, 1, 1, 1]]) K)) ?_)
  · exact Eq.trans (by kernel_rfl) (Eq.trans (congrArg (fun HOLE : Bool → Option β => s_semigrouplaw31_StarfreeBoolean_2 C n b x y p q gs_1 g_0s HOLE) (funext fun (t60 : Bool) => s_semigrouplaw31_StarfreeBoolean_3d_eq C t60 K)) ((by kernel_rfl)))


theorem s_semigrouplaw31_StarfreeBoolean_5c_eq (C : CallF) (l : List V) (v : List V) (w : List V) {β : Type} (K : Out → St → Option β) :
    execL Try.prog ann C 3 119 0 (codesAt Try.prog 3 [[0], [1, 0], [1, 1, 0], [1, 1, 1, 0], [1, 1, 1, 1, 0], [1, 1, 1, 1, 1, 0], [1, 1, 1, 1, 1, 1, 0], [1, 1, 1, 1, 1, 1, 1, 0], [1, 1, 1, 1, 1, 1, 1, 1, 0], [1, 1, 1, 1, 1, 1, 1, 1, 1, 0], [1, 1, 1, 1, 1, 1, 1, 1, 1, 1]]) (mk [(0, .list T_int l), (1, .list T_int v), (2, .list T_int w)] []) K =
      (C F_semigroupmade_New [.list T_int l] []).bind fun r29 =>
        (C F_semigroupmade_Tape_Next [.ptr 0 0 0, .int .i64 2] [.agg [.list T_int ((r29.1.cell 0).toList), .int .i64 ((r29.1.cell 1).toInt)]]).bind fun r30 =>
          (C F_semigroupmade_Tape_Graph [.ptr 0 0 0, .int .i64 (IntKind.wrap .i64 (1 + r30.1.toInt)), .int .i64 8] [.agg [.list T_int (((V.nth r30.2 0).cell 0).toList), .int .i64 (((V.nth r30.2 0).cell 1).toInt)]]).bind fun r31 =>
            (C F_semigroupmade_Tape_Next [.ptr 0 0 0, .int .i64 (((r31.1.cell 0).toList).length : Int)] [.agg [.list T_int (((V.nth r31.2 0).cell 0).toList), .int .i64 (((V.nth r31.2 0).cell 1).toInt)]]).bind fun r32 =>
              (C F_semigroupmade_Tape_Next [.ptr 0 0 0, .int .i64 (((r31.1.cell 0).toList).length : Int)] [.agg [.list T_int (((V.nth r32.2 0).cell 0).toList), .int .i64 (((V.nth r32.2 0).cell 1).toInt)]]).bind fun r33 =>
                bif Nat.ble ((((r31.1.cell 0).toList).length + ([.agg [.int .i64 5, .int .i64 0, .int .i64 r32.1.toInt, .int .i64 r33.1.toInt], .agg [.int .i64 6, .int .i64 0, .int .i64 r32.1.toInt, .int .i64 r33.1.toInt], .agg [.int .i64 8, .int .i64 0, .int .i64 r32.1.toInt, .int .i64 0], .agg [.int .i64 7, .int .i64 0, .int .i64 r32.1.toInt, .int .i64 r33.1.toInt]] : List V).length) * 32) maxBytes then
                  (C F_semigroupmade_New [.list T_int v] []).bind fun r34 =>
                    (C F_semigroupmade_Tape_Word [.ptr 0 0 0, .int .i64 (IntKind.wrap .i64 (1 + r30.1.toInt)), .int .i64 5] [.agg [.list T_int ((r34.1.cell 0).toList), .int .i64 ((r34.1.cell 1).toInt)]]).bind fun r35 =>
                      (C F_semigroupmade_New [.list T_int w] []).bind fun r36 =>
                        (C F_semigroupmade_Tape_Word [.ptr 0 0 0, .int .i64 (IntKind.wrap .i64 (1 + r30.1.toInt)), .int .i64 5] [.agg [.list T_int ((r36.1.cell 0).toList), .int .i64 ((r36.1.cell 1).toInt)]]).bind fun r37 =>
                          (C F_semigrouplaw31_at [.agg [.list T_api_SfNode (((r31.1.cell 0).toList) ++ ([.agg [.int .i64 5, .int .i64 0, .int .i64 r32.1.toInt, .int .i64 r33.1.toInt], .agg [.int .i64 6, .int .i64 0, .int .i64 r32.1.toInt, .int .i64 r33.1.toInt], .agg [.int .i64 8, .int .i64 0, .int .i64 r32.1.toInt, .int .i64 0], .agg [.int .i64 7, .int .i64 0, .int .i64 r32.1.toInt, .int .i64 r33.1.toInt]] : List V)), .int .i64 ((r31.1.cell 1).toInt)], .int .i64 r32.1.toInt, .str r35.1.toStr] []).bind fun r38 =>
                            (C F_semigrouplaw31_at [.agg [.list T_api_SfNode (((r31.1.cell 0).toList) ++ ([.agg [.int .i64 5, .int .i64 0, .int .i64 r32.1.toInt, .int .i64 r33.1.toInt], .agg [.int .i64 6, .int .i64 0, .int .i64 r32.1.toInt, .int .i64 r33.1.toInt], .agg [.int .i64 8, .int .i64 0, .int .i64 r32.1.toInt, .int .i64 0], .agg [.int .i64 7, .int .i64 0, .int .i64 r32.1.toInt, .int .i64 r33.1.toInt]] : List V)), .int .i64 ((r31.1.cell 1).toInt)], .int .i64 r33.1.toInt, .str r35.1.toStr] []).bind fun r39 =>
                              s_semigrouplaw31_StarfreeBoolean_2 C (((r31.1.cell 0).toList).length : Int) r33.1.toInt r35.1.toStr r37.1.toStr r38.1.toBool r39.1.toBool ((r31.1.cell 1).toInt) (((r31.1.cell 0).toList) ++ ([.agg [.int .i64 5, .int .i64 0, .int .i64 r32.1.toInt, .int .i64 r33.1.toInt], .agg [.int .i64 6, .int .i64 0, .int .i64 r32.1.toInt, .int .i64 r33.1.toInt], .agg [.int .i64 8, .int .i64 0, .int .i64 r32.1.toInt, .int .i64 0], .agg [.int .i64 7, .int .i64 0, .int .i64 r32.1.toInt, .int .i64 r33.1.toInt]] : List V))
                                (fun (t_119 : Bool) =>
                                  K .ret (mk [(6, .bool t_119)] []))
                else none := by
  refine Eq.trans (execL_app (P := Try.prog) (A := ann) (C := C) (f := 3) (n := 119) (m := 0) (codesAt Try.prog 3 [[0], [1, 0], [1, 1, 0], [1, 1, 1, 0], [1, 1, 1, 1, 0], [1, 1, 1, 1, 1, 0], [1, 1, 1, 1, 1, 1, 0], [1, 1, 1, 1, 1, 1, 1, 0], [1, 1, 1, 1, 1, 1, 1, 1, 0]]) (codesAt Try.prog 3 [[1, 1, 1, 1, 1, 1, 1, 1, 1, 0], [1, 1, 1, 1, 1, 1, 1, 1, 1, 1]]) (st := mk [(0, .list T_int l), (1, .list T_int v), (2, .list T_int w)] []) (K := K)) (Eq.trans (s_semigrouplaw31_StarfreeBoolean_1d_eq C l v w (seqK Try.prog ann C 3 119 0 (codesAt Try.prog 3 [[1, 1, 1, 1, 1, 1, 1, 1, 1, 0], [1, 1, 1, 1, 1, 1, 1, 1, 1, 1]]) K)) ?_)
  · exact Eq.trans (by kernel_rfl) (Eq.trans (congrArg (fun HOLE : Int → Int → (List UInt8) → (List UInt8) → Bool → Bool → Int → (List V) → Option β => ((C F_semigroupmade_New [.list T_int l] []).bind fun r29 =>
        (C F_semigroupmade_Tape_Next [.ptr 0 0 0, .int .i64 2] [.agg [.list T_int ((r29.1.cell 0).toList), .int .i64 ((r29.1.cell 1).toInt)]]).bind fun r30 =>
          (C F_semigroupmade_Tape_Graph [.ptr 0 0 0, .int .i64 (IntKind.wrap .i64 (1 + r30.1.toInt)), .int .i64 8] [.agg [.list T_int (((V.nth r30.2 0).cell 0).toList), .int .i64 (((V.nth r30.2 0).cell 1).toInt)]]).bind fun r31 =>
            (C F_semigroupmade_Tape_Next [.ptr 0 0 0, .int .i64 (((r31.1.cell 0).toList).length : Int)] [.agg [.list T_int (((V.nth r31.2 0).cell 0).toList), .int .i64 (((V.nth r31.2 0).cell 1).toInt)]]).bind fun r32 =>
              (C F_semigroupmade_Tape_Next [.ptr 0 0 0, .int .i64 (((r31.1.cell 0).toList).length : Int)] [.agg [.list T_int (((V.nth r32.2 0).cell 0).toList), .int .i64 (((V.nth r32.2 0).cell 1).toInt)]]).bind fun r33 =>
                bif Nat.ble ((((r31.1.cell 0).toList).length + ([.agg [.int .i64 5, .int .i64 0, .int .i64 r32.1.toInt, .int .i64 r33.1.toInt], .agg [.int .i64 6, .int .i64 0, .int .i64 r32.1.toInt, .int .i64 r33.1.toInt], .agg [.int .i64 8, .int .i64 0, .int .i64 r32.1.toInt, .int .i64 0], .agg [.int .i64 7, .int .i64 0, .int .i64 r32.1.toInt, .int .i64 r33.1.toInt]] : List V).length) * 32) maxBytes then
                  (C F_semigroupmade_New [.list T_int v] []).bind fun r34 =>
                    (C F_semigroupmade_Tape_Word [.ptr 0 0 0, .int .i64 (IntKind.wrap .i64 (1 + r30.1.toInt)), .int .i64 5] [.agg [.list T_int ((r34.1.cell 0).toList), .int .i64 ((r34.1.cell 1).toInt)]]).bind fun r35 =>
                      (C F_semigroupmade_New [.list T_int w] []).bind fun r36 =>
                        (C F_semigroupmade_Tape_Word [.ptr 0 0 0, .int .i64 (IntKind.wrap .i64 (1 + r30.1.toInt)), .int .i64 5] [.agg [.list T_int ((r36.1.cell 0).toList), .int .i64 ((r36.1.cell 1).toInt)]]).bind fun r37 =>
                          (C F_semigrouplaw31_at [.agg [.list T_api_SfNode (((r31.1.cell 0).toList) ++ ([.agg [.int .i64 5, .int .i64 0, .int .i64 r32.1.toInt, .int .i64 r33.1.toInt], .agg [.int .i64 6, .int .i64 0, .int .i64 r32.1.toInt, .int .i64 r33.1.toInt], .agg [.int .i64 8, .int .i64 0, .int .i64 r32.1.toInt, .int .i64 0], .agg [.int .i64 7, .int .i64 0, .int .i64 r32.1.toInt, .int .i64 r33.1.toInt]] : List V)), .int .i64 ((r31.1.cell 1).toInt)], .int .i64 r32.1.toInt, .str r35.1.toStr] []).bind fun r38 =>
                            (C F_semigrouplaw31_at [.agg [.list T_api_SfNode (((r31.1.cell 0).toList) ++ ([.agg [.int .i64 5, .int .i64 0, .int .i64 r32.1.toInt, .int .i64 r33.1.toInt], .agg [.int .i64 6, .int .i64 0, .int .i64 r32.1.toInt, .int .i64 r33.1.toInt], .agg [.int .i64 8, .int .i64 0, .int .i64 r32.1.toInt, .int .i64 0], .agg [.int .i64 7, .int .i64 0, .int .i64 r32.1.toInt, .int .i64 r33.1.toInt]] : List V)), .int .i64 ((r31.1.cell 1).toInt)], .int .i64 r33.1.toInt, .str r35.1.toStr] []).bind fun r39 =>
                              HOLE (((r31.1.cell 0).toList).length : Int) r33.1.toInt r35.1.toStr r37.1.toStr r38.1.toBool r39.1.toBool ((r31.1.cell 1).toInt) (((r31.1.cell 0).toList) ++ ([.agg [.int .i64 5, .int .i64 0, .int .i64 r32.1.toInt, .int .i64 r33.1.toInt], .agg [.int .i64 6, .int .i64 0, .int .i64 r32.1.toInt, .int .i64 r33.1.toInt], .agg [.int .i64 8, .int .i64 0, .int .i64 r32.1.toInt, .int .i64 0], .agg [.int .i64 7, .int .i64 0, .int .i64 r32.1.toInt, .int .i64 r33.1.toInt]] : List V))
                else none)) (funext fun (n0 : Int) => funext fun (b0 : Int) => funext fun (x0 : List UInt8) => funext fun (y0 : List UInt8) => funext fun (p0 : Bool) => funext fun (q0 : Bool) => funext fun (gs_10 : Int) => funext fun (g_0s0 : List V) => s_semigrouplaw31_StarfreeBoolean_4c_eq C n0 b0 x0 y0 p0 q0 gs_10 g_0s0 K)) ((by kernel_rfl)))


theorem f_semigrouplaw31_StarfreeBoolean_all (C : CallF) (l : List V) (v : List V) (w : List V) {β : Type} (K : Out → St → Option β) : execK Try.prog ann C 3 (ntmpsOf Try.prog 3) ([] : List V).length (bodyOf Try.prog 3) (enter [.list T_int l, .list T_int v, .list T_int w] []) K =
      (C F_semigroupmade_New [.list T_int l] []).bind fun r29 =>
        (C F_semigroupmade_Tape_Next [.ptr 0 0 0, .int .i64 2] [.agg [.list T_int ((r29.1.cell 0).toList), .int .i64 ((r29.1.cell 1).toInt)]]).bind fun r30 =>
          (C F_semigroupmade_Tape_Graph [.ptr 0 0 0, .int .i64 (IntKind.wrap .i64 (1 + r30.1.toInt)), .int .i64 8] [.agg [.list T_int (((V.nth r30.2 0).cell 0).toList), .int .i64 (((V.nth r30.2 0).cell 1).toInt)]]).bind fun r31 =>
            (C F_semigroupmade_Tape_Next [.ptr 0 0 0, .int .i64 (((r31.1.cell 0).toList).length : Int)] [.agg [.list T_int (((V.nth r31.2 0).cell 0).toList), .int .i64 (((V.nth r31.2 0).cell 1).toInt)]]).bind fun r32 =>
              (C F_semigroupmade_Tape_Next [.ptr 0 0 0, .int .i64 (((r31.1.cell 0).toList).length : Int)] [.agg [.list T_int (((V.nth r32.2 0).cell 0).toList), .int .i64 (((V.nth r32.2 0).cell 1).toInt)]]).bind fun r33 =>
                bif Nat.ble ((((r31.1.cell 0).toList).length + ([.agg [.int .i64 5, .int .i64 0, .int .i64 r32.1.toInt, .int .i64 r33.1.toInt], .agg [.int .i64 6, .int .i64 0, .int .i64 r32.1.toInt, .int .i64 r33.1.toInt], .agg [.int .i64 8, .int .i64 0, .int .i64 r32.1.toInt, .int .i64 0], .agg [.int .i64 7, .int .i64 0, .int .i64 r32.1.toInt, .int .i64 r33.1.toInt]] : List V).length) * 32) maxBytes then
                  (C F_semigroupmade_New [.list T_int v] []).bind fun r34 =>
                    (C F_semigroupmade_Tape_Word [.ptr 0 0 0, .int .i64 (IntKind.wrap .i64 (1 + r30.1.toInt)), .int .i64 5] [.agg [.list T_int ((r34.1.cell 0).toList), .int .i64 ((r34.1.cell 1).toInt)]]).bind fun r35 =>
                      (C F_semigroupmade_New [.list T_int w] []).bind fun r36 =>
                        (C F_semigroupmade_Tape_Word [.ptr 0 0 0, .int .i64 (IntKind.wrap .i64 (1 + r30.1.toInt)), .int .i64 5] [.agg [.list T_int ((r36.1.cell 0).toList), .int .i64 ((r36.1.cell 1).toInt)]]).bind fun r37 =>
                          (C F_semigrouplaw31_at [.agg [.list T_api_SfNode (((r31.1.cell 0).toList) ++ ([.agg [.int .i64 5, .int .i64 0, .int .i64 r32.1.toInt, .int .i64 r33.1.toInt], .agg [.int .i64 6, .int .i64 0, .int .i64 r32.1.toInt, .int .i64 r33.1.toInt], .agg [.int .i64 8, .int .i64 0, .int .i64 r32.1.toInt, .int .i64 0], .agg [.int .i64 7, .int .i64 0, .int .i64 r32.1.toInt, .int .i64 r33.1.toInt]] : List V)), .int .i64 ((r31.1.cell 1).toInt)], .int .i64 r32.1.toInt, .str r35.1.toStr] []).bind fun r38 =>
                            (C F_semigrouplaw31_at [.agg [.list T_api_SfNode (((r31.1.cell 0).toList) ++ ([.agg [.int .i64 5, .int .i64 0, .int .i64 r32.1.toInt, .int .i64 r33.1.toInt], .agg [.int .i64 6, .int .i64 0, .int .i64 r32.1.toInt, .int .i64 r33.1.toInt], .agg [.int .i64 8, .int .i64 0, .int .i64 r32.1.toInt, .int .i64 0], .agg [.int .i64 7, .int .i64 0, .int .i64 r32.1.toInt, .int .i64 r33.1.toInt]] : List V)), .int .i64 ((r31.1.cell 1).toInt)], .int .i64 r33.1.toInt, .str r35.1.toStr] []).bind fun r39 =>
                              s_semigrouplaw31_StarfreeBoolean_2 C (((r31.1.cell 0).toList).length : Int) r33.1.toInt r35.1.toStr r37.1.toStr r38.1.toBool r39.1.toBool ((r31.1.cell 1).toInt) (((r31.1.cell 0).toList) ++ ([.agg [.int .i64 5, .int .i64 0, .int .i64 r32.1.toInt, .int .i64 r33.1.toInt], .agg [.int .i64 6, .int .i64 0, .int .i64 r32.1.toInt, .int .i64 r33.1.toInt], .agg [.int .i64 8, .int .i64 0, .int .i64 r32.1.toInt, .int .i64 0], .agg [.int .i64 7, .int .i64 0, .int .i64 r32.1.toInt, .int .i64 r33.1.toInt]] : List V))
                                (fun (t_119 : Bool) =>
                                  K .ret (mk [(6, .bool t_119)] []))
                else none :=
  Eq.trans (execK_items (by kernel_rfl)) (s_semigrouplaw31_StarfreeBoolean_5c_eq C l v w K)

noncomputable def f_semigrouplaw31_StarfreeBoolean (C : CallF) (l : List V) (v : List V) (w : List V) : Option (V × List V) :=
  (C F_semigroupmade_New [.list T_int l] []).bind fun r29 =>
    (C F_semigroupmade_Tape_Next [.ptr 0 0 0, .int .i64 2] [.agg [.list T_int ((r29.1.cell 0).toList), .int .i64 ((r29.1.cell 1).toInt)]]).bind fun r30 =>
      (C F_semigroupmade_Tape_Graph [.ptr 0 0 0, .int .i64 (IntKind.wrap .i64 (1 + r30.1.toInt)), .int .i64 8] [.agg [.list T_int (((V.nth r30.2 0).cell 0).toList), .int .i64 (((V.nth r30.2 0).cell 1).toInt)]]).bind fun r31 =>
        (C F_semigroupmade_Tape_Next [.ptr 0 0 0, .int .i64 (((r31.1.cell 0).toList).length : Int)] [.agg [.list T_int (((V.nth r31.2 0).cell 0).toList), .int .i64 (((V.nth r31.2 0).cell 1).toInt)]]).bind fun r32 =>
          (C F_semigroupmade_Tape_Next [.ptr 0 0 0, .int .i64 (((r31.1.cell 0).toList).length : Int)] [.agg [.list T_int (((V.nth r32.2 0).cell 0).toList), .int .i64 (((V.nth r32.2 0).cell 1).toInt)]]).bind fun r33 =>
            bif Nat.ble ((((r31.1.cell 0).toList).length + ([.agg [.int .i64 5, .int .i64 0, .int .i64 r32.1.toInt, .int .i64 r33.1.toInt], .agg [.int .i64 6, .int .i64 0, .int .i64 r32.1.toInt, .int .i64 r33.1.toInt], .agg [.int .i64 8, .int .i64 0, .int .i64 r32.1.toInt, .int .i64 0], .agg [.int .i64 7, .int .i64 0, .int .i64 r32.1.toInt, .int .i64 r33.1.toInt]] : List V).length) * 32) maxBytes then
              (C F_semigroupmade_New [.list T_int v] []).bind fun r34 =>
                (C F_semigroupmade_Tape_Word [.ptr 0 0 0, .int .i64 (IntKind.wrap .i64 (1 + r30.1.toInt)), .int .i64 5] [.agg [.list T_int ((r34.1.cell 0).toList), .int .i64 ((r34.1.cell 1).toInt)]]).bind fun r35 =>
                  (C F_semigroupmade_New [.list T_int w] []).bind fun r36 =>
                    (C F_semigroupmade_Tape_Word [.ptr 0 0 0, .int .i64 (IntKind.wrap .i64 (1 + r30.1.toInt)), .int .i64 5] [.agg [.list T_int ((r36.1.cell 0).toList), .int .i64 ((r36.1.cell 1).toInt)]]).bind fun r37 =>
                      (C F_semigrouplaw31_at [.agg [.list T_api_SfNode (((r31.1.cell 0).toList) ++ ([.agg [.int .i64 5, .int .i64 0, .int .i64 r32.1.toInt, .int .i64 r33.1.toInt], .agg [.int .i64 6, .int .i64 0, .int .i64 r32.1.toInt, .int .i64 r33.1.toInt], .agg [.int .i64 8, .int .i64 0, .int .i64 r32.1.toInt, .int .i64 0], .agg [.int .i64 7, .int .i64 0, .int .i64 r32.1.toInt, .int .i64 r33.1.toInt]] : List V)), .int .i64 ((r31.1.cell 1).toInt)], .int .i64 r32.1.toInt, .str r35.1.toStr] []).bind fun r38 =>
                        (C F_semigrouplaw31_at [.agg [.list T_api_SfNode (((r31.1.cell 0).toList) ++ ([.agg [.int .i64 5, .int .i64 0, .int .i64 r32.1.toInt, .int .i64 r33.1.toInt], .agg [.int .i64 6, .int .i64 0, .int .i64 r32.1.toInt, .int .i64 r33.1.toInt], .agg [.int .i64 8, .int .i64 0, .int .i64 r32.1.toInt, .int .i64 0], .agg [.int .i64 7, .int .i64 0, .int .i64 r32.1.toInt, .int .i64 r33.1.toInt]] : List V)), .int .i64 ((r31.1.cell 1).toInt)], .int .i64 r33.1.toInt, .str r35.1.toStr] []).bind fun r39 =>
                          s_semigrouplaw31_StarfreeBoolean_2 C (((r31.1.cell 0).toList).length : Int) r33.1.toInt r35.1.toStr r37.1.toStr r38.1.toBool r39.1.toBool ((r31.1.cell 1).toInt) (((r31.1.cell 0).toList) ++ ([.agg [.int .i64 5, .int .i64 0, .int .i64 r32.1.toInt, .int .i64 r33.1.toInt], .agg [.int .i64 6, .int .i64 0, .int .i64 r32.1.toInt, .int .i64 r33.1.toInt], .agg [.int .i64 8, .int .i64 0, .int .i64 r32.1.toInt, .int .i64 0], .agg [.int .i64 7, .int .i64 0, .int .i64 r32.1.toInt, .int .i64 r33.1.toInt]] : List V))
                            (fun (t_119 : Bool) =>
                              some (.bool t_119, []))
            else none

theorem f_semigrouplaw31_StarfreeBoolean_eq (C : CallF) (l : List V) (v : List V) (w : List V) : bodyK Try.prog ann C 3 [.list T_int l, .list T_int v, .list T_int w] [] = f_semigrouplaw31_StarfreeBoolean C l v w :=
  Eq.trans (bodyK_fin (by kernel_rfl)) (Eq.trans (f_semigrouplaw31_StarfreeBoolean_all C l v w (finK Try.prog ann C 3 [])) (by kernel_rfl))

theorem f_semigrouplaw31_StarfreeBoolean_of {l : List V} {v : List V} {w : List V} {r : V × List V} (h : f_semigrouplaw31_StarfreeBoolean CC l v w = some r) : CC F_semigrouplaw31_StarfreeBoolean [.list T_int l, .list T_int v, .list T_int w] [] = some r :=
  Call_of_body ((bodyK_eq ..).trans ((f_semigrouplaw31_StarfreeBoolean_eq ..).trans h))

end Go.AM

/-
  The law StarfreeBoolean.
-/
namespace Go.AM
open Go.Proofs

theorem Valid.mono {k m : Int} {l : List Node} (h : Valid k l) (hkm : k ≤ m) : Valid m l := by
  refine validFrom_iff.2 fun j n hj => ?_
  have := nodeOk_iff.1 (h.node hj)
  rw [Nat.zero_add]
  exact nodeOk_iff.2 ⟨this.op, fun h => ⟨(this.letter h).1, by have := (this.letter h).2; omega⟩, this.noLetter, this.a, this.b, this.noA, this.noB⟩

theorem WordOf.valid {k : Int} {w : List UInt8} (h : WordOf k w) (hk : k ≤ 6) (hl : w.length ≤ 2048) : wordValidB w 6 = true := by
  unfold wordValidB wordB
  rw [Bool.and_eq_true, List.all_eq_true]
  refine ⟨by simp [hl], fun b hb => ?_⟩
  have := h b hb
  simp
  omega

theorem accepts_eq {l : List Node} {r : Nat} {w : List UInt8} (hv : Valid 6 l) (hl : l.length ≤ 20000) (hr : r < l.length) (hw : wordValidB w 6 = true) (hn : w.length ≤ 64) : acceptsB l r w = lang l r w := by
  unfold acceptsB
  have : validateN l r 6 = 0 := validateN_zero.2 ⟨by omega, hl, hv, by omega, by omega⟩
  simp [this, hw, hn]

theorem lang_cat {letters : Int} {l : List Node} (hl : Valid letters l) {i : Nat} {x : Node} (hx : l[i]? = some x) (h : x.op = 7) (u : List UInt8) :
    lang l i u = (List.range (u.length + 1)).any fun k => lang l x.a.toNat (u.take k) && lang l x.b.toNat (u.drop k) := by
  rw [lang_eq hl hx]; simp [h]

theorem starfreeBoolean (l v w : List Int) : CC F_semigrouplaw31_StarfreeBoolean [.list T_int (vIs l), .list T_int (vIs v), .list T_int (vIs w)] [] = some (.bool true, []) := by
  refine f_semigrouplaw31_StarfreeBoolean_of ?_
  obtain ⟨k, a1, t1, k0, k1, _, c1⟩ := next_spec _ _ 2 (new_ok l) (by omega)
  have k2 := k1 (by omega)
  obtain ⟨ns, a2, t2, n0, n1, n2, c2⟩ := graph_spec _ _ (k + 1) 8 t1 (by omega) (by omega)
  obtain ⟨a, a3, t3, x0, x1, _, c3⟩ := next_spec _ _ (ns.length : Int) t2 (by omega)
  have x2 := x1 (by omega)
  obtain ⟨b, a4, t4, y0, y1, _, c4⟩ := next_spec _ _ (ns.length : Int) t3 (by omega)
  have y2 := y1 (by omega)
  obtain ⟨x, a5, t5, w1, w2, c5⟩ := word_spec _ _ (k + 1) 5 (new_ok v) (by omega) (by omega)
  obtain ⟨y, a6, t6, u1, u2, c6⟩ := word_spec _ _ (k + 1) 5 (new_ok w) (by omega) (by omega)
  have ek : IntKind.wrap .i64 (1 + k) = k + 1 := by rw [wrap64 (by omega) (by omega)]; omega
  let ex : List Node := [⟨5, 0, a, b⟩, ⟨6, 0, a, b⟩, ⟨8, 0, a, 0⟩, ⟨7, 0, a, b⟩]
  have eg : nodesV ns ++ [.agg [.int .i64 5, .int .i64 0, .int .i64 a, .int .i64 b], .agg [.int .i64 6, .int .i64 0, .int .i64 a, .int .i64 b], .agg [.int .i64 8, .int .i64 0, .int .i64 a, .int .i64 0], .agg [.int .i64 7, .int .i64 0, .int .i64 a, .int .i64 b]] = nodesV (ns ++ ex) := by
    simp [ex, Node.v]
  have hlen : (ns ++ ex).length = ns.length + 4 := by simp [ex]
  have hval : Valid 6 (ns ++ ex) := by
    have v0 : Valid 6 ns := n0.mono (by omega)
    have v1 := valid_snoc (x := ⟨5, 0, a, b⟩) v0 ⟨by simp, fun h => by simp at h, fun _ => rfl, fun _ => ⟨x0, x2⟩, fun _ _ => ⟨y0, y2⟩, fun h => by simp at h, fun h => by simp at h⟩
    have v2 := valid_snoc (x := ⟨6, 0, a, b⟩) v1 ⟨by simp, fun h => by simp at h, fun _ => rfl, fun _ => ⟨x0, by simp; omega⟩, fun _ _ => ⟨y0, by simp; omega⟩, fun h => by simp at h, fun h => by simp at h⟩
    have v3 := valid_snoc (x := ⟨8, 0, a, 0⟩) v2 ⟨by simp, fun h => by simp at h, fun _ => rfl, fun _ => ⟨x0, by simp; omega⟩, fun _ h => absurd rfl h, fun h => by simp at h, fun _ => rfl⟩
    have v4 := valid_snoc (x := ⟨7, 0, a, b⟩) v3 ⟨by simp, fun h => by simp at h, fun _ => rfl, fun _ => ⟨x0, by simp; omega⟩, fun _ _ => ⟨y0, by simp; omega⟩, fun h => by simp at h, fun h => by simp at h⟩
    simpa [ex] using v4
  obtain ⟨A, rfl⟩ : ∃ A : Nat, a = A := ⟨a.toNat, by omega⟩
  obtain ⟨B, rfl⟩ : ∃ B : Nat, b = B := ⟨b.toNat, by omega⟩
  have hx := w1.valid (by omega) (by omega)
  have hy := u1.valid (by omega) (by omega)
  have hxy : wordValidB (x ++ y) 6 = true := by
    refine WordOf.valid (k := k + 1) (fun c hc => ?_) (by omega) (by simp; omega)
    rcases List.mem_append.1 hc with h | h
    · exact w1 c h
    · exact u1 c h
  have acc : ∀ (r : Nat) (u : List UInt8), r < ns.length + 4 → wordValidB u 6 = true → u.length ≤ 10 → acceptsB (ns ++ ex) r u = lang (ns ++ ex) r u :=
    fun r u hr hu hn => accepts_eq hval (by omega) (by omega) hu (by omega)
  have g : ∀ i, i < 4 → (ns ++ ex)[ns.length + i]? = ex[i]? := fun i _ => by
    rw [List.getElem?_append_right (by omega)]; congr 1; omega
  have e0 : acceptsB (ns ++ ex) (ns.length : Int) x = (lang (ns ++ ex) A x || lang (ns ++ ex) B x) := by
    rw [acc _ x (by omega) hx (by omega), lang_eq hval (show (ns ++ ex)[ns.length]? = some ⟨5, 0, (A : Int), (B : Int)⟩ from g 0 (by omega))]; simp
  have e1 : acceptsB (ns ++ ex) ((ns.length + 1 : Nat) : Int) x = (lang (ns ++ ex) A x && lang (ns ++ ex) B x) := by
    rw [acc _ x (by omega) hx (by omega), lang_eq hval (show (ns ++ ex)[ns.length + 1]? = some ⟨6, 0, (A : Int), (B : Int)⟩ from g 1 (by omega))]; simp
  have e2 : acceptsB (ns ++ ex) ((ns.length + 2 : Nat) : Int) x = !(lang (ns ++ ex) A x) := by
    rw [acc _ x (by omega) hx (by omega), lang_eq hval (show (ns ++ ex)[ns.length + 2]? = some ⟨8, 0, (A : Int), 0⟩ from g 2 (by omega))]; simp
  have e3 : lang (ns ++ ex) A x = true → lang (ns ++ ex) B y = true → acceptsB (ns ++ ex) ((ns.length + 3 : Nat) : Int) (x ++ y) = true := by
    intro h1 h2
    rw [acc _ _ (by omega) hxy (by simp; omega), lang_cat hval (show (ns ++ ex)[ns.length + 3]? = some ⟨7, 0, (A : Int), (B : Int)⟩ from g 3 (by omega)) rfl, List.any_eq_true]
    exact ⟨x.length, by simp; omega, by simp [h1, h2]⟩
  have ea := acc A x (by omega) hx (by omega)
  have eb := acc B x (by omega) hx (by omega)
  have eby := acc B y (by omega) hy (by omega)
  have hL : (ns ++ ex).length < 9223372036854775807 := by omega
  have m1 : (ns.length + 4) * 32 ≤ maxBytes := by unfold maxBytes; omega
  have m2 : x.length + y.length ≤ maxStr := by unfold maxStr; omega
  have i1 : IntKind.wrap .i64 ((ns.length : Int) + 1) = ((ns.length + 1 : Nat) : Int) := by rw [wrap64 (by omega) (by omega)]; rfl
  have i2 : IntKind.wrap .i64 ((ns.length : Int) + 2) = ((ns.length + 2 : Nat) : Int) := by rw [wrap64 (by omega) (by omega)]; rfl
  have i3 : IntKind.wrap .i64 ((ns.length : Int) + 3) = ((ns.length + 3 : Nat) : Int) := by rw [wrap64 (by omega) (by omega)]; rfl
  unfold f_semigrouplaw31_StarfreeBoolean s_semigrouplaw31_StarfreeBoolean_2
  unfold tapeV at c1 c2 c3 c4 c5 c6
  simp only [new_spec, tapeV, Option.bind_some, V.cell_agg, V.nth_zero, V.nth_one, V.toList_list, V.toList_own, V.toInt_int, V.toStr_str, V.toBool_bool, c1, ek, c2, List.length_map, c3, c4, List.length_cons, List.length_nil, Nat.zero_add, Nat.reduceAdd, bif_ble,
    if_pos m1, c5, c6, eg, at_spec _ _ _ _ hL, i1, i2, i3, e0, e1, e2, ea, eb, eby, known_spec, if_pos m2]
  have e4 : lang (ns ++ ex) A x = true → lang (ns ++ ex) B y = true → acceptsB (ns ++ ex) ((ns.length : Int) + 3) (x ++ y) = true := fun h1 h2 => e3 h1 h2
  cases hA : lang (ns ++ ex) A x <;> cases hB : lang (ns ++ ex) B x <;> cases hy : lang (ns ++ ex) B y <;> simp
  · exact (by rw [e4 hA hy]; rfl)
  · exact (by rw [e4 hA hy]; rfl)
end Go.AM

set_option maxRecDepth 100000
namespace Go.AM
open Go.Proofs
/-! semigroup/starfree.Cut -/
theorem s_starfree_Cut_1d_eq (C : CallF) (g_Nodes : List V) (g_Root : Int) {β : Type} (K : Out → St → Option β) :
    execL Try.prog ann C 14 74 0 (codesAt Try.prog 14 [[0], [1, 0, 0], [1, 0, 1, 0], [1, 0, 1, 1], [1, 1, 0], [1, 1, 1, 0], [1, 1, 1, 1, 0, 0]]) (mk [(0, .agg [.list T_api_SfNode g_Nodes, .int .i64 g_Root])] []) K =
      (C F_starfree_Validate [.agg [.list T_api_SfNode g_Nodes, .int .i64 g_Root], .int .i64 6] []).bind fun r6 =>
        bif (r6.1.toInt : Int) != 0 then
          K .ret (mk [(2, .ptr 0 0 0), (3, .int .i64 r6.1.toInt)] [.var [.whole T_api_SfNode 1, .int .i64 0], .arr T_api_SfNode ([] : List V) false])
        else
          bif (decide (0 ≤ (g_Nodes.length : Int))) && ((decide ((g_Nodes.length : Int) ≤ (g_Nodes.length : Int))) && (Nat.ble ((((g_Nodes.length : Int) : Int).toNat) * 8) maxBytes)) then
            (C F_starfree_reached [.agg [.list T_api_SfNode g_Nodes, .int .i64 g_Root]] []).bind fun r7 =>
              K .norm (mk [(1, .ptr 0 0 0), (2, .ptr 1 0 0), (5, .ptr 2 0 0), (6, .whole T_int 3), (21, .whole T_bool 4), (22, .int .i64 (r7.1.toList.length : Int)), (23, .int .i64 0)] [.var [.list T_api_SfNode g_Nodes, .int .i64 g_Root], .var [.whole T_api_SfNode 5, .int .i64 0], .var [.whole T_api_SfNode 6, .int .i64 0], .arr T_int (List.replicate (((g_Nodes.length : Int) : Int).toNat) (V.int .i64 0)) false, .arr T_bool r7.1.toList false, .arr T_api_SfNode ([] : List V) false, .arr T_api_SfNode ([] : List V) false])
          else none := by kernel_rfl

noncomputable def s_starfree_Cut_2 (C : CallF) (t22 : Int) (t23 : Int) (gs_0 : List V) (numbers : List V) (t21s : List V) (cut_0s : List V) {β : Type} (k0 : (List V) → (List V) → Option β) (k1 : Option β) : Option β :=
  bif decide ((t23 : Int) < t22) then
    bif (decide (0 ≤ t23)) && (decide (t23 < (t21s.length : Int))) then
      (t21s[(t23 : Int).toNat]?).bind fun x8 =>
        bif !x8.toBool then
          k0 numbers cut_0s
        else
          (idx gs_0 t23).bind fun x9 =>
            (C F_starfree_parts [.int .i64 ((x9.cell 0).toInt)] []).bind fun r10 =>
              bif decide ((r10.1.toInt : Int) ≥ 1) then
                bif (decide (0 ≤ ((x9.cell 2).toInt))) && (decide (((x9.cell 2).toInt) < (numbers.length : Int))) then
                  (numbers[((x9.cell 2).toInt : Int).toNat]?).bind fun x11 =>
                    (C F_starfree_parts [.int .i64 ((x9.cell 0).toInt)] []).bind fun r12 =>
                      bif (r12.1.toInt : Int) == 2 then
                        bif (decide (0 ≤ ((x9.cell 3).toInt))) && (decide (((x9.cell 3).toInt) < (numbers.length : Int))) then
                          (numbers[((x9.cell 3).toInt : Int).toNat]?).bind fun x13 =>
                            bif (decide (0 ≤ t23)) && (decide (t23 < (numbers.length : Int))) then
                              (numbers[(t23 : Int).toNat]?).bind fun x14 =>
                                bif Nat.ble ((cut_0s.length + ([.agg [.int .i64 ((x9.cell 0).toInt), .int .i64 ((x9.cell 1).toInt), .int .i64 x11.toInt, .int .i64 x13.toInt]] : List V).length) * 32) maxBytes then
                                  k0 (numbers.set ((t23 : Int).toNat) (.int .i64 (cut_0s.length : Int))) (cut_0s ++ ([.agg [.int .i64 ((x9.cell 0).toInt), .int .i64 ((x9.cell 1).toInt), .int .i64 x11.toInt, .int .i64 x13.toInt]] : List V))
                                else none
                            else none
                        else none
                      else
                        bif (decide (0 ≤ t23)) && (decide (t23 < (numbers.length : Int))) then
                          (numbers[(t23 : Int).toNat]?).bind fun x15 =>
                            bif Nat.ble ((cut_0s.length + ([.agg [.int .i64 ((x9.cell 0).toInt), .int .i64 ((x9.cell 1).toInt), .int .i64 x11.toInt, .int .i64 ((x9.cell 3).toInt)]] : List V).length) * 32) maxBytes then
                              k0 (numbers.set ((t23 : Int).toNat) (.int .i64 (cut_0s.length : Int))) (cut_0s ++ ([.agg [.int .i64 ((x9.cell 0).toInt), .int .i64 ((x9.cell 1).toInt), .int .i64 x11.toInt, .int .i64 ((x9.cell 3).toInt)]] : List V))
                            else none
                        else none
                else none
              else
                (C F_starfree_parts [.int .i64 ((x9.cell 0).toInt)] []).bind fun r16 =>
                  bif (r16.1.toInt : Int) == 2 then
                    bif (decide (0 ≤ ((x9.cell 3).toInt))) && (decide (((x9.cell 3).toInt) < (numbers.length : Int))) then
                      (numbers[((x9.cell 3).toInt : Int).toNat]?).bind fun x17 =>
                        bif (decide (0 ≤ t23)) && (decide (t23 < (numbers.length : Int))) then
                          (numbers[(t23 : Int).toNat]?).bind fun x18 =>
                            bif Nat.ble ((cut_0s.length + ([.agg [.int .i64 ((x9.cell 0).toInt), .int .i64 ((x9.cell 1).toInt), .int .i64 ((x9.cell 2).toInt), .int .i64 x17.toInt]] : List V).length) * 32) maxBytes then
                              k0 (numbers.set ((t23 : Int).toNat) (.int .i64 (cut_0s.length : Int))) (cut_0s ++ ([.agg [.int .i64 ((x9.cell 0).toInt), .int .i64 ((x9.cell 1).toInt), .int .i64 ((x9.cell 2).toInt), .int .i64 x17.toInt]] : List V))
                            else none
                        else none
                    else none
                  else
                    bif (decide (0 ≤ t23)) && (decide (t23 < (numbers.length : Int))) then
                      (numbers[(t23 : Int).toNat]?).bind fun x19 =>
                        bif Nat.ble ((cut_0s.length + ([.agg [.int .i64 ((x9.cell 0).toInt), .int .i64 ((x9.cell 1).toInt), .int .i64 ((x9.cell 2).toInt), .int .i64 ((x9.cell 3).toInt)]] : List V).length) * 32) maxBytes then
                          k0 (numbers.set ((t23 : Int).toNat) (.int .i64 (cut_0s.length : Int))) (cut_0s ++ ([.agg [.int .i64 ((x9.cell 0).toInt), .int .i64 ((x9.cell 1).toInt), .int .i64 ((x9.cell 2).toInt), .int .i64 ((x9.cell 3).toInt)]] : List V))
                        else none
                    else none
    else none
  else
    k1

theorem s_starfree_Cut_2_eq (C : CallF) (t22 : Int) (t23 : Int) (gs_0 : List V) (gs_1 : Int) (t2s_1 : Int) (cuts_1 : Int) (numbers : List V) (t21s : List V) (t2_0s : List V) (cut_0s : List V) {β : Type} (K : Out → St → Option β) :
    execL Try.prog ann C 14 74 0 (codesAt Try.prog 14 [[1, 1, 1, 1, 0, 1, 0, 0, 0], [1, 1, 1, 1, 0, 1, 0, 0, 1, 0], [1, 1, 1, 1, 0, 1, 0, 0, 1, 1, 0]]) (mk [(1, .ptr 0 0 0), (2, .ptr 1 0 0), (5, .ptr 2 0 0), (6, .whole T_int 3), (21, .whole T_bool 4), (22, .int .i64 t22), (23, .int .i64 t23)] [.var [.list T_api_SfNode gs_0, .int .i64 gs_1], .var [.whole T_api_SfNode 5, .int .i64 t2s_1], .var [.whole T_api_SfNode 6, .int .i64 cuts_1], .arr T_int numbers false, .arr T_bool t21s false, .arr T_api_SfNode t2_0s false, .arr T_api_SfNode cut_0s false]) K =
      s_starfree_Cut_2 C t22 t23 gs_0 numbers t21s cut_0s
        (fun (numbers0 : List V) (cut_0s0 : List V) => K .norm (mk [(1, .ptr 0 0 0), (2, .ptr 1 0 0), (5, .ptr 2 0 0), (6, .whole T_int 3), (21, .whole T_bool 4), (22, .int .i64 t22), (23, .int .i64 t23)] [.var [.list T_api_SfNode gs_0, .int .i64 gs_1], .var [.whole T_api_SfNode 5, .int .i64 t2s_1], .var [.whole T_api_SfNode 6, .int .i64 cuts_1], .arr T_int numbers0 false, .arr T_bool t21s false, .arr T_api_SfNode t2_0s false, .arr T_api_SfNode cut_0s0 false]))
        (K (.exit 0) (mk [(1, .ptr 0 0 0), (2, .ptr 1 0 0), (5, .ptr 2 0 0), (6, .whole T_int 3), (21, .whole T_bool 4), (22, .int .i64 t22), (23, .int .i64 t23), (24, .bool (decide ((t23 : Int) < t22)))] [.var [.list T_api_SfNode gs_0, .int .i64 gs_1], .var [.whole T_api_SfNode 5, .int .i64 t2s_1], .var [.whole T_api_SfNode 6, .int .i64 cuts_1], .arr T_int numbers false, .arr T_bool t21s false, .arr T_api_SfNode t2_0s false, .arr T_api_SfNode cut_0s false])) := by kernel_rfl

theorem s_starfree_Cut_3d_eq (C : CallF) (t22 : Int) (t23 : Int) (gs_0 : List V) (gs_1 : Int) (t2s_1 : Int) (cuts_1 : Int) (numbers : List V) (t21s : List V) (t2_0s : List V) (cut_0s : List V) {β : Type} (K : Out → St → Option β) :
    execL Try.prog ann C 14 74 0 (codesAt Try.prog 14 [[1, 1, 1, 1, 0, 1, 0, 0, 1, 1, 1]]) (mk [(1, .ptr 0 0 0), (2, .ptr 1 0 0), (5, .ptr 2 0 0), (6, .whole T_int 3), (21, .whole T_bool 4), (22, .int .i64 t22), (23, .int .i64 t23)] [.var [.list T_api_SfNode gs_0, .int .i64 gs_1], .var [.whole T_api_SfNode 5, .int .i64 t2s_1], .var [.whole T_api_SfNode 6, .int .i64 cuts_1], .arr T_int numbers false, .arr T_bool t21s false, .arr T_api_SfNode t2_0s false, .arr T_api_SfNode cut_0s false]) K =
      K .norm (mk [(1, .ptr 0 0 0), (2, .ptr 1 0 0), (5, .ptr 2 0 0), (6, .whole T_int 3), (21, .whole T_bool 4), (22, .int .i64 t22), (23, .int .i64 (IntKind.wrap .i64 (t23 + 1)))] [.var [.list T_api_SfNode gs_0, .int .i64 gs_1], .var [.whole T_api_SfNode 5, .int .i64 t2s_1], .var [.whole T_api_SfNode 6, .int .i64 cuts_1], .arr T_int numbers false, .arr T_bool t21s false, .arr T_api_SfNode t2_0s false, .arr T_api_SfNode cut_0s false]) := by kernel_rfl

theorem s_starfree_Cut_4c_eq (C : CallF) (t22 : Int) (t23 : Int) (gs_0 : List V) (gs_1 : Int) (t2s_1 : Int) (cuts_1 : Int) (numbers : List V) (t21s : List V) (t2_0s : List V) (cut_0s : List V) {β : Type} (K : Out → St → Option β) :
    execL Try.prog ann C 14 74 0 (codesAt Try.prog 14 [[1, 1, 1, 1, 0, 1, 0, 0, 0], [1, 1, 1, 1, 0, 1, 0, 0, 1, 0], [1, 1, 1, 1, 0, 1, 0, 0, 1, 1, 0], [1, 1, 1, 1, 0, 1, 0, 0, 1, 1, 1]]) (mk [(1, .ptr 0 0 0), (2, .ptr 1 0 0), (5, .ptr 2 0 0), (6, .whole T_int 3), (21, .whole T_bool 4), (22, .int .i64 t22), (23, .int .i64 t23)] [.var [.list T_api_SfNode gs_0, .int .i64 gs_1], .var [.whole T_api_SfNode 5, .int .i64 t2s_1], .var [.whole T_api_SfNode 6, .int .i64 cuts_1], .arr T_int numbers false, .arr T_bool t21s false, .arr T_api_SfNode t2_0s false, .arr T_api_SfNode cut_0s false]) K =
      s_starfree_Cut_2 C t22 t23 gs_0 numbers t21s cut_0s
        (fun (numbers_32 : List V) (cut_0s_33 : List V) =>
          K .norm (mk [(1, .ptr 0 0 0), (2, .ptr 1 0 0), (5, .ptr 2 0 0), (6, .whole T_int 3), (21, .whole T_bool 4), (22, .int .i64 t22), (23, .int .i64 (IntKind.wrap .i64 (t23 + 1)))] [.var [.list T_api_SfNode gs_0, .int .i64 gs_1], .var [.whole T_api_SfNode 5, .int .i64 t2s_1], .var [.whole T_api_SfNode 6, .int .i64 cuts_1], .arr T_int numbers_32 false, .arr T_bool t21s false, .arr T_api_SfNode t2_0s false, .arr T_api_SfNode cut_0s_33 false]))
        (
          K (.exit 0) (mk [(1, .ptr 0 0 0), (2, .ptr 1 0 0), (5, .ptr 2 0 0), (6, .whole T_int 3), (21, .whole T_bool 4), (22, .int .i64 t22), (23, .int .i64 t23), (24, .bool (decide ((t23 : Int) < t22)))] [.var [.list T_api_SfNode gs_0, .int .i64 gs_1], .var [.whole T_api_SfNode 5, .int .i64 t2s_1], .var [.whole T_api_SfNode 6, .int .i64 cuts_1], .arr T_int numbers false, .arr T_bool t21s false, .arr T_api_SfNode t2_0s false, .arr T_api_SfNode cut_0s false])) := by
  refine Eq.trans (execL_app (P := Try.prog) (A := ann) (C := C) (f := 14) (n := 74) (m := 0) (codesAt Try.prog 14 [[1, 1, 1, 1, 0, 1, 0, 0, 0], [1, 1, 1, 1, 0, 1, 0, 0, 1, 0], [1, 1, 1, 1, 0, 1, 0, 0, 1, 1, 0]]) (codesAt Try.prog 14 [[1, 1, 1, 1, 0, 1, 0, 0, 1, 1, 1]]) (st := mk [(1, .ptr 0 0 0), (2, .ptr 1 0 0), (5, .ptr 2 0 0), (6, .whole T_int 3), (21, .whole T_bool 4), (22, .int .i64 t22), (23, .int .i64 t23)] [.var [.list T_api_SfNode gs_0, .int .i64 gs_1], .var [.whole T_api_SfNode 5, .int .i64 t2s_1], .var [.whole T_api_SfNode 6, .int .i64 cuts_1], .arr T_int numbers false, .arr T_bool t21s false, .arr T_api_SfNode t2_0s false, .arr T_api_SfNode cut_0s false]) (K := K)) (Eq.trans (s_starfree_Cut_2_eq C t22 t23 gs_0 gs_1 t2s_1 cuts_1 numbers t21s t2_0s cut_0s (seqK Try.prog ann C 14 74 0 (codesAt Try.prog 14 [[1, 1, 1, 1, 0, 1, 0, 0, 1, 1, 1]]) K)) ?_)
  · exact Eq.trans (by kernel_rfl) (Eq.trans (congrArg (fun HOLE : (List V) → (List V) → Option β => s_starfree_Cut_2 C t22 t23 gs_0 numbers t21s cut_0s HOLE (K (.exit 0) (mk [(1, .ptr 0 0 0), (2, .ptr 1 0 0), (5, .ptr 2 0 0), (6, .whole T_int 3), (21, .whole T_bool 4), (22, .int .i64 t22), (23, .int .i64 t23), (24, .bool (decide ((t23 : Int) < t22)))] [.var [.list T_api_SfNode gs_0, .int .i64 gs_1], .var [.whole T_api_SfNode 5, .int .i64 t2s_1], .var [.whole T_api_SfNode 6, .int .i64 cuts_1], .arr T_int numbers false, .arr T_bool t21s false, .arr T_api_SfNode t2_0s false, .arr T_api_SfNode cut_0s false]))) (funext fun (numbers0 : List V) => funext fun (cut_0s0 : List V) => s_starfree_Cut_3d_eq C t22 t23 gs_0 gs_1 t2s_1 cuts_1 numbers0 t21s t2_0s cut_0s0 K)) ((by kernel_rfl)))


noncomputable def s_starfree_Cut_5L_step (C : CallF) (t22 : Int) (gs_0 : List V) (t21s : List V) : (Int × (List V) × (List V)) → Option ((Int × (List V) × (List V)) ⊕ ((Int × Bool × (List V) × (List V)))) := fun (t23, numbers, cut_0s) =>
  s_starfree_Cut_2 C t22 t23 gs_0 numbers t21s cut_0s
    (fun (numbers_32 : List V) (cut_0s_33 : List V) =>
      some (.inl (IntKind.wrap .i64 (t23 + 1), numbers_32, cut_0s_33)))
    (
      some (.inr (t23, decide ((t23 : Int) < t22), numbers, cut_0s)))

noncomputable def s_starfree_Cut_5L (C : CallF) (t22 : Int) (t23 : Int) (gs_0 : List V) (numbers : List V) (t21s : List V) (cut_0s : List V) {β : Type} (k0 : Int → Bool → (List V) → (List V) → Option β) : Option β :=
  (Loop (s_starfree_Cut_5L_step C t22 gs_0 t21s) (t23, numbers, cut_0s)).bind fun (t230, t240, numbers0, cut_0s0) => k0 t230 t240 numbers0 cut_0s0

def s_starfree_Cut_5L_dec : Out → St → Option ((Int × (List V) × (List V)) ⊕ ((Int × Bool × (List V) × (List V)))) := fun o st => match o with
    | .norm => some (.inl (V.toInt (st.sl 23), arrOf (st.hp 3), arrOf (st.hp 6)))
    | .exit q => bif Nat.beq q 0 then some (.inr (V.toInt (st.sl 23), V.toBool (st.sl 24), arrOf (st.hp 3), arrOf (st.hp 6))) else none
    | .ret => none

def s_starfree_Cut_5L_hd (t22 : Int) (gs_0 : List V) (gs_1 : Int) (t2s_1 : Int) (cuts_1 : Int) (t21s : List V) (t2_0s : List V) : (Int × (List V) × (List V)) → St := fun (t23, numbers, cut_0s) => mk [(1, .ptr 0 0 0), (2, .ptr 1 0 0), (5, .ptr 2 0 0), (6, .whole T_int 3), (21, .whole T_bool 4), (22, .int .i64 t22), (23, .int .i64 t23)] [.var [.list T_api_SfNode gs_0, .int .i64 gs_1], .var [.whole T_api_SfNode 5, .int .i64 t2s_1], .var [.whole T_api_SfNode 6, .int .i64 cuts_1], .arr T_int numbers false, .arr T_bool t21s false, .arr T_api_SfNode t2_0s false, .arr T_api_SfNode cut_0s false]

def s_starfree_Cut_5L_enc (t22 : Int) (gs_0 : List V) (gs_1 : Int) (t2s_1 : Int) (cuts_1 : Int) (t21s : List V) (t2_0s : List V) : ((Int × Bool × (List V) × (List V))) → Out × St := fun (t230, t240, numbers0, cut_0s0) => (.exit 0, mk [(1, .ptr 0 0 0), (2, .ptr 1 0 0), (5, .ptr 2 0 0), (6, .whole T_int 3), (21, .whole T_bool 4), (22, .int .i64 t22), (23, .int .i64 t230), (24, .bool t240)] [.var [.list T_api_SfNode gs_0, .int .i64 gs_1], .var [.whole T_api_SfNode 5, .int .i64 t2s_1], .var [.whole T_api_SfNode 6, .int .i64 cuts_1], .arr T_int numbers0 false, .arr T_bool t21s false, .arr T_api_SfNode t2_0s false, .arr T_api_SfNode cut_0s0 false])

theorem s_starfree_Cut_5L_eq (C : CallF) (t22 : Int) (t23 : Int) (gs_0 : List V) (gs_1 : Int) (t2s_1 : Int) (cuts_1 : Int) (numbers : List V) (t21s : List V) (t2_0s : List V) (cut_0s : List V) {β : Type} (K : Out → St → Option β) :
    execL Try.prog ann C 14 74 0 (codesAt Try.prog 14 [[1, 1, 1, 1, 0, 1, 0]]) (mk [(1, .ptr 0 0 0), (2, .ptr 1 0 0), (5, .ptr 2 0 0), (6, .whole T_int 3), (21, .whole T_bool 4), (22, .int .i64 t22), (23, .int .i64 t23)] [.var [.list T_api_SfNode gs_0, .int .i64 gs_1], .var [.whole T_api_SfNode 5, .int .i64 t2s_1], .var [.whole T_api_SfNode 6, .int .i64 cuts_1], .arr T_int numbers false, .arr T_bool t21s false, .arr T_api_SfNode t2_0s false, .arr T_api_SfNode cut_0s false]) K =
      s_starfree_Cut_5L C t22 t23 gs_0 numbers t21s cut_0s
        (fun (t230 : Int) (t240 : Bool) (numbers0 : List V) (cut_0s0 : List V) => K (.exit 0) (mk [(1, .ptr 0 0 0), (2, .ptr 1 0 0), (5, .ptr 2 0 0), (6, .whole T_int 3), (21, .whole T_bool 4), (22, .int .i64 t22), (23, .int .i64 t230), (24, .bool t240)] [.var [.list T_api_SfNode gs_0, .int .i64 gs_1], .var [.whole T_api_SfNode 5, .int .i64 t2s_1], .var [.whole T_api_SfNode 6, .int .i64 cuts_1], .arr T_int numbers0 false, .arr T_bool t21s false, .arr T_api_SfNode t2_0s false, .arr T_api_SfNode cut_0s0 false])) := by
  have hitems : flatC (codeAt [1, 1, 1, 1, 0, 1, 0, 0] (bodyOf Try.prog 14)) = codesAt Try.prog 14 [[1, 1, 1, 1, 0, 1, 0, 0, 0], [1, 1, 1, 1, 0, 1, 0, 0, 1, 0], [1, 1, 1, 1, 0, 1, 0, 0, 1, 1, 0], [1, 1, 1, 1, 0, 1, 0, 0, 1, 1, 1]] := by kernel_rfl
  have hloop : [codeAt [1, 1, 1, 1, 0, 1, 0] (bodyOf Try.prog 14)] = [Code.loop (codeAt [1, 1, 1, 1, 0, 1, 0, 0] (bodyOf Try.prog 14))] := by kernel_rfl
  have h := loopK_eq (P := Try.prog) (A := ann) (C := C) (f := 14) (n := 74) (m := 0) (c := codeAt [1, 1, 1, 1, 0, 1, 0, 0] (bodyOf Try.prog 14)) (s_starfree_Cut_5L_hd t22 gs_0 gs_1 t2s_1 cuts_1 t21s t2_0s) (s_starfree_Cut_5L_enc t22 gs_0 gs_1 t2s_1 cuts_1 t21s t2_0s) s_starfree_Cut_5L_dec (s_starfree_Cut_5L_step C t22 gs_0 t21s)
    (by rintro ⟨t23, numbers, cut_0s⟩; exact Eq.trans (execK_items hitems) (Eq.trans (s_starfree_Cut_4c_eq C t22 t23 gs_0 gs_1 t2s_1 cuts_1 numbers t21s t2_0s cut_0s s_starfree_Cut_5L_dec) (by kernel_rfl)))
    (by rintro ⟨t23, numbers, cut_0s⟩; exact Eq.trans (execK_items hitems) (Eq.trans (s_starfree_Cut_4c_eq C t22 t23 gs_0 gs_1 t2s_1 cuts_1 numbers t21s t2_0s cut_0s (fun o st => some (o, st))) (Eq.trans (by kernel_rfl) (Eq.trans (s_starfree_Cut_4c_eq C t22 t23 gs_0 gs_1 t2s_1 cuts_1 numbers t21s t2_0s cut_0s (fun o st => (s_starfree_Cut_5L_dec o st).map (outS (s_starfree_Cut_5L_hd t22 gs_0 gs_1 t2s_1 cuts_1 t21s t2_0s) (s_starfree_Cut_5L_enc t22 gs_0 gs_1 t2s_1 cuts_1 t21s t2_0s)))).symm (execK_items hitems).symm))))
    (by intro r; intro h; cases h) (t23, numbers, cut_0s) K
  refine Eq.trans (congrArg (fun l => execL Try.prog ann C 14 74 0 l (mk [(1, .ptr 0 0 0), (2, .ptr 1 0 0), (5, .ptr 2 0 0), (6, .whole T_int 3), (21, .whole T_bool 4), (22, .int .i64 t22), (23, .int .i64 t23)] [.var [.list T_api_SfNode gs_0, .int .i64 gs_1], .var [.whole T_api_SfNode 5, .int .i64 t2s_1], .var [.whole T_api_SfNode 6, .int .i64 cuts_1], .arr T_int numbers false, .arr T_bool t21s false, .arr T_api_SfNode t2_0s false, .arr T_api_SfNode cut_0s false]) K) hloop) (Eq.trans h ?_)
  · refine congrArg _ (funext fun r => ?_)
    rfl

theorem s_starfree_Cut_6b_eq (C : CallF) (t22 : Int) (t23 : Int) (gs_0 : List V) (gs_1 : Int) (t2s_1 : Int) (cuts_1 : Int) (numbers : List V) (t21s : List V) (t2_0s : List V) (cut_0s : List V) {β : Type} (K : Out → St → Option β) :
    execL Try.prog ann C 14 74 0 (codesAt Try.prog 14 [[1, 1, 1, 1, 0, 1]]) (mk [(1, .ptr 0 0 0), (2, .ptr 1 0 0), (5, .ptr 2 0 0), (6, .whole T_int 3), (21, .whole T_bool 4), (22, .int .i64 t22), (23, .int .i64 t23)] [.var [.list T_api_SfNode gs_0, .int .i64 gs_1], .var [.whole T_api_SfNode 5, .int .i64 t2s_1], .var [.whole T_api_SfNode 6, .int .i64 cuts_1], .arr T_int numbers false, .arr T_bool t21s false, .arr T_api_SfNode t2_0s false, .arr T_api_SfNode cut_0s false]) K =
      s_starfree_Cut_5L C t22 t23 gs_0 numbers t21s cut_0s
        (fun (t_34 : Int) (t_35 : Bool) (numbers_36 : List V) (cut_0s_37 : List V) =>
          K .norm (mk [(2, .ptr 0 0 0), (5, .ptr 1 0 0)] [.var [.whole T_api_SfNode 2, .int .i64 t2s_1], .var [.whole T_api_SfNode 3, .int .i64 cuts_1], .arr T_api_SfNode t2_0s false, .arr T_api_SfNode cut_0s_37 false])) := Eq.trans (execL_block (P := Try.prog) (A := ann) (C := C) (f := 14) (n := 74) (m := 0) (id := 0) (c := codeAt [1, 1, 1, 1, 0, 1] (bodyOf Try.prog 14)) (d := codeAt [1, 1, 1, 1, 0, 1, 0] (bodyOf Try.prog 14)) (l := codesAt Try.prog 14 [[1, 1, 1, 1, 0, 1, 0]]) (st := mk [(1, .ptr 0 0 0), (2, .ptr 1 0 0), (5, .ptr 2 0 0), (6, .whole T_int 3), (21, .whole T_bool 4), (22, .int .i64 t22), (23, .int .i64 t23)] [.var [.list T_api_SfNode gs_0, .int .i64 gs_1], .var [.whole T_api_SfNode 5, .int .i64 t2s_1], .var [.whole T_api_SfNode 6, .int .i64 cuts_1], .arr T_int numbers false, .arr T_bool t21s false, .arr T_api_SfNode t2_0s false, .arr T_api_SfNode cut_0s false]) (K := K) (by kernel_rfl) (by kernel_rfl)) (Eq.trans (s_starfree_Cut_5L_eq C t22 t23 gs_0 gs_1 t2s_1 cuts_1 numbers t21s t2_0s cut_0s (blockK ann 14 0 0 K)) (by kernel_rfl))

theorem s_starfree_Cut_7d_eq (C : CallF) (t2s_1 : Int) (cuts_1 : Int) (t2_0s : List V) (cut_0s : List V) {β : Type} (K : Out → St → Option β) :
    execL Try.prog ann C 14 74 0 (codesAt Try.prog 14 [[1, 1, 1, 1, 1, 0], [1, 1, 1, 1, 1, 1, 0], [1, 1, 1, 1, 1, 1, 1]]) (mk [(2, .ptr 0 0 0), (5, .ptr 1 0 0)] [.var [.whole T_api_SfNode 2, .int .i64 t2s_1], .var [.whole T_api_SfNode 3, .int .i64 cuts_1], .arr T_api_SfNode t2_0s false, .arr T_api_SfNode cut_0s false]) K =
      K .ret (mk [(2, .ptr 0 0 0), (3, .int .i64 0)] [.var [.whole T_api_SfNode 1, .int .i64 (IntKind.wrap .i64 ((cut_0s.length : Int) - 1))], .arr T_api_SfNode cut_0s false]) := by kernel_rfl

theorem s_starfree_Cut_8c_eq (C : CallF) (t22 : Int) (t23 : Int) (gs_0 : List V) (gs_1 : Int) (t2s_1 : Int) (cuts_1 : Int) (numbers : List V) (t21s : List V) (t2_0s : List V) (cut_0s : List V) {β : Type} (K : Out → St → Option β) :
    execL Try.prog ann C 14 74 0 (codesAt Try.prog 14 [[1, 1, 1, 1, 0, 1], [1, 1, 1, 1, 1, 0], [1, 1, 1, 1, 1, 1, 0], [1, 1, 1, 1, 1, 1, 1]]) (mk [(1, .ptr 0 0 0), (2, .ptr 1 0 0), (5, .ptr 2 0 0), (6, .whole T_int 3), (21, .whole T_bool 4), (22, .int .i64 t22), (23, .int .i64 t23)] [.var [.list T_api_SfNode gs_0, .int .i64 gs_1], .var [.whole T_api_SfNode 5, .int .i64 t2s_1], .var [.whole T_api_SfNode 6, .int .i64 cuts_1], .arr T_int numbers false, .arr T_bool t21s false, .arr T_api_SfNode t2_0s false, .arr T_api_SfNode cut_0s false]) K =
      s_starfree_Cut_5L C t22 t23 gs_0 numbers t21s cut_0s
        (fun (t_34 : Int) (t_35 : Bool) (numbers_36 : List V) (cut_0s_37 : List V) =>
          K .ret (mk [(2, .ptr 0 0 0), (3, .int .i64 0)] [.var [.whole T_api_SfNode 1, .int .i64 (IntKind.wrap .i64 ((cut_0s_37.length : Int) - 1))], .arr T_api_SfNode cut_0s_37 false])) := by
  refine Eq.trans (execL_app (P := Try.prog) (A := ann) (C := C) (f := 14) (n := 74) (m := 0) (codesAt Try.prog 14 [[1, 1, 1, 1, 0, 1]]) (codesAt Try.prog 14 [[1, 1, 1, 1, 1, 0], [1, 1, 1, 1, 1, 1, 0], [1, 1, 1, 1, 1, 1, 1]]) (st := mk [(1, .ptr 0 0 0), (2, .ptr 1 0 0), (5, .ptr 2 0 0), (6, .whole T_int 3), (21, .whole T_bool 4), (22, .int .i64 t22), (23, .int .i64 t23)] [.var [.list T_api_SfNode gs_0, .int .i64 gs_1], .var [.whole T_api_SfNode 5, .int .i64 t2s_1], .var [.whole T_api_SfNode 6, .int .i64 cuts_1], .arr T_int numbers false, .arr T_bool t21s false, .arr T_api_SfNode t2_0s false, .arr T_api_SfNode cut_0s false]) (K := K)) (Eq.trans (s_starfree_Cut_6b_eq C t22 t23 gs_0 gs_1 t2s_1 cuts_1 numbers t21s t2_0s cut_0s (seqK Try.prog ann C 14 74 0 (codesAt Try.prog 14 [[1, 1, 1, 1, 1, 0], [1, 1, 1, 1, 1, 1, 0], [1, 1, 1, 1, 1, 1, 1]]) K)) ?_)
  · exact Eq.trans (by kernel_rfl) (Eq.trans (congrArg (fun HOLE : (List V) → Option β => (s_starfree_Cut_5L C t22 t23 gs_0 numbers t21s cut_0s
        (fun (t_34 : Int) (t_35 : Bool) (numbers_36 : List V) (cut_0s_37 : List V) =>
          HOLE cut_0s_37))) (funext fun (cut_0s0 : List V) => s_starfree_Cut_7d_eq C t2s_1 cuts_1 t2_0s cut_0s0 K)) ((by kernel_rfl)))


theorem s_starfree_Cut_9c_eq (C : CallF) (g_Nodes : List V) (g_Root : Int) {β : Type} (K : Out → St → Option β) :
    execL Try.prog ann C 14 74 0 (codesAt Try.prog 14 [[0], [1, 0, 0], [1, 0, 1, 0], [1, 0, 1, 1], [1, 1, 0], [1, 1, 1, 0], [1, 1, 1, 1, 0, 0], [1, 1, 1, 1, 0, 1], [1, 1, 1, 1, 1, 0], [1, 1, 1, 1, 1, 1, 0], [1, 1, 1, 1, 1, 1, 1]]) (mk [(0, .agg [.list T_api_SfNode g_Nodes, .int .i64 g_Root])] []) K =
      (C F_starfree_Validate [.agg [.list T_api_SfNode g_Nodes, .int .i64 g_Root], .int .i64 6] []).bind fun r6 =>
        bif (r6.1.toInt : Int) != 0 then
          K .ret (mk [(2, .ptr 0 0 0), (3, .int .i64 r6.1.toInt)] [.var [.whole T_api_SfNode 1, .int .i64 0], .arr T_api_SfNode ([] : List V) false])
        else
          bif (decide (0 ≤ (g_Nodes.length : Int))) && ((decide ((g_Nodes.length : Int) ≤ (g_Nodes.length : Int))) && (Nat.ble ((((g_Nodes.length : Int) : Int).toNat) * 8) maxBytes)) then
            (C F_starfree_reached [.agg [.list T_api_SfNode g_Nodes, .int .i64 g_Root]] []).bind fun r7 =>
              s_starfree_Cut_5L C (r7.1.toList.length : Int) 0 g_Nodes (List.replicate (((g_Nodes.length : Int) : Int).toNat) (V.int .i64 0)) r7.1.toList ([] : List V)
                (fun (t_34 : Int) (t_35 : Bool) (numbers_36 : List V) (cut_0s_37 : List V) =>
                  K .ret (mk [(2, .ptr 0 0 0), (3, .int .i64 0)] [.var [.whole T_api_SfNode 1, .int .i64 (IntKind.wrap .i64 ((cut_0s_37.length : Int) - 1))], .arr T_api_SfNode cut_0s_37 false]))
          else none := by
  refine Eq.trans (execL_app (P := Try.prog) (A := ann) (C := C) (f := 14) (n := 74) (m := 0) (codesAt Try.prog 14 [[0], [1, 0, 0], [1, 0, 1, 0], [1, 0, 1, 1], [1, 1, 0], [1, 1, 1, 0], [1, 1, 1, 1, 0, 0]]) (codesAt Try.prog 14 [[1, 1, 1, 1, 0, 1], [1, 1, 1, 1, 1, 0], [1, 1, 1, 1, 1, 1, 0], [1, 1, 1, 1, 1, 1, 1]]) (st := mk [(0, .agg [.list T_api_SfNode g_Nodes, .int .i64 g_Root])] []) (K := K)) (Eq.trans (s_starfree_Cut_1d_eq C g_Nodes g_Root (seqK Try.prog ann C 14 74 0 (codesAt Try.prog 14 [[1, 1, 1, 1, 0, 1], [1, 1, 1, 1, 1, 0], [1, 1, 1, 1, 1, 1, 0], [1, 1, 1, 1, 1, 1, 1]]) K)) ?_)
  · exact Eq.trans (by kernel_rfl) (Eq.trans (congrArg (fun HOLE : Int → (List V) → Option β => ((C F_starfree_Validate [.agg [.list T_api_SfNode g_Nodes, .int .i64 g_Root], .int .i64 6] []).bind fun r6 =>
        bif (r6.1.toInt : Int) != 0 then
          (fun (t30 : Int) => K .ret (mk [(2, .ptr 0 0 0), (3, .int .i64 t30)] [.var [.whole T_api_SfNode 1, .int .i64 0], .arr T_api_SfNode ([] : List V) false])) r6.1.toInt
        else
          bif (decide (0 ≤ (g_Nodes.length : Int))) && ((decide ((g_Nodes.length : Int) ≤ (g_Nodes.length : Int))) && (Nat.ble ((((g_Nodes.length : Int) : Int).toNat) * 8) maxBytes)) then
            (C F_starfree_reached [.agg [.list T_api_SfNode g_Nodes, .int .i64 g_Root]] []).bind fun r7 =>
              HOLE (r7.1.toList.length : Int) r7.1.toList
          else none)) (funext fun (t221 : Int) => funext fun (t21s1 : List V) => s_starfree_Cut_8c_eq C t221 0 g_Nodes g_Root 0 0 (List.replicate (((g_Nodes.length : Int) : Int).toNat) (V.int .i64 0)) t21s1 ([] : List V) ([] : List V) K)) ((by kernel_rfl)))


theorem f_starfree_Cut_all (C : CallF) (g_Nodes : List V) (g_Root : Int) {β : Type} (K : Out → St → Option β) : execK Try.prog ann C 14 (ntmpsOf Try.prog 14) ([] : List V).length (bodyOf Try.prog 14) (enter [.agg [.list T_api_SfNode g_Nodes, .int .i64 g_Root]] []) K =
      (C F_starfree_Validate [.agg [.list T_api_SfNode g_Nodes, .int .i64 g_Root], .int .i64 6] []).bind fun r6 =>
        bif (r6.1.toInt : Int) != 0 then
          K .ret (mk [(2, .ptr 0 0 0), (3, .int .i64 r6.1.toInt)] [.var [.whole T_api_SfNode 1, .int .i64 0], .arr T_api_SfNode ([] : List V) false])
        else
          bif (decide (0 ≤ (g_Nodes.length : Int))) && ((decide ((g_Nodes.length : Int) ≤ (g_Nodes.length : Int))) && (Nat.ble ((((g_Nodes.length : Int) : Int).toNat) * 8) maxBytes)) then
            (C F_starfree_reached [.agg [.list T_api_SfNode g_Nodes, .int .i64 g_Root]] []).bind fun r7 =>
              s_starfree_Cut_5L C (r7.1.toList.length : Int) 0 g_Nodes (List.replicate (((g_Nodes.length : Int) : Int).toNat) (V.int .i64 0)) r7.1.toList ([] : List V)
                (fun (t_34 : Int) (t_35 : Bool) (numbers_36 : List V) (cut_0s_37 : List V) =>
                  K .ret (mk [(2, .ptr 0 0 0), (3, .int .i64 0)] [.var [.whole T_api_SfNode 1, .int .i64 (IntKind.wrap .i64 ((cut_0s_37.length : Int) - 1))], .arr T_api_SfNode cut_0s_37 false]))
          else none :=
  Eq.trans (execK_items (by kernel_rfl)) (s_starfree_Cut_9c_eq C g_Nodes g_Root K)

noncomputable def f_starfree_Cut (C : CallF) (g_Nodes : List V) (g_Root : Int) : Option (V × List V) :=
  (C F_starfree_Validate [.agg [.list T_api_SfNode g_Nodes, .int .i64 g_Root], .int .i64 6] []).bind fun r6 =>
    bif (r6.1.toInt : Int) != 0 then
      some (.tup [.agg [.own T_api_SfNode ([] : List V), .int .i64 0], .int .i64 r6.1.toInt], [])
    else
      bif (decide (0 ≤ (g_Nodes.length : Int))) && ((decide ((g_Nodes.length : Int) ≤ (g_Nodes.length : Int))) && (Nat.ble ((((g_Nodes.length : Int) : Int).toNat) * 8) maxBytes)) then
        (C F_starfree_reached [.agg [.list T_api_SfNode g_Nodes, .int .i64 g_Root]] []).bind fun r7 =>
          s_starfree_Cut_5L C (r7.1.toList.length : Int) 0 g_Nodes (List.replicate (((g_Nodes.length : Int) : Int).toNat) (V.int .i64 0)) r7.1.toList ([] : List V)
            (fun (t_34 : Int) (t_35 : Bool) (numbers_36 : List V) (cut_0s_37 : List V) =>
              some (.tup [.agg [.own T_api_SfNode cut_0s_37, .int .i64 (IntKind.wrap .i64 ((cut_0s_37.length : Int) - 1))], .int .i64 0], []))
      else none

theorem f_starfree_Cut_eq (C : CallF) (g_Nodes : List V) (g_Root : Int) : bodyK Try.prog ann C 14 [.agg [.list T_api_SfNode g_Nodes, .int .i64 g_Root]] [] = f_starfree_Cut C g_Nodes g_Root :=
  Eq.trans (bodyK_fin (by kernel_rfl)) (Eq.trans (f_starfree_Cut_all C g_Nodes g_Root (finK Try.prog ann C 14 [])) (by kernel_rfl))

theorem f_starfree_Cut_of {g_Nodes : List V} {g_Root : Int} {r : V × List V} (h : f_starfree_Cut CC g_Nodes g_Root = some r) : CC F_starfree_Cut [.agg [.list T_api_SfNode g_Nodes, .int .i64 g_Root]] [] = some r :=
  Call_of_body ((bodyK_eq ..).trans ((f_starfree_Cut_eq ..).trans h))

end Go.AM

set_option maxRecDepth 100000
namespace Go.AM
open Go.Proofs
/-! semigroup/semigroupref31.Same -/
noncomputable def s_semigroupref31_Same_1 (C : CallF) (a_Nodes : List V) (a_Root : Int) (b_Nodes : List V) (b_Root : Int) {β : Type} (k0 : Bool → Option β) : Option β :=
  bif ((a_Nodes.length : Int) : Int) != (b_Nodes.length : Int) then
    k0 true
  else
    k0 ((a_Root : Int) != b_Root)

theorem s_semigroupref31_Same_1_eq (C : CallF) (a_Nodes : List V) (a_Root : Int) (b_Nodes : List V) (b_Root : Int) {β : Type} (K : Out → St → Option β) :
    execL Try.prog ann C 15 38 0 (codesAt Try.prog 15 [[0], [1, 0, 0]]) (mk [(0, .agg [.list T_api_SfNode a_Nodes, .int .i64 a_Root]), (1, .agg [.list T_api_SfNode b_Nodes, .int .i64 b_Root])] []) K =
      s_semigroupref31_Same_1 C a_Nodes a_Root b_Nodes b_Root
        (fun (t190 : Bool) => K .norm (mk [(2, .ptr 0 0 0), (3, .ptr 1 0 0), (19, .bool t190)] [.var [.list T_api_SfNode a_Nodes, .int .i64 a_Root], .var [.list T_api_SfNode b_Nodes, .int .i64 b_Root]])) := by kernel_rfl

theorem s_semigroupref31_Same_2d_eq (C : CallF) (t19 : Bool) (as_0 : List V) (as_1 : Int) (bs_0 : List V) (bs_1 : Int) {β : Type} (K : Out → St → Option β) :
    execL Try.prog ann C 15 38 0 (codesAt Try.prog 15 [[1, 0, 1], [1, 1, 0, 0]]) (mk [(2, .ptr 0 0 0), (3, .ptr 1 0 0), (19, .bool t19)] [.var [.list T_api_SfNode as_0, .int .i64 as_1], .var [.list T_api_SfNode bs_0, .int .i64 bs_1]]) K =
      bif t19 then
        K .ret (mk [(4, .bool false)] [])
      else
        K .norm (mk [(2, .ptr 0 0 0), (3, .ptr 1 0 0), (22, .int .i64 (as_0.length : Int)), (23, .int .i64 0)] [.var [.list T_api_SfNode as_0, .int .i64 as_1], .var [.list T_api_SfNode bs_0, .int .i64 bs_1]]) := by kernel_rfl

theorem s_semigroupref31_Same_3d_eq (C : CallF) (t22 : Int) (t23 : Int) (as_0 : List V) (as_1 : Int) (bs_0 : List V) (bs_1 : Int) {β : Type} (K : Out → St → Option β) :
    execL Try.prog ann C 15 38 0 (codesAt Try.prog 15 [[1, 1, 0, 1, 0, 0, 0], [1, 1, 0, 1, 0, 0, 1, 0], [1, 1, 0, 1, 0, 0, 1, 1, 0], [1, 1, 0, 1, 0, 0, 1, 1, 1]]) (mk [(2, .ptr 0 0 0), (3, .ptr 1 0 0), (22, .int .i64 t22), (23, .int .i64 t23)] [.var [.list T_api_SfNode as_0, .int .i64 as_1], .var [.list T_api_SfNode bs_0, .int .i64 bs_1]]) K =
      bif decide ((t23 : Int) < t22) then
        (idx as_0 t23).bind fun x3 =>
          (idx bs_0 t23).bind fun x4 =>
            bif !(((((x3.cell 0).toInt) : Int) == ((x4.cell 0).toInt)) && (((((x3.cell 1).toInt) : Int) == ((x4.cell 1).toInt)) && (((((x3.cell 2).toInt) : Int) == ((x4.cell 2).toInt)) && (((((x3.cell 3).toInt) : Int) == ((x4.cell 3).toInt)) && true)))) then
              K .ret (mk [(4, .bool false)] [])
            else
              K .norm (mk [(2, .ptr 0 0 0), (3, .ptr 1 0 0), (22, .int .i64 t22), (23, .int .i64 (IntKind.wrap .i64 (t23 + 1)))] [.var [.list T_api_SfNode as_0, .int .i64 as_1], .var [.list T_api_SfNode bs_0, .int .i64 bs_1]])
      else
        K (.exit 0) (mk [(2, .ptr 0 0 0), (3, .ptr 1 0 0), (22, .int .i64 t22), (23, .int .i64 t23), (24, .bool (decide ((t23 : Int) < t22)))] [.var [.list T_api_SfNode as_0, .int .i64 as_1], .var [.list T_api_SfNode bs_0, .int .i64 bs_1]]) := by kernel_rfl

noncomputable def s_semigroupref31_Same_4L_step (C : CallF) (t22 : Int) (as_0 : List V) (bs_0 : List V) : (Int) → Option ((Int) ⊕ ((Bool) ⊕ (Int × Bool))) := fun t23 =>
  bif decide ((t23 : Int) < t22) then
    (idx as_0 t23).bind fun x3 =>
      (idx bs_0 t23).bind fun x4 =>
        bif !(((((x3.cell 0).toInt) : Int) == ((x4.cell 0).toInt)) && (((((x3.cell 1).toInt) : Int) == ((x4.cell 1).toInt)) && (((((x3.cell 2).toInt) : Int) == ((x4.cell 2).toInt)) && (((((x3.cell 3).toInt) : Int) == ((x4.cell 3).toInt)) && true)))) then
          some (.inr (.inl false))
        else
          some (.inl (IntKind.wrap .i64 (t23 + 1)))
  else
    some (.inr (.inr (t23, decide ((t23 : Int) < t22))))

noncomputable def s_semigroupref31_Same_4L (C : CallF) (t22 : Int) (t23 : Int) (as_0 : List V) (bs_0 : List V) {β : Type} (k0 : Bool → Option β) (k1 : Int → Bool → Option β) : Option β :=
  (Loop (s_semigroupref31_Same_4L_step C t22 as_0 bs_0) t23).bind fun
    | (.inl t40) => k0 t40
    | (.inr (t231, t241)) => k1 t231 t241

def s_semigroupref31_Same_4L_dec : Out → St → Option ((Int) ⊕ ((Bool) ⊕ (Int × Bool))) := fun o st => match o with
    | .norm => some (.inl (V.toInt (st.sl 23)))
    | .exit q => bif Nat.beq q 0 then some (.inr (.inr (V.toInt (st.sl 23), V.toBool (st.sl 24)))) else none
    | .ret => some (.inr (.inl (V.toBool (st.sl 4))))

def s_semigroupref31_Same_4L_hd (t22 : Int) (as_0 : List V) (as_1 : Int) (bs_0 : List V) (bs_1 : Int) : (Int) → St := fun t23 => mk [(2, .ptr 0 0 0), (3, .ptr 1 0 0), (22, .int .i64 t22), (23, .int .i64 t23)] [.var [.list T_api_SfNode as_0, .int .i64 as_1], .var [.list T_api_SfNode bs_0, .int .i64 bs_1]]

def s_semigroupref31_Same_4L_enc (t22 : Int) (as_0 : List V) (as_1 : Int) (bs_0 : List V) (bs_1 : Int) : ((Bool) ⊕ (Int × Bool)) → Out × St := fun
    | (.inl t40) => (.ret, mk [(4, .bool t40)] [])
    | (.inr (t231, t241)) => (.exit 0, mk [(2, .ptr 0 0 0), (3, .ptr 1 0 0), (22, .int .i64 t22), (23, .int .i64 t231), (24, .bool t241)] [.var [.list T_api_SfNode as_0, .int .i64 as_1], .var [.list T_api_SfNode bs_0, .int .i64 bs_1]])

theorem s_semigroupref31_Same_4L_eq (C : CallF) (t22 : Int) (t23 : Int) (as_0 : List V) (as_1 : Int) (bs_0 : List V) (bs_1 : Int) {β : Type} (K : Out → St → Option β) :
    execL Try.prog ann C 15 38 0 (codesAt Try.prog 15 [[1, 1, 0, 1, 0]]) (mk [(2, .ptr 0 0 0), (3, .ptr 1 0 0), (22, .int .i64 t22), (23, .int .i64 t23)] [.var [.list T_api_SfNode as_0, .int .i64 as_1], .var [.list T_api_SfNode bs_0, .int .i64 bs_1]]) K =
      s_semigroupref31_Same_4L C t22 t23 as_0 bs_0
        (fun (t40 : Bool) => K .ret (mk [(4, .bool t40)] []))
        (fun (t231 : Int) (t241 : Bool) => K (.exit 0) (mk [(2, .ptr 0 0 0), (3, .ptr 1 0 0), (22, .int .i64 t22), (23, .int .i64 t231), (24, .bool t241)] [.var [.list T_api_SfNode as_0, .int .i64 as_1], .var [.list T_api_SfNode bs_0, .int .i64 bs_1]])) := by
  have hitems : flatC (codeAt [1, 1, 0, 1, 0, 0] (bodyOf Try.prog 15)) = codesAt Try.prog 15 [[1, 1, 0, 1, 0, 0, 0], [1, 1, 0, 1, 0, 0, 1, 0], [1, 1, 0, 1, 0, 0, 1, 1, 0], [1, 1, 0, 1, 0, 0, 1, 1, 1]] := by kernel_rfl
  have hloop : [codeAt [1, 1, 0, 1, 0] (bodyOf Try.prog 15)] = [Code.loop (codeAt [1, 1, 0, 1, 0, 0] (bodyOf Try.prog 15))] := by kernel_rfl
  have h := loopK_eq (P := Try.prog) (A := ann) (C := C) (f := 15) (n := 38) (m := 0) (c := codeAt [1, 1, 0, 1, 0, 0] (bodyOf Try.prog 15)) (s_semigroupref31_Same_4L_hd t22 as_0 as_1 bs_0 bs_1) (s_semigroupref31_Same_4L_enc t22 as_0 as_1 bs_0 bs_1) s_semigroupref31_Same_4L_dec (s_semigroupref31_Same_4L_step C t22 as_0 bs_0)
    (by rintro t23; exact Eq.trans (execK_items hitems) (Eq.trans (s_semigroupref31_Same_3d_eq C t22 t23 as_0 as_1 bs_0 bs_1 s_semigroupref31_Same_4L_dec) (by kernel_rfl)))
    (by rintro t23; exact Eq.trans (execK_items hitems) (Eq.trans (s_semigroupref31_Same_3d_eq C t22 t23 as_0 as_1 bs_0 bs_1 (fun o st => some (o, st))) (Eq.trans (by kernel_rfl) (Eq.trans (s_semigroupref31_Same_3d_eq C t22 t23 as_0 as_1 bs_0 bs_1 (fun o st => (s_semigroupref31_Same_4L_dec o st).map (outS (s_semigroupref31_Same_4L_hd t22 as_0 as_1 bs_0 bs_1) (s_semigroupref31_Same_4L_enc t22 as_0 as_1 bs_0 bs_1)))).symm (execK_items hitems).symm))))
    (by intro r; rcases r with r | r <;> intro h <;> cases h) t23 K
  refine Eq.trans (congrArg (fun l => execL Try.prog ann C 15 38 0 l (mk [(2, .ptr 0 0 0), (3, .ptr 1 0 0), (22, .int .i64 t22), (23, .int .i64 t23)] [.var [.list T_api_SfNode as_0, .int .i64 as_1], .var [.list T_api_SfNode bs_0, .int .i64 bs_1]]) K) hloop) (Eq.trans h ?_)
  · refine congrArg _ (funext fun r => ?_)
    rcases r with r | r <;> rfl

theorem s_semigroupref31_Same_5b_eq (C : CallF) (t22 : Int) (t23 : Int) (as_0 : List V) (as_1 : Int) (bs_0 : List V) (bs_1 : Int) {β : Type} (K : Out → St → Option β) :
    execL Try.prog ann C 15 38 0 (codesAt Try.prog 15 [[1, 1, 0, 1]]) (mk [(2, .ptr 0 0 0), (3, .ptr 1 0 0), (22, .int .i64 t22), (23, .int .i64 t23)] [.var [.list T_api_SfNode as_0, .int .i64 as_1], .var [.list T_api_SfNode bs_0, .int .i64 bs_1]]) K =
      s_semigroupref31_Same_4L C t22 t23 as_0 bs_0
        (fun (t_5 : Bool) =>
          K .ret (mk [(4, .bool t_5)] []))
        (fun (t_6 : Int) (t_7 : Bool) =>
          K .norm (mk [] [])) := Eq.trans (execL_block (P := Try.prog) (A := ann) (C := C) (f := 15) (n := 38) (m := 0) (id := 0) (c := codeAt [1, 1, 0, 1] (bodyOf Try.prog 15)) (d := codeAt [1, 1, 0, 1, 0] (bodyOf Try.prog 15)) (l := codesAt Try.prog 15 [[1, 1, 0, 1, 0]]) (st := mk [(2, .ptr 0 0 0), (3, .ptr 1 0 0), (22, .int .i64 t22), (23, .int .i64 t23)] [.var [.list T_api_SfNode as_0, .int .i64 as_1], .var [.list T_api_SfNode bs_0, .int .i64 bs_1]]) (K := K) (by kernel_rfl) (by kernel_rfl)) (Eq.trans (s_semigroupref31_Same_4L_eq C t22 t23 as_0 as_1 bs_0 bs_1 (blockK ann 15 0 0 K)) (by kernel_rfl))

theorem s_semigroupref31_Same_6d_eq (C : CallF)  {β : Type} (K : Out → St → Option β) :
    execL Try.prog ann C 15 38 0 (codesAt Try.prog 15 [[1, 1, 1, 0], [1, 1, 1, 1]]) (mk [] []) K =
      K .ret (mk [(4, .bool true)] []) := by kernel_rfl

theorem s_semigroupref31_Same_7c_eq (C : CallF) (t22 : Int) (t23 : Int) (as_0 : List V) (as_1 : Int) (bs_0 : List V) (bs_1 : Int) {β : Type} (K : Out → St → Option β) :
    execL Try.prog ann C 15 38 0 (codesAt Try.prog 15 [[1, 1, 0, 1], [1, 1, 1, 0], [1, 1, 1, 1]]) (mk [(2, .ptr 0 0 0), (3, .ptr 1 0 0), (22, .int .i64 t22), (23, .int .i64 t23)] [.var [.list T_api_SfNode as_0, .int .i64 as_1], .var [.list T_api_SfNode bs_0, .int .i64 bs_1]]) K =
      s_semigroupref31_Same_4L C t22 t23 as_0 bs_0
        (fun (t_5 : Bool) =>
          K .ret (mk [(4, .bool t_5)] []))
        (fun (t_6 : Int) (t_7 : Bool) =>
          K .ret (mk [(4, .bool true)] [])) := by
  refine Eq.trans (execL_app (P := Try.prog) (A := ann) (C := C) (f := 15) (n := 38) (m := 0) (codesAt Try.prog 15 [[1, 1, 0, 1]]) (codesAt Try.prog 15 [[1, 1, 1, 0], [1, 1, 1, 1]]) (st := mk [(2, .ptr 0 0 0), (3, .ptr 1 0 0), (22, .int .i64 t22), (23, .int .i64 t23)] [.var [.list T_api_SfNode as_0, .int .i64 as_1], .var [.list T_api_SfNode bs_0, .int .i64 bs_1]]) (K := K)) (Eq.trans (s_semigroupref31_Same_5b_eq C t22 t23 as_0 as_1 bs_0 bs_1 (seqK Try.prog ann C 15 38 0 (codesAt Try.prog 15 [[1, 1, 1, 0], [1, 1, 1, 1]]) K)) ?_)
  · exact Eq.trans (by kernel_rfl) (Eq.trans (congrArg (fun HOLE : Option β => (s_semigroupref31_Same_4L C t22 t23 as_0 bs_0
        (fun (t_5 : Bool) =>
          (fun (t40 : Bool) => K .ret (mk [(4, .bool t40)] [])) t_5)
        (fun (t_6 : Int) (t_7 : Bool) =>
          HOLE))) (s_semigroupref31_Same_6d_eq C K)) ((by kernel_rfl)))


theorem s_semigroupref31_Same_8c_eq (C : CallF) (t19 : Bool) (as_0 : List V) (as_1 : Int) (bs_0 : List V) (bs_1 : Int) {β : Type} (K : Out → St → Option β) :
    execL Try.prog ann C 15 38 0 (codesAt Try.prog 15 [[1, 0, 1], [1, 1, 0, 0], [1, 1, 0, 1], [1, 1, 1, 0], [1, 1, 1, 1]]) (mk [(2, .ptr 0 0 0), (3, .ptr 1 0 0), (19, .bool t19)] [.var [.list T_api_SfNode as_0, .int .i64 as_1], .var [.list T_api_SfNode bs_0, .int .i64 bs_1]]) K =
      bif t19 then
        K .ret (mk [(4, .bool false)] [])
      else
        s_semigroupref31_Same_4L C (as_0.length : Int) 0 as_0 bs_0
          (fun (t_5 : Bool) =>
            K .ret (mk [(4, .bool t_5)] []))
          (fun (t_6 : Int) (t_7 : Bool) =>
            K .ret (mk [(4, .bool true)] [])) := by
  refine Eq.trans (execL_app (P := Try.prog) (A := ann) (C := C) (f := 15) (n := 38) (m := 0) (codesAt Try.prog 15 [[1, 0, 1], [1, 1, 0, 0]]) (codesAt Try.prog 15 [[1, 1, 0, 1], [1, 1, 1, 0], [1, 1, 1, 1]]) (st := mk [(2, .ptr 0 0 0), (3, .ptr 1 0 0), (19, .bool t19)] [.var [.list T_api_SfNode as_0, .int .i64 as_1], .var [.list T_api_SfNode bs_0, .int .i64 bs_1]]) (K := K)) (Eq.trans (s_semigroupref31_Same_2d_eq C t19 as_0 as_1 bs_0 bs_1 (seqK Try.prog ann C 15 38 0 (codesAt Try.prog 15 [[1, 1, 0, 1], [1, 1, 1, 0], [1, 1, 1, 1]]) K)) ?_)
  · exact Eq.trans (by kernel_rfl) (Eq.trans (congrArg (fun HOLE : Option β => (bif t19 then
        (fun (t40 : Bool) => K .ret (mk [(4, .bool t40)] [])) false
      else
        HOLE)) (s_semigroupref31_Same_7c_eq C (as_0.length : Int) 0 as_0 as_1 bs_0 bs_1 K)) ((by kernel_rfl)))


theorem s_semigroupref31_Same_9c_eq (C : CallF) (a_Nodes : List V) (a_Root : Int) (b_Nodes : List V) (b_Root : Int) {β : Type} (K : Out → St → Option β) :
    execL Try.prog ann C 15 38 0 (codesAt Try.prog 15 [[0], [1, 0, 0], [1, 0, 1], [1, 1, 0, 0], [1, 1, 0, 1], [1, 1, 1, 0], [1, 1, 1, 1]]) (mk [(0, .agg [.list T_api_SfNode a_Nodes, .int .i64 a_Root]), (1, .agg [.list T_api_SfNode b_Nodes, .int .i64 b_Root])] []) K =
      s_semigroupref31_Same_1 C a_Nodes a_Root b_Nodes b_Root
        (fun (t_8 : Bool) =>
          bif t_8 then
            K .ret (mk [(4, .bool false)] [])
          else
            s_semigroupref31_Same_4L C (a_Nodes.length : Int) 0 a_Nodes b_Nodes
              (fun (t_5 : Bool) =>
                K .ret (mk [(4, .bool t_5)] []))
              (fun (t_6 : Int) (t_7 : Bool) =>
                K .ret (mk [(4, .bool true)] []))) := by
  refine Eq.trans (execL_app (P := Try.prog) (A := ann) (C := C) (f := 15) (n := 38) (m := 0) (codesAt Try.prog 15 [[0], [1, 0, 0]]) (codesAt Try.prog 15 [[1, 0, 1], [1, 1, 0, 0], [1, 1, 0, 1], [1, 1, 1, 0], [1, 1, 1, 1]]) (st := mk [(0, .agg [.list T_api_SfNode a_Nodes, .int .i64 a_Root]), (1, .agg [.list T_api_SfNode b_Nodes, .int .i64 b_Root])] []) (K := K)) (Eq.trans (s_semigroupref31_Same_1_eq C a_Nodes a_Root b_Nodes b_Root (seqK Try.prog ann C 15 38 0 (codesAt Try.prog 15 [[1, 0, 1], [1, 1, 0, 0], [1, 1, 0, 1], [1, 1, 1, 0], [1, 1, 1, 1]]) K)) ?_)
  · exact Eq.trans (by kernel_rfl) (Eq.trans (congrArg (fun HOLE : Bool → Option β => s_semigroupref31_Same_1 C a_Nodes a_Root b_Nodes b_Root HOLE) (funext fun (t190 : Bool) => s_semigroupref31_Same_8c_eq C t190 a_Nodes a_Root b_Nodes b_Root K)) ((by kernel_rfl)))


theorem f_semigroupref31_Same_all (C : CallF) (a_Nodes : List V) (a_Root : Int) (b_Nodes : List V) (b_Root : Int) {β : Type} (K : Out → St → Option β) : execK Try.prog ann C 15 (ntmpsOf Try.prog 15) ([] : List V).length (bodyOf Try.prog 15) (enter [.agg [.list T_api_SfNode a_Nodes, .int .i64 a_Root], .agg [.list T_api_SfNode b_Nodes, .int .i64 b_Root]] []) K =
      s_semigroupref31_Same_1 C a_Nodes a_Root b_Nodes b_Root
        (fun (t_8 : Bool) =>
          bif t_8 then
            K .ret (mk [(4, .bool false)] [])
          else
            s_semigroupref31_Same_4L C (a_Nodes.length : Int) 0 a_Nodes b_Nodes
              (fun (t_5 : Bool) =>
                K .ret (mk [(4, .bool t_5)] []))
              (fun (t_6 : Int) (t_7 : Bool) =>
                K .ret (mk [(4, .bool true)] []))) :=
  Eq.trans (execK_items (by kernel_rfl)) (s_semigroupref31_Same_9c_eq C a_Nodes a_Root b_Nodes b_Root K)

noncomputable def f_semigroupref31_Same (C : CallF) (a_Nodes : List V) (a_Root : Int) (b_Nodes : List V) (b_Root : Int) : Option (V × List V) :=
  s_semigroupref31_Same_1 C a_Nodes a_Root b_Nodes b_Root
    (fun (t_8 : Bool) =>
      bif t_8 then
        some (.bool false, [])
      else
        s_semigroupref31_Same_4L C (a_Nodes.length : Int) 0 a_Nodes b_Nodes
          (fun (t_5 : Bool) =>
            some (.bool t_5, []))
          (fun (t_6 : Int) (t_7 : Bool) =>
            some (.bool true, [])))

theorem f_semigroupref31_Same_eq (C : CallF) (a_Nodes : List V) (a_Root : Int) (b_Nodes : List V) (b_Root : Int) : bodyK Try.prog ann C 15 [.agg [.list T_api_SfNode a_Nodes, .int .i64 a_Root], .agg [.list T_api_SfNode b_Nodes, .int .i64 b_Root]] [] = f_semigroupref31_Same C a_Nodes a_Root b_Nodes b_Root :=
  Eq.trans (bodyK_fin (by kernel_rfl)) (Eq.trans (f_semigroupref31_Same_all C a_Nodes a_Root b_Nodes b_Root (finK Try.prog ann C 15 [])) (by kernel_rfl))

theorem f_semigroupref31_Same_of {a_Nodes : List V} {a_Root : Int} {b_Nodes : List V} {b_Root : Int} {r : V × List V} (h : f_semigroupref31_Same CC a_Nodes a_Root b_Nodes b_Root = some r) : CC F_semigroupref31_Same [.agg [.list T_api_SfNode a_Nodes, .int .i64 a_Root], .agg [.list T_api_SfNode b_Nodes, .int .i64 b_Root]] [] = some r :=
  Call_of_body ((bodyK_eq ..).trans ((f_semigroupref31_Same_eq ..).trans h))

end Go.AM

/-
  Cut: the nodes that are reached, with new numbers.
-/
namespace Go.AM
open Go.Proofs

/-- How many of the first i marks are set. -/
def num (m : List Bool) : Nat → Nat
  | 0 => 0
  | i + 1 => num m i + (if m[i]? = some true then 1 else 0)
def renum (m : List Bool) (x : Node) : Node :=
  ⟨x.op, x.letter, if 5 ≤ x.op then (num m x.a.toNat : Int) else x.a, if 5 ≤ x.op ∧ x.op ≠ 8 then (num m x.b.toNat : Int) else x.b⟩
def cutUpto (l : List Node) (m : List Bool) : Nat → List Node
  | 0 => []
  | i + 1 => cutUpto l m i ++ (if m[i]? = some true then (match l[i]? with | some x => [renum m x] | none => []) else [])

theorem num_mono (m : List Bool) {i j : Nat} (h : i ≤ j) : num m i ≤ num m j := by
  induction h with
  | refl => exact Nat.le_refl _
  | step _ ih => rw [num]; omega
theorem num_lt (m : List Bool) {i j : Nat} (h : i < j) (hi : m[i]? = some true) : num m i < num m j := by
  have h1 := num_mono m (show i + 1 ≤ j from h)
  have : num m (i + 1) = num m i + 1 := by rw [num, if_pos hi]
  omega
theorem num_le (m : List Bool) (i : Nat) : num m i ≤ i := by
  induction i with
  | zero => exact Nat.le_refl _
  | succ i ih => unfold num; split <;> omega
theorem cutUpto_length {l : List Node} {m : List Bool} : ∀ {i : Nat}, i ≤ l.length → (cutUpto l m i).length = num m i
  | 0, _ => rfl
  | i + 1, h => by
    rw [cutUpto, num, List.length_append, cutUpto_length (by omega), List.getElem?_eq_getElem (show i < l.length by omega)]
    split <;> rfl
theorem cutUpto_get {l : List Node} {m : List Bool} {i : Nat} {x : Node} (hx : l[i]? = some x) (hi : m[i]? = some true) : ∀ {j : Nat}, i < j → j ≤ l.length → (cutUpto l m j)[num m i]? = some (renum m x)
  | 0, h, _ => by omega
  | j + 1, h, hj => by
    rw [cutUpto]
    by_cases hij : i = j
    · subst hij
      rw [if_pos hi, hx, List.getElem?_append_right (by rw [cutUpto_length (by omega)]; exact Nat.le_refl _), cutUpto_length (by omega)]
      simp
    · have := num_lt m (show i < j by omega) hi
      rw [List.getElem?_append_left (by rw [cutUpto_length (by omega)]; exact this)]
      exact cutUpto_get hx hi (by omega) (by omega)
/-- Every node of the cut list is one that was marked. -/
theorem cutUpto_inv {l : List Node} {m : List Bool} : ∀ {j k : Nat} {y : Node}, j ≤ l.length → (cutUpto l m j)[k]? = some y → ∃ i x, i < j ∧ m[i]? = some true ∧ l[i]? = some x ∧ k = num m i ∧ y = renum m x
  | 0, k, y, _, h => by simp [cutUpto] at h
  | j + 1, k, y, hj, h => by
    rw [cutUpto] at h
    by_cases hk : k < (cutUpto l m j).length
    · rw [List.getElem?_append_left hk] at h
      obtain ⟨i, x, h1, h2⟩ := cutUpto_inv (by omega) h
      exact ⟨i, x, by omega, h2⟩
    · rw [List.getElem?_append_right (by omega)] at h
      have hx : l[j]? = some l[j] := List.getElem?_eq_getElem (by omega)
      rw [hx] at h
      by_cases hm : m[j]? = some true
      · rw [if_pos hm] at h
        have h0 : k - (cutUpto l m j).length = 0 := by
          have := (List.getElem?_eq_some_iff.1 h).1
          simp at this
          omega
        rw [h0] at h
        simp at h
        exact ⟨j, l[j], by omega, hm, hx, by rw [cutUpto_length (by omega)] at hk h0; omega, h.symm⟩
      · rw [if_neg hm] at h
        simp at h

theorem cut_round {l : List Node} {letters : Int} (hl : Valid letters l) (hn : l.length ≤ 20000) {root : Nat} {m : List Bool} (hm1 : m.length = l.length) (hm2 : ∀ i, m[i]? = some true ↔ Reach l root i)
    {i : Nat} (hi : i < l.length) {N : List Nat} (hN : N.length = l.length) (hNj : ∀ j, j < i → m[j]? = some true → N[j]? = some (num m j)) :
    ∃ N' : List Nat, N'.length = l.length ∧ (∀ j, j < i + 1 → m[j]? = some true → N'[j]? = some (num m j)) ∧
      s_starfree_Cut_5L_step CC (l.length : Int) (nodesV l) (boolsV m) ((i : Int), natsV N, nodesV (cutUpto l m i)) = some (.inl (((i + 1 : Nat) : Int), natsV N', nodesV (cutUpto l m (i + 1)))) := by
  have him : i < m.length := by omega
  have hx : l[i]? = some l[i] := List.getElem?_eq_getElem hi
  have ok := nodeOk_iff.1 (hl.node hx)
  unfold s_starfree_Cut_5L_step s_starfree_Cut_2
  simp only [bif_and, bif_decide, bif_beq, bif_ble, List.length_map, List.length_cons, List.length_nil, Nat.zero_add]
  rw [if_pos (by omega), if_pos (by omega), if_pos (by omega), Int.toNat_natCast, boolsV_get him]
  simp only [Option.bind_some, V.toBool_bool, bif_not]
  have hw : IntKind.wrap .i64 ((i : Int) + 1) = ((i + 1 : Nat) : Int) := by rw [wrap64 (by omega) (by omega)]; rfl
  rw [hw]
  cases hmi : m[i] with
  | false =>
    have hmi' : m[i]? ≠ some true := by rw [List.getElem?_eq_getElem him, hmi]; simp
    refine ⟨N, hN, fun j hj hmj => hNj j (by have : j ≠ i := fun h => hmi' (h ▸ hmj); omega) hmj, ?_⟩
    rw [cutUpto, if_neg hmi', List.append_nil]
    rfl
  | true =>
    have hmi' : m[i]? = some true := by rw [List.getElem?_eq_getElem him, hmi]
    have hri := (hm2 i).1 hmi'
    simp only [cond_true]
    rw [idx_map (n := i) rfl hi]
    simp only [Option.bind_some, Node.v, V.cell_agg, V.nth_zero, V.nth_one, V.nth_two, V.nth_three, V.toInt_int, parts_spec]
    have hNi : (natsV N)[i]? = some (.int .i64 ((N[i]'(by omega) : Nat) : Int)) := natsV_get (by omega)
    have hcl : (cutUpto l m i).length = num m i := cutUpto_length (by omega)
    have hmb : ((cutUpto l m i).length + 1) * 32 ≤ maxBytes := by
      have := num_le m i
      unfold maxBytes
      rw [hcl]
      omega
    have fin : ∀ (a b : Int), (⟨l[i].op, l[i].letter, a, b⟩ : Node) = renum m l[i] →
        (some (Sum.inl (((i + 1 : Nat) : Int), (natsV N).set i (.int .i64 ((cutUpto l m i).length : Int)), nodesV (cutUpto l m i) ++ [V.agg [.int .i64 l[i].op, .int .i64 l[i].letter, .int .i64 a, .int .i64 b]])) : Option ((Int × List V × List V) ⊕ (Int × Bool × List V × List V))) =
          some (.inl (((i + 1 : Nat) : Int), natsV (N.set i (num m i)), nodesV (cutUpto l m (i + 1)))) := by
      intro a b hab
      rw [natsV_set, hcl, cutUpto, if_pos hmi', hx]
      simp only [List.map_append, List.map_cons, List.map_nil, ← hab]
      rfl
    refine ⟨N.set i (num m i), by simp [hN], fun j hj hmj => ?_, ?_⟩
    · by_cases hji : j = i
      · subst hji; exact List.getElem?_set_self (by omega)
      · rw [List.getElem?_set_ne (by omega)]; exact hNj j (by omega) hmj
    by_cases g5 : 5 ≤ l[i].op
    · have oa := ok.a g5
      have ra := (hm2 _).2 (.a hri hx g5)
      rw [if_pos (by rw [ge_iff_le, partsN_one ok.op]; exact g5), if_pos oa.1, if_pos (by omega), natsV_of (hNj _ (by omega) ra)]
      simp only [Option.bind_some, V.toInt_int]
      by_cases g8 : l[i].op = 8
      · rw [if_neg (by rw [partsN_two ok.op]; omega), if_pos (by omega), if_pos (by omega), hNi]
        simp only [Option.bind_some]
        rw [if_pos hmb]
        refine fin _ _ ?_
        unfold renum
        rw [if_pos g5, if_neg (by omega)]
      · have ob := ok.b g5 g8
        have rb := (hm2 _).2 (.b hri hx g5 g8)
        rw [if_pos (by rw [partsN_two ok.op]; exact ⟨g5, g8⟩), if_pos ob.1, if_pos (by omega), natsV_of (hNj _ (by omega) rb)]
        simp only [Option.bind_some, V.toInt_int]
        rw [if_pos (by omega), if_pos (by omega), hNi]
        simp only [Option.bind_some]
        rw [if_pos hmb]
        refine fin _ _ ?_
        unfold renum
        rw [if_pos g5, if_pos ⟨g5, g8⟩]
    · rw [if_neg (by rw [ge_iff_le, partsN_one ok.op]; exact g5), if_neg (by rw [partsN_two ok.op]; omega), if_pos (by omega), if_pos (by omega), hNi]
      simp only [Option.bind_some]
      rw [if_pos hmb]
      refine fin _ _ ?_
      unfold renum
      rw [if_neg g5, if_neg (by omega)]

theorem cut_spec (l : List Node) (root : Nat) (hv : validateN l root 6 = 0) :
    ∃ m : List Bool, m.length = l.length ∧ (∀ i, m[i]? = some true ↔ Reach l root i) ∧
      CC F_starfree_Cut [graphV l (root : Int)] [] = some (.tup [.agg [.own T_api_SfNode (nodesV (cutUpto l m l.length)), .int .i64 (num m root : Int)], .int .i64 0], []) := by
  obtain ⟨_, hl20, hval, hr0, hr1⟩ := validateN_zero.1 hv
  have hr : root < l.length := by omega
  obtain ⟨m, hm1, hm2, hm3⟩ := reached_spec hval hr hl20
  refine ⟨m, hm1, hm2, f_starfree_Cut_of ?_⟩
  unfold f_starfree_Cut s_starfree_Cut_5L
  simp only [validate_spec l root 6 (by omega), hv, Option.bind_some, V.toInt_int, bif_bne, bif_and, bif_decide, bif_ble, List.length_map, Int.toNat_natCast, hm3, V.toList_own, hm1]
  rw [if_pos trivial, if_pos (by omega), if_pos (by omega), if_pos (by unfold maxBytes; omega)]
  have key := Loop_inv (step := s_starfree_Cut_5L_step CC (l.length : Int) (nodesV l) (boolsV m))
    (fun s => ∃ (i : Nat) (N : List Nat), i ≤ l.length ∧ N.length = l.length ∧ (∀ j, j < i → m[j]? = some true → N[j]? = some (num m j)) ∧ s = ((i : Int), natsV N, nodesV (cutUpto l m i)))
    (fun s => ((l.length : Int) - s.1).toNat)
    (fun s => ∃ (j : Int) (b : Bool) (N : List V), s = (j, b, N, nodesV (cutUpto l m l.length))) (by
      rintro s ⟨i, N, h1, h2, h3, rfl⟩
      by_cases hi : i < l.length
      · left
        obtain ⟨N', a1, a2, a3⟩ := cut_round hval hl20 hm1 hm2 hi h2 h3
        exact ⟨_, a3, ⟨i + 1, N', by omega, a1, a2, rfl⟩, by simp; omega⟩
      · right
        have : i = l.length := by omega
        subst this
        unfold s_starfree_Cut_5L_step s_starfree_Cut_2
        simp only [bif_decide]
        rw [if_neg (by omega)]
        exact ⟨_, rfl, _, _, _, rfl⟩)
  have e0 : List.replicate l.length (V.int .i64 0) = natsV (List.replicate l.length 0) := by simp
  obtain ⟨s, hs, j, b, N, rfl⟩ := key ((0 : Int), natsV (List.replicate l.length 0), []) ⟨0, List.replicate l.length 0, by omega, by simp, fun j hj => by omega, rfl⟩
  rw [e0, hs]
  simp only [Option.bind_some, List.length_map]
  have e1 : (cutUpto l m l.length).length = num m root + 1 := by
    rw [cutUpto_length (Nat.le_refl _)]
    -- beyond the root nothing is marked
    have : ∀ k, root + 1 + k ≤ l.length → num m (root + 1 + k) = num m (root + 1) := by
      intro k
      induction k with
      | zero => intro _; rfl
      | succ k ih =>
        intro hk
        have hnot : ¬ m[root + 1 + k]? = some true := fun h => by
          have := ((hm2 _).1 h).le hval
          omega
        rw [show root + 1 + (k + 1) = (root + 1 + k) + 1 by omega, num, ih (by omega), if_neg hnot]
        rfl
    have h2 := this (l.length - (root + 1)) (by omega)
    rw [show root + 1 + (l.length - (root + 1)) = l.length by omega] at h2
    rw [h2, num, if_pos ((hm2 root).2 .root)]
  have e2 : ((num m root + 1 : Nat) : Int) - 1 = (num m root : Int) := by omega
  rw [e1, e2, wrap64 (by have := num_le m root; omega) (by have := num_le m root; omega)]
end Go.AM

set_option maxRecDepth 100000
namespace Go.AM
open Go.Proofs
/-! semigroup/semigrouplaw31.StarfreeCuts -/
noncomputable def s_semigrouplaw31_StarfreeCuts_1 (C : CallF) (l : List V) (root : Int) (w : List V) {β : Type} (k0 : Bool → Option β) : Option β :=
  (C F_semigroupmade_New [.list T_int l] []).bind fun r46 =>
    (C F_semigroupmade_Tape_Next [.ptr 0 0 0, .int .i64 3] [.agg [.list T_int ((r46.1.cell 0).toList), .int .i64 ((r46.1.cell 1).toInt)]]).bind fun r47 =>
      (C F_semigroupmade_Tape_Graph [.ptr 0 0 0, .int .i64 (IntKind.wrap .i64 (1 + r47.1.toInt)), .int .i64 14] [.agg [.list T_int (((V.nth r47.2 0).cell 0).toList), .int .i64 (((V.nth r47.2 0).cell 1).toInt)]]).bind fun r48 =>
        (C F_semigroupmade_Mod [.int .i64 root, .int .i64 (((r48.1.cell 0).toList).length : Int)] []).bind fun r49 =>
          (C F_semigroupmade_New [.list T_int w] []).bind fun r50 =>
            (C F_semigroupmade_Tape_Word [.ptr 0 0 0, .int .i64 (IntKind.wrap .i64 (1 + r47.1.toInt)), .int .i64 7] [.agg [.list T_int ((r50.1.cell 0).toList), .int .i64 ((r50.1.cell 1).toInt)]]).bind fun r51 =>
              (C F_starfree_Cut [.agg [.list T_api_SfNode ((r48.1.cell 0).toList), .int .i64 r49.1.toInt]] []).bind fun r52 =>
                (C F_starfree_Cut [.agg [.list T_api_SfNode (((r52.1.comp 0).cell 0).toList), .int .i64 (((r52.1.comp 0).cell 1).toInt)]] []).bind fun r53 =>
                  bif (((r52.1.comp 1).toInt) : Int) == 0 then
                    bif (((r53.1.comp 1).toInt) : Int) == 0 then
                      (C F_semigroupref31_Same [.agg [.list T_api_SfNode (((r52.1.comp 0).cell 0).toList), .int .i64 (((r52.1.comp 0).cell 1).toInt)], .agg [.list T_api_SfNode (((r53.1.comp 0).cell 0).toList), .int .i64 (((r53.1.comp 0).cell 1).toInt)]] []).bind fun r54 =>
                        bif r54.1.toBool then
                          (C F_starfree_Accepts [.agg [.list T_api_SfNode (((r52.1.comp 0).cell 0).toList), .int .i64 (((r52.1.comp 0).cell 1).toInt)], .str r51.1.toStr] []).bind fun r55 =>
                            (C F_starfree_Accepts [.agg [.list T_api_SfNode ((r48.1.cell 0).toList), .int .i64 r49.1.toInt], .str r51.1.toStr] []).bind fun r56 =>
                              bif r55.1.toBool == r56.1.toBool then
                                (C F_starfree_Depth [.agg [.list T_api_SfNode (((r52.1.comp 0).cell 0).toList), .int .i64 (((r52.1.comp 0).cell 1).toInt)]] []).bind fun r57 =>
                                  (C F_starfree_Depth [.agg [.list T_api_SfNode ((r48.1.cell 0).toList), .int .i64 r49.1.toInt]] []).bind fun r58 =>
                                    bif (r57.1.toInt : Int) == r58.1.toInt then
                                      (C F_semigrouplaw31_known [] []).bind fun r59 =>
                                        k0 r59.1.toBool
                                    else
                                      k0 false
                              else
                                k0 false
                        else
                          k0 false
                    else
                      k0 false
                  else
                    k0 false

theorem s_semigrouplaw31_StarfreeCuts_1_eq (C : CallF) (l : List V) (root : Int) (w : List V) {β : Type} (K : Out → St → Option β) :
    execL Try.prog ann C 4 73 0 (codesAt Try.prog 4 [[0], [1, 0], [1, 1, 0], [1, 1, 1, 0], [1, 1, 1, 1, 0], [1, 1, 1, 1, 1, 0], [1, 1, 1, 1, 1, 1, 0], [1, 1, 1, 1, 1, 1, 1, 0], [1, 1, 1, 1, 1, 1, 1, 1, 0], [1, 1, 1, 1, 1, 1, 1, 1, 1]]) (mk [(0, .list T_int l), (1, .int .i64 root), (2, .list T_int w)] []) K =
      s_semigrouplaw31_StarfreeCuts_1 C l root w
        (fun (t60 : Bool) => K .ret (mk [(6, .bool t60)] [])) := by kernel_rfl

theorem f_semigrouplaw31_StarfreeCuts_all (C : CallF) (l : List V) (root : Int) (w : List V) {β : Type} (K : Out → St → Option β) : execK Try.prog ann C 4 (ntmpsOf Try.prog 4) ([] : List V).length (bodyOf Try.prog 4) (enter [.list T_int l, .int .i64 root, .list T_int w] []) K =
      s_semigrouplaw31_StarfreeCuts_1 C l root w
        (fun (t_61 : Bool) =>
          K .ret (mk [(6, .bool t_61)] [])) :=
  Eq.trans (execK_items (by kernel_rfl)) (s_semigrouplaw31_StarfreeCuts_1_eq C l root w K)

noncomputable def f_semigrouplaw31_StarfreeCuts (C : CallF) (l : List V) (root : Int) (w : List V) : Option (V × List V) :=
  s_semigrouplaw31_StarfreeCuts_1 C l root w
    (fun (t_60 : Bool) =>
      some (.bool t_60, []))

theorem f_semigrouplaw31_StarfreeCuts_eq (C : CallF) (l : List V) (root : Int) (w : List V) : bodyK Try.prog ann C 4 [.list T_int l, .int .i64 root, .list T_int w] [] = f_semigrouplaw31_StarfreeCuts C l root w :=
  Eq.trans (bodyK_fin (by kernel_rfl)) (Eq.trans (f_semigrouplaw31_StarfreeCuts_all C l root w (finK Try.prog ann C 4 [])) (by kernel_rfl))

theorem f_semigrouplaw31_StarfreeCuts_of {l : List V} {root : Int} {w : List V} {r : V × List V} (h : f_semigrouplaw31_StarfreeCuts CC l root w = some r) : CC F_semigrouplaw31_StarfreeCuts [.list T_int l, .int .i64 root, .list T_int w] [] = some r :=
  Call_of_body ((bodyK_eq ..).trans ((f_semigrouplaw31_StarfreeCuts_eq ..).trans h))

end Go.AM

/-
  The law StarfreeCuts.
-/
namespace Go.AM
open Go.Proofs

section
variable {l : List Node} {root : Nat} {m : List Bool}

theorem renum_ok {letters : Int} (hl : Valid letters l) (hm2 : ∀ i, m[i]? = some true ↔ Reach l root i) {i : Nat} {x : Node} (hx : l[i]? = some x) (hi : m[i]? = some true) : NodeOk (renum m x) (num m i) letters := by
  have ok := nodeOk_iff.1 (hl.node hx)
  have hr := (hm2 i).1 hi
  refine ⟨ok.op, ok.letter, ok.noLetter, fun h => ?_, fun h h' => ?_, fun h => ?_, fun h => ?_⟩
  · have oa := ok.a h
    have := num_lt m (show x.a.toNat < i by omega) ((hm2 _).2 (.a hr hx h))
    simp only [renum] at h ⊢
    rw [if_pos h]
    omega
  · have ob := ok.b h h'
    have := num_lt m (show x.b.toNat < i by omega) ((hm2 _).2 (.b hr hx h h'))
    simp only [renum] at h h' ⊢
    rw [if_pos ⟨h, h'⟩]
    omega
  · simp only [renum] at h ⊢
    rw [if_neg (by omega)]
    exact ok.noA h
  · simp only [renum] at h ⊢
    rw [if_neg (by omega)]
    exact ok.noB h

theorem cut_valid {letters : Int} (hl : Valid letters l) (hm2 : ∀ i, m[i]? = some true ↔ Reach l root i) : Valid letters (cutUpto l m l.length) := by
  refine validFrom_iff.2 fun k y hy => ?_
  rw [Nat.zero_add]
  obtain ⟨i, x, _, h2, h3, rfl, rfl⟩ := cutUpto_inv (Nat.le_refl _) hy
  exact nodeOk_iff.2 (renum_ok hl hm2 h3 h2)

theorem cut_lang {letters : Int} (hl : Valid letters l) (hm1 : m.length = l.length) (hm2 : ∀ i, m[i]? = some true ↔ Reach l root i) : ∀ (i : Nat), m[i]? = some true → ∀ u, lang (cutUpto l m l.length) (num m i) u = lang l i u := by
  intro i
  induction i using Nat.strongRecOn with
  | ind i ih =>
    intro hi u
    have hil : i < l.length := by have := (List.getElem?_eq_some_iff.1 hi).1; omega
    have hx : l[i]? = some l[i] := List.getElem?_eq_getElem hil
    have ok := nodeOk_iff.1 (hl.node hx)
    have hr := (hm2 i).1 hi
    have hc := cutUpto_get hx hi hil (Nat.le_refl _)
    rw [lang_eq (cut_valid hl hm2) hc, lang_eq hl hx]
    have ea : 5 ≤ l[i].op → ∀ u, lang (cutUpto l m l.length) (renum m l[i]).a.toNat u = lang l l[i].a.toNat u := by
      intro h u
      have oa := ok.a h
      have : (renum m l[i]).a.toNat = num m l[i].a.toNat := by simp only [renum]; rw [if_pos h]; omega
      rw [this]
      exact ih _ (by omega) ((hm2 _).2 (.a hr hx h)) u
    have eb : 5 ≤ l[i].op → l[i].op ≠ 8 → ∀ u, lang (cutUpto l m l.length) (renum m l[i]).b.toNat u = lang l l[i].b.toNat u := by
      intro h h' u
      have ob := ok.b h h'
      have : (renum m l[i]).b.toNat = num m l[i].b.toNat := by simp only [renum]; rw [if_pos ⟨h, h'⟩]; omega
      rw [this]
      exact ih _ (by omega) ((hm2 _).2 (.b hr hx h h')) u
    have e1 : (renum m l[i]).op = l[i].op := rfl
    have e2 : isLetter (renum m l[i]) u = isLetter l[i] u := by cases u with | nil => rfl | cons c u => cases u <;> rfl
    rw [e1, e2]
    by_cases h5 : l[i].op = 5
    · simp [h5, ea (by omega), eb (by omega) (by omega)]
    by_cases h6 : l[i].op = 6
    · simp [h6, ea (by omega), eb (by omega) (by omega)]
    by_cases h7 : l[i].op = 7
    · simp [h7, ea (by omega), eb (by omega) (by omega)]
    by_cases h8 : l[i].op = 8
    · simp [h8, ea (by omega)]
    simp [h5, h6, h7, h8]

theorem cut_depth {letters : Int} (hl : Valid letters l) (hm1 : m.length = l.length) (hm2 : ∀ i, m[i]? = some true ↔ Reach l root i) : ∀ (i : Nat), m[i]? = some true → depth (cutUpto l m l.length) (num m i) = depth l i := by
  intro i
  induction i using Nat.strongRecOn with
  | ind i ih =>
    intro hi
    have hil : i < l.length := by have := (List.getElem?_eq_some_iff.1 hi).1; omega
    have hx : l[i]? = some l[i] := List.getElem?_eq_getElem hil
    have ok := nodeOk_iff.1 (hl.node hx)
    have hr := (hm2 i).1 hi
    have hc := cutUpto_get hx hi hil (Nat.le_refl _)
    rw [depth_eq (cut_valid hl hm2) hc, depth_eq hl hx]
    have ea : 5 ≤ l[i].op → depth (cutUpto l m l.length) (renum m l[i]).a.toNat = depth l l[i].a.toNat := by
      intro h
      have oa := ok.a h
      have : (renum m l[i]).a.toNat = num m l[i].a.toNat := by simp only [renum]; rw [if_pos h]; omega
      rw [this]
      exact ih _ (by omega) ((hm2 _).2 (.a hr hx h))
    have eb : 5 ≤ l[i].op → l[i].op ≠ 8 → depth (cutUpto l m l.length) (renum m l[i]).b.toNat = depth l l[i].b.toNat := by
      intro h h'
      have ob := ok.b h h'
      have : (renum m l[i]).b.toNat = num m l[i].b.toNat := by simp only [renum]; rw [if_pos ⟨h, h'⟩]; omega
      rw [this]
      exact ih _ (by omega) ((hm2 _).2 (.b hr hx h h'))
    have e1 : (renum m l[i]).op = l[i].op := rfl
    rw [e1]
    by_cases h5 : l[i].op = 5
    · simp [h5, ea (by omega), eb (by omega) (by omega)]
    by_cases h6 : l[i].op = 6
    · simp [h6, ea (by omega), eb (by omega) (by omega)]
    by_cases h7 : l[i].op = 7
    · simp [h7, ea (by omega), eb (by omega) (by omega)]
    by_cases h8 : l[i].op = 8
    · simp [h8, ea (by omega)]
    simp [h5, h6, h7, h8]

/-- In what is cut all is reached. -/
theorem cut_reach {letters : Int} (hl : Valid letters l) (hm1 : m.length = l.length) (hm2 : ∀ i, m[i]? = some true ↔ Reach l root i) {i : Nat} (h : Reach l root i) : Reach (cutUpto l m l.length) (num m root) (num m i) := by
  induction h with
  | root => exact .root
  | @a i x hr hx h5 ih =>
    have hi := (hm2 _).2 hr
    have hil : i < l.length := (List.getElem?_eq_some_iff.1 hx).1
    have hc := cutUpto_get hx hi hil (Nat.le_refl _)
    have := Reach.a ih hc h5
    have e : (renum m x).a.toNat = num m x.a.toNat := by simp only [renum]; rw [if_pos h5]; omega
    rwa [e] at this
  | @b i x hr hx h5 h8 ih =>
    have hi := (hm2 _).2 hr
    have hil : i < l.length := (List.getElem?_eq_some_iff.1 hx).1
    have hc := cutUpto_get hx hi hil (Nat.le_refl _)
    have := Reach.b ih hc h5 h8
    have e : (renum m x).b.toNat = num m x.b.toNat := by simp only [renum]; rw [if_pos ⟨h5, h8⟩]; omega
    rwa [e] at this

/-- Where all is reached the cut changes nothing. -/
theorem num_all (hall : ∀ i, i < m.length → m[i]? = some true) : ∀ (i : Nat), i ≤ m.length → num m i = i
  | 0, _ => rfl
  | i + 1, h => by rw [num, num_all hall i (by omega), if_pos (hall i (by omega))]
theorem cut_all {letters : Int} (hl : Valid letters l) (hm1 : m.length = l.length) (hall : ∀ i, i < l.length → m[i]? = some true) : cutUpto l m l.length = l := by
  have hn := num_all (m := m) (fun i h => hall i (by omega))
  apply List.ext_getElem?
  intro i
  by_cases hi : i < l.length
  · have hx : l[i]? = some l[i] := List.getElem?_eq_getElem hi
    have ok := nodeOk_iff.1 (hl.node hx)
    have := cutUpto_get hx (hall i hi) hi (Nat.le_refl _)
    rw [hn i (by omega)] at this
    rw [this, hx]
    have : renum m l[i] = l[i] := by
      have h1 : (if 5 ≤ l[i].op then (num m l[i].a.toNat : Int) else l[i].a) = l[i].a := by
        split
        · rename_i h; have := ok.a h; rw [hn _ (by omega)]; omega
        · rfl
      have h2 : (if 5 ≤ l[i].op ∧ l[i].op ≠ 8 then (num m l[i].b.toNat : Int) else l[i].b) = l[i].b := by
        split
        · rename_i h; have := ok.b h.1 h.2; rw [hn _ (by omega)]; omega
        · rfl
      unfold renum
      rw [h1, h2]
    rw [this]
  · have : (cutUpto l m l.length).length = l.length := by rw [cutUpto_length (Nat.le_refl _), hn _ (by omega)]
    rw [List.getElem?_eq_none (by omega), List.getElem?_eq_none (by omega)]
end

theorem same_spec (l : List Node) (r : Int) (hlen : l.length < 9223372036854775807) : CC F_semigroupref31_Same [graphV l r, graphV l r] [] = some (.bool true, []) := by
  refine f_semigroupref31_Same_of ?_
  unfold f_semigroupref31_Same s_semigroupref31_Same_1 s_semigroupref31_Same_4L
  have key := Loop_inv (step := s_semigroupref31_Same_4L_step CC ((nodesV l).length : Int) (nodesV l) (nodesV l))
    (fun s => ∃ i : Nat, i ≤ l.length ∧ s = (i : Int)) (fun s => ((l.length : Int) - s).toNat) (fun s => ∃ x, s = .inr x) (by
      rintro s ⟨i, h1, rfl⟩
      unfold s_semigroupref31_Same_4L_step
      simp only [bif_decide, List.length_map]
      by_cases hi : i < l.length
      · left
        rw [if_pos (by omega), idx_map (n := i) rfl hi]
        refine ⟨((i + 1 : Nat) : Int), ?_, ⟨i + 1, by omega, rfl⟩, by omega⟩
        simp (disch := omega) only [Option.bind_some, beq_self_eq_true, Bool.and_self, Bool.not_true, cond_false, wrap64]
        rfl
      · right
        rw [if_neg (by omega)]
        exact ⟨_, rfl, _, rfl⟩)
  obtain ⟨s, hs, x, rfl⟩ := key 0 ⟨0, Nat.zero_le _, rfl⟩
  simp only [bne_self_eq_false, cond_false, hs, Option.bind_some]

theorem starfreeCuts (l : List Int) (root : Int) (w : List Int) : CC F_semigrouplaw31_StarfreeCuts [.list T_int (vIs l), .int .i64 root, .list T_int (vIs w)] [] = some (.bool true, []) := by
  refine f_semigrouplaw31_StarfreeCuts_of ?_
  obtain ⟨k, a1, t1, k0, k1, _, c1⟩ := next_spec _ _ 3 (new_ok l) (by omega)
  have k2 := k1 (by omega)
  obtain ⟨ns, a2, t2, n0, n1, n2, c2⟩ := graph_spec _ _ (k + 1) 14 t1 (by omega) (by omega)
  obtain ⟨x, a5, t5, w1, w2, c5⟩ := word_spec _ _ (k + 1) 7 (new_ok w) (by omega) (by omega)
  have ek : IntKind.wrap .i64 (1 + k) = k + 1 := by rw [wrap64 (by omega) (by omega)]; omega
  have m1 := modI_nonneg root (ns.length : Int)
  have m2 := modI_lt root (n := (ns.length : Int)) (by omega)
  obtain ⟨r, hr⟩ : ∃ r : Nat, modI root (ns.length : Int) = r := ⟨(modI root (ns.length : Int)).toNat, by omega⟩
  have hr1 : r < ns.length := by omega
  have hval : Valid 6 ns := n0.mono (by omega)
  have hv : validateN ns r 6 = 0 := validateN_zero.2 ⟨by omega, by omega, hval, by omega, by omega⟩
  obtain ⟨m, hm1, hm2, hcut⟩ := cut_spec ns r hv
  -- the cut graph
  have hmr : m[r]? = some true := (hm2 r).2 .root
  have hcv : Valid 6 (cutUpto ns m ns.length) := cut_valid hval hm2
  have hcl : (cutUpto ns m ns.length).length = num m ns.length := cutUpto_length (Nat.le_refl _)
  have hlt : num m r < num m ns.length := num_lt m hr1 hmr
  have hle := num_le m ns.length
  have hv2 : validateN (cutUpto ns m ns.length) (num m r : Nat) 6 = 0 := validateN_zero.2 ⟨by omega, by omega, hcv, by omega, by omega⟩
  obtain ⟨m', hm1', hm2', hcut'⟩ := cut_spec (cutUpto ns m ns.length) (num m r) hv2
  have hall : ∀ i, i < (cutUpto ns m ns.length).length → m'[i]? = some true := by
    intro i hi
    obtain ⟨j, y, h1, h2, h3, h4, _⟩ := cutUpto_inv (Nat.le_refl _) (List.getElem?_eq_getElem hi)
    rw [h4]
    exact (hm2' _).2 (cut_reach hval hm1 hm2 ((hm2 j).1 h2))
  have hcc : cutUpto (cutUpto ns m ns.length) m' (cutUpto ns m ns.length).length = cutUpto ns m ns.length := cut_all hcv hm1' hall
  have hnr : num m' (num m r) = num m r := num_all (m := m') (fun i h => hall i (by omega)) _ (by omega)
  rw [hcc, hnr] at hcut'
  have hx := w1.valid (by omega) (by omega)
  have e1 : acceptsB (cutUpto ns m ns.length) (num m r : Nat) x = lang ns r x := by
    rw [accepts_eq hcv (by omega) (by omega) hx (by omega), cut_lang hval hm1 hm2 r hmr]
  have e2 : acceptsB ns r x = lang ns r x := accepts_eq hval (by omega) hr1 hx (by omega)
  have e3 : depth (cutUpto ns m ns.length) (num m r) = depth ns r := cut_depth hval hm1 hm2 r hmr
  have hL : ns.length < 9223372036854775807 := by omega
  have hL2 : (cutUpto ns m ns.length).length < 9223372036854775807 := by omega
  unfold f_semigrouplaw31_StarfreeCuts s_semigrouplaw31_StarfreeCuts_1
  unfold tapeV at c1 c2 c5
  simp only [new_spec, tapeV, Option.bind_some, V.cell_agg, V.nth_zero, V.nth_one, V.comp_tup, V.toList_list, V.toList_own, V.toInt_int, V.toStr_str, V.toBool_bool, c1, ek, c2, List.length_map, c5, mod_spec _ _ (show (ns.length : Int) < 9223372036854775808 by omega), hr,
    hcut, hcut', bif_beq, if_true, same_spec _ _ hL2, cond_true, accepts_spec _ _ _ hL, accepts_spec _ _ _ hL2, e1, e2, beq_self_eq_true, depth_spec _ _ hL, depth_spec _ _ hL2, hv, hv2, Int.toNat_natCast, e3, known_spec]
end Go.AM
