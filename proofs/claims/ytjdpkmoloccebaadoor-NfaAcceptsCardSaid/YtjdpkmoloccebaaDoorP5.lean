/-
  Functions of the program, lifted to plain data.
-/
import Derived.Test.YtjdpkmoloccebaaDoorP4
set_option linter.unusedVariables false
set_option linter.unusedSimpArgs false
set_option maxRecDepth 100000
namespace Go.AM
open Go.Proofs
noncomputable abbrev B_nfa_Accepts : Code := bodyOf Tryd.prog (ann.fid 22)
noncomputable def s_nfa_Accepts_1 (C : CallF) (w : List UInt8) (next' : List V) (t23 ns_0 ns_1 ns_2 ns_3 : Int) (ns_4 : List V) (set' t24 : Int) {β : Type} (kn : (Int × Int) → Option β) (kr : (Int × Int × Bool) → Option β) : Option β :=
  bif decide ((t24 : Int) < t23) then
   (bif decide (0 ≤ t24) then (w[(t24 : Int).toNat]?).map fun b => V.int .u8 b.toNat else none).bind fun x4 =>
   (idx next' (IntKind.wrap .u8 (x4.toInt - 97))).bind fun x5 =>
   (C F_relation_Image [.list T_uint64 x5.toList, .int .u64 set']).bind fun r6 =>
   kn ((V.nth r6 0).toInt, IntKind.wrap .i64 (t24 + 1))
  else
   kr (set', t24, decide ((t24 : Int) < t23))
noncomputable def s_nfa_Accepts_1L (C : CallF) (w : List UInt8) (next' : List V) (t23 ns_0 ns_1 ns_2 ns_3 : Int) (ns_4 : List V) : (Int × Int) → Option ((Int × Int) ⊕ (Int × Int × Bool)) := un fun set' t24 => s_nfa_Accepts_1 C w next' t23 ns_0 ns_1 ns_2 ns_3 ns_4 set' t24 (fun y => some (.inl y)) (fun r => some (.inr r))
def w_nfa_Accepts_1 (w : List UInt8) (next' : List V) (t23 ns_0 ns_1 ns_2 ns_3 : Int) (ns_4 : List V) (β : Type) (k : Nat → List V → Option β) : (Int × Int × Bool) → Option β := (un fun (v2 : Int) => un fun (v4 : Int) (v5 : Bool) => k 0 [.str w, .list T_l_uint64 next', .int .u64 v2, .int .i64 t23, .int .i64 v4, .bool v5, .int .i64 ns_0, .int .i64 ns_1, .int .u64 ns_2, .int .u64 ns_3, .list T_api_Edge ns_4])
noncomputable def l_nfa_Accepts_1 (C : CallF) (β : Type) (ds : List V) (k : Nat → List V → Option β) : Option β :=
  (Loop (s_nfa_Accepts_1L C ((V.nth ds 0).toStr) ((V.nth (ds.drop 1) 0).toList) ((V.nth (((ds.drop 1).drop 1).drop 1) 0).toInt) ((V.nth (ds.drop 5) 0).toInt) ((V.nth ((ds.drop 5).drop 1) 0).toInt) ((V.nth (((ds.drop 5).drop 1).drop 1) 0).toInt) ((V.nth ((((ds.drop 5).drop 1).drop 1).drop 1) 0).toInt) ((V.nth (((((ds.drop 5).drop 1).drop 1).drop 1).drop 1) 0).toList)) ((V.nth ((ds.drop 1).drop 1) 0).toInt, (V.nth ((((ds.drop 1).drop 1).drop 1).drop 1) 0).toInt)).bind (w_nfa_Accepts_1 ((V.nth ds 0).toStr) ((V.nth (ds.drop 1) 0).toList) ((V.nth (((ds.drop 1).drop 1).drop 1) 0).toInt) ((V.nth (ds.drop 5) 0).toInt) ((V.nth ((ds.drop 5).drop 1) 0).toInt) ((V.nth (((ds.drop 5).drop 1).drop 1) 0).toInt) ((V.nth ((((ds.drop 5).drop 1).drop 1).drop 1) 0).toInt) ((V.nth (((((ds.drop 5).drop 1).drop 1).drop 1).drop 1) 0).toList) β k)
noncomputable def LT_nfa_Accepts (C : CallF) : LTab := fun β n ds k =>
  bif Nat.beq n 81 then l_nfa_Accepts_1 C β ds k else
  none
theorem t_nfa_Accepts_1 (C : CallF) : Tells Tryd.prog ann C (LT_nfa_Accepts C) 22 (ntmpsOf Tryd.prog (ann.fid 22)) (ann.sin 22).blks.length (.loop (codeAt [1, 1, 1, 0, 1, 0, 0] B_nfa_Accepts)) :=
  tells_loop2 (I := (List UInt8) × (List V) × Int × Int × Int × Int × Int × (List V)) (X := Int × Int) (R := Int × Int × Bool) (S := (⟨[(1, .one (.str)), (2, .one (.ptrC 0 0 0)), (5, .one (.list T_l_uint64)), (6, .one (.int .u64)), (23, .one (.int .i64)), (24, .one (.int .i64))], [.var 25 [.one (.int .i64), .one (.int .i64), .one (.int .u64), .one (.int .u64), .one (.list T_api_Edge)]]⟩, [(.exit 0, ⟨[(1, .one (.str)), (2, .one (.ptrC 0 0 0)), (5, .one (.list T_l_uint64)), (6, .one (.int .u64)), (23, .one (.int .i64)), (24, .one (.int .i64)), (25, .one (.bool))], [.var 25 [.one (.int .i64), .one (.int .i64), .one (.int .u64), .one (.int .u64), .one (.list T_api_Edge)]]⟩)])) (by kernel_rfl) (ltok_of (bs := []) (by kernel_rfl) tells_nil)
    (un fun (w : List UInt8) => un fun (next' : List V) => un fun (t23 : Int) => un fun (ns_0 : Int) => un fun (ns_1 : Int) => un fun (ns_2 : Int) => un fun (ns_3 : Int) (ns_4 : List V) => (un fun (set' : Int) (t24 : Int) => [.str w, .list T_l_uint64 next', .int .u64 set', .int .i64 t23, .int .i64 t24, .int .i64 ns_0, .int .i64 ns_1, .int .u64 ns_2, .int .u64 ns_3, .list T_api_Edge ns_4] : (Int × Int) → List V)) (un fun (w : List UInt8) => un fun (next' : List V) => un fun (t23 : Int) => un fun (ns_0 : Int) => un fun (ns_1 : Int) => un fun (ns_2 : Int) => un fun (ns_3 : Int) (ns_4 : List V) => w_nfa_Accepts_1 w next' t23 ns_0 ns_1 ns_2 ns_3 ns_4)
    (fun ds => ((V.nth ds 0).toStr, (V.nth (ds.drop 1) 0).toList, (V.nth (((ds.drop 1).drop 1).drop 1) 0).toInt, (V.nth (ds.drop 5) 0).toInt, (V.nth ((ds.drop 5).drop 1) 0).toInt, (V.nth (((ds.drop 5).drop 1).drop 1) 0).toInt, (V.nth ((((ds.drop 5).drop 1).drop 1).drop 1) 0).toInt, (V.nth (((((ds.drop 5).drop 1).drop 1).drop 1).drop 1) 0).toList)) (fun ds => ((V.nth ((ds.drop 1).drop 1) 0).toInt, (V.nth ((((ds.drop 1).drop 1).drop 1).drop 1) 0).toInt)) (fun e => ((V.nth ((e.2.drop 1).drop 1) 0).toInt, (V.nth ((((e.2.drop 1).drop 1).drop 1).drop 1) 0).toInt, (V.nth (((((e.2.drop 1).drop 1).drop 1).drop 1).drop 1) 0).toBool))
    (un fun (w : List UInt8) => un fun (next' : List V) => un fun (t23 : Int) => un fun (ns_0 : Int) => un fun (ns_1 : Int) => un fun (ns_2 : Int) => un fun (ns_3 : Int) (ns_4 : List V) => (un fun (set' : Int) (t24 : Int) => fun β kn kr => s_nfa_Accepts_1 C w next' t23 ns_0 ns_1 ns_2 ns_3 ns_4 set' t24 kn kr : (Int × Int) → (β : Type) → ((Int × Int) → Option β) → ((Int × Int × Bool) → Option β) → Option β))
    (l_nfa_Accepts_1 C) (fun ds => by kernel_rfl) (fun i x => by kernel_rfl) (fun i r => by skip <;> kernel_rfl)
    (fun i x β k => by kernel_rfl) (fun β ds k => by kernel_rfl) (fun β ds k => by kernel_rfl) (fun i β k r => by skip <;> kernel_rfl)
noncomputable def f_nfa_Accepts (C : CallF) (n_0 n_1 n_2 n_3 : Int) (n_4 : List V) (w : List UInt8) : Option (List V) :=
  (C F_nfa_Validate [.int .i64 n_0, .int .i64 n_1, .int .u64 n_2, .int .u64 n_3, .list T_api_Edge n_4]).bind fun r1 =>
  bif (((V.nth r1 0).toInt) : Int) != 0 then
   some [.bool false]
  else
   (C F_word_Valid [.str w, .int .i64 n_0]).bind fun r2 =>
   bif !((V.nth r2 0).toBool) then
    some [.bool false]
   else
    (C F_nfa_successors [.int .i64 n_0, .int .i64 n_1, .int .u64 n_2, .int .u64 n_3, .list T_api_Edge n_4]).bind fun r3 =>
    (Loop (s_nfa_Accepts_1L C w ((V.nth r3 0).toList) (w.length : Int) n_0 n_1 n_2 n_3 n_4) (n_2, 0)).bind (un fun (set_7 : Int) => un fun (t_8 : Int) (t_9 : Bool) =>
      some [.bool (((IntKind.wrap .u64 ((BitVec.ofInt (IntKind.bits .u64) set_7 &&& BitVec.ofInt (IntKind.bits .u64) n_3).toNat)) : Int) != 0)])
theorem f_nfa_Accepts_eq (C : CallF) (n_0 n_1 n_2 n_3 : Int) (n_4 : List V) (w : List UInt8) : bodyT Tryd.prog ann C (LT_nfa_Accepts C) 22 [.int .i64 n_0, .int .i64 n_1, .int .u64 n_2, .int .u64 n_3, .list T_api_Edge n_4, .str w] = f_nfa_Accepts C n_0 n_1 n_2 n_3 n_4 w := by kernel_rfl
theorem f_nfa_Accepts_of {n_0 n_1 n_2 n_3 : Int} {n_4 : List V} {w : List UInt8} {r : Option (List V)} (h : f_nfa_Accepts CC n_0 n_1 n_2 n_3 n_4 w = r) : CC F_nfa_Accepts [.int .i64 n_0, .int .i64 n_1, .int .u64 n_2, .int .u64 n_3, .list T_api_Edge n_4, .str w] = r :=
  func_of (key := 22) (L := LT_nfa_Accepts CC) (bs := [.loop (codeAt [1, 1, 1, 0, 1, 0, 0] B_nfa_Accepts)]) (by kernel_rfl) (tells_cons (t_nfa_Accepts_1 CC) tells_nil) ((f_nfa_Accepts_eq CC n_0 n_1 n_2 n_3 n_4 w).trans h)
end Go.AM

set_option maxRecDepth 100000
namespace Go.AM
open Go.Proofs
noncomputable abbrev B_nfa_Runs : Code := bodyOf Tryd.prog (ann.fid 23)
noncomputable def s_nfa_Runs_1 (C : CallF) (w : List UInt8) (t31 ns_0 ns_1 ns_2 ns_3 : Int) (ns_4 t30s : List V) (t32 : Int) (countss : List V) {β : Type} (kn : (Int × (List V)) → Option β) (kr : (Int × Bool × (List V)) → Option β) : Option β :=
  bif decide ((t32 : Int) < t31) then
   bif (decide (0 ≤ t32)) && (decide (t32 < (t30s.length : Int))) then
    (t30s[(t32 : Int).toNat]?).bind fun x4 =>
    bif (decide (0 ≤ x4.toInt)) && (decide (x4.toInt < (countss.length : Int))) then
     (countss[(x4.toInt : Int).toNat]?).bind fun x5 =>
     kn (IntKind.wrap .i64 (t32 + 1), countss.set ((x4.toInt : Int).toNat) (.int .i64 1))
    else none
   else none
  else
   kr (t32, decide ((t32 : Int) < t31), countss)
noncomputable def s_nfa_Runs_1L (C : CallF) (w : List UInt8) (t31 ns_0 ns_1 ns_2 ns_3 : Int) (ns_4 t30s : List V) : (Int × (List V)) → Option ((Int × (List V)) ⊕ (Int × Bool × (List V))) := un fun t32 countss => s_nfa_Runs_1 C w t31 ns_0 ns_1 ns_2 ns_3 ns_4 t30s t32 countss (fun y => some (.inl y)) (fun r => some (.inr r))
def w_nfa_Runs_1 (w : List UInt8) (t31 ns_0 ns_1 ns_2 ns_3 : Int) (ns_4 t30s : List V) (β : Type) (k : Nat → List V → Option β) : (Int × Bool × (List V)) → Option β := (un fun (v2 : Int) => un fun (v3 : Bool) (v9 : List V) => k 0 [.str w, .int .i64 t31, .int .i64 v2, .bool v3, .int .i64 ns_0, .int .i64 ns_1, .int .u64 ns_2, .int .u64 ns_3, .list T_api_Edge ns_4, .list T_int v9, .list T_int t30s])
noncomputable def l_nfa_Runs_1 (C : CallF) (β : Type) (ds : List V) (k : Nat → List V → Option β) : Option β :=
  (Loop (s_nfa_Runs_1L C ((V.nth ds 0).toStr) ((V.nth (ds.drop 1) 0).toInt) ((V.nth (ds.drop 3) 0).toInt) ((V.nth ((ds.drop 3).drop 1) 0).toInt) ((V.nth (((ds.drop 3).drop 1).drop 1) 0).toInt) ((V.nth ((((ds.drop 3).drop 1).drop 1).drop 1) 0).toInt) ((V.nth (((((ds.drop 3).drop 1).drop 1).drop 1).drop 1) 0).toList) ((V.nth (((ds.drop 3).drop 5).drop 1) 0).toList)) ((V.nth ((ds.drop 1).drop 1) 0).toInt, (V.nth ((ds.drop 3).drop 5) 0).toList)).bind (w_nfa_Runs_1 ((V.nth ds 0).toStr) ((V.nth (ds.drop 1) 0).toInt) ((V.nth (ds.drop 3) 0).toInt) ((V.nth ((ds.drop 3).drop 1) 0).toInt) ((V.nth (((ds.drop 3).drop 1).drop 1) 0).toInt) ((V.nth ((((ds.drop 3).drop 1).drop 1).drop 1) 0).toInt) ((V.nth (((((ds.drop 3).drop 1).drop 1).drop 1).drop 1) 0).toList) ((V.nth (((ds.drop 3).drop 5).drop 1) 0).toList) β k)
noncomputable def s_nfa_Runs_2 (C : CallF) (w : List UInt8) (i t41 t42 : Int) (t49 : List V) (t50 ns_0 ns_1 ns_2 ns_3 : Int) (ns_4 countss : List V) (t51 : Int) (longers : List V) {β : Type} (kn : (Int × (List V)) → Option β) (kr : (Int × Bool × (List V)) → Option β) : Option β :=
  bif decide ((t51 : Int) < t50) then
   (idx t49 t51).bind fun x9 =>
   (bif decide (0 ≤ i) then (w[(i : Int).toNat]?).map fun b => V.int .u8 b.toNat else none).bind fun x10 =>
   bif (((x9.cell 1).toInt) : Int) == (IntKind.wrap .i64 (IntKind.wrap .u8 (x10.toInt - 97))) then
    bif (decide (0 ≤ ((x9.cell 2).toInt))) && (decide (((x9.cell 2).toInt) < (longers.length : Int))) then
     (longers[((x9.cell 2).toInt : Int).toNat]?).bind fun x11 =>
     bif (decide (0 ≤ ((x9.cell 0).toInt))) && (decide (((x9.cell 0).toInt) < (countss.length : Int))) then
      (countss[((x9.cell 0).toInt : Int).toNat]?).bind fun x12 =>
      bif (decide (0 ≤ ((x9.cell 2).toInt))) && (decide (((x9.cell 2).toInt) < (longers.length : Int))) then
       (longers[((x9.cell 2).toInt : Int).toNat]?).bind fun x13 =>
       kn (IntKind.wrap .i64 (t51 + 1), longers.set (((x9.cell 2).toInt : Int).toNat) (.int .i64 (if (IntKind.wrap .i64 (x11.toInt + x12.toInt)) < 2147483648 then (IntKind.wrap .i64 (x11.toInt + x12.toInt)) else 2147483648)))
      else none
     else none
    else none
   else
    kn (IntKind.wrap .i64 (t51 + 1), longers)
  else
   kr (t51, decide ((t51 : Int) < t50), longers)
noncomputable def s_nfa_Runs_2L (C : CallF) (w : List UInt8) (i t41 t42 : Int) (t49 : List V) (t50 ns_0 ns_1 ns_2 ns_3 : Int) (ns_4 countss : List V) : (Int × (List V)) → Option ((Int × (List V)) ⊕ (Int × Bool × (List V))) := un fun t51 longers => s_nfa_Runs_2 C w i t41 t42 t49 t50 ns_0 ns_1 ns_2 ns_3 ns_4 countss t51 longers (fun y => some (.inl y)) (fun r => some (.inr r))
def w_nfa_Runs_2 (w : List UInt8) (i t41 t42 : Int) (t49 : List V) (t50 ns_0 ns_1 ns_2 ns_3 : Int) (ns_4 countss : List V) (β : Type) (k : Nat → List V → Option β) : (Int × Bool × (List V)) → Option β := (un fun (v6 : Int) => un fun (v7 : Bool) (v14 : List V) => k 0 [.str w, .int .i64 i, .int .i64 t41, .int .i64 t42, .list T_api_Edge t49, .int .i64 t50, .int .i64 v6, .bool v7, .int .i64 ns_0, .int .i64 ns_1, .int .u64 ns_2, .int .u64 ns_3, .list T_api_Edge ns_4, .list T_int countss, .list T_int v14])
noncomputable def l_nfa_Runs_2 (C : CallF) (β : Type) (ds : List V) (k : Nat → List V → Option β) : Option β :=
  (Loop (s_nfa_Runs_2L C ((V.nth ds 0).toStr) ((V.nth (ds.drop 1) 0).toInt) ((V.nth ((ds.drop 1).drop 1) 0).toInt) ((V.nth (((ds.drop 1).drop 1).drop 1) 0).toInt) ((V.nth ((((ds.drop 1).drop 1).drop 1).drop 1) 0).toList) ((V.nth (((((ds.drop 1).drop 1).drop 1).drop 1).drop 1) 0).toInt) ((V.nth (ds.drop 7) 0).toInt) ((V.nth ((ds.drop 7).drop 1) 0).toInt) ((V.nth (((ds.drop 7).drop 1).drop 1) 0).toInt) ((V.nth ((((ds.drop 7).drop 1).drop 1).drop 1) 0).toInt) ((V.nth (((((ds.drop 7).drop 1).drop 1).drop 1).drop 1) 0).toList) ((V.nth ((ds.drop 7).drop 5) 0).toList)) ((V.nth ((((((ds.drop 1).drop 1).drop 1).drop 1).drop 1).drop 1) 0).toInt, (V.nth (((ds.drop 7).drop 5).drop 1) 0).toList)).bind (w_nfa_Runs_2 ((V.nth ds 0).toStr) ((V.nth (ds.drop 1) 0).toInt) ((V.nth ((ds.drop 1).drop 1) 0).toInt) ((V.nth (((ds.drop 1).drop 1).drop 1) 0).toInt) ((V.nth ((((ds.drop 1).drop 1).drop 1).drop 1) 0).toList) ((V.nth (((((ds.drop 1).drop 1).drop 1).drop 1).drop 1) 0).toInt) ((V.nth (ds.drop 7) 0).toInt) ((V.nth ((ds.drop 7).drop 1) 0).toInt) ((V.nth (((ds.drop 7).drop 1).drop 1) 0).toInt) ((V.nth ((((ds.drop 7).drop 1).drop 1).drop 1) 0).toInt) ((V.nth (((((ds.drop 7).drop 1).drop 1).drop 1).drop 1) 0).toList) ((V.nth ((ds.drop 7).drop 5) 0).toList) β k)
noncomputable def s_nfa_Runs_3 (C : CallF) (w : List UInt8) (t41 ns_0 ns_1 ns_2 ns_3 : Int) (ns_4 : List V) (t42 : Int) (countss : List V) {β : Type} (kn : (Int × (List V)) → Option β) (kr : (Int × Bool × (List V)) → Option β) : Option β :=
  bif decide ((t42 : Int) < t41) then
   bif (decide (0 ≤ ns_1)) && ((decide (ns_1 ≤ ns_1)) && (Nat.ble (((ns_1 : Int).toNat) * 8) maxBytes)) then
    (Loop (s_nfa_Runs_2L C w t42 t41 t42 ns_4 (ns_4.length : Int) ns_0 ns_1 ns_2 ns_3 ns_4 countss) (0, List.replicate ((ns_1 : Int).toNat) (V.int .i64 0))).bind (un fun (t_14 : Int) => un fun (t_15 : Bool) (longers_16 : List V) =>
      kn (IntKind.wrap .i64 (t42 + 1), longers_16))
   else none
  else
   kr (t42, decide ((t42 : Int) < t41), countss)
noncomputable def s_nfa_Runs_3L (C : CallF) (w : List UInt8) (t41 ns_0 ns_1 ns_2 ns_3 : Int) (ns_4 : List V) : (Int × (List V)) → Option ((Int × (List V)) ⊕ (Int × Bool × (List V))) := un fun t42 countss => s_nfa_Runs_3 C w t41 ns_0 ns_1 ns_2 ns_3 ns_4 t42 countss (fun y => some (.inl y)) (fun r => some (.inr r))
def w_nfa_Runs_3 (w : List UInt8) (t41 ns_0 ns_1 ns_2 ns_3 : Int) (ns_4 : List V) (β : Type) (k : Nat → List V → Option β) : (Int × Bool × (List V)) → Option β := (un fun (v2 : Int) => un fun (v3 : Bool) (v9 : List V) => k 0 [.str w, .int .i64 t41, .int .i64 v2, .bool v3, .int .i64 ns_0, .int .i64 ns_1, .int .u64 ns_2, .int .u64 ns_3, .list T_api_Edge ns_4, .list T_int v9])
noncomputable def l_nfa_Runs_3 (C : CallF) (β : Type) (ds : List V) (k : Nat → List V → Option β) : Option β :=
  (Loop (s_nfa_Runs_3L C ((V.nth ds 0).toStr) ((V.nth (ds.drop 1) 0).toInt) ((V.nth (ds.drop 3) 0).toInt) ((V.nth ((ds.drop 3).drop 1) 0).toInt) ((V.nth (((ds.drop 3).drop 1).drop 1) 0).toInt) ((V.nth ((((ds.drop 3).drop 1).drop 1).drop 1) 0).toInt) ((V.nth (((((ds.drop 3).drop 1).drop 1).drop 1).drop 1) 0).toList)) ((V.nth ((ds.drop 1).drop 1) 0).toInt, (V.nth ((ds.drop 3).drop 5) 0).toList)).bind (w_nfa_Runs_3 ((V.nth ds 0).toStr) ((V.nth (ds.drop 1) 0).toInt) ((V.nth (ds.drop 3) 0).toInt) ((V.nth ((ds.drop 3).drop 1) 0).toInt) ((V.nth (((ds.drop 3).drop 1).drop 1) 0).toInt) ((V.nth ((((ds.drop 3).drop 1).drop 1).drop 1) 0).toInt) ((V.nth (((((ds.drop 3).drop 1).drop 1).drop 1).drop 1) 0).toList) β k)
noncomputable def s_nfa_Runs_4 (C : CallF) (t85 : Int) (countss t84s : List V) (runs t86 : Int) {β : Type} (kn : (Int × Int) → Option β) (kr : (Int × Int × Bool) → Option β) : Option β :=
  bif decide ((t86 : Int) < t85) then
   bif (decide (0 ≤ t86)) && (decide (t86 < (t84s.length : Int))) then
    (t84s[(t86 : Int).toNat]?).bind fun x21 =>
    bif (decide (0 ≤ x21.toInt)) && (decide (x21.toInt < (countss.length : Int))) then
     (countss[(x21.toInt : Int).toNat]?).bind fun x22 =>
     kn (if (IntKind.wrap .i64 (runs + x22.toInt)) < 2147483648 then (IntKind.wrap .i64 (runs + x22.toInt)) else 2147483648, IntKind.wrap .i64 (t86 + 1))
    else none
   else none
  else
   kr (runs, t86, decide ((t86 : Int) < t85))
noncomputable def s_nfa_Runs_4L (C : CallF) (t85 : Int) (countss t84s : List V) : (Int × Int) → Option ((Int × Int) ⊕ (Int × Int × Bool)) := un fun runs t86 => s_nfa_Runs_4 C t85 countss t84s runs t86 (fun y => some (.inl y)) (fun r => some (.inr r))
def w_nfa_Runs_4 (t85 : Int) (countss t84s : List V) (β : Type) (k : Nat → List V → Option β) : (Int × Int × Bool) → Option β := (un fun (v0 : Int) => un fun (v2 : Int) (v3 : Bool) => k 0 [.int .i64 v0, .int .i64 t85, .int .i64 v2, .bool v3, .list T_int countss, .list T_int t84s])
noncomputable def l_nfa_Runs_4 (C : CallF) (β : Type) (ds : List V) (k : Nat → List V → Option β) : Option β :=
  (Loop (s_nfa_Runs_4L C ((V.nth (ds.drop 1) 0).toInt) ((V.nth (ds.drop 3) 0).toList) ((V.nth ((ds.drop 3).drop 1) 0).toList)) ((V.nth ds 0).toInt, (V.nth ((ds.drop 1).drop 1) 0).toInt)).bind (w_nfa_Runs_4 ((V.nth (ds.drop 1) 0).toInt) ((V.nth (ds.drop 3) 0).toList) ((V.nth ((ds.drop 3).drop 1) 0).toList) β k)
noncomputable def LT_nfa_Runs (C : CallF) : LTab := fun β n ds k =>
  bif Nat.beq n 81 then l_nfa_Runs_1 C β ds k else
  bif Nat.beq n 225 then l_nfa_Runs_2 C β ds k else
  bif Nat.beq n 161 then l_nfa_Runs_3 C β ds k else
  bif Nat.beq n 369 then l_nfa_Runs_4 C β ds k else
  none
theorem t_nfa_Runs_1 (C : CallF) : Tells Tryd.prog ann C (LT_nfa_Runs C) 23 (ntmpsOf Tryd.prog (ann.fid 23)) (ann.sin 23).blks.length (.loop (codeAt [1, 1, 1, 0, 1, 0, 0] B_nfa_Runs)) :=
  tells_loop2 (I := (List UInt8) × Int × Int × Int × Int × Int × (List V) × (List V)) (X := Int × (List V)) (R := Int × Bool × (List V)) (S := (⟨[(1, .one (.str)), (2, .one (.ptrC 0 0 0)), (5, .one (.whole T_int 1)), (30, .one (.whole T_int 2)), (31, .one (.int .i64)), (32, .one (.int .i64))], [.var 25 [.one (.int .i64), .one (.int .i64), .one (.int .u64), .one (.int .u64), .one (.list T_api_Edge)], .arr T_int false, .arr T_int false]⟩, [(.exit 0, ⟨[(1, .one (.str)), (2, .one (.ptrC 0 0 0)), (5, .one (.whole T_int 1)), (30, .one (.whole T_int 2)), (31, .one (.int .i64)), (32, .one (.int .i64)), (33, .one (.bool))], [.var 25 [.one (.int .i64), .one (.int .i64), .one (.int .u64), .one (.int .u64), .one (.list T_api_Edge)], .arr T_int false, .arr T_int false]⟩)])) (by kernel_rfl) (ltok_of (bs := []) (by kernel_rfl) tells_nil)
    (un fun (w : List UInt8) => un fun (t31 : Int) => un fun (ns_0 : Int) => un fun (ns_1 : Int) => un fun (ns_2 : Int) => un fun (ns_3 : Int) => un fun (ns_4 : List V) (t30s : List V) => (un fun (t32 : Int) (countss : List V) => [.str w, .int .i64 t31, .int .i64 t32, .int .i64 ns_0, .int .i64 ns_1, .int .u64 ns_2, .int .u64 ns_3, .list T_api_Edge ns_4, .list T_int countss, .list T_int t30s] : (Int × (List V)) → List V)) (un fun (w : List UInt8) => un fun (t31 : Int) => un fun (ns_0 : Int) => un fun (ns_1 : Int) => un fun (ns_2 : Int) => un fun (ns_3 : Int) => un fun (ns_4 : List V) (t30s : List V) => w_nfa_Runs_1 w t31 ns_0 ns_1 ns_2 ns_3 ns_4 t30s)
    (fun ds => ((V.nth ds 0).toStr, (V.nth (ds.drop 1) 0).toInt, (V.nth (ds.drop 3) 0).toInt, (V.nth ((ds.drop 3).drop 1) 0).toInt, (V.nth (((ds.drop 3).drop 1).drop 1) 0).toInt, (V.nth ((((ds.drop 3).drop 1).drop 1).drop 1) 0).toInt, (V.nth (((((ds.drop 3).drop 1).drop 1).drop 1).drop 1) 0).toList, (V.nth (((ds.drop 3).drop 5).drop 1) 0).toList)) (fun ds => ((V.nth ((ds.drop 1).drop 1) 0).toInt, (V.nth ((ds.drop 3).drop 5) 0).toList)) (fun e => ((V.nth ((e.2.drop 1).drop 1) 0).toInt, (V.nth (((e.2.drop 1).drop 1).drop 1) 0).toBool, (V.nth ((e.2.drop 4).drop 5) 0).toList))
    (un fun (w : List UInt8) => un fun (t31 : Int) => un fun (ns_0 : Int) => un fun (ns_1 : Int) => un fun (ns_2 : Int) => un fun (ns_3 : Int) => un fun (ns_4 : List V) (t30s : List V) => (un fun (t32 : Int) (countss : List V) => fun β kn kr => s_nfa_Runs_1 C w t31 ns_0 ns_1 ns_2 ns_3 ns_4 t30s t32 countss kn kr : (Int × (List V)) → (β : Type) → ((Int × (List V)) → Option β) → ((Int × Bool × (List V)) → Option β) → Option β))
    (l_nfa_Runs_1 C) (fun ds => by kernel_rfl) (fun i x => by kernel_rfl) (fun i r => by skip <;> kernel_rfl)
    (fun i x β k => by kernel_rfl) (fun β ds k => by kernel_rfl) (fun β ds k => by kernel_rfl) (fun i β k r => by skip <;> kernel_rfl)
theorem t_nfa_Runs_2 (C : CallF) : Tells Tryd.prog ann C (LT_nfa_Runs C) 23 (ntmpsOf Tryd.prog (ann.fid 23)) (ann.sin 23).blks.length (.loop (codeAt [1, 1, 1, 1, 0, 1, 0, 0, 1, 1, 0, 0, 1, 1, 0, 1, 0, 0] B_nfa_Runs)) :=
  tells_loop2 (I := (List UInt8) × Int × Int × Int × (List V) × Int × Int × Int × Int × Int × (List V) × (List V)) (X := Int × (List V)) (R := Int × Bool × (List V)) (S := (⟨[(1, .one (.str)), (2, .one (.ptrC 0 0 0)), (5, .one (.whole T_int 1)), (8, .one (.int .i64)), (9, .one (.whole T_int 2)), (41, .one (.int .i64)), (42, .one (.int .i64)), (49, .one (.list T_api_Edge)), (50, .one (.int .i64)), (51, .one (.int .i64))], [.var 25 [.one (.int .i64), .one (.int .i64), .one (.int .u64), .one (.int .u64), .one (.list T_api_Edge)], .arr T_int false, .arr T_int false]⟩, [(.exit 4, ⟨[(1, .one (.str)), (2, .one (.ptrC 0 0 0)), (5, .one (.whole T_int 1)), (8, .one (.int .i64)), (9, .one (.whole T_int 2)), (41, .one (.int .i64)), (42, .one (.int .i64)), (49, .one (.list T_api_Edge)), (50, .one (.int .i64)), (51, .one (.int .i64)), (52, .one (.bool))], [.var 25 [.one (.int .i64), .one (.int .i64), .one (.int .u64), .one (.int .u64), .one (.list T_api_Edge)], .arr T_int false, .arr T_int false]⟩)])) (by kernel_rfl) (ltok_of (bs := []) (by kernel_rfl) tells_nil)
    (un fun (w : List UInt8) => un fun (i : Int) => un fun (t41 : Int) => un fun (t42 : Int) => un fun (t49 : List V) => un fun (t50 : Int) => un fun (ns_0 : Int) => un fun (ns_1 : Int) => un fun (ns_2 : Int) => un fun (ns_3 : Int) => un fun (ns_4 : List V) (countss : List V) => (un fun (t51 : Int) (longers : List V) => [.str w, .int .i64 i, .int .i64 t41, .int .i64 t42, .list T_api_Edge t49, .int .i64 t50, .int .i64 t51, .int .i64 ns_0, .int .i64 ns_1, .int .u64 ns_2, .int .u64 ns_3, .list T_api_Edge ns_4, .list T_int countss, .list T_int longers] : (Int × (List V)) → List V)) (un fun (w : List UInt8) => un fun (i : Int) => un fun (t41 : Int) => un fun (t42 : Int) => un fun (t49 : List V) => un fun (t50 : Int) => un fun (ns_0 : Int) => un fun (ns_1 : Int) => un fun (ns_2 : Int) => un fun (ns_3 : Int) => un fun (ns_4 : List V) (countss : List V) => w_nfa_Runs_2 w i t41 t42 t49 t50 ns_0 ns_1 ns_2 ns_3 ns_4 countss)
    (fun ds => ((V.nth ds 0).toStr, (V.nth (ds.drop 1) 0).toInt, (V.nth ((ds.drop 1).drop 1) 0).toInt, (V.nth (((ds.drop 1).drop 1).drop 1) 0).toInt, (V.nth ((((ds.drop 1).drop 1).drop 1).drop 1) 0).toList, (V.nth (((((ds.drop 1).drop 1).drop 1).drop 1).drop 1) 0).toInt, (V.nth (ds.drop 7) 0).toInt, (V.nth ((ds.drop 7).drop 1) 0).toInt, (V.nth (((ds.drop 7).drop 1).drop 1) 0).toInt, (V.nth ((((ds.drop 7).drop 1).drop 1).drop 1) 0).toInt, (V.nth (((((ds.drop 7).drop 1).drop 1).drop 1).drop 1) 0).toList, (V.nth ((ds.drop 7).drop 5) 0).toList)) (fun ds => ((V.nth ((((((ds.drop 1).drop 1).drop 1).drop 1).drop 1).drop 1) 0).toInt, (V.nth (((ds.drop 7).drop 5).drop 1) 0).toList)) (fun e => ((V.nth ((((((e.2.drop 1).drop 1).drop 1).drop 1).drop 1).drop 1) 0).toInt, (V.nth (((((((e.2.drop 1).drop 1).drop 1).drop 1).drop 1).drop 1).drop 1) 0).toBool, (V.nth (((e.2.drop 8).drop 5).drop 1) 0).toList))
    (un fun (w : List UInt8) => un fun (i : Int) => un fun (t41 : Int) => un fun (t42 : Int) => un fun (t49 : List V) => un fun (t50 : Int) => un fun (ns_0 : Int) => un fun (ns_1 : Int) => un fun (ns_2 : Int) => un fun (ns_3 : Int) => un fun (ns_4 : List V) (countss : List V) => (un fun (t51 : Int) (longers : List V) => fun β kn kr => s_nfa_Runs_2 C w i t41 t42 t49 t50 ns_0 ns_1 ns_2 ns_3 ns_4 countss t51 longers kn kr : (Int × (List V)) → (β : Type) → ((Int × (List V)) → Option β) → ((Int × Bool × (List V)) → Option β) → Option β))
    (l_nfa_Runs_2 C) (fun ds => by kernel_rfl) (fun i x => by kernel_rfl) (fun i r => by skip <;> kernel_rfl)
    (fun i x β k => by kernel_rfl) (fun β ds k => by kernel_rfl) (fun β ds k => by kernel_rfl) (fun i β k r => by skip <;> kernel_rfl)
theorem t_nfa_Runs_3 (C : CallF) : Tells Tryd.prog ann C (LT_nfa_Runs C) 23 (ntmpsOf Tryd.prog (ann.fid 23)) (ann.sin 23).blks.length (.loop (codeAt [1, 1, 1, 1, 0, 1, 0, 0] B_nfa_Runs)) :=
  tells_loop2 (I := (List UInt8) × Int × Int × Int × Int × Int × (List V)) (X := Int × (List V)) (R := Int × Bool × (List V)) (S := (⟨[(1, .one (.str)), (2, .one (.ptrC 0 0 0)), (5, .one (.whole T_int 1)), (41, .one (.int .i64)), (42, .one (.int .i64))], [.var 25 [.one (.int .i64), .one (.int .i64), .one (.int .u64), .one (.int .u64), .one (.list T_api_Edge)], .arr T_int false]⟩, [(.exit 2, ⟨[(1, .one (.str)), (2, .one (.ptrC 0 0 0)), (5, .one (.whole T_int 1)), (41, .one (.int .i64)), (42, .one (.int .i64)), (43, .one (.bool))], [.var 25 [.one (.int .i64), .one (.int .i64), .one (.int .u64), .one (.int .u64), .one (.list T_api_Edge)], .arr T_int false]⟩)])) (by kernel_rfl) (ltok_of (bs := [.loop (codeAt [1, 1, 1, 1, 0, 1, 0, 0, 1, 1, 0, 0, 1, 1, 0, 1, 0, 0] B_nfa_Runs)]) (by kernel_rfl) (tells_cons (t_nfa_Runs_2 C) tells_nil))
    (un fun (w : List UInt8) => un fun (t41 : Int) => un fun (ns_0 : Int) => un fun (ns_1 : Int) => un fun (ns_2 : Int) => un fun (ns_3 : Int) (ns_4 : List V) => (un fun (t42 : Int) (countss : List V) => [.str w, .int .i64 t41, .int .i64 t42, .int .i64 ns_0, .int .i64 ns_1, .int .u64 ns_2, .int .u64 ns_3, .list T_api_Edge ns_4, .list T_int countss] : (Int × (List V)) → List V)) (un fun (w : List UInt8) => un fun (t41 : Int) => un fun (ns_0 : Int) => un fun (ns_1 : Int) => un fun (ns_2 : Int) => un fun (ns_3 : Int) (ns_4 : List V) => w_nfa_Runs_3 w t41 ns_0 ns_1 ns_2 ns_3 ns_4)
    (fun ds => ((V.nth ds 0).toStr, (V.nth (ds.drop 1) 0).toInt, (V.nth (ds.drop 3) 0).toInt, (V.nth ((ds.drop 3).drop 1) 0).toInt, (V.nth (((ds.drop 3).drop 1).drop 1) 0).toInt, (V.nth ((((ds.drop 3).drop 1).drop 1).drop 1) 0).toInt, (V.nth (((((ds.drop 3).drop 1).drop 1).drop 1).drop 1) 0).toList)) (fun ds => ((V.nth ((ds.drop 1).drop 1) 0).toInt, (V.nth ((ds.drop 3).drop 5) 0).toList)) (fun e => ((V.nth ((e.2.drop 1).drop 1) 0).toInt, (V.nth (((e.2.drop 1).drop 1).drop 1) 0).toBool, (V.nth ((e.2.drop 4).drop 5) 0).toList))
    (un fun (w : List UInt8) => un fun (t41 : Int) => un fun (ns_0 : Int) => un fun (ns_1 : Int) => un fun (ns_2 : Int) => un fun (ns_3 : Int) (ns_4 : List V) => (un fun (t42 : Int) (countss : List V) => fun β kn kr => s_nfa_Runs_3 C w t41 ns_0 ns_1 ns_2 ns_3 ns_4 t42 countss kn kr : (Int × (List V)) → (β : Type) → ((Int × (List V)) → Option β) → ((Int × Bool × (List V)) → Option β) → Option β))
    (l_nfa_Runs_3 C) (fun ds => by kernel_rfl) (fun i x => by kernel_rfl) (fun i r => by skip <;> kernel_rfl)
    (fun i x β k => by kernel_rfl) (fun β ds k => by kernel_rfl) (fun β ds k => by kernel_rfl) (fun i β k r => by skip <;> kernel_rfl)
theorem t_nfa_Runs_4 (C : CallF) : Tells Tryd.prog ann C (LT_nfa_Runs C) 23 (ntmpsOf Tryd.prog (ann.fid 23)) (ann.sin 23).blks.length (.loop (codeAt [1, 1, 1, 1, 1, 1, 0, 1, 0, 0] B_nfa_Runs)) :=
  tells_loop2 (I := Int × (List V) × (List V)) (X := Int × Int) (R := Int × Int × Bool) (S := (⟨[(5, .one (.whole T_int 0)), (12, .one (.int .i64)), (84, .one (.whole T_int 1)), (85, .one (.int .i64)), (86, .one (.int .i64))], [.arr T_int false, .arr T_int false]⟩, [(.exit 6, ⟨[(5, .one (.whole T_int 0)), (12, .one (.int .i64)), (84, .one (.whole T_int 1)), (85, .one (.int .i64)), (86, .one (.int .i64)), (87, .one (.bool))], [.arr T_int false, .arr T_int false]⟩)])) (by kernel_rfl) (ltok_of (bs := []) (by kernel_rfl) tells_nil)
    (un fun (t85 : Int) => un fun (countss : List V) (t84s : List V) => (un fun (runs : Int) (t86 : Int) => [.int .i64 runs, .int .i64 t85, .int .i64 t86, .list T_int countss, .list T_int t84s] : (Int × Int) → List V)) (un fun (t85 : Int) => un fun (countss : List V) (t84s : List V) => w_nfa_Runs_4 t85 countss t84s)
    (fun ds => ((V.nth (ds.drop 1) 0).toInt, (V.nth (ds.drop 3) 0).toList, (V.nth ((ds.drop 3).drop 1) 0).toList)) (fun ds => ((V.nth ds 0).toInt, (V.nth ((ds.drop 1).drop 1) 0).toInt)) (fun e => ((V.nth e.2 0).toInt, (V.nth ((e.2.drop 1).drop 1) 0).toInt, (V.nth (((e.2.drop 1).drop 1).drop 1) 0).toBool))
    (un fun (t85 : Int) => un fun (countss : List V) (t84s : List V) => (un fun (runs : Int) (t86 : Int) => fun β kn kr => s_nfa_Runs_4 C t85 countss t84s runs t86 kn kr : (Int × Int) → (β : Type) → ((Int × Int) → Option β) → ((Int × Int × Bool) → Option β) → Option β))
    (l_nfa_Runs_4 C) (fun ds => by kernel_rfl) (fun i x => by kernel_rfl) (fun i r => by skip <;> kernel_rfl)
    (fun i x β k => by kernel_rfl) (fun β ds k => by kernel_rfl) (fun β ds k => by kernel_rfl) (fun i β k r => by skip <;> kernel_rfl)
noncomputable def f_nfa_Runs (C : CallF) (n_0 n_1 n_2 n_3 : Int) (n_4 : List V) (w : List UInt8) : Option (List V) :=
  (C F_nfa_Validate [.int .i64 n_0, .int .i64 n_1, .int .u64 n_2, .int .u64 n_3, .list T_api_Edge n_4]).bind fun r1 =>
  bif (((V.nth r1 0).toInt) : Int) != 0 then
   some [.int .i64 0]
  else
   (C F_word_Valid [.str w, .int .i64 n_0]).bind fun r2 =>
   bif !((V.nth r2 0).toBool) then
    some [.int .i64 0]
   else
    bif (decide (0 ≤ n_1)) && ((decide (n_1 ≤ n_1)) && (Nat.ble (((n_1 : Int).toNat) * 8) maxBytes)) then
     (C F_relation_Members [.int .u64 n_2]).bind fun r3 =>
     (Loop (s_nfa_Runs_1L C w (((V.nth r3 0).toList).length : Int) n_0 n_1 n_2 n_3 n_4 ((V.nth r3 0).toList)) (0, List.replicate ((n_1 : Int).toNat) (V.int .i64 0))).bind (un fun (t_6 : Int) => un fun (t_7 : Bool) (countss_8 : List V) =>
       (Loop (s_nfa_Runs_3L C w (w.length : Int) n_0 n_1 n_2 n_3 n_4) (0, countss_8)).bind (un fun (t_17 : Int) => un fun (t_18 : Bool) (countss_19 : List V) =>
         (C F_relation_Members [.int .u64 n_3]).bind fun r20 =>
         (Loop (s_nfa_Runs_4L C (((V.nth r20 0).toList).length : Int) countss_19 ((V.nth r20 0).toList)) (0, 0)).bind (un fun (runs_23 : Int) => un fun (t_24 : Int) (t_25 : Bool) =>
           some [.int .i64 runs_23])))
    else none
theorem f_nfa_Runs_eq (C : CallF) (n_0 n_1 n_2 n_3 : Int) (n_4 : List V) (w : List UInt8) : bodyT Tryd.prog ann C (LT_nfa_Runs C) 23 [.int .i64 n_0, .int .i64 n_1, .int .u64 n_2, .int .u64 n_3, .list T_api_Edge n_4, .str w] = f_nfa_Runs C n_0 n_1 n_2 n_3 n_4 w := by kernel_rfl
theorem f_nfa_Runs_of {n_0 n_1 n_2 n_3 : Int} {n_4 : List V} {w : List UInt8} {r : Option (List V)} (h : f_nfa_Runs CC n_0 n_1 n_2 n_3 n_4 w = r) : CC F_nfa_Runs [.int .i64 n_0, .int .i64 n_1, .int .u64 n_2, .int .u64 n_3, .list T_api_Edge n_4, .str w] = r :=
  func_of (key := 23) (L := LT_nfa_Runs CC) (bs := [.loop (codeAt [1, 1, 1, 0, 1, 0, 0] B_nfa_Runs), .loop (codeAt [1, 1, 1, 1, 0, 1, 0, 0] B_nfa_Runs), .loop (codeAt [1, 1, 1, 1, 1, 1, 0, 1, 0, 0] B_nfa_Runs)]) (by kernel_rfl) (tells_cons (t_nfa_Runs_1 CC) (tells_cons (t_nfa_Runs_3 CC) (tells_cons (t_nfa_Runs_4 CC) tells_nil))) ((f_nfa_Runs_eq CC n_0 n_1 n_2 n_3 n_4 w).trans h)
end Go.AM

set_option maxRecDepth 100000
namespace Go.AM
open Go.Proofs
noncomputable abbrev B_semigroupref06_Accepts : Code := bodyOf Tryd.prog (ann.fid 24)
noncomputable def s_semigroupref06_Accepts_1 (C : CallF) (w : List UInt8) (ns_0 ns_1 ns_2 ns_3 : Int) (ns_4 : List V) (set' i : Int) {β : Type} (kn : (Int × Int) → Option β) (kr : (Int × Int × Bool) → Option β) : Option β :=
  bif decide ((i : Int) < (w.length : Int)) then
   (bif decide (0 ≤ i) then (w[(i : Int).toNat]?).map fun b => V.int .u8 b.toNat else none).bind fun x2 =>
   (C F_semigroupref06_Step [.int .i64 ns_0, .int .i64 ns_1, .int .u64 ns_2, .int .u64 ns_3, .list T_api_Edge ns_4, .int .u64 set', .int .i64 (IntKind.wrap .i64 (IntKind.wrap .u8 (x2.toInt - 97)))]).bind fun r3 =>
   kn ((V.nth r3 0).toInt, IntKind.wrap .i64 (i + 1))
  else
   kr (set', i, decide ((i : Int) < (w.length : Int)))
noncomputable def s_semigroupref06_Accepts_1L (C : CallF) (w : List UInt8) (ns_0 ns_1 ns_2 ns_3 : Int) (ns_4 : List V) : (Int × Int) → Option ((Int × Int) ⊕ (Int × Int × Bool)) := un fun set' i => s_semigroupref06_Accepts_1 C w ns_0 ns_1 ns_2 ns_3 ns_4 set' i (fun y => some (.inl y)) (fun r => some (.inr r))
def w_semigroupref06_Accepts_1 (w : List UInt8) (ns_0 ns_1 ns_2 ns_3 : Int) (ns_4 : List V) (β : Type) (k : Nat → List V → Option β) : (Int × Int × Bool) → Option β := (un fun (v1 : Int) => un fun (v2 : Int) (v3 : Bool) => k 0 [.str w, .int .u64 v1, .int .i64 v2, .bool v3, .int .i64 ns_0, .int .i64 ns_1, .int .u64 ns_2, .int .u64 ns_3, .list T_api_Edge ns_4])
noncomputable def l_semigroupref06_Accepts_1 (C : CallF) (β : Type) (ds : List V) (k : Nat → List V → Option β) : Option β :=
  (Loop (s_semigroupref06_Accepts_1L C ((V.nth ds 0).toStr) ((V.nth (ds.drop 3) 0).toInt) ((V.nth ((ds.drop 3).drop 1) 0).toInt) ((V.nth (((ds.drop 3).drop 1).drop 1) 0).toInt) ((V.nth ((((ds.drop 3).drop 1).drop 1).drop 1) 0).toInt) ((V.nth (((((ds.drop 3).drop 1).drop 1).drop 1).drop 1) 0).toList)) ((V.nth (ds.drop 1) 0).toInt, (V.nth ((ds.drop 1).drop 1) 0).toInt)).bind (w_semigroupref06_Accepts_1 ((V.nth ds 0).toStr) ((V.nth (ds.drop 3) 0).toInt) ((V.nth ((ds.drop 3).drop 1) 0).toInt) ((V.nth (((ds.drop 3).drop 1).drop 1) 0).toInt) ((V.nth ((((ds.drop 3).drop 1).drop 1).drop 1) 0).toInt) ((V.nth (((((ds.drop 3).drop 1).drop 1).drop 1).drop 1) 0).toList) β k)
noncomputable def LT_semigroupref06_Accepts (C : CallF) : LTab := fun β n ds k =>
  bif Nat.beq n 81 then l_semigroupref06_Accepts_1 C β ds k else
  none
theorem t_semigroupref06_Accepts_1 (C : CallF) : Tells Tryd.prog ann C (LT_semigroupref06_Accepts C) 24 (ntmpsOf Tryd.prog (ann.fid 24)) (ann.sin 24).blks.length (.loop (codeAt [1, 1, 1, 0, 1, 0, 0] B_semigroupref06_Accepts)) :=
  tells_loop2 (I := (List UInt8) × Int × Int × Int × Int × (List V)) (X := Int × Int) (R := Int × Int × Bool) (S := (⟨[(1, .one (.str)), (2, .one (.ptrC 0 0 0)), (5, .one (.int .u64)), (6, .one (.int .i64))], [.var 25 [.one (.int .i64), .one (.int .i64), .one (.int .u64), .one (.int .u64), .one (.list T_api_Edge)]]⟩, [(.exit 0, ⟨[(1, .one (.str)), (2, .one (.ptrC 0 0 0)), (5, .one (.int .u64)), (6, .one (.int .i64)), (17, .one (.bool))], [.var 25 [.one (.int .i64), .one (.int .i64), .one (.int .u64), .one (.int .u64), .one (.list T_api_Edge)]]⟩)])) (by kernel_rfl) (ltok_of (bs := []) (by kernel_rfl) tells_nil)
    (un fun (w : List UInt8) => un fun (ns_0 : Int) => un fun (ns_1 : Int) => un fun (ns_2 : Int) => un fun (ns_3 : Int) (ns_4 : List V) => (un fun (set' : Int) (i : Int) => [.str w, .int .u64 set', .int .i64 i, .int .i64 ns_0, .int .i64 ns_1, .int .u64 ns_2, .int .u64 ns_3, .list T_api_Edge ns_4] : (Int × Int) → List V)) (un fun (w : List UInt8) => un fun (ns_0 : Int) => un fun (ns_1 : Int) => un fun (ns_2 : Int) => un fun (ns_3 : Int) (ns_4 : List V) => w_semigroupref06_Accepts_1 w ns_0 ns_1 ns_2 ns_3 ns_4)
    (fun ds => ((V.nth ds 0).toStr, (V.nth (ds.drop 3) 0).toInt, (V.nth ((ds.drop 3).drop 1) 0).toInt, (V.nth (((ds.drop 3).drop 1).drop 1) 0).toInt, (V.nth ((((ds.drop 3).drop 1).drop 1).drop 1) 0).toInt, (V.nth (((((ds.drop 3).drop 1).drop 1).drop 1).drop 1) 0).toList)) (fun ds => ((V.nth (ds.drop 1) 0).toInt, (V.nth ((ds.drop 1).drop 1) 0).toInt)) (fun e => ((V.nth (e.2.drop 1) 0).toInt, (V.nth ((e.2.drop 1).drop 1) 0).toInt, (V.nth (((e.2.drop 1).drop 1).drop 1) 0).toBool))
    (un fun (w : List UInt8) => un fun (ns_0 : Int) => un fun (ns_1 : Int) => un fun (ns_2 : Int) => un fun (ns_3 : Int) (ns_4 : List V) => (un fun (set' : Int) (i : Int) => fun β kn kr => s_semigroupref06_Accepts_1 C w ns_0 ns_1 ns_2 ns_3 ns_4 set' i kn kr : (Int × Int) → (β : Type) → ((Int × Int) → Option β) → ((Int × Int × Bool) → Option β) → Option β))
    (l_semigroupref06_Accepts_1 C) (fun ds => by kernel_rfl) (fun i x => by kernel_rfl) (fun i r => by skip <;> kernel_rfl)
    (fun i x β k => by kernel_rfl) (fun β ds k => by kernel_rfl) (fun β ds k => by kernel_rfl) (fun i β k r => by skip <;> kernel_rfl)
noncomputable def f_semigroupref06_Accepts (C : CallF) (n_0 n_1 n_2 n_3 : Int) (n_4 : List V) (w : List UInt8) : Option (List V) :=
  (C F_semigroupref01_Valid [.str w, .int .i64 n_0]).bind fun r1 =>
  bif !((V.nth r1 0).toBool) then
   some [.bool false]
  else
   (Loop (s_semigroupref06_Accepts_1L C w n_0 n_1 n_2 n_3 n_4) (n_2, 0)).bind (un fun (set_4 : Int) => un fun (i_5 : Int) (t_6 : Bool) =>
     some [.bool (((IntKind.wrap .u64 ((BitVec.ofInt (IntKind.bits .u64) set_4 &&& BitVec.ofInt (IntKind.bits .u64) n_3).toNat)) : Int) != 0)])
theorem f_semigroupref06_Accepts_eq (C : CallF) (n_0 n_1 n_2 n_3 : Int) (n_4 : List V) (w : List UInt8) : bodyT Tryd.prog ann C (LT_semigroupref06_Accepts C) 24 [.int .i64 n_0, .int .i64 n_1, .int .u64 n_2, .int .u64 n_3, .list T_api_Edge n_4, .str w] = f_semigroupref06_Accepts C n_0 n_1 n_2 n_3 n_4 w := by kernel_rfl
theorem f_semigroupref06_Accepts_of {n_0 n_1 n_2 n_3 : Int} {n_4 : List V} {w : List UInt8} {r : Option (List V)} (h : f_semigroupref06_Accepts CC n_0 n_1 n_2 n_3 n_4 w = r) : CC F_semigroupref06_Accepts [.int .i64 n_0, .int .i64 n_1, .int .u64 n_2, .int .u64 n_3, .list T_api_Edge n_4, .str w] = r :=
  func_of (key := 24) (L := LT_semigroupref06_Accepts CC) (bs := [.loop (codeAt [1, 1, 1, 0, 1, 0, 0] B_semigroupref06_Accepts)]) (by kernel_rfl) (tells_cons (t_semigroupref06_Accepts_1 CC) tells_nil) ((f_semigroupref06_Accepts_eq CC n_0 n_1 n_2 n_3 n_4 w).trans h)
end Go.AM

set_option maxRecDepth 100000
namespace Go.AM
open Go.Proofs
noncomputable abbrev B_semigroupref06_Runs : Code := bodyOf Tryd.prog (ann.fid 25)
noncomputable def s_semigroupref06_Runs_1 (C : CallF) (w : List UInt8) (t22 ns_0 ns_1 ns_2 ns_3 : Int) (ns_4 : List V) (t23 : Int) (have's : List V) {β : Type} (kn : (Int × (List V)) → Option β) (kr : (Int × Bool × (List V)) → Option β) : Option β :=
  bif decide ((t23 : Int) < t22) then
   (C F_semigroupref02_Has [.int .u64 ns_2, .int .i64 t23]).bind fun r2 =>
   bif (V.nth r2 0).toBool then
    bif (decide (0 ≤ t23)) && (decide (t23 < (have's.length : Int))) then
     (have's[(t23 : Int).toNat]?).bind fun x3 =>
     kn (IntKind.wrap .i64 (t23 + 1), have's.set ((t23 : Int).toNat) (.int .i64 1))
    else none
   else
    kn (IntKind.wrap .i64 (t23 + 1), have's)
  else
   kr (t23, decide ((t23 : Int) < t22), have's)
noncomputable def s_semigroupref06_Runs_1L (C : CallF) (w : List UInt8) (t22 ns_0 ns_1 ns_2 ns_3 : Int) (ns_4 : List V) : (Int × (List V)) → Option ((Int × (List V)) ⊕ (Int × Bool × (List V))) := un fun t23 have's => s_semigroupref06_Runs_1 C w t22 ns_0 ns_1 ns_2 ns_3 ns_4 t23 have's (fun y => some (.inl y)) (fun r => some (.inr r))
def w_semigroupref06_Runs_1 (w : List UInt8) (t22 ns_0 ns_1 ns_2 ns_3 : Int) (ns_4 : List V) (β : Type) (k : Nat → List V → Option β) : (Int × Bool × (List V)) → Option β := (un fun (v2 : Int) => un fun (v3 : Bool) (v9 : List V) => k 0 [.str w, .int .i64 t22, .int .i64 v2, .bool v3, .int .i64 ns_0, .int .i64 ns_1, .int .u64 ns_2, .int .u64 ns_3, .list T_api_Edge ns_4, .list T_int v9])
noncomputable def l_semigroupref06_Runs_1 (C : CallF) (β : Type) (ds : List V) (k : Nat → List V → Option β) : Option β :=
  (Loop (s_semigroupref06_Runs_1L C ((V.nth ds 0).toStr) ((V.nth (ds.drop 1) 0).toInt) ((V.nth (ds.drop 3) 0).toInt) ((V.nth ((ds.drop 3).drop 1) 0).toInt) ((V.nth (((ds.drop 3).drop 1).drop 1) 0).toInt) ((V.nth ((((ds.drop 3).drop 1).drop 1).drop 1) 0).toInt) ((V.nth (((((ds.drop 3).drop 1).drop 1).drop 1).drop 1) 0).toList)) ((V.nth ((ds.drop 1).drop 1) 0).toInt, (V.nth ((ds.drop 3).drop 5) 0).toList)).bind (w_semigroupref06_Runs_1 ((V.nth ds 0).toStr) ((V.nth (ds.drop 1) 0).toInt) ((V.nth (ds.drop 3) 0).toInt) ((V.nth ((ds.drop 3).drop 1) 0).toInt) ((V.nth (((ds.drop 3).drop 1).drop 1) 0).toInt) ((V.nth ((((ds.drop 3).drop 1).drop 1).drop 1) 0).toInt) ((V.nth (((((ds.drop 3).drop 1).drop 1).drop 1).drop 1) 0).toList) β k)
noncomputable def s_semigroupref06_Runs_2 (C : CallF) (w : List UInt8) (i : Int) (t44 : List V) (t45 ns_0 ns_1 ns_2 ns_3 : Int) (ns_4 have's : List V) (t46 : Int) (next's : List V) {β : Type} (kn : (Int × (List V)) → Option β) (kr : (Int × Bool × (List V)) → Option β) : Option β :=
  bif decide ((t46 : Int) < t45) then
   (idx t44 t46).bind fun x7 =>
   (bif decide (0 ≤ i) then (w[(i : Int).toNat]?).map fun b => V.int .u8 b.toNat else none).bind fun x8 =>
   bif (((x7.cell 1).toInt) : Int) == (IntKind.wrap .i64 (IntKind.wrap .u8 (x8.toInt - 97))) then
    bif (decide (0 ≤ ((x7.cell 2).toInt))) && (decide (((x7.cell 2).toInt) < (next's.length : Int))) then
     (next's[((x7.cell 2).toInt : Int).toNat]?).bind fun x9 =>
     bif (decide (0 ≤ ((x7.cell 0).toInt))) && (decide (((x7.cell 0).toInt) < (have's.length : Int))) then
      (have's[((x7.cell 0).toInt : Int).toNat]?).bind fun x10 =>
      bif (decide (0 ≤ ((x7.cell 2).toInt))) && (decide (((x7.cell 2).toInt) < (next's.length : Int))) then
       (next's[((x7.cell 2).toInt : Int).toNat]?).bind fun x11 =>
       kn (IntKind.wrap .i64 (t46 + 1), next's.set (((x7.cell 2).toInt : Int).toNat) (.int .i64 (if 2147483648 < (IntKind.wrap .i64 (x9.toInt + x10.toInt)) then 2147483648 else (IntKind.wrap .i64 (x9.toInt + x10.toInt)))))
      else none
     else none
    else none
   else
    kn (IntKind.wrap .i64 (t46 + 1), next's)
  else
   kr (t46, decide ((t46 : Int) < t45), next's)
noncomputable def s_semigroupref06_Runs_2L (C : CallF) (w : List UInt8) (i : Int) (t44 : List V) (t45 ns_0 ns_1 ns_2 ns_3 : Int) (ns_4 have's : List V) : (Int × (List V)) → Option ((Int × (List V)) ⊕ (Int × Bool × (List V))) := un fun t46 next's => s_semigroupref06_Runs_2 C w i t44 t45 ns_0 ns_1 ns_2 ns_3 ns_4 have's t46 next's (fun y => some (.inl y)) (fun r => some (.inr r))
def w_semigroupref06_Runs_2 (w : List UInt8) (i : Int) (t44 : List V) (t45 ns_0 ns_1 ns_2 ns_3 : Int) (ns_4 have's : List V) (β : Type) (k : Nat → List V → Option β) : (Int × Bool × (List V)) → Option β := (un fun (v4 : Int) => un fun (v5 : Bool) (v12 : List V) => k 0 [.str w, .int .i64 i, .list T_api_Edge t44, .int .i64 t45, .int .i64 v4, .bool v5, .int .i64 ns_0, .int .i64 ns_1, .int .u64 ns_2, .int .u64 ns_3, .list T_api_Edge ns_4, .list T_int have's, .list T_int v12])
noncomputable def l_semigroupref06_Runs_2 (C : CallF) (β : Type) (ds : List V) (k : Nat → List V → Option β) : Option β :=
  (Loop (s_semigroupref06_Runs_2L C ((V.nth ds 0).toStr) ((V.nth (ds.drop 1) 0).toInt) ((V.nth ((ds.drop 1).drop 1) 0).toList) ((V.nth (((ds.drop 1).drop 1).drop 1) 0).toInt) ((V.nth (ds.drop 5) 0).toInt) ((V.nth ((ds.drop 5).drop 1) 0).toInt) ((V.nth (((ds.drop 5).drop 1).drop 1) 0).toInt) ((V.nth ((((ds.drop 5).drop 1).drop 1).drop 1) 0).toInt) ((V.nth (((((ds.drop 5).drop 1).drop 1).drop 1).drop 1) 0).toList) ((V.nth ((ds.drop 5).drop 5) 0).toList)) ((V.nth ((((ds.drop 1).drop 1).drop 1).drop 1) 0).toInt, (V.nth (((ds.drop 5).drop 5).drop 1) 0).toList)).bind (w_semigroupref06_Runs_2 ((V.nth ds 0).toStr) ((V.nth (ds.drop 1) 0).toInt) ((V.nth ((ds.drop 1).drop 1) 0).toList) ((V.nth (((ds.drop 1).drop 1).drop 1) 0).toInt) ((V.nth (ds.drop 5) 0).toInt) ((V.nth ((ds.drop 5).drop 1) 0).toInt) ((V.nth (((ds.drop 5).drop 1).drop 1) 0).toInt) ((V.nth ((((ds.drop 5).drop 1).drop 1).drop 1) 0).toInt) ((V.nth (((((ds.drop 5).drop 1).drop 1).drop 1).drop 1) 0).toList) ((V.nth ((ds.drop 5).drop 5) 0).toList) β k)
noncomputable def s_semigroupref06_Runs_3 (C : CallF) (w : List UInt8) (ns_0 ns_1 ns_2 ns_3 : Int) (ns_4 : List V) (i : Int) (have's : List V) {β : Type} (kn : (Int × (List V)) → Option β) (kr : (Int × Bool × (List V)) → Option β) : Option β :=
  bif decide ((i : Int) < (w.length : Int)) then
   bif (decide (0 ≤ ns_1)) && ((decide (ns_1 ≤ ns_1)) && (Nat.ble (((ns_1 : Int).toNat) * 8) maxBytes)) then
    (Loop (s_semigroupref06_Runs_2L C w i ns_4 (ns_4.length : Int) ns_0 ns_1 ns_2 ns_3 ns_4 have's) (0, List.replicate ((ns_1 : Int).toNat) (V.int .i64 0))).bind (un fun (t_12 : Int) => un fun (t_13 : Bool) (next's_14 : List V) =>
      kn (IntKind.wrap .i64 (i + 1), next's_14))
   else none
  else
   kr (i, decide ((i : Int) < (w.length : Int)), have's)
noncomputable def s_semigroupref06_Runs_3L (C : CallF) (w : List UInt8) (ns_0 ns_1 ns_2 ns_3 : Int) (ns_4 : List V) : (Int × (List V)) → Option ((Int × (List V)) ⊕ (Int × Bool × (List V))) := un fun i have's => s_semigroupref06_Runs_3 C w ns_0 ns_1 ns_2 ns_3 ns_4 i have's (fun y => some (.inl y)) (fun r => some (.inr r))
def w_semigroupref06_Runs_3 (w : List UInt8) (ns_0 ns_1 ns_2 ns_3 : Int) (ns_4 : List V) (β : Type) (k : Nat → List V → Option β) : (Int × Bool × (List V)) → Option β := (un fun (v1 : Int) => un fun (v2 : Bool) (v8 : List V) => k 0 [.str w, .int .i64 v1, .bool v2, .int .i64 ns_0, .int .i64 ns_1, .int .u64 ns_2, .int .u64 ns_3, .list T_api_Edge ns_4, .list T_int v8])
noncomputable def l_semigroupref06_Runs_3 (C : CallF) (β : Type) (ds : List V) (k : Nat → List V → Option β) : Option β :=
  (Loop (s_semigroupref06_Runs_3L C ((V.nth ds 0).toStr) ((V.nth (ds.drop 2) 0).toInt) ((V.nth ((ds.drop 2).drop 1) 0).toInt) ((V.nth (((ds.drop 2).drop 1).drop 1) 0).toInt) ((V.nth ((((ds.drop 2).drop 1).drop 1).drop 1) 0).toInt) ((V.nth (((((ds.drop 2).drop 1).drop 1).drop 1).drop 1) 0).toList)) ((V.nth (ds.drop 1) 0).toInt, (V.nth ((ds.drop 2).drop 5) 0).toList)).bind (w_semigroupref06_Runs_3 ((V.nth ds 0).toStr) ((V.nth (ds.drop 2) 0).toInt) ((V.nth ((ds.drop 2).drop 1) 0).toInt) ((V.nth (((ds.drop 2).drop 1).drop 1) 0).toInt) ((V.nth ((((ds.drop 2).drop 1).drop 1).drop 1) 0).toInt) ((V.nth (((((ds.drop 2).drop 1).drop 1).drop 1).drop 1) 0).toList) β k)
noncomputable def s_semigroupref06_Runs_4 (C : CallF) (t77 ns_0 ns_1 ns_2 ns_3 : Int) (ns_4 have's : List V) (sum t78 : Int) {β : Type} (kn : (Int × Int) → Option β) (kr : (Int × Int × Bool) → Option β) : Option β :=
  bif decide ((t78 : Int) < t77) then
   (C F_semigroupref02_Has [.int .u64 ns_3, .int .i64 t78]).bind fun r18 =>
   bif (V.nth r18 0).toBool then
    bif (decide (0 ≤ t78)) && (decide (t78 < (have's.length : Int))) then
     (have's[(t78 : Int).toNat]?).bind fun x19 =>
     kn (if 2147483648 < (IntKind.wrap .i64 (sum + x19.toInt)) then 2147483648 else (IntKind.wrap .i64 (sum + x19.toInt)), IntKind.wrap .i64 (t78 + 1))
    else none
   else
    kn (sum, IntKind.wrap .i64 (t78 + 1))
  else
   kr (sum, t78, decide ((t78 : Int) < t77))
noncomputable def s_semigroupref06_Runs_4L (C : CallF) (t77 ns_0 ns_1 ns_2 ns_3 : Int) (ns_4 have's : List V) : (Int × Int) → Option ((Int × Int) ⊕ (Int × Int × Bool)) := un fun sum t78 => s_semigroupref06_Runs_4 C t77 ns_0 ns_1 ns_2 ns_3 ns_4 have's sum t78 (fun y => some (.inl y)) (fun r => some (.inr r))
def w_semigroupref06_Runs_4 (t77 ns_0 ns_1 ns_2 ns_3 : Int) (ns_4 have's : List V) (β : Type) (k : Nat → List V → Option β) : (Int × Int × Bool) → Option β := (un fun (v0 : Int) => un fun (v2 : Int) (v3 : Bool) => k 0 [.int .i64 v0, .int .i64 t77, .int .i64 v2, .bool v3, .int .i64 ns_0, .int .i64 ns_1, .int .u64 ns_2, .int .u64 ns_3, .list T_api_Edge ns_4, .list T_int have's])
noncomputable def l_semigroupref06_Runs_4 (C : CallF) (β : Type) (ds : List V) (k : Nat → List V → Option β) : Option β :=
  (Loop (s_semigroupref06_Runs_4L C ((V.nth (ds.drop 1) 0).toInt) ((V.nth (ds.drop 3) 0).toInt) ((V.nth ((ds.drop 3).drop 1) 0).toInt) ((V.nth (((ds.drop 3).drop 1).drop 1) 0).toInt) ((V.nth ((((ds.drop 3).drop 1).drop 1).drop 1) 0).toInt) ((V.nth (((((ds.drop 3).drop 1).drop 1).drop 1).drop 1) 0).toList) ((V.nth ((ds.drop 3).drop 5) 0).toList)) ((V.nth ds 0).toInt, (V.nth ((ds.drop 1).drop 1) 0).toInt)).bind (w_semigroupref06_Runs_4 ((V.nth (ds.drop 1) 0).toInt) ((V.nth (ds.drop 3) 0).toInt) ((V.nth ((ds.drop 3).drop 1) 0).toInt) ((V.nth (((ds.drop 3).drop 1).drop 1) 0).toInt) ((V.nth ((((ds.drop 3).drop 1).drop 1).drop 1) 0).toInt) ((V.nth (((((ds.drop 3).drop 1).drop 1).drop 1).drop 1) 0).toList) ((V.nth ((ds.drop 3).drop 5) 0).toList) β k)
noncomputable def LT_semigroupref06_Runs (C : CallF) : LTab := fun β n ds k =>
  bif Nat.beq n 81 then l_semigroupref06_Runs_1 C β ds k else
  bif Nat.beq n 241 then l_semigroupref06_Runs_2 C β ds k else
  bif Nat.beq n 177 then l_semigroupref06_Runs_3 C β ds k else
  bif Nat.beq n 369 then l_semigroupref06_Runs_4 C β ds k else
  none
theorem t_semigroupref06_Runs_1 (C : CallF) : Tells Tryd.prog ann C (LT_semigroupref06_Runs C) 25 (ntmpsOf Tryd.prog (ann.fid 25)) (ann.sin 25).blks.length (.loop (codeAt [1, 1, 1, 0, 1, 0, 0] B_semigroupref06_Runs)) :=
  tells_loop2 (I := (List UInt8) × Int × Int × Int × Int × Int × (List V)) (X := Int × (List V)) (R := Int × Bool × (List V)) (S := (⟨[(1, .one (.str)), (2, .one (.ptrC 0 0 0)), (5, .one (.whole T_int 1)), (22, .one (.int .i64)), (23, .one (.int .i64))], [.var 25 [.one (.int .i64), .one (.int .i64), .one (.int .u64), .one (.int .u64), .one (.list T_api_Edge)], .arr T_int false]⟩, [(.exit 0, ⟨[(1, .one (.str)), (2, .one (.ptrC 0 0 0)), (5, .one (.whole T_int 1)), (22, .one (.int .i64)), (23, .one (.int .i64)), (24, .one (.bool))], [.var 25 [.one (.int .i64), .one (.int .i64), .one (.int .u64), .one (.int .u64), .one (.list T_api_Edge)], .arr T_int false]⟩)])) (by kernel_rfl) (ltok_of (bs := []) (by kernel_rfl) tells_nil)
    (un fun (w : List UInt8) => un fun (t22 : Int) => un fun (ns_0 : Int) => un fun (ns_1 : Int) => un fun (ns_2 : Int) => un fun (ns_3 : Int) (ns_4 : List V) => (un fun (t23 : Int) (have's : List V) => [.str w, .int .i64 t22, .int .i64 t23, .int .i64 ns_0, .int .i64 ns_1, .int .u64 ns_2, .int .u64 ns_3, .list T_api_Edge ns_4, .list T_int have's] : (Int × (List V)) → List V)) (un fun (w : List UInt8) => un fun (t22 : Int) => un fun (ns_0 : Int) => un fun (ns_1 : Int) => un fun (ns_2 : Int) => un fun (ns_3 : Int) (ns_4 : List V) => w_semigroupref06_Runs_1 w t22 ns_0 ns_1 ns_2 ns_3 ns_4)
    (fun ds => ((V.nth ds 0).toStr, (V.nth (ds.drop 1) 0).toInt, (V.nth (ds.drop 3) 0).toInt, (V.nth ((ds.drop 3).drop 1) 0).toInt, (V.nth (((ds.drop 3).drop 1).drop 1) 0).toInt, (V.nth ((((ds.drop 3).drop 1).drop 1).drop 1) 0).toInt, (V.nth (((((ds.drop 3).drop 1).drop 1).drop 1).drop 1) 0).toList)) (fun ds => ((V.nth ((ds.drop 1).drop 1) 0).toInt, (V.nth ((ds.drop 3).drop 5) 0).toList)) (fun e => ((V.nth ((e.2.drop 1).drop 1) 0).toInt, (V.nth (((e.2.drop 1).drop 1).drop 1) 0).toBool, (V.nth ((e.2.drop 4).drop 5) 0).toList))
    (un fun (w : List UInt8) => un fun (t22 : Int) => un fun (ns_0 : Int) => un fun (ns_1 : Int) => un fun (ns_2 : Int) => un fun (ns_3 : Int) (ns_4 : List V) => (un fun (t23 : Int) (have's : List V) => fun β kn kr => s_semigroupref06_Runs_1 C w t22 ns_0 ns_1 ns_2 ns_3 ns_4 t23 have's kn kr : (Int × (List V)) → (β : Type) → ((Int × (List V)) → Option β) → ((Int × Bool × (List V)) → Option β) → Option β))
    (l_semigroupref06_Runs_1 C) (fun ds => by kernel_rfl) (fun i x => by kernel_rfl) (fun i r => by skip <;> kernel_rfl)
    (fun i x β k => by kernel_rfl) (fun β ds k => by kernel_rfl) (fun β ds k => by kernel_rfl) (fun i β k r => by skip <;> kernel_rfl)
theorem t_semigroupref06_Runs_2 (C : CallF) : Tells Tryd.prog ann C (LT_semigroupref06_Runs C) 25 (ntmpsOf Tryd.prog (ann.fid 25)) (ann.sin 25).blks.length (.loop (codeAt [1, 1, 1, 1, 0, 1, 0, 0, 1, 0, 0, 1, 0, 1, 0, 0] B_semigroupref06_Runs)) :=
  tells_loop2 (I := (List UInt8) × Int × (List V) × Int × Int × Int × Int × Int × (List V) × (List V)) (X := Int × (List V)) (R := Int × Bool × (List V)) (S := (⟨[(1, .one (.str)), (2, .one (.ptrC 0 0 0)), (5, .one (.whole T_int 1)), (7, .one (.int .i64)), (8, .one (.whole T_int 2)), (44, .one (.list T_api_Edge)), (45, .one (.int .i64)), (46, .one (.int .i64))], [.var 25 [.one (.int .i64), .one (.int .i64), .one (.int .u64), .one (.int .u64), .one (.list T_api_Edge)], .arr T_int false, .arr T_int false]⟩, [(.exit 4, ⟨[(1, .one (.str)), (2, .one (.ptrC 0 0 0)), (5, .one (.whole T_int 1)), (7, .one (.int .i64)), (8, .one (.whole T_int 2)), (44, .one (.list T_api_Edge)), (45, .one (.int .i64)), (46, .one (.int .i64)), (47, .one (.bool))], [.var 25 [.one (.int .i64), .one (.int .i64), .one (.int .u64), .one (.int .u64), .one (.list T_api_Edge)], .arr T_int false, .arr T_int false]⟩)])) (by kernel_rfl) (ltok_of (bs := []) (by kernel_rfl) tells_nil)
    (un fun (w : List UInt8) => un fun (i : Int) => un fun (t44 : List V) => un fun (t45 : Int) => un fun (ns_0 : Int) => un fun (ns_1 : Int) => un fun (ns_2 : Int) => un fun (ns_3 : Int) => un fun (ns_4 : List V) (have's : List V) => (un fun (t46 : Int) (next's : List V) => [.str w, .int .i64 i, .list T_api_Edge t44, .int .i64 t45, .int .i64 t46, .int .i64 ns_0, .int .i64 ns_1, .int .u64 ns_2, .int .u64 ns_3, .list T_api_Edge ns_4, .list T_int have's, .list T_int next's] : (Int × (List V)) → List V)) (un fun (w : List UInt8) => un fun (i : Int) => un fun (t44 : List V) => un fun (t45 : Int) => un fun (ns_0 : Int) => un fun (ns_1 : Int) => un fun (ns_2 : Int) => un fun (ns_3 : Int) => un fun (ns_4 : List V) (have's : List V) => w_semigroupref06_Runs_2 w i t44 t45 ns_0 ns_1 ns_2 ns_3 ns_4 have's)
    (fun ds => ((V.nth ds 0).toStr, (V.nth (ds.drop 1) 0).toInt, (V.nth ((ds.drop 1).drop 1) 0).toList, (V.nth (((ds.drop 1).drop 1).drop 1) 0).toInt, (V.nth (ds.drop 5) 0).toInt, (V.nth ((ds.drop 5).drop 1) 0).toInt, (V.nth (((ds.drop 5).drop 1).drop 1) 0).toInt, (V.nth ((((ds.drop 5).drop 1).drop 1).drop 1) 0).toInt, (V.nth (((((ds.drop 5).drop 1).drop 1).drop 1).drop 1) 0).toList, (V.nth ((ds.drop 5).drop 5) 0).toList)) (fun ds => ((V.nth ((((ds.drop 1).drop 1).drop 1).drop 1) 0).toInt, (V.nth (((ds.drop 5).drop 5).drop 1) 0).toList)) (fun e => ((V.nth ((((e.2.drop 1).drop 1).drop 1).drop 1) 0).toInt, (V.nth (((((e.2.drop 1).drop 1).drop 1).drop 1).drop 1) 0).toBool, (V.nth (((e.2.drop 6).drop 5).drop 1) 0).toList))
    (un fun (w : List UInt8) => un fun (i : Int) => un fun (t44 : List V) => un fun (t45 : Int) => un fun (ns_0 : Int) => un fun (ns_1 : Int) => un fun (ns_2 : Int) => un fun (ns_3 : Int) => un fun (ns_4 : List V) (have's : List V) => (un fun (t46 : Int) (next's : List V) => fun β kn kr => s_semigroupref06_Runs_2 C w i t44 t45 ns_0 ns_1 ns_2 ns_3 ns_4 have's t46 next's kn kr : (Int × (List V)) → (β : Type) → ((Int × (List V)) → Option β) → ((Int × Bool × (List V)) → Option β) → Option β))
    (l_semigroupref06_Runs_2 C) (fun ds => by kernel_rfl) (fun i x => by kernel_rfl) (fun i r => by skip <;> kernel_rfl)
    (fun i x β k => by kernel_rfl) (fun β ds k => by kernel_rfl) (fun β ds k => by kernel_rfl) (fun i β k r => by skip <;> kernel_rfl)
theorem t_semigroupref06_Runs_3 (C : CallF) : Tells Tryd.prog ann C (LT_semigroupref06_Runs C) 25 (ntmpsOf Tryd.prog (ann.fid 25)) (ann.sin 25).blks.length (.loop (codeAt [1, 1, 1, 1, 0, 1, 0, 0] B_semigroupref06_Runs)) :=
  tells_loop2 (I := (List UInt8) × Int × Int × Int × Int × (List V)) (X := Int × (List V)) (R := Int × Bool × (List V)) (S := (⟨[(1, .one (.str)), (2, .one (.ptrC 0 0 0)), (5, .one (.whole T_int 1)), (7, .one (.int .i64))], [.var 25 [.one (.int .i64), .one (.int .i64), .one (.int .u64), .one (.int .u64), .one (.list T_api_Edge)], .arr T_int false]⟩, [(.exit 2, ⟨[(1, .one (.str)), (2, .one (.ptrC 0 0 0)), (5, .one (.whole T_int 1)), (7, .one (.int .i64)), (37, .one (.bool))], [.var 25 [.one (.int .i64), .one (.int .i64), .one (.int .u64), .one (.int .u64), .one (.list T_api_Edge)], .arr T_int false]⟩)])) (by kernel_rfl) (ltok_of (bs := [.loop (codeAt [1, 1, 1, 1, 0, 1, 0, 0, 1, 0, 0, 1, 0, 1, 0, 0] B_semigroupref06_Runs)]) (by kernel_rfl) (tells_cons (t_semigroupref06_Runs_2 C) tells_nil))
    (un fun (w : List UInt8) => un fun (ns_0 : Int) => un fun (ns_1 : Int) => un fun (ns_2 : Int) => un fun (ns_3 : Int) (ns_4 : List V) => (un fun (i : Int) (have's : List V) => [.str w, .int .i64 i, .int .i64 ns_0, .int .i64 ns_1, .int .u64 ns_2, .int .u64 ns_3, .list T_api_Edge ns_4, .list T_int have's] : (Int × (List V)) → List V)) (un fun (w : List UInt8) => un fun (ns_0 : Int) => un fun (ns_1 : Int) => un fun (ns_2 : Int) => un fun (ns_3 : Int) (ns_4 : List V) => w_semigroupref06_Runs_3 w ns_0 ns_1 ns_2 ns_3 ns_4)
    (fun ds => ((V.nth ds 0).toStr, (V.nth (ds.drop 2) 0).toInt, (V.nth ((ds.drop 2).drop 1) 0).toInt, (V.nth (((ds.drop 2).drop 1).drop 1) 0).toInt, (V.nth ((((ds.drop 2).drop 1).drop 1).drop 1) 0).toInt, (V.nth (((((ds.drop 2).drop 1).drop 1).drop 1).drop 1) 0).toList)) (fun ds => ((V.nth (ds.drop 1) 0).toInt, (V.nth ((ds.drop 2).drop 5) 0).toList)) (fun e => ((V.nth (e.2.drop 1) 0).toInt, (V.nth ((e.2.drop 1).drop 1) 0).toBool, (V.nth ((e.2.drop 3).drop 5) 0).toList))
    (un fun (w : List UInt8) => un fun (ns_0 : Int) => un fun (ns_1 : Int) => un fun (ns_2 : Int) => un fun (ns_3 : Int) (ns_4 : List V) => (un fun (i : Int) (have's : List V) => fun β kn kr => s_semigroupref06_Runs_3 C w ns_0 ns_1 ns_2 ns_3 ns_4 i have's kn kr : (Int × (List V)) → (β : Type) → ((Int × (List V)) → Option β) → ((Int × Bool × (List V)) → Option β) → Option β))
    (l_semigroupref06_Runs_3 C) (fun ds => by kernel_rfl) (fun i x => by kernel_rfl) (fun i r => by skip <;> kernel_rfl)
    (fun i x β k => by kernel_rfl) (fun β ds k => by kernel_rfl) (fun β ds k => by kernel_rfl) (fun i β k r => by skip <;> kernel_rfl)
theorem t_semigroupref06_Runs_4 (C : CallF) : Tells Tryd.prog ann C (LT_semigroupref06_Runs C) 25 (ntmpsOf Tryd.prog (ann.fid 25)) (ann.sin 25).blks.length (.loop (codeAt [1, 1, 1, 1, 1, 1, 0, 1, 0, 0] B_semigroupref06_Runs)) :=
  tells_loop2 (I := Int × Int × Int × Int × Int × (List V) × (List V)) (X := Int × Int) (R := Int × Int × Bool) (S := (⟨[(2, .one (.ptrC 0 0 0)), (5, .one (.whole T_int 1)), (11, .one (.int .i64)), (77, .one (.int .i64)), (78, .one (.int .i64))], [.var 25 [.one (.int .i64), .one (.int .i64), .one (.int .u64), .one (.int .u64), .one (.list T_api_Edge)], .arr T_int false]⟩, [(.exit 6, ⟨[(2, .one (.ptrC 0 0 0)), (5, .one (.whole T_int 1)), (11, .one (.int .i64)), (77, .one (.int .i64)), (78, .one (.int .i64)), (79, .one (.bool))], [.var 25 [.one (.int .i64), .one (.int .i64), .one (.int .u64), .one (.int .u64), .one (.list T_api_Edge)], .arr T_int false]⟩)])) (by kernel_rfl) (ltok_of (bs := []) (by kernel_rfl) tells_nil)
    (un fun (t77 : Int) => un fun (ns_0 : Int) => un fun (ns_1 : Int) => un fun (ns_2 : Int) => un fun (ns_3 : Int) => un fun (ns_4 : List V) (have's : List V) => (un fun (sum : Int) (t78 : Int) => [.int .i64 sum, .int .i64 t77, .int .i64 t78, .int .i64 ns_0, .int .i64 ns_1, .int .u64 ns_2, .int .u64 ns_3, .list T_api_Edge ns_4, .list T_int have's] : (Int × Int) → List V)) (un fun (t77 : Int) => un fun (ns_0 : Int) => un fun (ns_1 : Int) => un fun (ns_2 : Int) => un fun (ns_3 : Int) => un fun (ns_4 : List V) (have's : List V) => w_semigroupref06_Runs_4 t77 ns_0 ns_1 ns_2 ns_3 ns_4 have's)
    (fun ds => ((V.nth (ds.drop 1) 0).toInt, (V.nth (ds.drop 3) 0).toInt, (V.nth ((ds.drop 3).drop 1) 0).toInt, (V.nth (((ds.drop 3).drop 1).drop 1) 0).toInt, (V.nth ((((ds.drop 3).drop 1).drop 1).drop 1) 0).toInt, (V.nth (((((ds.drop 3).drop 1).drop 1).drop 1).drop 1) 0).toList, (V.nth ((ds.drop 3).drop 5) 0).toList)) (fun ds => ((V.nth ds 0).toInt, (V.nth ((ds.drop 1).drop 1) 0).toInt)) (fun e => ((V.nth e.2 0).toInt, (V.nth ((e.2.drop 1).drop 1) 0).toInt, (V.nth (((e.2.drop 1).drop 1).drop 1) 0).toBool))
    (un fun (t77 : Int) => un fun (ns_0 : Int) => un fun (ns_1 : Int) => un fun (ns_2 : Int) => un fun (ns_3 : Int) => un fun (ns_4 : List V) (have's : List V) => (un fun (sum : Int) (t78 : Int) => fun β kn kr => s_semigroupref06_Runs_4 C t77 ns_0 ns_1 ns_2 ns_3 ns_4 have's sum t78 kn kr : (Int × Int) → (β : Type) → ((Int × Int) → Option β) → ((Int × Int × Bool) → Option β) → Option β))
    (l_semigroupref06_Runs_4 C) (fun ds => by kernel_rfl) (fun i x => by kernel_rfl) (fun i r => by skip <;> kernel_rfl)
    (fun i x β k => by kernel_rfl) (fun β ds k => by kernel_rfl) (fun β ds k => by kernel_rfl) (fun i β k r => by skip <;> kernel_rfl)
noncomputable def f_semigroupref06_Runs (C : CallF) (n_0 n_1 n_2 n_3 : Int) (n_4 : List V) (w : List UInt8) : Option (List V) :=
  (C F_semigroupref01_Valid [.str w, .int .i64 n_0]).bind fun r1 =>
  bif !((V.nth r1 0).toBool) then
   some [.int .i64 0]
  else
   bif (decide (0 ≤ n_1)) && ((decide (n_1 ≤ n_1)) && (Nat.ble (((n_1 : Int).toNat) * 8) maxBytes)) then
    (Loop (s_semigroupref06_Runs_1L C w ((List.replicate ((n_1 : Int).toNat) (V.int .i64 0)).length : Int) n_0 n_1 n_2 n_3 n_4) (0, List.replicate ((n_1 : Int).toNat) (V.int .i64 0))).bind (un fun (t_4 : Int) => un fun (t_5 : Bool) (have's_6 : List V) =>
      (Loop (s_semigroupref06_Runs_3L C w n_0 n_1 n_2 n_3 n_4) (0, have's_6)).bind (un fun (i_15 : Int) => un fun (t_16 : Bool) (have's_17 : List V) =>
        (Loop (s_semigroupref06_Runs_4L C (have's_17.length : Int) n_0 n_1 n_2 n_3 n_4 have's_17) (0, 0)).bind (un fun (sum_20 : Int) => un fun (t_21 : Int) (t_22 : Bool) =>
          some [.int .i64 sum_20])))
   else none
theorem f_semigroupref06_Runs_eq (C : CallF) (n_0 n_1 n_2 n_3 : Int) (n_4 : List V) (w : List UInt8) : bodyT Tryd.prog ann C (LT_semigroupref06_Runs C) 25 [.int .i64 n_0, .int .i64 n_1, .int .u64 n_2, .int .u64 n_3, .list T_api_Edge n_4, .str w] = f_semigroupref06_Runs C n_0 n_1 n_2 n_3 n_4 w := by kernel_rfl
theorem f_semigroupref06_Runs_of {n_0 n_1 n_2 n_3 : Int} {n_4 : List V} {w : List UInt8} {r : Option (List V)} (h : f_semigroupref06_Runs CC n_0 n_1 n_2 n_3 n_4 w = r) : CC F_semigroupref06_Runs [.int .i64 n_0, .int .i64 n_1, .int .u64 n_2, .int .u64 n_3, .list T_api_Edge n_4, .str w] = r :=
  func_of (key := 25) (L := LT_semigroupref06_Runs CC) (bs := [.loop (codeAt [1, 1, 1, 0, 1, 0, 0] B_semigroupref06_Runs), .loop (codeAt [1, 1, 1, 1, 0, 1, 0, 0] B_semigroupref06_Runs), .loop (codeAt [1, 1, 1, 1, 1, 1, 0, 1, 0, 0] B_semigroupref06_Runs)]) (by kernel_rfl) (tells_cons (t_semigroupref06_Runs_1 CC) (tells_cons (t_semigroupref06_Runs_3 CC) (tells_cons (t_semigroupref06_Runs_4 CC) tells_nil))) ((f_semigroupref06_Runs_eq CC n_0 n_1 n_2 n_3 n_4 w).trans h)
end Go.AM

/-
  Accepts and Runs, and the reference's.
-/
set_option maxRecDepth 100000
set_option linter.unusedSimpArgs false
namespace Go.AM
open Go.Proofs
def wlet (b : UInt8) : Int := (b.toNat : Int) - 97
theorem let_get {w : List UInt8} {i : Nat} (h : i < w.length) : let_ w i = wlet w[i] := by unfold let_ wlet; simp [h]
def accSet (E : List Ed) (s : Nat) (w : List UInt8) : Nat := w.foldl (fun a b => stepN E a (wlet b)) s
def wAll (L : Int) (w : List UInt8) : Prop := ∀ b ∈ w, 0 ≤ wlet b ∧ wlet b < L
theorem wOk.all {w : List UInt8} {L : Int} (h : wOk w L) : wAll L w := by
  intro b hb
  obtain ⟨i, hi, rfl⟩ := List.getElem_of_mem hb
  have := h.2.2.2 i hi
  rwa [let_get hi] at this
theorem byte_get {w : List UInt8} {i : Nat} (h : i < w.length) : (bif decide (0 ≤ (i : Int)) then (w[((i : Nat) : Int).toNat]?).map (fun b => V.int .u8 b.toNat) else none) = some (.int .u8 (w[i].toNat : Int)) := by
  rw [bif_decide, if_pos (by omega), Int.toNat_natCast]
  simp [h]
theorem wlet_wrap8 {b : UInt8} (h : 0 ≤ wlet b) : IntKind.wrap .u8 ((b.toNat : Int) - 97) = wlet b := by
  have := byte_lt b
  unfold wlet at *
  exact wrap8 h (by omega)
theorem wlet_lt (b : UInt8) : wlet b < 256 := by have := byte_lt b; unfold wlet; omega
theorem wlet_wrap {b : UInt8} (h : 0 ≤ wlet b) : IntKind.wrap .i64 (IntKind.wrap .u8 ((b.toNat : Int) - 97)) = wlet b := by
  rw [wlet_wrap8 h, wrap64 (by omega) (by have := wlet_lt b; omega)]
theorem stepN_lt64 {n : Nf} (hg : n.Good) (s : Nat) (x : Int) : stepN n.E s x < 2 ^ n.S.toNat := stepN_lt fun e he => by
  obtain ⟨f, t, ef, et, hf, ht, hfS, htS⟩ := (hg.E e he).nat hg.S64
  omega
theorem pow_S {n : Nf} (hg : n.Good) : 2 ^ n.S.toNat ≤ 2 ^ 64 := Nat.pow_le_pow_right (by omega) (by have := hg.S64; omega)
theorem edF {n : Nf} (hg : n.Good) : ∀ e ∈ n.E, e.f.toNat < n.S.toNat := fun e he => by
  obtain ⟨f, t, ef, et, hf, ht, hfS, htS⟩ := (hg.E e he).nat hg.S64
  omega
theorem edT {n : Nf} (hg : n.Good) : ∀ e ∈ n.E, e.t.toNat < n.S.toNat := fun e he => by
  obtain ⟨f, t, ef, et, hf, ht, hfS, htS⟩ := (hg.E e he).nat hg.S64
  omega
theorem idx_tab {n : Nf} {x : Int} (h0 : 0 ≤ x) (h1 : x < n.L) : idx (U2 (tabOf n.L.toNat n.S.toNat n.E)) x = some (.list T_uint64 (U1 (sRow n.S.toNat n.E x))) := by
  obtain ⟨k, rfl⟩ : ∃ k : Nat, x = (k : Int) := ⟨x.toNat, by omega⟩
  rw [idx_nat]
  unfold U2
  rw [List.getElem?_map, tabOf_get (by omega)]
  rfl
theorem acc_loop {n : Nf} (hg : n.Good) {w : List UInt8} (hw : wOk w n.L) {a1 a2 a3 a4 : Int} {a5 : List V} :
    Loop (s_nfa_Accepts_1L CC w (U2 (tabOf n.L.toNat n.S.toNat n.E)) (w.length : Int) a1 a2 a3 a4 a5) ((n.st : Int), 0) = some (((accSet n.E n.st w : Nat) : Int), (w.length : Int), false) := by
  have hall := hw.all
  have hlen := hw.2.2.1
  have h64 := hg.S64
  have hp := pow_S hg
  refine (Loop_foldI (step := s_nfa_Accepts_1L CC w (U2 (tabOf n.L.toNat n.S.toNat n.E)) (w.length : Int) a1 a2 a3 a4 a5) w (fun i (a : Nat) => ((a : Int), (i : Int))) (fun a b => stepN n.E a (wlet b))
    (fun a => ((a : Int), (w.length : Int), false)) (fun _ a => a < 2 ^ n.S.toNat) ?_ ?_ n.st hg.st).1
  · intro i a hi ha
    refine ⟨?_, stepN_lt64 hg _ _⟩
    obtain ⟨h0, h1⟩ := hall w[i] (List.getElem_mem hi)
    have ha64 : a < 2 ^ 64 := by omega
    simp only [s_nfa_Accepts_1L, s_nfa_Accepts_1, un]
    rw [bif_decide, if_pos (by omega), byte_get hi]
    simp only [Option.bind_some, V.toInt_int]
    rw [wlet_wrap8 h0, idx_tab h0 h1]
    simp only [Option.bind_some, V.toList_list]
    rw [Image_spec (sRow_ok (by omega) (edT hg)) ha64]
    simp only [Option.bind_some, V.nth_zero, V.toInt_int]
    have hl : (sRow n.S.toNat n.E (wlet w[i])).length = n.S.toNat := by simp [sRow]
    rw [hl, img_row ha64 (by omega) (edF hg), wrap64 (by omega) (by omega)]
    simp
  · intro a ha
    simp only [s_nfa_Accepts_1L, s_nfa_Accepts_1, un]
    rw [bif_decide, if_neg (by omega)]
    simp
theorem refAcc_loop {n : Nf} (h : n.Ok) (hg : n.Good) {w : List UInt8} (hw : wOk w n.L) :
    Loop (s_semigroupref06_Accepts_1L CC w n.L n.S n.st n.fin (n.E.map Ed.enc)) ((n.st : Int), 0) = some (((accSet n.E n.st w : Nat) : Int), (w.length : Int), false) := by
  have hall := hw.all
  have hlen := hw.2.2.1
  have h64 := hg.S64
  have hp := pow_S hg
  refine (Loop_foldI (step := s_semigroupref06_Accepts_1L CC w n.L n.S n.st n.fin (n.E.map Ed.enc)) w (fun i (a : Nat) => ((a : Int), (i : Int))) (fun a b => stepN n.E a (wlet b))
    (fun a => ((a : Int), (w.length : Int), false)) (fun _ a => a < 2 ^ n.S.toNat) ?_ ?_ n.st hg.st).1
  · intro i a hi ha
    refine ⟨?_, stepN_lt64 hg _ _⟩
    obtain ⟨h0, h1⟩ := hall w[i] (List.getElem_mem hi)
    have ha64 : a < 2 ^ 64 := by omega
    simp only [s_semigroupref06_Accepts_1L, s_semigroupref06_Accepts_1, un]
    rw [bif_decide, if_pos (by omega), byte_get hi]
    simp only [Option.bind_some, V.toInt_int]
    rw [wlet_wrap h0, show CC F_semigroupref06_Step [.int .i64 n.L, .int .i64 n.S, .int .u64 (n.st : Int), .int .u64 (n.fin : Int), .list T_api_Edge (n.E.map Ed.enc), .int .u64 (a : Int), .int .i64 (wlet w[i])] = _ from refStep_spec n h hg ha64 _]
    simp only [Option.bind_some, V.nth_zero, V.toInt_int]
    rw [wrap64 (by omega) (by omega)]
    simp
  · intro a ha
    simp only [s_semigroupref06_Accepts_1L, s_semigroupref06_Accepts_1, un]
    rw [bif_decide, if_neg (by omega)]
    simp
theorem accFold_lt {n : Nf} (hg : n.Good) : ∀ (w : List UInt8) (s : Nat), s < 2 ^ n.S.toNat → accSet n.E s w < 2 ^ n.S.toNat
  | [], s, hs => hs
  | b :: w, s, hs => accFold_lt hg w _ (stepN_lt64 hg _ _)
def accB (n : Nf) (w : List UInt8) : Bool := !(accSet n.E n.st w &&& n.fin == 0)
theorem accB_end {n : Nf} (h : n.Ok) (hg : n.Good) (w : List UInt8) :
    ((IntKind.wrap .u64 ((BitVec.ofInt (IntKind.bits .u64) ((accSet n.E n.st w : Nat) : Int) &&& BitVec.ofInt (IntKind.bits .u64) ((n.fin : Nat) : Int)).toNat) : Int) != 0) = accB n w := by
  have hp := pow_S hg
  have := accFold_lt hg w n.st hg.st
  rw [u64_and (by omega) h.fin]
  unfold accB
  rw [Bool.eq_iff_iff]
  simp only [bne_iff_ne, Bool.not_eq_true', beq_eq_false_iff_ne, ne_eq]
  omega
theorem Accepts_spec (n : Nf) (h : n.Ok) (w : List UInt8) : CC F_nfa_Accepts (nfA n [.str w]) = some [.bool (decide (n.code = 0 ∧ wOk w n.L) && accB n w)] := by
  refine f_nfa_Accepts_of ?_
  unfold f_nfa_Accepts
  rw [show CC F_nfa_Validate [.int .i64 n.L, .int .i64 n.S, .int .u64 (n.st : Int), .int .u64 (n.fin : Int), .list T_api_Edge (n.E.map Ed.enc)] = _ from Validate_spec n h, wValid_spec]
  simp only [Option.bind_some, V.nth_zero, V.toInt_int, V.toBool_bool, bif_bne, bif_not, bif_decide]
  by_cases h0 : n.code = 0
  · rw [if_pos h0]
    have hg := Nf.good_of h0
    by_cases h1 : wOk w n.L
    · rw [if_pos h1, decide_eq_true (And.intro h0 h1), Bool.true_and,
        show CC F_nfa_successors [.int .i64 n.L, .int .i64 n.S, .int .u64 (n.st : Int), .int .u64 (n.fin : Int), .list T_api_Edge (n.E.map Ed.enc)] = _ from successors_spec n h hg]
      simp only [Option.bind_some, V.nth_zero, V.toList_list]
      rw [acc_loop hg h1]
      simp only [Option.bind_some, un]
      rw [accB_end h hg]
    · rw [if_neg h1, decide_eq_false (fun hx => h1 hx.2), Bool.false_and]
  · rw [if_neg h0, decide_eq_false (fun hx => h0 hx.1), Bool.false_and]
theorem refAccepts_spec (n : Nf) (h : n.Ok) (hg : n.Good) (w : List UInt8) : CC F_semigroupref06_Accepts (nfA n [.str w]) = some [.bool (decide (wOk w n.L) && accB n w)] := by
  refine f_semigroupref06_Accepts_of ?_
  unfold f_semigroupref06_Accepts
  rw [refValid_spec]
  simp only [Option.bind_some, V.nth_zero, V.toInt_int, V.toBool_bool, bif_bne, bif_not, bif_decide]
  by_cases h1 : wOk w n.L
  · rw [if_pos h1, decide_eq_true h1, Bool.true_and, refAcc_loop h hg h1]
    simp only [Option.bind_some, un]
    rw [accB_end h hg]
  · rw [if_neg h1, decide_eq_false h1, Bool.false_and]
/-! numbers of runs -/
def I1 (R : List Nat) : List V := R.map fun (x : Nat) => V.int .i64 (x : Int)
@[simp] theorem I1_length (R : List Nat) : (I1 R).length = R.length := by simp [I1]
theorem I1_get {R : List Nat} {i : Nat} (h : i < R.length) : (I1 R)[i]? = some (.int .i64 ((R.getD i 0 : Nat) : Int)) := by
  unfold I1; rw [List.getElem?_map, List.getElem?_eq_getElem h]; simp [h]
theorem I1_set (R : List Nat) (i a : Nat) : (I1 R).set i (.int .i64 (a : Int)) = I1 (R.set i a) := (List.map_set (f := fun (x : Nat) => V.int .i64 (x : Int))).symm
theorem I1_rep (n : Nat) : List.replicate n (V.int .i64 0) = I1 (List.replicate n 0) := by simp [I1]
def top31 : Nat := 2147483648
def cMin (a b : Nat) : Nat := if a + b < top31 then a + b else top31
def cstep1 (x : Int) (c a : List Nat) (e : Ed) : List Nat := if e.l = x then a.set e.t.toNat (cMin (a.getD e.t.toNat 0) (c.getD e.f.toNat 0)) else a
def cstep (E : List Ed) (S : Nat) (x : Int) (c : List Nat) : List Nat := E.foldl (cstep1 x c) (List.replicate S 0)
def crun (E : List Ed) (S : Nat) (c : List Nat) (w : List UInt8) : List Nat := w.foldl (fun c b => cstep E S (wlet b) c) c
def cinit (S st : Nat) : List Nat := (mem st).foldl (fun a q => a.set q 1) (List.replicate S 0)
def csum (fin : Nat) (c : List Nat) : Nat := (mem fin).foldl (fun a q => cMin a (c.getD q 0)) 0
def runsN (n : Nf) (w : List UInt8) : Nat := csum n.fin (crun n.E n.S.toNat (cinit n.S.toNat n.st) w)
structure Cts (S : Nat) (c : List Nat) : Prop where
  len : c.length = S
  le : ∀ i, c.getD i 0 ≤ top31
theorem cMin_le {a b : Nat} : cMin a b ≤ top31 := by unfold cMin; split <;> omega
theorem getD_set {c : List Nat} {i j a : Nat} : (c.set i a).getD j 0 = if i = j ∧ i < c.length then a else c.getD j 0 := by
  rw [List.getD_eq_getElem?_getD, List.getElem?_set, List.getD_eq_getElem?_getD]
  by_cases h : i = j
  · subst h
    by_cases h2 : i < c.length
    · simp [h2]
    · simp [h2]
  · simp [h]
theorem Cts.set {S i a : Nat} {c : List Nat} (h : Cts S c) (ha : a ≤ top31) : Cts S (c.set i a) where
  len := by simp [h.len]
  le j := by
    rw [getD_set]
    split
    · exact ha
    · exact h.le j
theorem Cts.zero (S : Nat) : Cts S (List.replicate S 0) where
  len := by simp
  le i := by
    rw [List.getD_eq_getElem?_getD, List.getElem?_replicate]
    split <;> simp
theorem Cts.cstep1 {S : Nat} {x : Int} {c a : List Nat} (e : Ed) (h : Cts S a) : Cts S (cstep1 x c a e) := by
  unfold AM.cstep1
  split
  · exact h.set cMin_le
  · exact h
theorem Cts.fold {S : Nat} {x : Int} {c : List Nat} : ∀ (E : List Ed) (a : List Nat), Cts S a → Cts S (E.foldl (AM.cstep1 x c) a)
  | [], _, h => h
  | e :: E, _, h => Cts.fold E _ (h.cstep1 e)
theorem Cts.cstep {E : List Ed} {S : Nat} {x : Int} {c : List Nat} : Cts S (cstep E S x c) := Cts.fold E _ (Cts.zero S)
theorem Cts.crun {E : List Ed} {S : Nat} : ∀ (w : List UInt8) (c : List Nat), Cts S c → Cts S (crun E S c w)
  | [], _, h => h
  | b :: w, _, _ => Cts.crun w _ Cts.cstep
theorem Cts.ones {S : Nat} : ∀ (l : List Nat) (a : List Nat), Cts S a → Cts S (l.foldl (fun a q => a.set q 1) a)
  | [], _, h => h
  | _ :: l, _, h => Cts.ones l _ (h.set (by unfold top31; omega))
theorem Cts.cinit {S st : Nat} : Cts S (cinit S st) := Cts.ones _ _ (Cts.zero S)
theorem min_a (m : Int) {a b : Nat} (h : m = (a : Int) + (b : Int)) : (if m < 2147483648 then m else 2147483648) = ((cMin a b : Nat) : Int) := by
  unfold cMin top31; subst h; split <;> split <;> omega
theorem min_b (m : Int) {a b : Nat} (h : m = (a : Int) + (b : Int)) : (if 2147483648 < m then 2147483648 else m) = ((cMin a b : Nat) : Int) := by
  unfold cMin top31; subst h; split <;> split <;> omega
theorem foldl_mem {A : Type} (f : A → Nat → A) (s : Nat) (a : A) : (mem s).foldl f a = (List.range 64).foldl (fun a q => if s.testBit q = true then f a q else a) a := by
  unfold mem; rw [List.foldl_filter]
theorem foldl_idle {A : Type} (f : A → Nat → A) : ∀ (l : List Nat) (a : A), (∀ q ∈ l, ∀ a, f a q = a) → l.foldl f a = a
  | [], _, _ => rfl
  | q :: l, a, h => by rw [List.foldl_cons, h q (by simp)]; exact foldl_idle f l a fun q hq => h q (by simp [hq])
theorem mem_fold {A : Type} (f : A → Nat → A) {s S : Nat} (hs : s < 2 ^ S) (hS : S ≤ 64) (a : A) : (mem s).foldl f a = (List.range S).foldl (fun a q => if s.testBit q = true then f a q else a) a := by
  rw [foldl_mem]
  rw [show List.range 64 = List.range (S + (64 - S)) by congr 1; omega, List.range_add, List.foldl_append]
  refine foldl_idle _ _ _ fun q hq b => ?_
  rw [List.mem_map] at hq
  obtain ⟨k, _, rfl⟩ := hq
  rw [if_neg]
  rw [lt_pow_iff.1 hs (S + k) (by omega)]
  simp
section
variable {n : Nf}
theorem runs_1 (hg : n.Good) {w : List UInt8} {a0 a1 a2 a3 : Int} {a4 : List V} :
    Loop (s_nfa_Runs_1L CC w ((encI (mem n.st)).length : Int) a0 a1 a2 a3 a4 (encI (mem n.st))) (0, I1 (List.replicate n.S.toNat 0)) = some (((mem n.st).length : Int), false, I1 (cinit n.S.toNat n.st)) := by
  have h64 := hg.S64
  have hst := hg.st
  have hp := pow_S hg
  have hml := mem_length n.st
  have e1 : (encI (mem n.st)).length = (mem n.st).length := by simp [encI]
  have := Loop_foldI (step := s_nfa_Runs_1L CC w ((encI (mem n.st)).length : Int) a0 a1 a2 a3 a4 (encI (mem n.st))) (mem n.st) (fun i (a : List Nat) => ((i : Int), I1 a)) (fun a q => a.set q 1)
    (fun a => (((mem n.st).length : Int), false, I1 a)) (fun _ a => Cts n.S.toNat a) ?_ ?_ _ (Cts.zero n.S.toNat)
  · exact this.1
  · intro i a hi ha
    refine ⟨?_, ha.set (by unfold top31; omega)⟩
    have hq : (mem n.st)[i] < n.S.toNat := by
      have h1 := (mem_iff (by omega)).1 (List.getElem_mem hi)
      by_cases hx : (mem n.st)[i] < n.S.toNat
      · exact hx
      · rw [lt_pow_iff.1 hst _ (by omega)] at h1; cases h1
    have e2 : (encI (mem n.st))[i]? = some (.int .i64 ((mem n.st)[i] : Int)) := by
      unfold encI; rw [List.getElem?_map, List.getElem?_eq_getElem hi]; rfl
    have hl := ha.len
    simp only [s_nfa_Runs_1L, s_nfa_Runs_1, un]
    rw [bif_decide, if_pos (by omega), bif_and, bif_decide, if_pos (by omega), bif_decide, if_pos (by omega), Int.toNat_natCast, e2]
    simp only [Option.bind_some, V.toInt_int]
    rw [bif_and, bif_decide, if_pos (by omega), bif_decide, if_pos (by rw [I1_length]; omega), Int.toNat_natCast, I1_get (by omega)]
    simp only [Option.bind_some]
    rw [show (V.int .i64 1) = V.int .i64 ((1 : Nat) : Int) from rfl, I1_set, wrap64 (by omega) (by omega)]
    simp
  · intro a ha
    simp only [s_nfa_Runs_1L, s_nfa_Runs_1, un]
    rw [bif_decide, if_neg (by omega), e1]
    simp
theorem runs_2 (h : n.Ok) (hg : n.Good) {w : List UInt8} {i : Nat} (hi : i < w.length) (h0 : 0 ≤ wlet w[i]) {c : List Nat} (hc : Cts n.S.toNat c) {t41 t42 a0 a1 a2 a3 : Int} {a4 : List V} :
    Loop (s_nfa_Runs_2L CC w (i : Int) t41 t42 (n.E.map Ed.enc) ((n.E.map Ed.enc).length : Int) a0 a1 a2 a3 a4 (I1 c)) (0, I1 (List.replicate n.S.toNat 0)) = some ((n.E.length : Int), false, I1 (cstep n.E n.S.toNat (wlet w[i]) c)) := by
  have hm := maxLen_le
  have hlen := h.len
  have := Loop_foldI (step := s_nfa_Runs_2L CC w (i : Int) t41 t42 (n.E.map Ed.enc) ((n.E.map Ed.enc).length : Int) a0 a1 a2 a3 a4 (I1 c)) n.E (fun j (a : List Nat) => ((j : Int), I1 a)) (cstep1 (wlet w[i]) c)
    (fun a => ((n.E.length : Int), false, I1 a)) (fun _ a => Cts n.S.toNat a) ?_ ?_ _ (Cts.zero n.S.toNat)
  · exact this.1
  · intro j a hj ha
    refine ⟨?_, ha.cstep1 _⟩
    have hin := hg.E n.E[j] (List.getElem_mem hj)
    obtain ⟨f, t, ef, et, hf, ht, hfS, htS⟩ := hin.nat hg.S64
    have hla := ha.len
    have hlc := hc.len
    have b1 := ha.le t
    have b2 := hc.le f
    unfold top31 at b1 b2
    simp only [s_nfa_Runs_2L, s_nfa_Runs_2, un, List.length_map]
    rw [bif_decide, if_pos (by omega), idx_ed hj, getD_mem hj, byte_get hi]
    simp only [Option.bind_some, Ed.enc_0, Ed.enc_1, Ed.enc_2, V.toInt_int, ef, et]
    rw [wlet_wrap h0, bif_beq]
    by_cases hx : n.E[j].l = wlet w[i]
    · rw [if_pos hx, bif_and, bif_decide, if_pos (by omega), bif_decide, if_pos (by rw [I1_length]; omega), Int.toNat_natCast, I1_get (by omega)]
      simp only [Option.bind_some]
      rw [bif_and, bif_decide, if_pos (by omega), bif_decide, if_pos (by rw [I1_length]; omega), Int.toNat_natCast, I1_get (by omega)]
      simp only [Option.bind_some, V.toInt_int]
      rw [min_a _ (a := a.getD t 0) (b := c.getD f 0) (wrap64 (by omega) (by omega)), I1_set, wrap64 (by omega) (by omega)]
      unfold cstep1
      rw [if_pos hx, ef, et]
      simp
      omega
    · rw [if_neg hx, wrap64 (by omega) (by omega)]
      unfold cstep1
      rw [if_neg hx]
      simp
  · intro a ha
    simp only [s_nfa_Runs_2L, s_nfa_Runs_2, un, List.length_map]
    rw [bif_decide, if_neg (by omega)]
    simp
theorem runs_3 (h : n.Ok) (hg : n.Good) {w : List UInt8} (hw : wOk w n.L) {c : List Nat} (hc : Cts n.S.toNat c) {a0 a2 a3 : Int} :
    Loop (s_nfa_Runs_3L CC w (w.length : Int) a0 n.S a2 a3 (n.E.map Ed.enc)) (0, I1 c) = some ((w.length : Int), false, I1 (crun n.E n.S.toNat c w)) := by
  have hall := hw.all
  have hlen := hw.2.2.1
  have h0 := hg.S0
  have h64 := hg.S64
  have := Loop_foldI (step := s_nfa_Runs_3L CC w (w.length : Int) a0 n.S a2 a3 (n.E.map Ed.enc)) w (fun j (a : List Nat) => ((j : Int), I1 a)) (fun c b => cstep n.E n.S.toNat (wlet b) c)
    (fun a => ((w.length : Int), false, I1 a)) (fun _ a => Cts n.S.toNat a) ?_ ?_ _ hc
  · exact this.1
  · intro i a hi ha
    refine ⟨?_, Cts.cstep⟩
    simp only [s_nfa_Runs_3L, s_nfa_Runs_3, un]
    rw [bif_decide, if_pos (by omega), bif_and, bif_decide, if_pos (by omega), bif_and, bif_decide, if_pos (by omega), bif_ble, if_pos (by rw [maxB]; omega), I1_rep, runs_2 h hg hi (hall _ (List.getElem_mem hi)).1 ha]
    simp only [Option.bind_some, un]
    rw [wrap64 (by omega) (by omega)]
    simp
  · intro a ha
    simp only [s_nfa_Runs_3L, s_nfa_Runs_3, un]
    rw [bif_decide, if_neg (by omega)]
    simp
theorem runs_4 (h : n.Ok) (hg : n.Good) {c : List Nat} (hc : Cts n.S.toNat c) :
    Loop (s_nfa_Runs_4L CC ((encI (mem n.fin)).length : Int) (I1 c) (encI (mem n.fin))) (0, 0) = some (((csum n.fin c : Nat) : Int), ((mem n.fin).length : Int), false) := by
  have h64 := hg.S64
  have hst := hg.fin
  have hp := pow_S hg
  have hml := mem_length n.fin
  have e1 : (encI (mem n.fin)).length = (mem n.fin).length := by simp [encI]
  have := Loop_foldI (step := s_nfa_Runs_4L CC ((encI (mem n.fin)).length : Int) (I1 c) (encI (mem n.fin))) (mem n.fin) (fun i (a : Nat) => ((a : Int), (i : Int))) (fun a q => cMin a (c.getD q 0))
    (fun a => ((a : Int), ((mem n.fin).length : Int), false)) (fun _ a => a ≤ top31) ?_ ?_ 0 (by omega)
  · exact this.1
  · intro i a hi ha
    refine ⟨?_, cMin_le⟩
    have hq : (mem n.fin)[i] < n.S.toNat := by
      have h1 := (mem_iff (by omega)).1 (List.getElem_mem hi)
      by_cases hx : (mem n.fin)[i] < n.S.toNat
      · exact hx
      · rw [lt_pow_iff.1 hst _ (by omega)] at h1; cases h1
    have e2 : (encI (mem n.fin))[i]? = some (.int .i64 ((mem n.fin)[i] : Int)) := by
      unfold encI; rw [List.getElem?_map, List.getElem?_eq_getElem hi]; rfl
    have hl := hc.len
    have b2 := hc.le (mem n.fin)[i]
    unfold top31 at ha b2
    simp only [s_nfa_Runs_4L, s_nfa_Runs_4, un]
    rw [bif_decide, if_pos (by omega), bif_and, bif_decide, if_pos (by omega), bif_decide, if_pos (by omega), Int.toNat_natCast, e2]
    simp only [Option.bind_some, V.toInt_int]
    rw [bif_and, bif_decide, if_pos (by omega), bif_decide, if_pos (by rw [I1_length]; omega), Int.toNat_natCast, I1_get (by omega)]
    simp only [Option.bind_some, V.toInt_int]
    rw [min_a _ (a := a) (b := c.getD (mem n.fin)[i] 0) (wrap64 (by omega) (by omega)), wrap64 (by omega) (by omega)]
    simp
  · intro a ha
    simp only [s_nfa_Runs_4L, s_nfa_Runs_4, un]
    rw [bif_decide, if_neg (by omega), e1]
    simp
end
theorem Runs_spec (n : Nf) (h : n.Ok) (w : List UInt8) : CC F_nfa_Runs (nfA n [.str w]) = some [.int .i64 ((if n.code = 0 ∧ wOk w n.L then runsN n w else 0 : Nat) : Int)] := by
  refine f_nfa_Runs_of ?_
  unfold f_nfa_Runs
  rw [show CC F_nfa_Validate [.int .i64 n.L, .int .i64 n.S, .int .u64 (n.st : Int), .int .u64 (n.fin : Int), .list T_api_Edge (n.E.map Ed.enc)] = _ from Validate_spec n h, wValid_spec]
  simp only [Option.bind_some, V.nth_zero, V.toInt_int, V.toBool_bool, bif_bne, bif_not, bif_decide]
  by_cases h0 : n.code = 0
  · rw [if_pos h0]
    have hg := Nf.good_of h0
    have hS0 := hg.S0
    have hS64 := hg.S64
    by_cases h1 : wOk w n.L
    · rw [if_pos h1, if_pos (And.intro h0 h1), bif_and, bif_decide, if_pos (by omega), bif_and, bif_decide, if_pos (by omega), bif_ble, if_pos (by rw [maxB]; omega), Members_spec h.st]
      simp only [Option.bind_some, V.nth_zero, V.toList_list]
      rw [I1_rep, runs_1 hg]
      simp only [Option.bind_some, un]
      rw [runs_3 h hg h1 Cts.cinit]
      simp only [Option.bind_some, un]
      rw [Members_spec h.fin]
      simp only [Option.bind_some, V.nth_zero, V.toList_list]
      rw [runs_4 h hg (Cts.crun _ _ Cts.cinit)]
      simp only [Option.bind_some, un]
      rfl
    · rw [if_neg h1, if_neg (fun hx => h1 hx.2)]; rfl
  · rw [if_neg h0, if_neg (fun hx => h0 hx.1)]; rfl
section
variable {n : Nf}
theorem rruns_1 (h : n.Ok) (hg : n.Good) {w : List UInt8} {a0 a1 a3 : Int} {a4 : List V} :
    Loop (s_semigroupref06_Runs_1L CC w ((I1 (List.replicate n.S.toNat 0)).length : Int) a0 a1 (n.st : Int) a3 a4) (0, I1 (List.replicate n.S.toNat 0)) = some ((n.S.toNat : Int), false, I1 (cinit n.S.toNat n.st)) := by
  have h64 := hg.S64
  have hst := h.st
  unfold cinit
  rw [mem_fold _ hg.st (by omega)]
  have := Loop_foldI (step := s_semigroupref06_Runs_1L CC w ((I1 (List.replicate n.S.toNat 0)).length : Int) a0 a1 (n.st : Int) a3 a4) (List.range n.S.toNat) (fun i (a : List Nat) => ((i : Int), I1 a)) (fun a q => if n.st.testBit q = true then a.set q 1 else a)
    (fun a => ((n.S.toNat : Int), false, I1 a)) (fun _ a => Cts n.S.toNat a) ?_ ?_ _ (Cts.zero n.S.toNat)
  · exact this.1
  · intro i a hi ha
    have hi' : i < n.S.toNat := by simpa using hi
    have hl := ha.len
    rw [List.getElem_range]
    refine ⟨?_, by split; exact ha.set (by unfold top31; omega); exact ha⟩
    simp only [s_semigroupref06_Runs_1L, s_semigroupref06_Runs_1, un, I1_length, List.length_replicate]
    rw [bif_decide, if_pos (by omega), Has_spec hst (by omega)]
    simp only [Option.bind_some, V.nth_zero, V.toBool_bool]
    cases hb : n.st.testBit i with
    | true =>
      rw [cond_true, bif_and, bif_decide, if_pos (by omega), bif_decide, if_pos (by omega), Int.toNat_natCast, I1_get (by omega)]
      simp only [Option.bind_some]
      rw [show (V.int .i64 1) = V.int .i64 ((1 : Nat) : Int) from rfl, I1_set, wrap64 (by omega) (by omega)]
      simp
    | false =>
      rw [cond_false, wrap64 (by omega) (by omega)]
      simp
  · intro a ha
    simp only [s_semigroupref06_Runs_1L, s_semigroupref06_Runs_1, un, I1_length, List.length_replicate, List.length_range]
    rw [bif_decide, if_neg (by omega)]
    simp
theorem rruns_2 (h : n.Ok) (hg : n.Good) {w : List UInt8} {i : Nat} (hi : i < w.length) (h0 : 0 ≤ wlet w[i]) {c : List Nat} (hc : Cts n.S.toNat c) {a0 a1 a2 a3 : Int} {a4 : List V} :
    Loop (s_semigroupref06_Runs_2L CC w (i : Int) (n.E.map Ed.enc) ((n.E.map Ed.enc).length : Int) a0 a1 a2 a3 a4 (I1 c)) (0, I1 (List.replicate n.S.toNat 0)) = some ((n.E.length : Int), false, I1 (cstep n.E n.S.toNat (wlet w[i]) c)) := by
  have hm := maxLen_le
  have hlen := h.len
  have := Loop_foldI (step := s_semigroupref06_Runs_2L CC w (i : Int) (n.E.map Ed.enc) ((n.E.map Ed.enc).length : Int) a0 a1 a2 a3 a4 (I1 c)) n.E (fun j (a : List Nat) => ((j : Int), I1 a)) (cstep1 (wlet w[i]) c)
    (fun a => ((n.E.length : Int), false, I1 a)) (fun _ a => Cts n.S.toNat a) ?_ ?_ _ (Cts.zero n.S.toNat)
  · exact this.1
  · intro j a hj ha
    refine ⟨?_, ha.cstep1 _⟩
    have hin := hg.E n.E[j] (List.getElem_mem hj)
    obtain ⟨f, t, ef, et, hf, ht, hfS, htS⟩ := hin.nat hg.S64
    have hla := ha.len
    have hlc := hc.len
    have b1 := ha.le t
    have b2 := hc.le f
    unfold top31 at b1 b2
    simp only [s_semigroupref06_Runs_2L, s_semigroupref06_Runs_2, un, List.length_map]
    rw [bif_decide, if_pos (by omega), idx_ed hj, getD_mem hj, byte_get hi]
    simp only [Option.bind_some, Ed.enc_0, Ed.enc_1, Ed.enc_2, V.toInt_int, ef, et]
    rw [wlet_wrap h0, bif_beq]
    by_cases hx : n.E[j].l = wlet w[i]
    · rw [if_pos hx, bif_and, bif_decide, if_pos (by omega), bif_decide, if_pos (by rw [I1_length]; omega), Int.toNat_natCast, I1_get (by omega)]
      simp only [Option.bind_some]
      rw [bif_and, bif_decide, if_pos (by omega), bif_decide, if_pos (by rw [I1_length]; omega), Int.toNat_natCast, I1_get (by omega)]
      simp only [Option.bind_some, V.toInt_int]
      rw [min_b _ (a := a.getD t 0) (b := c.getD f 0) (wrap64 (by omega) (by omega)), I1_set, wrap64 (by omega) (by omega)]
      unfold cstep1
      rw [if_pos hx, ef, et]
      simp
      omega
    · rw [if_neg hx, wrap64 (by omega) (by omega)]
      unfold cstep1
      rw [if_neg hx]
      simp
  · intro a ha
    simp only [s_semigroupref06_Runs_2L, s_semigroupref06_Runs_2, un, List.length_map]
    rw [bif_decide, if_neg (by omega)]
    simp
theorem rruns_3 (h : n.Ok) (hg : n.Good) {w : List UInt8} (hw : wOk w n.L) {c : List Nat} (hc : Cts n.S.toNat c) {a0 a2 a3 : Int} :
    Loop (s_semigroupref06_Runs_3L CC w a0 n.S a2 a3 (n.E.map Ed.enc)) (0, I1 c) = some ((w.length : Int), false, I1 (crun n.E n.S.toNat c w)) := by
  have hall := hw.all
  have hlen := hw.2.2.1
  have h0 := hg.S0
  have h64 := hg.S64
  have := Loop_foldI (step := s_semigroupref06_Runs_3L CC w a0 n.S a2 a3 (n.E.map Ed.enc)) w (fun j (a : List Nat) => ((j : Int), I1 a)) (fun c b => cstep n.E n.S.toNat (wlet b) c)
    (fun a => ((w.length : Int), false, I1 a)) (fun _ a => Cts n.S.toNat a) ?_ ?_ _ hc
  · exact this.1
  · intro i a hi ha
    refine ⟨?_, Cts.cstep⟩
    simp only [s_semigroupref06_Runs_3L, s_semigroupref06_Runs_3, un]
    rw [bif_decide, if_pos (by omega), bif_and, bif_decide, if_pos (by omega), bif_and, bif_decide, if_pos (by omega), bif_ble, if_pos (by rw [maxB]; omega), I1_rep, rruns_2 h hg hi (hall _ (List.getElem_mem hi)).1 ha]
    simp only [Option.bind_some, un]
    rw [wrap64 (by omega) (by omega)]
    simp
  · intro a ha
    simp only [s_semigroupref06_Runs_3L, s_semigroupref06_Runs_3, un]
    rw [bif_decide, if_neg (by omega)]
    simp
theorem rruns_4 (h : n.Ok) (hg : n.Good) {c : List Nat} (hc : Cts n.S.toNat c) {a0 a1 a2 : Int} {a4 : List V} :
    Loop (s_semigroupref06_Runs_4L CC ((I1 c).length : Int) a0 a1 a2 (n.fin : Int) a4 (I1 c)) (0, 0) = some (((csum n.fin c : Nat) : Int), (n.S.toNat : Int), false) := by
  have h64 := hg.S64
  have hl := hc.len
  unfold csum
  rw [mem_fold _ hg.fin (by omega)]
  have := Loop_foldI (step := s_semigroupref06_Runs_4L CC ((I1 c).length : Int) a0 a1 a2 (n.fin : Int) a4 (I1 c)) (List.range n.S.toNat) (fun i (a : Nat) => ((a : Int), (i : Int))) (fun a q => if n.fin.testBit q = true then cMin a (c.getD q 0) else a)
    (fun a => ((a : Int), (n.S.toNat : Int), false)) (fun _ a => a ≤ top31) ?_ ?_ 0 (by omega)
  · exact this.1
  · intro i a hi ha
    have hi' : i < n.S.toNat := by simpa using hi
    rw [List.getElem_range]
    refine ⟨?_, by split; exact cMin_le; exact ha⟩
    have b2 := hc.le i
    unfold top31 at ha b2
    simp only [s_semigroupref06_Runs_4L, s_semigroupref06_Runs_4, un, I1_length]
    rw [bif_decide, if_pos (by omega), Has_spec h.fin (by omega)]
    simp only [Option.bind_some, V.nth_zero, V.toBool_bool]
    cases hb : n.fin.testBit i with
    | true =>
      rw [cond_true, bif_and, bif_decide, if_pos (by omega), bif_decide, if_pos (by omega), Int.toNat_natCast, I1_get (by omega)]
      simp only [Option.bind_some, V.toInt_int]
      rw [min_b _ (a := a) (b := c.getD i 0) (wrap64 (by omega) (by omega)), wrap64 (by omega) (by omega)]
      simp
    | false =>
      rw [cond_false, wrap64 (by omega) (by omega)]
      simp
  · intro a ha
    simp only [s_semigroupref06_Runs_4L, s_semigroupref06_Runs_4, un, I1_length, List.length_range]
    rw [bif_decide, if_neg (by omega)]
    simp
    omega
end
theorem refRuns_spec (n : Nf) (h : n.Ok) (hg : n.Good) (w : List UInt8) : CC F_semigroupref06_Runs (nfA n [.str w]) = some [.int .i64 ((if wOk w n.L then runsN n w else 0 : Nat) : Int)] := by
  refine f_semigroupref06_Runs_of ?_
  unfold f_semigroupref06_Runs
  rw [refValid_spec]
  have hS0 := hg.S0
  have hS64 := hg.S64
  simp only [Option.bind_some, V.nth_zero, V.toInt_int, V.toBool_bool, bif_bne, bif_not, bif_decide]
  by_cases h1 : wOk w n.L
  · rw [if_pos h1, if_pos h1, bif_and, bif_decide, if_pos (by omega), bif_and, bif_decide, if_pos (by omega), bif_ble, if_pos (by rw [maxB]; omega), I1_rep, rruns_1 h hg]
    simp only [Option.bind_some, un]
    rw [rruns_3 h hg h1 Cts.cinit]
    simp only [Option.bind_some, un]
    rw [rruns_4 h hg (Cts.crun _ _ Cts.cinit)]
    simp only [Option.bind_some, un]
    rfl
  · rw [if_neg h1, if_neg h1]; rfl
end Go.AM

/-
  The sanity check of chapter 6's laws, run in the kernel.
-/
set_option maxRecDepth 100000
namespace Go.AM
open Go.Proofs
theorem awake : CC F_semigrouplaw06_awake [] = some [.bool true] := Call_of_run (N := 60) (n := 60) (by kernel_rfl)
end Go.AM

set_option maxRecDepth 100000
namespace Go.AM
open Go.Proofs
noncomputable abbrev B_semigrouplaw06_NfaAccepts : Code := bodyOf Tryd.prog (ann.fid 7)
noncomputable def LT_semigrouplaw06_NfaAccepts (C : CallF) : LTab := fun β n ds k =>
  none
noncomputable def f_semigrouplaw06_NfaAccepts (C : CallF) (n_0 n_1 n_2 n_3 : Int) (n_4 : List V) (w : List UInt8) : Option (List V) :=
  (C F_nfa_Accepts [.int .i64 n_0, .int .i64 n_1, .int .u64 n_2, .int .u64 n_3, .list T_api_Edge n_4, .str w]).bind fun r1 =>
  (C F_nfa_Runs [.int .i64 n_0, .int .i64 n_1, .int .u64 n_2, .int .u64 n_3, .list T_api_Edge n_4, .str w]).bind fun r2 =>
  (C F_semigrouplaw06_valid [.int .i64 n_0, .int .i64 n_1, .int .u64 n_2, .int .u64 n_3, .list T_api_Edge n_4]).bind fun r3 =>
  bif !((V.nth r3 0).toBool) then
   bif !((V.nth r1 0).toBool) then
    bif (((V.nth r2 0).toInt) : Int) == 0 then
     (C F_semigrouplaw06_awake []).bind fun r4 =>
     some [.bool ((V.nth r4 0).toBool)]
    else
     some [.bool false]
   else
    some [.bool false]
  else
   (C F_semigroupref06_Accepts [.int .i64 n_0, .int .i64 n_1, .int .u64 n_2, .int .u64 n_3, .list T_api_Edge n_4, .str w]).bind fun r5 =>
   bif ((V.nth r1 0).toBool) == ((V.nth r5 0).toBool) then
    (C F_semigroupref06_Runs [.int .i64 n_0, .int .i64 n_1, .int .u64 n_2, .int .u64 n_3, .list T_api_Edge n_4, .str w]).bind fun r6 =>
    bif (((V.nth r2 0).toInt) : Int) == ((V.nth r6 0).toInt) then
     bif ((V.nth r1 0).toBool) == (decide ((((V.nth r2 0).toInt) : Int) > 0)) then
      (C F_semigrouplaw06_awake []).bind fun r7 =>
      some [.bool ((V.nth r7 0).toBool)]
     else
      some [.bool false]
    else
     some [.bool false]
   else
    some [.bool false]
theorem f_semigrouplaw06_NfaAccepts_eq (C : CallF) (n_0 n_1 n_2 n_3 : Int) (n_4 : List V) (w : List UInt8) : bodyT Tryd.prog ann C (LT_semigrouplaw06_NfaAccepts C) 7 [.int .i64 n_0, .int .i64 n_1, .int .u64 n_2, .int .u64 n_3, .list T_api_Edge n_4, .str w] = f_semigrouplaw06_NfaAccepts C n_0 n_1 n_2 n_3 n_4 w := by kernel_rfl
theorem f_semigrouplaw06_NfaAccepts_of {n_0 n_1 n_2 n_3 : Int} {n_4 : List V} {w : List UInt8} {r : Option (List V)} (h : f_semigrouplaw06_NfaAccepts CC n_0 n_1 n_2 n_3 n_4 w = r) : CC F_semigrouplaw06_NfaAccepts [.int .i64 n_0, .int .i64 n_1, .int .u64 n_2, .int .u64 n_3, .list T_api_Edge n_4, .str w] = r :=
  func_of (key := 7) (L := LT_semigrouplaw06_NfaAccepts CC) (bs := []) (by kernel_rfl) tells_nil ((f_semigrouplaw06_NfaAccepts_eq CC n_0 n_1 n_2 n_3 n_4 w).trans h)
end Go.AM

/-
  NfaAccepts, on plain data.
-/
set_option linter.unusedSimpArgs false
namespace Go.AM
open Go.Proofs
theorem cMin_pos {a b : Nat} : 0 < cMin a b ↔ 0 < a ∨ 0 < b := by unfold cMin top31; split <;> omega
theorem ones_pos {q : Nat} : ∀ (l : List Nat) (a : List Nat), 0 < (l.foldl (fun a q => a.set q 1) a).getD q 0 ↔ 0 < a.getD q 0 ∨ (q ∈ l ∧ q < a.length)
  | [], a => by simp
  | p :: l, a => by
    rw [List.foldl_cons, ones_pos l, getD_set, List.length_set, List.mem_cons]
    by_cases h : p = q
    · subst h
      by_cases h2 : p < a.length
      · simp [h2]
      · simp [h2]
    · have h3 : ¬ q = p := fun h' => h h'.symm
      simp [h, h3]
theorem cinit_pos {S st q : Nat} (hS : S ≤ 64) (hst : st < 2 ^ S) : 0 < (cinit S st).getD q 0 ↔ st.testBit q = true := by
  have h64 : 2 ^ S ≤ 2 ^ 64 := Nat.pow_le_pow_right (by omega) hS
  unfold cinit
  rw [ones_pos, mem_iff (by omega), List.length_replicate]
  have h0 : (List.replicate S 0).getD q 0 = 0 := by rw [List.getD_eq_getElem?_getD, List.getElem?_replicate]; split <;> rfl
  rw [h0]
  constructor
  · rintro (h | h)
    · omega
    · exact h.1
  · intro h
    refine .inr ⟨h, ?_⟩
    by_cases hq : q < S
    · exact hq
    · rw [lt_pow_iff.1 hst q (by omega)] at h; cases h
theorem cstep1_pos {x : Int} {c a : List Nat} {e : Ed} {j : Nat} (ht : e.t.toNat < a.length) : 0 < (cstep1 x c a e).getD j 0 ↔ 0 < a.getD j 0 ∨ (e.l = x ∧ 0 < c.getD e.f.toNat 0 ∧ e.t.toNat = j) := by
  unfold cstep1
  by_cases hx : e.l = x
  · rw [if_pos hx, getD_set]
    by_cases h : e.t.toNat = j
    · rw [if_pos ⟨h, ht⟩, cMin_pos, h]
      simp [hx]
    · rw [if_neg (fun hh => h hh.1)]
      simp [h]
  · rw [if_neg hx]
    simp [hx]
theorem cfold_pos {x : Int} {c : List Nat} {j S : Nat} : ∀ (E : List Ed) (a : List Nat), a.length = S → (∀ e ∈ E, e.t.toNat < S) → (0 < (E.foldl (cstep1 x c) a).getD j 0 ↔ 0 < a.getD j 0 ∨ ∃ e ∈ E, e.l = x ∧ 0 < c.getD e.f.toNat 0 ∧ e.t.toNat = j)
  | [], a, _, _ => by simp
  | e :: E, a, ha, h => by
    rw [List.foldl_cons, cfold_pos E _ (by unfold cstep1; split <;> simp [ha]) (fun e he => h e (by simp [he])), cstep1_pos (by rw [ha]; exact h e (by simp)), or_assoc]
    simp
theorem cstep_pos {x : Int} {c : List Nat} {j S : Nat} {E : List Ed} (h : ∀ e ∈ E, e.t.toNat < S) : 0 < (cstep E S x c).getD j 0 ↔ ∃ e ∈ E, e.l = x ∧ 0 < c.getD e.f.toNat 0 ∧ e.t.toNat = j := by
  unfold cstep
  rw [cfold_pos E _ (by simp) h]
  have h0 : (List.replicate S 0).getD j 0 = 0 := by rw [List.getD_eq_getElem?_getD, List.getElem?_replicate]; split <;> rfl
  rw [h0]
  simp
theorem run_pos {E : List Ed} {S : Nat} (h : ∀ e ∈ E, e.t.toNat < S) : ∀ (w : List UInt8) (s : Nat) (c : List Nat), (∀ q, 0 < c.getD q 0 ↔ s.testBit q = true) → ∀ q, 0 < (crun E S c w).getD q 0 ↔ (accSet E s w).testBit q = true
  | [], _, _, hc => hc
  | b :: w, s, c, hc => by
    refine run_pos h w _ _ fun q => ?_
    rw [cstep_pos h, stepN_bit, List.any_eq_true]
    constructor
    · rintro ⟨e, he, h1, h2, h3⟩
      exact ⟨e, he, by simp [h1, (hc _).1 h2, h3]⟩
    · rintro ⟨e, he, h1⟩
      simp only [Bool.and_eq_true, decide_eq_true_eq] at h1
      exact ⟨e, he, h1.1, (hc _).2 h1.2.1, h1.2.2⟩
theorem csum_pos {c : List Nat} : ∀ (l : List Nat) (a : Nat), 0 < l.foldl (fun a q => cMin a (c.getD q 0)) a ↔ 0 < a ∨ ∃ q ∈ l, 0 < c.getD q 0
  | [], a => by simp
  | p :: l, a => by
    rw [List.foldl_cons, csum_pos l, cMin_pos, or_assoc]
    simp
theorem and_ne {a b : Nat} : ¬ a &&& b = 0 ↔ ∃ q, a.testBit q = true ∧ b.testBit q = true := by
  constructor
  · intro h
    obtain ⟨q, hq⟩ := Nat.exists_testBit_of_ne_zero h
    rw [Nat.testBit_and, Bool.and_eq_true] at hq
    exact ⟨q, hq⟩
  · rintro ⟨q, h1, h2⟩ h
    have : (a &&& b).testBit q = true := by rw [Nat.testBit_and, h1, h2]; rfl
    rw [h, Nat.zero_testBit] at this
    cases this
theorem acc_runs {n : Nf} (h : n.Ok) (hg : n.Good) (w : List UInt8) : accB n w = decide (0 < runsN n w) := by
  have key := run_pos (edT hg) w n.st (cinit n.S.toNat n.st) (fun q => cinit_pos (by have := hg.S64; omega) hg.st)
  rw [Bool.eq_iff_iff, decide_eq_true_eq]
  unfold accB runsN csum
  rw [csum_pos]
  simp only [Bool.not_eq_true', beq_eq_false_iff_ne, ne_eq]
  rw [and_ne]
  constructor
  · rintro ⟨q, h1, h2⟩
    exact .inr ⟨q, (mem_iff h.fin).2 h2, (key q).2 h1⟩
  · rintro (h1 | ⟨q, h1, h2⟩)
    · omega
    · exact ⟨q, (key q).1 h2, (mem_iff h.fin).1 h1⟩
theorem nfaAccepts (n : Nf) (h : n.Ok) (w : List UInt8) : CC F_semigrouplaw06_NfaAccepts (nfA n [.str w]) = some [.bool true] := by
  refine f_semigrouplaw06_NfaAccepts_of ?_
  unfold f_semigrouplaw06_NfaAccepts
  rw [show CC F_nfa_Accepts [.int .i64 n.L, .int .i64 n.S, .int .u64 (n.st : Int), .int .u64 (n.fin : Int), .list T_api_Edge (n.E.map Ed.enc), .str w] = _ from Accepts_spec n h w,
    show CC F_nfa_Runs [.int .i64 n.L, .int .i64 n.S, .int .u64 (n.st : Int), .int .u64 (n.fin : Int), .list T_api_Edge (n.E.map Ed.enc), .str w] = _ from Runs_spec n h w,
    show CC F_semigrouplaw06_valid [.int .i64 n.L, .int .i64 n.S, .int .u64 (n.st : Int), .int .u64 (n.fin : Int), .list T_api_Edge (n.E.map Ed.enc)] = _ from valid_spec n h, awake]
  simp only [Option.bind_some, V.nth_zero, V.toInt_int, V.toBool_bool, bif_not, bif_decide]
  by_cases h0 : n.code = 0
  · rw [if_pos h0]
    have hg := Nf.good_of h0
    rw [show CC F_semigroupref06_Accepts [.int .i64 n.L, .int .i64 n.S, .int .u64 (n.st : Int), .int .u64 (n.fin : Int), .list T_api_Edge (n.E.map Ed.enc), .str w] = _ from refAccepts_spec n h hg w,
      show CC F_semigroupref06_Runs [.int .i64 n.L, .int .i64 n.S, .int .u64 (n.st : Int), .int .u64 (n.fin : Int), .list T_api_Edge (n.E.map Ed.enc), .str w] = _ from refRuns_spec n h hg w]
    simp only [Option.bind_some, V.nth_zero, V.toInt_int, V.toBool_bool]
    by_cases h1 : wOk w n.L
    · rw [acc_runs h hg]
      simp [h0, h1]
    · simp [h0, h1]
  · rw [if_neg h0]
    simp [h0]
end Go.AM
