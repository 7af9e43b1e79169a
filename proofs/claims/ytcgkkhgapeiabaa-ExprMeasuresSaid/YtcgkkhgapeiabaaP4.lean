/-
  Functions of the program, lifted to plain data.
-/
import Derived.Test.YtcgkkhgapeiabaaP3
set_option linter.unusedVariables false
set_option linter.unusedSimpArgs false
set_option maxRecDepth 100000
namespace Go.AM
open Go.Proofs
noncomputable abbrev B_semigroupref04_measure : Code := bodyOf Try.prog (ann.fid 51)
noncomputable def s_semigroupref04_measure_1 (C : CallF) (most es_0 es_1 : Int) (es_2 : List V) (n deep i : Int) {β : Type} (kn : (Int × Int × Int) → Option β) (kr : (Int × Int × Int × Bool) → Option β) : Option β :=
  bif decide ((i : Int) < (es_2.length : Int)) then
   bif decide ((n : Int) ≤ most) then
    (idx es_2 i).bind fun x1 =>
    (C F_semigroupref04_measure [.int .i64 ((x1.cell 0).toInt), .int .i64 ((x1.cell 1).toInt), .list T_api_Expr ((x1.cell 2).toList), .int .i64 most]).bind fun r2 =>
    kn (if (IntKind.wrap .i64 (most + 1)) < (IntKind.wrap .i64 (n + ((V.nth r2 0).toInt))) then (IntKind.wrap .i64 (most + 1)) else (IntKind.wrap .i64 (n + ((V.nth r2 0).toInt))), if ((V.nth (r2.drop 1) 0).toInt) > deep then ((V.nth (r2.drop 1) 0).toInt) else deep, IntKind.wrap .i64 (i + 1))
   else
    kr (n, deep, i, decide ((n : Int) ≤ most))
  else
   kr (n, deep, i, false)
noncomputable def s_semigroupref04_measure_1L (C : CallF) (most es_0 es_1 : Int) (es_2 : List V) : (Int × Int × Int) → Option ((Int × Int × Int) ⊕ (Int × Int × Int × Bool)) := un fun n => un fun deep i => s_semigroupref04_measure_1 C most es_0 es_1 es_2 n deep i (fun y => some (.inl y)) (fun r => some (.inr r))
def w_semigroupref04_measure_1 (most es_0 es_1 : Int) (es_2 : List V) (β : Type) (k : Nat → List V → Option β) : (Int × Int × Int × Bool) → Option β := (un fun (v1 : Int) => un fun (v2 : Int) => un fun (v3 : Int) (v4 : Bool) => k 0 [.int .i64 most, .int .i64 v1, .int .i64 v2, .int .i64 v3, .bool v4, .int .i64 es_0, .int .i64 es_1, .list T_api_Expr es_2])
noncomputable def l_semigroupref04_measure_1 (C : CallF) (β : Type) (ds : List V) (k : Nat → List V → Option β) : Option β :=
  (Loop (s_semigroupref04_measure_1L C ((V.nth ds 0).toInt) ((V.nth (ds.drop 4) 0).toInt) ((V.nth ((ds.drop 4).drop 1) 0).toInt) ((V.nth (((ds.drop 4).drop 1).drop 1) 0).toList)) ((V.nth (ds.drop 1) 0).toInt, (V.nth ((ds.drop 1).drop 1) 0).toInt, (V.nth (((ds.drop 1).drop 1).drop 1) 0).toInt)).bind (w_semigroupref04_measure_1 ((V.nth ds 0).toInt) ((V.nth (ds.drop 4) 0).toInt) ((V.nth ((ds.drop 4).drop 1) 0).toInt) ((V.nth (((ds.drop 4).drop 1).drop 1) 0).toList) β k)
noncomputable def LT_semigroupref04_measure (C : CallF) : LTab := fun β n ds k =>
  bif Nat.beq n 49 then l_semigroupref04_measure_1 C β ds k else
  none
theorem t_semigroupref04_measure_1 (C : CallF) : Tells Try.prog ann C (LT_semigroupref04_measure C) 51 (ntmpsOf Try.prog (ann.fid 51)) (ann.sin 51).blks.length (.loop (codeAt [1, 1, 0, 1, 0, 0] B_semigroupref04_measure)) :=
  tells_loop2 (I := Int × Int × Int × (List V)) (X := Int × Int × Int) (R := Int × Int × Int × Bool) (S := (⟨[(1, .one (.int .i64)), (2, .one (.ptrC 0 0 0)), (6, .one (.int .i64)), (7, .one (.int .i64)), (8, .one (.int .i64))], [.var 24 [.one (.int .i64), .one (.int .i64), .one (.list T_api_Expr)]]⟩, [(.exit 0, ⟨[(1, .one (.int .i64)), (2, .one (.ptrC 0 0 0)), (6, .one (.int .i64)), (7, .one (.int .i64)), (8, .one (.int .i64)), (20, .one (.bool))], [.var 24 [.one (.int .i64), .one (.int .i64), .one (.list T_api_Expr)]]⟩)])) (by kernel_rfl) (ltok_of (bs := []) (by kernel_rfl) tells_nil)
    (un fun (most : Int) => un fun (es_0 : Int) => un fun (es_1 : Int) (es_2 : List V) => (un fun (n : Int) => un fun (deep : Int) (i : Int) => [.int .i64 most, .int .i64 n, .int .i64 deep, .int .i64 i, .int .i64 es_0, .int .i64 es_1, .list T_api_Expr es_2] : (Int × Int × Int) → List V)) (un fun (most : Int) => un fun (es_0 : Int) => un fun (es_1 : Int) (es_2 : List V) => w_semigroupref04_measure_1 most es_0 es_1 es_2)
    (fun ds => ((V.nth ds 0).toInt, (V.nth (ds.drop 4) 0).toInt, (V.nth ((ds.drop 4).drop 1) 0).toInt, (V.nth (((ds.drop 4).drop 1).drop 1) 0).toList)) (fun ds => ((V.nth (ds.drop 1) 0).toInt, (V.nth ((ds.drop 1).drop 1) 0).toInt, (V.nth (((ds.drop 1).drop 1).drop 1) 0).toInt)) (fun e => ((V.nth (e.2.drop 1) 0).toInt, (V.nth ((e.2.drop 1).drop 1) 0).toInt, (V.nth (((e.2.drop 1).drop 1).drop 1) 0).toInt, (V.nth ((((e.2.drop 1).drop 1).drop 1).drop 1) 0).toBool))
    (un fun (most : Int) => un fun (es_0 : Int) => un fun (es_1 : Int) (es_2 : List V) => (un fun (n : Int) => un fun (deep : Int) (i : Int) => fun β kn kr => s_semigroupref04_measure_1 C most es_0 es_1 es_2 n deep i kn kr : (Int × Int × Int) → (β : Type) → ((Int × Int × Int) → Option β) → ((Int × Int × Int × Bool) → Option β) → Option β))
    (l_semigroupref04_measure_1 C) (fun ds => by kernel_rfl) (fun i x => by kernel_rfl) (fun i r => by skip <;> kernel_rfl)
    (fun i x β k => by kernel_rfl) (fun β ds k => by kernel_rfl) (fun β ds k => by kernel_rfl) (fun i β k r => by skip <;> kernel_rfl)
noncomputable def f_semigroupref04_measure (C : CallF) (e_0 e_1 : Int) (e_2 : List V) (most : Int) : Option (List V) :=
  (Loop (s_semigroupref04_measure_1L C most e_0 e_1 e_2) (1, 0, 0)).bind (un fun (n_3 : Int) => un fun (deep_4 : Int) => un fun (i_5 : Int) (t_6 : Bool) =>
    some [.int .i64 n_3, .int .i64 (IntKind.wrap .i64 (deep_4 + 1))])
theorem f_semigroupref04_measure_eq (C : CallF) (e_0 e_1 : Int) (e_2 : List V) (most : Int) : bodyT Try.prog ann C (LT_semigroupref04_measure C) 51 [.int .i64 e_0, .int .i64 e_1, .list T_api_Expr e_2, .int .i64 most] = f_semigroupref04_measure C e_0 e_1 e_2 most := by kernel_rfl
theorem f_semigroupref04_measure_of {e_0 e_1 : Int} {e_2 : List V} {most : Int} {r : Option (List V)} (h : f_semigroupref04_measure CC e_0 e_1 e_2 most = r) : CC F_semigroupref04_measure [.int .i64 e_0, .int .i64 e_1, .list T_api_Expr e_2, .int .i64 most] = r :=
  func_of (key := 51) (L := LT_semigroupref04_measure CC) (bs := [.loop (codeAt [1, 1, 0, 1, 0, 0] B_semigroupref04_measure)]) (by kernel_rfl) (tells_cons (t_semigroupref04_measure_1 CC) tells_nil) ((f_semigroupref04_measure_eq CC e_0 e_1 e_2 most).trans h)
end Go.AM

set_option maxRecDepth 100000
namespace Go.AM
open Go.Proofs
noncomputable abbrev B_semigroupref04_shaped : Code := bodyOf Try.prog (ann.fid 38)
noncomputable def s_semigroupref04_shaped_1 (C : CallF) (letters k' : Int) (ok t39 : Bool) (es_0 es_1 : Int) (es_2 : List V) {β : Type} (kr : (Bool) → Option β) : Option β :=
  bif t39 then
   bif ok then
    bif decide ((es_1 : Int) ≥ 0) then
     kr (decide ((es_1 : Int) < letters))
    else
     kr false
   else
    kr false
  else
   bif ok then
    kr ((es_1 : Int) == 0)
   else
    kr false
def w_semigroupref04_shaped_1 (letters k' : Int) (ok t39 : Bool) (es_0 es_1 : Int) (es_2 : List V) (β : Type) (k : Nat → List V → Option β) : (Bool) → Option β := (fun (v2 : Bool) => k 0 [.int .i64 letters, .int .i64 k', .bool v2, .int .i64 es_0, .int .i64 es_1, .list T_api_Expr es_2])
noncomputable def l_semigroupref04_shaped_1 (C : CallF) (β : Type) (ds : List V) (k : Nat → List V → Option β) : Option β :=
  s_semigroupref04_shaped_1 C ((V.nth ds 0).toInt) ((V.nth (ds.drop 1) 0).toInt) ((V.nth ((ds.drop 1).drop 1) 0).toBool) ((V.nth (((ds.drop 1).drop 1).drop 1) 0).toBool) ((V.nth (ds.drop 4) 0).toInt) ((V.nth ((ds.drop 4).drop 1) 0).toInt) ((V.nth (((ds.drop 4).drop 1).drop 1) 0).toList) (w_semigroupref04_shaped_1 ((V.nth ds 0).toInt) ((V.nth (ds.drop 1) 0).toInt) ((V.nth ((ds.drop 1).drop 1) 0).toBool) ((V.nth (((ds.drop 1).drop 1).drop 1) 0).toBool) ((V.nth (ds.drop 4) 0).toInt) ((V.nth ((ds.drop 4).drop 1) 0).toInt) ((V.nth (((ds.drop 4).drop 1).drop 1) 0).toList) β k)
noncomputable def s_semigroupref04_shaped_2 (C : CallF) (letters k' es_0 es_1 : Int) (es_2 : List V) (ok : Bool) (i : Int) {β : Type} (kn : (Bool × Int) → Option β) (kr : (Bool × Int × Bool) → Option β) : Option β :=
  bif decide ((i : Int) < k') then
   bif ok then
    (idx es_2 i).bind fun x2 =>
    (C F_semigroupref04_shaped [.int .i64 ((x2.cell 0).toInt), .int .i64 ((x2.cell 1).toInt), .list T_api_Expr ((x2.cell 2).toList), .int .i64 letters]).bind fun r3 =>
    kn ((V.nth r3 0).toBool, IntKind.wrap .i64 (i + 1))
   else
    kr (ok, i, ok)
  else
   kr (ok, i, false)
noncomputable def s_semigroupref04_shaped_2L (C : CallF) (letters k' es_0 es_1 : Int) (es_2 : List V) : (Bool × Int) → Option ((Bool × Int) ⊕ (Bool × Int × Bool)) := un fun ok i => s_semigroupref04_shaped_2 C letters k' es_0 es_1 es_2 ok i (fun y => some (.inl y)) (fun r => some (.inr r))
def w_semigroupref04_shaped_2 (letters k' es_0 es_1 : Int) (es_2 : List V) (β : Type) (k : Nat → List V → Option β) : (Bool × Int × Bool) → Option β := (un fun (v2 : Bool) => un fun (v3 : Int) (v4 : Bool) => k 0 [.int .i64 letters, .int .i64 k', .bool v2, .int .i64 v3, .bool v4, .int .i64 es_0, .int .i64 es_1, .list T_api_Expr es_2])
noncomputable def l_semigroupref04_shaped_2 (C : CallF) (β : Type) (ds : List V) (k : Nat → List V → Option β) : Option β :=
  (Loop (s_semigroupref04_shaped_2L C ((V.nth ds 0).toInt) ((V.nth (ds.drop 1) 0).toInt) ((V.nth (ds.drop 4) 0).toInt) ((V.nth ((ds.drop 4).drop 1) 0).toInt) ((V.nth (((ds.drop 4).drop 1).drop 1) 0).toList)) ((V.nth ((ds.drop 1).drop 1) 0).toBool, (V.nth (((ds.drop 1).drop 1).drop 1) 0).toInt)).bind (w_semigroupref04_shaped_2 ((V.nth ds 0).toInt) ((V.nth (ds.drop 1) 0).toInt) ((V.nth (ds.drop 4) 0).toInt) ((V.nth ((ds.drop 4).drop 1) 0).toInt) ((V.nth (((ds.drop 4).drop 1).drop 1) 0).toList) β k)
noncomputable def LT_semigroupref04_shaped (C : CallF) : LTab := fun β n ds k =>
  bif Nat.beq n 639 then l_semigroupref04_shaped_1 C β ds k else
  bif Nat.beq n 257 then l_semigroupref04_shaped_2 C β ds k else
  none
theorem t_semigroupref04_shaped_1 (C : CallF) : Tells Try.prog ann C (LT_semigroupref04_shaped C) 38 (ntmpsOf Try.prog (ann.fid 38)) (ann.sin 38).blks.length (.cond 39 (codeAt [1, 1, 1, 1, 0, 1, 0] B_semigroupref04_shaped) (codeAt [1, 1, 1, 1, 0, 1, 1] B_semigroupref04_shaped)) :=
  tells_cond2 (I := Int × Int × Bool × Bool × Int × Int × (List V)) (R := Bool) (S := (⟨[(1, .one (.int .i64)), (2, .one (.ptrC 0 0 0)), (5, .one (.int .i64)), (6, .one (.bool)), (39, .one (.bool))], [.var 24 [.one (.int .i64), .one (.int .i64), .one (.list T_api_Expr)]]⟩, [(.norm, ⟨[(1, .one (.int .i64)), (2, .one (.ptrC 0 0 0)), (5, .one (.int .i64)), (6, .one (.bool))], [.var 24 [.one (.int .i64), .one (.int .i64), .one (.list T_api_Expr)]]⟩)])) (by kernel_rfl) (ltok_of (bs := []) (by kernel_rfl) tells_nil) (ltok_of (bs := []) (by kernel_rfl) tells_nil)
    (un fun (letters : Int) => un fun (k' : Int) => un fun (ok : Bool) => un fun (t39 : Bool) => un fun (es_0 : Int) => un fun (es_1 : Int) (es_2 : List V) => [.int .i64 letters, .int .i64 k', .bool ok, .bool t39, .int .i64 es_0, .int .i64 es_1, .list T_api_Expr es_2]) (un fun (letters : Int) => un fun (k' : Int) => un fun (ok : Bool) => un fun (t39 : Bool) => un fun (es_0 : Int) => un fun (es_1 : Int) (es_2 : List V) => w_semigroupref04_shaped_1 letters k' ok t39 es_0 es_1 es_2)
    (fun ds => ((V.nth ds 0).toInt, (V.nth (ds.drop 1) 0).toInt, (V.nth ((ds.drop 1).drop 1) 0).toBool, (V.nth (((ds.drop 1).drop 1).drop 1) 0).toBool, (V.nth (ds.drop 4) 0).toInt, (V.nth ((ds.drop 4).drop 1) 0).toInt, (V.nth (((ds.drop 4).drop 1).drop 1) 0).toList)) (un fun (letters : Int) => un fun (k' : Int) => un fun (ok : Bool) => un fun (t39 : Bool) => un fun (es_0 : Int) => un fun (es_1 : Int) (es_2 : List V) => fun β kr => s_semigroupref04_shaped_1 C letters k' ok t39 es_0 es_1 es_2 kr)
    (l_semigroupref04_shaped_1 C) (fun ds => by kernel_rfl)
    (fun i β k => by kernel_rfl) (fun β ds k => by kernel_rfl) (fun β ds k => by kernel_rfl) (fun i β k r => by skip <;> kernel_rfl)
theorem t_semigroupref04_shaped_2 (C : CallF) : Tells Try.prog ann C (LT_semigroupref04_shaped C) 38 (ntmpsOf Try.prog (ann.fid 38)) (ann.sin 38).blks.length (.loop (codeAt [1, 1, 1, 1, 1, 0, 1, 0, 0] B_semigroupref04_shaped)) :=
  tells_loop2 (I := Int × Int × Int × Int × (List V)) (X := Bool × Int) (R := Bool × Int × Bool) (S := (⟨[(1, .one (.int .i64)), (2, .one (.ptrC 0 0 0)), (5, .one (.int .i64)), (6, .one (.bool)), (7, .one (.int .i64))], [.var 24 [.one (.int .i64), .one (.int .i64), .one (.list T_api_Expr)]]⟩, [(.exit 1, ⟨[(1, .one (.int .i64)), (2, .one (.ptrC 0 0 0)), (5, .one (.int .i64)), (6, .one (.bool)), (7, .one (.int .i64)), (63, .one (.bool))], [.var 24 [.one (.int .i64), .one (.int .i64), .one (.list T_api_Expr)]]⟩)])) (by kernel_rfl) (ltok_of (bs := []) (by kernel_rfl) tells_nil)
    (un fun (letters : Int) => un fun (k' : Int) => un fun (es_0 : Int) => un fun (es_1 : Int) (es_2 : List V) => (un fun (ok : Bool) (i : Int) => [.int .i64 letters, .int .i64 k', .bool ok, .int .i64 i, .int .i64 es_0, .int .i64 es_1, .list T_api_Expr es_2] : (Bool × Int) → List V)) (un fun (letters : Int) => un fun (k' : Int) => un fun (es_0 : Int) => un fun (es_1 : Int) (es_2 : List V) => w_semigroupref04_shaped_2 letters k' es_0 es_1 es_2)
    (fun ds => ((V.nth ds 0).toInt, (V.nth (ds.drop 1) 0).toInt, (V.nth (ds.drop 4) 0).toInt, (V.nth ((ds.drop 4).drop 1) 0).toInt, (V.nth (((ds.drop 4).drop 1).drop 1) 0).toList)) (fun ds => ((V.nth ((ds.drop 1).drop 1) 0).toBool, (V.nth (((ds.drop 1).drop 1).drop 1) 0).toInt)) (fun e => ((V.nth ((e.2.drop 1).drop 1) 0).toBool, (V.nth (((e.2.drop 1).drop 1).drop 1) 0).toInt, (V.nth ((((e.2.drop 1).drop 1).drop 1).drop 1) 0).toBool))
    (un fun (letters : Int) => un fun (k' : Int) => un fun (es_0 : Int) => un fun (es_1 : Int) (es_2 : List V) => (un fun (ok : Bool) (i : Int) => fun β kn kr => s_semigroupref04_shaped_2 C letters k' es_0 es_1 es_2 ok i kn kr : (Bool × Int) → (β : Type) → ((Bool × Int) → Option β) → ((Bool × Int × Bool) → Option β) → Option β))
    (l_semigroupref04_shaped_2 C) (fun ds => by kernel_rfl) (fun i x => by kernel_rfl) (fun i r => by skip <;> kernel_rfl)
    (fun i x β k => by kernel_rfl) (fun β ds k => by kernel_rfl) (fun β ds k => by kernel_rfl) (fun i β k r => by skip <;> kernel_rfl)
noncomputable def f_semigroupref04_shaped (C : CallF) (e_0 e_1 : Int) (e_2 : List V) (letters : Int) : Option (List V) :=
  bif decide ((e_0 : Int) ≥ 1) then
   bif (e_0 : Int) == 1 then
    bif (e_0 : Int) == 1 then
     s_semigroupref04_shaped_1 C letters (e_2.length : Int) (((e_2.length : Int) : Int) == 0) ((e_0 : Int) == 3) e_0 e_1 e_2 (fun (ok_1 : Bool) =>
       (Loop (s_semigroupref04_shaped_2L C letters (e_2.length : Int) e_0 e_1 e_2) (ok_1, 0)).bind (un fun (ok_4 : Bool) => un fun (i_5 : Int) (t_6 : Bool) =>
         some [.bool ok_4]))
    else
     bif (e_0 : Int) == 7 then
      bif (e_0 : Int) == 7 then
       s_semigroupref04_shaped_1 C letters (e_2.length : Int) (((e_2.length : Int) : Int) == 1) ((e_0 : Int) == 3) e_0 e_1 e_2 (fun (ok_7 : Bool) =>
         (Loop (s_semigroupref04_shaped_2L C letters (e_2.length : Int) e_0 e_1 e_2) (ok_7, 0)).bind (un fun (ok_8 : Bool) => un fun (i_9 : Int) (t_10 : Bool) =>
           some [.bool ok_8]))
      else
       bif decide ((e_0 : Int) ≤ 8) then
        s_semigroupref04_shaped_1 C letters (e_2.length : Int) (decide (((e_2.length : Int) : Int) ≥ 2)) ((e_0 : Int) == 3) e_0 e_1 e_2 (fun (ok_11 : Bool) =>
          (Loop (s_semigroupref04_shaped_2L C letters (e_2.length : Int) e_0 e_1 e_2) (ok_11, 0)).bind (un fun (ok_12 : Bool) => un fun (i_13 : Int) (t_14 : Bool) =>
            some [.bool ok_12]))
       else
        s_semigroupref04_shaped_1 C letters (e_2.length : Int) false ((e_0 : Int) == 3) e_0 e_1 e_2 (fun (ok_15 : Bool) =>
          (Loop (s_semigroupref04_shaped_2L C letters (e_2.length : Int) e_0 e_1 e_2) (ok_15, 0)).bind (un fun (ok_16 : Bool) => un fun (i_17 : Int) (t_18 : Bool) =>
            some [.bool ok_16]))
     else
      bif (e_0 : Int) == 8 then
       s_semigroupref04_shaped_1 C letters (e_2.length : Int) (((e_2.length : Int) : Int) == 1) ((e_0 : Int) == 3) e_0 e_1 e_2 (fun (ok_19 : Bool) =>
         (Loop (s_semigroupref04_shaped_2L C letters (e_2.length : Int) e_0 e_1 e_2) (ok_19, 0)).bind (un fun (ok_20 : Bool) => un fun (i_21 : Int) (t_22 : Bool) =>
           some [.bool ok_20]))
      else
       bif decide ((e_0 : Int) ≤ 8) then
        s_semigroupref04_shaped_1 C letters (e_2.length : Int) (decide (((e_2.length : Int) : Int) ≥ 2)) ((e_0 : Int) == 3) e_0 e_1 e_2 (fun (ok_23 : Bool) =>
          (Loop (s_semigroupref04_shaped_2L C letters (e_2.length : Int) e_0 e_1 e_2) (ok_23, 0)).bind (un fun (ok_24 : Bool) => un fun (i_25 : Int) (t_26 : Bool) =>
            some [.bool ok_24]))
       else
        s_semigroupref04_shaped_1 C letters (e_2.length : Int) false ((e_0 : Int) == 3) e_0 e_1 e_2 (fun (ok_27 : Bool) =>
          (Loop (s_semigroupref04_shaped_2L C letters (e_2.length : Int) e_0 e_1 e_2) (ok_27, 0)).bind (un fun (ok_28 : Bool) => un fun (i_29 : Int) (t_30 : Bool) =>
            some [.bool ok_28]))
   else
    bif (e_0 : Int) == 2 then
     bif (e_0 : Int) == 2 then
      s_semigroupref04_shaped_1 C letters (e_2.length : Int) (((e_2.length : Int) : Int) == 0) ((e_0 : Int) == 3) e_0 e_1 e_2 (fun (ok_31 : Bool) =>
        (Loop (s_semigroupref04_shaped_2L C letters (e_2.length : Int) e_0 e_1 e_2) (ok_31, 0)).bind (un fun (ok_32 : Bool) => un fun (i_33 : Int) (t_34 : Bool) =>
          some [.bool ok_32]))
     else
      bif (e_0 : Int) == 7 then
       bif (e_0 : Int) == 7 then
        s_semigroupref04_shaped_1 C letters (e_2.length : Int) (((e_2.length : Int) : Int) == 1) ((e_0 : Int) == 3) e_0 e_1 e_2 (fun (ok_35 : Bool) =>
          (Loop (s_semigroupref04_shaped_2L C letters (e_2.length : Int) e_0 e_1 e_2) (ok_35, 0)).bind (un fun (ok_36 : Bool) => un fun (i_37 : Int) (t_38 : Bool) =>
            some [.bool ok_36]))
       else
        bif decide ((e_0 : Int) ≤ 8) then
         s_semigroupref04_shaped_1 C letters (e_2.length : Int) (decide (((e_2.length : Int) : Int) ≥ 2)) ((e_0 : Int) == 3) e_0 e_1 e_2 (fun (ok_39 : Bool) =>
           (Loop (s_semigroupref04_shaped_2L C letters (e_2.length : Int) e_0 e_1 e_2) (ok_39, 0)).bind (un fun (ok_40 : Bool) => un fun (i_41 : Int) (t_42 : Bool) =>
             some [.bool ok_40]))
        else
         s_semigroupref04_shaped_1 C letters (e_2.length : Int) false ((e_0 : Int) == 3) e_0 e_1 e_2 (fun (ok_43 : Bool) =>
           (Loop (s_semigroupref04_shaped_2L C letters (e_2.length : Int) e_0 e_1 e_2) (ok_43, 0)).bind (un fun (ok_44 : Bool) => un fun (i_45 : Int) (t_46 : Bool) =>
             some [.bool ok_44]))
      else
       bif (e_0 : Int) == 8 then
        s_semigroupref04_shaped_1 C letters (e_2.length : Int) (((e_2.length : Int) : Int) == 1) ((e_0 : Int) == 3) e_0 e_1 e_2 (fun (ok_47 : Bool) =>
          (Loop (s_semigroupref04_shaped_2L C letters (e_2.length : Int) e_0 e_1 e_2) (ok_47, 0)).bind (un fun (ok_48 : Bool) => un fun (i_49 : Int) (t_50 : Bool) =>
            some [.bool ok_48]))
       else
        bif decide ((e_0 : Int) ≤ 8) then
         s_semigroupref04_shaped_1 C letters (e_2.length : Int) (decide (((e_2.length : Int) : Int) ≥ 2)) ((e_0 : Int) == 3) e_0 e_1 e_2 (fun (ok_51 : Bool) =>
           (Loop (s_semigroupref04_shaped_2L C letters (e_2.length : Int) e_0 e_1 e_2) (ok_51, 0)).bind (un fun (ok_52 : Bool) => un fun (i_53 : Int) (t_54 : Bool) =>
             some [.bool ok_52]))
        else
         s_semigroupref04_shaped_1 C letters (e_2.length : Int) false ((e_0 : Int) == 3) e_0 e_1 e_2 (fun (ok_55 : Bool) =>
           (Loop (s_semigroupref04_shaped_2L C letters (e_2.length : Int) e_0 e_1 e_2) (ok_55, 0)).bind (un fun (ok_56 : Bool) => un fun (i_57 : Int) (t_58 : Bool) =>
             some [.bool ok_56]))
    else
     bif (e_0 : Int) == 3 then
      s_semigroupref04_shaped_1 C letters (e_2.length : Int) (((e_2.length : Int) : Int) == 0) ((e_0 : Int) == 3) e_0 e_1 e_2 (fun (ok_59 : Bool) =>
        (Loop (s_semigroupref04_shaped_2L C letters (e_2.length : Int) e_0 e_1 e_2) (ok_59, 0)).bind (un fun (ok_60 : Bool) => un fun (i_61 : Int) (t_62 : Bool) =>
          some [.bool ok_60]))
     else
      bif (e_0 : Int) == 7 then
       bif (e_0 : Int) == 7 then
        s_semigroupref04_shaped_1 C letters (e_2.length : Int) (((e_2.length : Int) : Int) == 1) ((e_0 : Int) == 3) e_0 e_1 e_2 (fun (ok_63 : Bool) =>
          (Loop (s_semigroupref04_shaped_2L C letters (e_2.length : Int) e_0 e_1 e_2) (ok_63, 0)).bind (un fun (ok_64 : Bool) => un fun (i_65 : Int) (t_66 : Bool) =>
            some [.bool ok_64]))
       else
        bif decide ((e_0 : Int) ≤ 8) then
         s_semigroupref04_shaped_1 C letters (e_2.length : Int) (decide (((e_2.length : Int) : Int) ≥ 2)) ((e_0 : Int) == 3) e_0 e_1 e_2 (fun (ok_67 : Bool) =>
           (Loop (s_semigroupref04_shaped_2L C letters (e_2.length : Int) e_0 e_1 e_2) (ok_67, 0)).bind (un fun (ok_68 : Bool) => un fun (i_69 : Int) (t_70 : Bool) =>
             some [.bool ok_68]))
        else
         s_semigroupref04_shaped_1 C letters (e_2.length : Int) false ((e_0 : Int) == 3) e_0 e_1 e_2 (fun (ok_71 : Bool) =>
           (Loop (s_semigroupref04_shaped_2L C letters (e_2.length : Int) e_0 e_1 e_2) (ok_71, 0)).bind (un fun (ok_72 : Bool) => un fun (i_73 : Int) (t_74 : Bool) =>
             some [.bool ok_72]))
      else
       bif (e_0 : Int) == 8 then
        s_semigroupref04_shaped_1 C letters (e_2.length : Int) (((e_2.length : Int) : Int) == 1) ((e_0 : Int) == 3) e_0 e_1 e_2 (fun (ok_75 : Bool) =>
          (Loop (s_semigroupref04_shaped_2L C letters (e_2.length : Int) e_0 e_1 e_2) (ok_75, 0)).bind (un fun (ok_76 : Bool) => un fun (i_77 : Int) (t_78 : Bool) =>
            some [.bool ok_76]))
       else
        bif decide ((e_0 : Int) ≤ 8) then
         s_semigroupref04_shaped_1 C letters (e_2.length : Int) (decide (((e_2.length : Int) : Int) ≥ 2)) ((e_0 : Int) == 3) e_0 e_1 e_2 (fun (ok_79 : Bool) =>
           (Loop (s_semigroupref04_shaped_2L C letters (e_2.length : Int) e_0 e_1 e_2) (ok_79, 0)).bind (un fun (ok_80 : Bool) => un fun (i_81 : Int) (t_82 : Bool) =>
             some [.bool ok_80]))
        else
         s_semigroupref04_shaped_1 C letters (e_2.length : Int) false ((e_0 : Int) == 3) e_0 e_1 e_2 (fun (ok_83 : Bool) =>
           (Loop (s_semigroupref04_shaped_2L C letters (e_2.length : Int) e_0 e_1 e_2) (ok_83, 0)).bind (un fun (ok_84 : Bool) => un fun (i_85 : Int) (t_86 : Bool) =>
             some [.bool ok_84]))
  else
   bif (e_0 : Int) == 1 then
    bif (e_0 : Int) == 1 then
     s_semigroupref04_shaped_1 C letters (e_2.length : Int) (((e_2.length : Int) : Int) == 0) ((e_0 : Int) == 3) e_0 e_1 e_2 (fun (ok_87 : Bool) =>
       (Loop (s_semigroupref04_shaped_2L C letters (e_2.length : Int) e_0 e_1 e_2) (ok_87, 0)).bind (un fun (ok_88 : Bool) => un fun (i_89 : Int) (t_90 : Bool) =>
         some [.bool ok_88]))
    else
     bif (e_0 : Int) == 7 then
      bif (e_0 : Int) == 7 then
       s_semigroupref04_shaped_1 C letters (e_2.length : Int) (((e_2.length : Int) : Int) == 1) ((e_0 : Int) == 3) e_0 e_1 e_2 (fun (ok_91 : Bool) =>
         (Loop (s_semigroupref04_shaped_2L C letters (e_2.length : Int) e_0 e_1 e_2) (ok_91, 0)).bind (un fun (ok_92 : Bool) => un fun (i_93 : Int) (t_94 : Bool) =>
           some [.bool ok_92]))
      else
       s_semigroupref04_shaped_1 C letters (e_2.length : Int) false ((e_0 : Int) == 3) e_0 e_1 e_2 (fun (ok_95 : Bool) =>
         (Loop (s_semigroupref04_shaped_2L C letters (e_2.length : Int) e_0 e_1 e_2) (ok_95, 0)).bind (un fun (ok_96 : Bool) => un fun (i_97 : Int) (t_98 : Bool) =>
           some [.bool ok_96]))
     else
      bif (e_0 : Int) == 8 then
       s_semigroupref04_shaped_1 C letters (e_2.length : Int) (((e_2.length : Int) : Int) == 1) ((e_0 : Int) == 3) e_0 e_1 e_2 (fun (ok_99 : Bool) =>
         (Loop (s_semigroupref04_shaped_2L C letters (e_2.length : Int) e_0 e_1 e_2) (ok_99, 0)).bind (un fun (ok_100 : Bool) => un fun (i_101 : Int) (t_102 : Bool) =>
           some [.bool ok_100]))
      else
       s_semigroupref04_shaped_1 C letters (e_2.length : Int) false ((e_0 : Int) == 3) e_0 e_1 e_2 (fun (ok_103 : Bool) =>
         (Loop (s_semigroupref04_shaped_2L C letters (e_2.length : Int) e_0 e_1 e_2) (ok_103, 0)).bind (un fun (ok_104 : Bool) => un fun (i_105 : Int) (t_106 : Bool) =>
           some [.bool ok_104]))
   else
    bif (e_0 : Int) == 2 then
     bif (e_0 : Int) == 2 then
      s_semigroupref04_shaped_1 C letters (e_2.length : Int) (((e_2.length : Int) : Int) == 0) ((e_0 : Int) == 3) e_0 e_1 e_2 (fun (ok_107 : Bool) =>
        (Loop (s_semigroupref04_shaped_2L C letters (e_2.length : Int) e_0 e_1 e_2) (ok_107, 0)).bind (un fun (ok_108 : Bool) => un fun (i_109 : Int) (t_110 : Bool) =>
          some [.bool ok_108]))
     else
      bif (e_0 : Int) == 7 then
       bif (e_0 : Int) == 7 then
        s_semigroupref04_shaped_1 C letters (e_2.length : Int) (((e_2.length : Int) : Int) == 1) ((e_0 : Int) == 3) e_0 e_1 e_2 (fun (ok_111 : Bool) =>
          (Loop (s_semigroupref04_shaped_2L C letters (e_2.length : Int) e_0 e_1 e_2) (ok_111, 0)).bind (un fun (ok_112 : Bool) => un fun (i_113 : Int) (t_114 : Bool) =>
            some [.bool ok_112]))
       else
        s_semigroupref04_shaped_1 C letters (e_2.length : Int) false ((e_0 : Int) == 3) e_0 e_1 e_2 (fun (ok_115 : Bool) =>
          (Loop (s_semigroupref04_shaped_2L C letters (e_2.length : Int) e_0 e_1 e_2) (ok_115, 0)).bind (un fun (ok_116 : Bool) => un fun (i_117 : Int) (t_118 : Bool) =>
            some [.bool ok_116]))
      else
       bif (e_0 : Int) == 8 then
        s_semigroupref04_shaped_1 C letters (e_2.length : Int) (((e_2.length : Int) : Int) == 1) ((e_0 : Int) == 3) e_0 e_1 e_2 (fun (ok_119 : Bool) =>
          (Loop (s_semigroupref04_shaped_2L C letters (e_2.length : Int) e_0 e_1 e_2) (ok_119, 0)).bind (un fun (ok_120 : Bool) => un fun (i_121 : Int) (t_122 : Bool) =>
            some [.bool ok_120]))
       else
        s_semigroupref04_shaped_1 C letters (e_2.length : Int) false ((e_0 : Int) == 3) e_0 e_1 e_2 (fun (ok_123 : Bool) =>
          (Loop (s_semigroupref04_shaped_2L C letters (e_2.length : Int) e_0 e_1 e_2) (ok_123, 0)).bind (un fun (ok_124 : Bool) => un fun (i_125 : Int) (t_126 : Bool) =>
            some [.bool ok_124]))
    else
     bif (e_0 : Int) == 3 then
      s_semigroupref04_shaped_1 C letters (e_2.length : Int) (((e_2.length : Int) : Int) == 0) ((e_0 : Int) == 3) e_0 e_1 e_2 (fun (ok_127 : Bool) =>
        (Loop (s_semigroupref04_shaped_2L C letters (e_2.length : Int) e_0 e_1 e_2) (ok_127, 0)).bind (un fun (ok_128 : Bool) => un fun (i_129 : Int) (t_130 : Bool) =>
          some [.bool ok_128]))
     else
      bif (e_0 : Int) == 7 then
       bif (e_0 : Int) == 7 then
        s_semigroupref04_shaped_1 C letters (e_2.length : Int) (((e_2.length : Int) : Int) == 1) ((e_0 : Int) == 3) e_0 e_1 e_2 (fun (ok_131 : Bool) =>
          (Loop (s_semigroupref04_shaped_2L C letters (e_2.length : Int) e_0 e_1 e_2) (ok_131, 0)).bind (un fun (ok_132 : Bool) => un fun (i_133 : Int) (t_134 : Bool) =>
            some [.bool ok_132]))
       else
        s_semigroupref04_shaped_1 C letters (e_2.length : Int) false ((e_0 : Int) == 3) e_0 e_1 e_2 (fun (ok_135 : Bool) =>
          (Loop (s_semigroupref04_shaped_2L C letters (e_2.length : Int) e_0 e_1 e_2) (ok_135, 0)).bind (un fun (ok_136 : Bool) => un fun (i_137 : Int) (t_138 : Bool) =>
            some [.bool ok_136]))
      else
       bif (e_0 : Int) == 8 then
        s_semigroupref04_shaped_1 C letters (e_2.length : Int) (((e_2.length : Int) : Int) == 1) ((e_0 : Int) == 3) e_0 e_1 e_2 (fun (ok_139 : Bool) =>
          (Loop (s_semigroupref04_shaped_2L C letters (e_2.length : Int) e_0 e_1 e_2) (ok_139, 0)).bind (un fun (ok_140 : Bool) => un fun (i_141 : Int) (t_142 : Bool) =>
            some [.bool ok_140]))
       else
        s_semigroupref04_shaped_1 C letters (e_2.length : Int) false ((e_0 : Int) == 3) e_0 e_1 e_2 (fun (ok_143 : Bool) =>
          (Loop (s_semigroupref04_shaped_2L C letters (e_2.length : Int) e_0 e_1 e_2) (ok_143, 0)).bind (un fun (ok_144 : Bool) => un fun (i_145 : Int) (t_146 : Bool) =>
            some [.bool ok_144]))
theorem f_semigroupref04_shaped_eq (C : CallF) (e_0 e_1 : Int) (e_2 : List V) (letters : Int) : bodyT Try.prog ann C (LT_semigroupref04_shaped C) 38 [.int .i64 e_0, .int .i64 e_1, .list T_api_Expr e_2, .int .i64 letters] = f_semigroupref04_shaped C e_0 e_1 e_2 letters := by kernel_rfl
theorem f_semigroupref04_shaped_of {e_0 e_1 : Int} {e_2 : List V} {letters : Int} {r : Option (List V)} (h : f_semigroupref04_shaped CC e_0 e_1 e_2 letters = r) : CC F_semigroupref04_shaped [.int .i64 e_0, .int .i64 e_1, .list T_api_Expr e_2, .int .i64 letters] = r :=
  func_of (key := 38) (L := LT_semigroupref04_shaped CC) (bs := [.cond 39 (codeAt [1, 1, 1, 1, 0, 1, 0] B_semigroupref04_shaped) (codeAt [1, 1, 1, 1, 0, 1, 1] B_semigroupref04_shaped), .loop (codeAt [1, 1, 1, 1, 1, 0, 1, 0, 0] B_semigroupref04_shaped)]) (by kernel_rfl) (tells_cons (t_semigroupref04_shaped_1 CC) (tells_cons (t_semigroupref04_shaped_2 CC) tells_nil)) ((f_semigroupref04_shaped_eq CC e_0 e_1 e_2 letters).trans h)
end Go.AM

set_option maxRecDepth 100000
namespace Go.AM
open Go.Proofs
noncomputable abbrev B_semigroupref01_MayLetters : Code := bodyOf Try.prog (ann.fid 36)
noncomputable def LT_semigroupref01_MayLetters (C : CallF) : LTab := fun β n ds k =>
  none
noncomputable def f_semigroupref01_MayLetters (C : CallF) (letters : Int) : Option (List V) :=
  bif decide ((letters : Int) ≥ 1) then
   some [.bool (decide ((letters : Int) ≤ 6))]
  else
   some [.bool false]
theorem f_semigroupref01_MayLetters_eq (C : CallF) (letters : Int) : bodyT Try.prog ann C (LT_semigroupref01_MayLetters C) 36 [.int .i64 letters] = f_semigroupref01_MayLetters C letters := by kernel_rfl
theorem f_semigroupref01_MayLetters_of {letters : Int} {r : Option (List V)} (h : f_semigroupref01_MayLetters CC letters = r) : CC F_semigroupref01_MayLetters [.int .i64 letters] = r :=
  func_of (key := 36) (L := LT_semigroupref01_MayLetters CC) (bs := []) (by kernel_rfl) tells_nil ((f_semigroupref01_MayLetters_eq CC letters).trans h)
end Go.AM

set_option maxRecDepth 100000
set_option linter.unusedSimpArgs false
namespace Go.AM
open Go.Proofs Ex
theorem idx_kid (pre suf : List Ex) (k : Ex) : idx ((pre ++ k :: suf).map enc) (pre.length : Int) = some k.enc := by
  rw [idx_nat]; simp
theorem enc_0 (k : Ex) : (k.enc.cell 0).toInt = k.op := by rw [enc_eq]; simp
theorem enc_1 (k : Ex) : (k.enc.cell 1).toInt = k.letter := by rw [enc_eq]; simp
theorem enc_2 (k : Ex) : (k.enc.cell 2).toList = k.kids.map enc := by rw [enc_eq]; simp
theorem maxLen_le : maxLen ≤ 9223372036854775807 := by unfold maxLen; omega
/-! fits -/
theorem fits_loop {ks : List Ex} (hlen : ks.length ≤ maxLen) {d : Int} (hd : 0 ≤ d ∧ d ≤ 1000) (ih : ∀ k ∈ ks, ∀ d l : Int, 0 ≤ d → d ≤ 1000 → 0 ≤ l → l ≤ 1000 → ∃ l', CC F_expr_fits (exA k [.int .i64 d, .int .i64 l]) = some [.bool (decide ((k.depth : Int) ≤ d ∧ (k.size : Int) ≤ l)), .int .i64 l'] ∧ 0 ≤ l' ∧ l' ≤ l ∧ (((k.depth : Int) ≤ d ∧ (k.size : Int) ≤ l) → l' = l - k.size)) :
    ∀ (suf pre : List Ex) (l : Int), ks = pre ++ suf → 0 ≤ l → l ≤ 1000 → 1 ≤ d →
    (∃ l' : Int, Loop (s_expr_fits_1L CC d (ks.map enc) ((ks.map enc).length : Int)) (((pre.length : Nat) : Int), l) = some (.inl (false, l')) ∧ ¬ ((depths suf : Int) ≤ d - 1 ∧ (sizes suf : Int) ≤ l) ∧ 0 ≤ l' ∧ l' ≤ l) ∨
    (∃ i b, Loop (s_expr_fits_1L CC d (ks.map enc) ((ks.map enc).length : Int)) (((pre.length : Nat) : Int), l) = some (.inr (i, b, l - sizes suf)) ∧ ((depths suf : Int) ≤ d - 1 ∧ (sizes suf : Int) ≤ l)) := by
  intro suf
  induction suf with
  | nil =>
    intro pre l hks h0 h1 hd1
    subst hks
    refine .inr ⟨((pre.length : Nat) : Int), false, ?_, ?_⟩
    · have hz : l - ((sizes ([] : List Ex) : Nat) : Int) = l := by simp only [sizes]; omega
      rw [hz]
      refine Loop_end ?_
      simp only [s_expr_fits_1L, s_expr_fits_1, un, List.append_nil, List.length_map, bif_decide]
      rw [if_neg (by omega)]
      simp
    · simp only [depths, sizes]; omega
  | cons k suf ihs =>
    intro pre l hks h0 h1 hd1
    obtain ⟨l', e1, e2, e3, e4⟩ := ih k (by rw [hks]; simp) (d - 1) l (by omega) (by omega) h0 h1
    have hpl : pre.length < ks.length := by rw [hks]; simp
    have := maxLen_le
    have hix : idx (ks.map enc) (pre.length : Int) = some k.enc := by rw [hks]; exact idx_kid _ _ _
    by_cases hk : (k.depth : Int) ≤ d - 1 ∧ (k.size : Int) ≤ l
    · have hstep : s_expr_fits_1L CC d (ks.map enc) ((ks.map enc).length : Int) (((pre.length : Nat) : Int), l) = some (.inl ((((pre ++ [k]).length : Nat) : Int), l')) := by
        simp only [s_expr_fits_1L, s_expr_fits_1, un, List.length_map, bif_decide]
        rw [if_pos (by omega), hix]
        simp only [Option.bind_some, enc_0, enc_1, enc_2]
        rw [wrap64 (by omega) (by omega), e1]
        simp only [Option.bind_some, V.nth_zero, V.toBool_bool, decide_eq_true hk, Bool.not_true, cond_false, List.drop_succ_cons, List.drop_zero, V.toInt_int]
        rw [wrap64 (by omega) (by omega)]
        simp
      rw [Loop_norm hstep]
      have e5 := e4 hk
      rcases ihs (pre ++ [k]) l' (by rw [hks]; simp) e2 (by omega) hd1 with ⟨l2, q1, q2, q3, q4⟩ | ⟨i, b, q1, q2⟩
      · refine .inl ⟨l2, q1, ?_, q3, by omega⟩
        simp only [depths, sizes]; omega
      · refine .inr ⟨i, b, q1.trans ?_, ?_⟩
        · simp only [sizes]
          congr 4
          omega
        · simp only [depths, sizes]; omega
    · refine .inl ⟨l', Loop_end ?_, ?_, e2, e3⟩
      · simp only [s_expr_fits_1L, s_expr_fits_1, un, List.length_map, bif_decide]
        rw [if_pos (by omega), hix]
        simp only [Option.bind_some, enc_0, enc_1, enc_2]
        rw [wrap64 (by omega) (by omega), e1]
        simp only [Option.bind_some, V.nth_zero, V.toBool_bool, decide_eq_false hk, Bool.not_false, cond_true, List.drop_succ_cons, List.drop_zero, V.toInt_int]
      · simp only [depths, sizes]; omega
theorem fits_spec : ∀ e : Ex, e.Ok → ∀ d l : Int, 0 ≤ d → d ≤ 1000 → 0 ≤ l → l ≤ 1000 →
    ∃ l', CC F_expr_fits (exA e [.int .i64 d, .int .i64 l]) = some [.bool (decide ((e.depth : Int) ≤ d ∧ (e.size : Int) ≤ l)), .int .i64 l'] ∧ 0 ≤ l' ∧ l' ≤ l ∧ (((e.depth : Int) ≤ d ∧ (e.size : Int) ≤ l) → l' = l - e.size) :=
  ind fun o lt ks ih hok d l h1 h2 h3 h4 => by
    have ih' : ∀ k ∈ ks, _ := fun k hk => ih k hk (hok.kid k hk)
    have hs : ∀ e : Ex, e = .node o lt ks → e.size = 1 + sizes ks ∧ e.depth = 1 + depths ks := by rintro e rfl; constructor <;> simp only [size, depth]
    obtain ⟨s1, s2⟩ := hs _ rfl
    by_cases hd : d = 0
    · have hn : ¬ (((Ex.node o lt ks).depth : Int) ≤ d ∧ ((Ex.node o lt ks).size : Int) ≤ l) := by omega
      refine ⟨l, f_expr_fits_of ?_, h3, Int.le_refl _, fun h => absurd h hn⟩
      simp only [f_expr_fits, bif_beq, if_pos hd, decide_eq_false hn]
    · by_cases hl : l = 0
      · have hn : ¬ (((Ex.node o lt ks).depth : Int) ≤ d ∧ ((Ex.node o lt ks).size : Int) ≤ l) := by omega
        refine ⟨l, f_expr_fits_of ?_, h3, Int.le_refl _, fun h => absurd h hn⟩
        simp only [f_expr_fits, bif_beq, if_neg hd, if_pos hl, decide_eq_false hn]
      · rcases fits_loop hok.len ⟨h1, h2⟩ ih' ks [] (l - 1) rfl (by omega) (by omega) (by omega) with ⟨l', q1, q2, q3, q4⟩ | ⟨i, b, q1, q2⟩
        · have hn : ¬ (((Ex.node o lt ks).depth : Int) ≤ d ∧ ((Ex.node o lt ks).size : Int) ≤ l) := by omega
          refine ⟨l', f_expr_fits_of ?_, q3, by omega, fun h => absurd h hn⟩
          simp only [f_expr_fits, bif_beq, if_neg hd, if_neg hl, decide_eq_false hn, Ex.kids]
          rw [wrap64 (by omega) (by omega)]
          simp only [List.length_nil, Int.ofNat_zero, Int.natCast_zero] at q1
          erw [q1]
          rfl
        · have hn : (((Ex.node o lt ks).depth : Int) ≤ d ∧ ((Ex.node o lt ks).size : Int) ≤ l) := by omega
          refine ⟨l - 1 - sizes ks, f_expr_fits_of ?_, by omega, by omega, fun _ => by omega⟩
          simp only [f_expr_fits, bif_beq, if_neg hd, if_neg hl, decide_eq_true hn, Ex.kids]
          rw [wrap64 (by omega) (by omega)]
          simp only [List.length_nil, Int.ofNat_zero, Int.natCast_zero] at q1
          erw [q1]
          rfl
theorem withinLimits_spec (e : Ex) (h : e.Ok) : CC F_expr_withinLimits (exA e []) = some [.bool (decide (e.depth ≤ 40 ∧ e.size ≤ 400))] := by
  obtain ⟨l', e1, _⟩ := fits_spec e h 40 400 (by omega) (by omega) (by omega) (by omega)
  refine f_expr_withinLimits_of ?_
  simp only [f_expr_withinLimits]
  rw [e1]
  simp only [Option.bind_some, V.nth_zero, V.toBool_bool]
  congr 3
  rw [decide_eq_decide]
  omega
/-! measure -/
theorem measure_loop {ks : List Ex} (hlen : ks.length ≤ maxLen) {a b most : Int} (hm : 1 ≤ most ∧ most ≤ 1000) (ih : ∀ k ∈ ks, ∃ d, CC F_semigroupref04_measure (exA k [.int .i64 most]) = some [.int .i64 (min (k.size : Int) (most + 1)), .int .i64 d] ∧ ((k.size : Int) ≤ most → d = k.depth)) :
    ∀ (suf pre : List Ex) (n deep : Int), ks = pre ++ suf → 1 ≤ n → n ≤ most + 1 → 0 ≤ deep →
    ∃ deep' i b', Loop (s_semigroupref04_measure_1L CC most a b (ks.map enc)) (n, deep, ((pre.length : Nat) : Int)) = some (min (n + (sizes suf : Int)) (most + 1), deep', i, b') ∧ (n + (sizes suf : Int) ≤ most → deep' = max deep (depths suf)) := by
  intro suf
  induction suf with
  | nil =>
    intro pre n deep hks h0 h1 hdp
    subst hks
    refine ⟨deep, ((pre.length : Nat) : Int), false, ?_, fun _ => ?_⟩
    · have hz : min (n + ((sizes ([] : List Ex) : Nat) : Int)) (most + 1) = n := by simp only [sizes]; omega
      rw [hz]
      refine Loop_end ?_
      simp only [s_semigroupref04_measure_1L, s_semigroupref04_measure_1, un, List.append_nil, List.length_map, bif_decide]
      rw [if_neg (by omega)]
    · simp only [depths]; omega
  | cons k suf ihs =>
    intro pre n deep hks h0 h1 hdp
    have hpl : pre.length < ks.length := by rw [hks]; simp
    have := maxLen_le
    have hix : idx (ks.map enc) (pre.length : Int) = some k.enc := by rw [hks]; exact idx_kid _ _ _
    have hkp := size_pos k
    by_cases hn : n ≤ most
    · obtain ⟨d, e1, e2⟩ := ih k (by rw [hks]; simp)
      have hstep : ∃ dd, s_semigroupref04_measure_1L CC most a b (ks.map enc) (n, deep, ((pre.length : Nat) : Int)) = some (.inl (min (n + (k.size : Int)) (most + 1), dd, (((pre ++ [k]).length : Nat) : Int))) ∧ dd = max deep d := by
        refine ⟨max deep d, ?_, rfl⟩
        simp only [s_semigroupref04_measure_1L, s_semigroupref04_measure_1, un, List.length_map, bif_decide]
        rw [if_pos (by omega), if_pos hn, hix]
        simp only [Option.bind_some, enc_0, enc_1, enc_2]
        rw [e1]
        simp only [Option.bind_some, V.nth_zero, List.drop_succ_cons, List.drop_zero, V.toInt_int]
        rw [wrap64 (by omega) (by omega), wrap64 (by omega) (by omega), wrap64 (by omega) (by omega)]
        have r1 : (if most + 1 < n + min (k.size : Int) (most + 1) then most + 1 else n + min (k.size : Int) (most + 1)) = min (n + (k.size : Int)) (most + 1) := by split <;> omega
        have r2 : (if d > deep then d else deep) = max deep d := by split <;> omega
        rw [r1, r2]
        simp
      obtain ⟨dd, hs1, rfl⟩ := hstep
      rw [Loop_norm hs1]
      obtain ⟨deep', i, b', q1, q2⟩ := ihs (pre ++ [k]) (min (n + (k.size : Int)) (most + 1)) (max deep d) (by rw [hks]; simp) (by omega) (by omega) (by omega)
      refine ⟨deep', i, b', q1.trans ?_, fun h => ?_⟩
      · simp only [sizes]
        congr 2
        omega
      · simp only [sizes] at h
        rw [q2 (by omega), e2 (by omega)]
        simp only [depths]
        omega
    · refine ⟨deep, ((pre.length : Nat) : Int), false, ?_, fun h => ?_⟩
      · have hz : min (n + ((sizes (k :: suf) : Nat) : Int)) (most + 1) = n := by simp only [sizes]; omega
        rw [hz]
        refine Loop_end ?_
        simp only [s_semigroupref04_measure_1L, s_semigroupref04_measure_1, un, List.length_map, bif_decide]
        rw [if_pos (by omega), if_neg hn]
        simp [hn]
      · omega
theorem measure_spec : ∀ e : Ex, e.Ok → ∀ most : Int, 1 ≤ most → most ≤ 1000 → ∃ d, CC F_semigroupref04_measure (exA e [.int .i64 most]) = some [.int .i64 (min (e.size : Int) (most + 1)), .int .i64 d] ∧ ((e.size : Int) ≤ most → d = e.depth) :=
  ind fun o lt ks ih hok most h1 h2 => by
    obtain ⟨deep', i, b', q1, q2⟩ := measure_loop (a := o) (b := lt) hok.len ⟨h1, h2⟩ (fun k hk => ih k hk (hok.kid k hk) most h1 h2) ks [] 1 0 rfl (by omega) (by omega) (by omega)
    have s1 : (Ex.node o lt ks).size = 1 + sizes ks := by simp only [size]
    have s2 : (Ex.node o lt ks).depth = 1 + depths ks := by simp only [depth]
    have s3 := depth_le_size (.node o lt ks)
    refine ⟨IntKind.wrap .i64 (deep' + 1), f_semigroupref04_measure_of ?_, fun h => ?_⟩
    · simp only [f_semigroupref04_measure, Ex.kids, Ex.op, Ex.letter]
      simp only [List.length_nil, Int.ofNat_zero, Int.natCast_zero] at q1
      erw [q1]
      simp only [Option.bind_some, un]
      rw [show (1 : Int) + (sizes ks : Int) = ((Ex.node o lt ks).size : Int) by omega]
    · rw [q2 (by omega), wrap64 (by omega) (by omega)]
      omega
/-! wellFormed and shaped -/
def shapeOk (o l len letters : Int) : Bool :=
  if o = 3 then decide (len = 0 ∧ 0 ≤ l ∧ l < letters)
  else decide (l = 0) && (if o = 1 ∨ o = 2 then decide (len = 0) else if o = 7 ∨ o = 8 then decide (len = 1) else decide (4 ≤ o ∧ o ≤ 6 ∧ 2 ≤ len))
mutual
def Ex.wf (letters : Int) : Ex → Bool
  | .node o l ks => shapeOk o l ks.length letters && wfs letters ks
def Ex.wfs (letters : Int) : List Ex → Bool
  | [] => true
  | k :: ks => Ex.wf letters k && wfs letters ks
end
theorem wf_loop {ks : List Ex} (hlen : ks.length ≤ maxLen) {letters : Int} (ih : ∀ k ∈ ks, CC F_expr_wellFormed (exA k [.int .i64 letters]) = some [.bool (k.wf letters)]) :
    ∀ (suf pre : List Ex), ks = pre ++ suf →
    (Loop (s_expr_wellFormed_1L CC letters (ks.map enc) ((ks.map enc).length : Int)) ((pre.length : Nat) : Int) = some (.inl false) ∧ wfs letters suf = false) ∨
    (∃ i b, Loop (s_expr_wellFormed_1L CC letters (ks.map enc) ((ks.map enc).length : Int)) ((pre.length : Nat) : Int) = some (.inr (i, b)) ∧ wfs letters suf = true) := by
  intro suf
  induction suf with
  | nil =>
    intro pre hks
    subst hks
    refine .inr ⟨((pre.length : Nat) : Int), false, Loop_end ?_, by simp only [wfs]⟩
    simp only [s_expr_wellFormed_1L, s_expr_wellFormed_1, List.append_nil, List.length_map, bif_decide]
    rw [if_neg (by omega)]
    simp
  | cons k suf ihs =>
    intro pre hks
    have hpl : pre.length < ks.length := by rw [hks]; simp
    have := maxLen_le
    have hix : idx (ks.map enc) (pre.length : Int) = some k.enc := by rw [hks]; exact idx_kid _ _ _
    have e1 := ih k (by rw [hks]; simp)
    cases hw : k.wf letters with
    | true =>
      have hstep : s_expr_wellFormed_1L CC letters (ks.map enc) ((ks.map enc).length : Int) ((pre.length : Nat) : Int) = some (.inl (((pre ++ [k]).length : Nat) : Int)) := by
        simp only [s_expr_wellFormed_1L, s_expr_wellFormed_1, List.length_map, bif_decide]
        rw [if_pos (by omega), hix]
        simp only [Option.bind_some, enc_0, enc_1, enc_2]
        rw [e1, hw]
        simp only [Option.bind_some, V.nth_zero, V.toBool_bool, Bool.not_true, cond_false]
        rw [wrap64 (by omega) (by omega)]
        simp
      rw [Loop_norm hstep]
      simp only [wfs, hw, Bool.true_and]
      exact ihs (pre ++ [k]) (by rw [hks]; simp)
    | false =>
      refine .inl ⟨Loop_end ?_, by simp only [wfs, hw, Bool.false_and]⟩
      simp only [s_expr_wellFormed_1L, s_expr_wellFormed_1, List.length_map, bif_decide]
      rw [if_pos (by omega), hix]
      simp only [Option.bind_some, enc_0, enc_1, enc_2]
      rw [e1, hw]
      simp only [Option.bind_some, V.nth_zero, V.toBool_bool, Bool.not_false, cond_true]
theorem op_cases (o : Int) : o = 1 ∨ o = 2 ∨ o = 3 ∨ o = 4 ∨ o = 5 ∨ o = 6 ∨ o = 7 ∨ o = 8 ∨ (o < 1 ∨ 8 < o) := by omega
theorem wellFormed_spec {letters : Int} : ∀ e : Ex, e.Ok → CC F_expr_wellFormed (exA e [.int .i64 letters]) = some [.bool (e.wf letters)] :=
  ind fun o lt ks ih hok => by
    refine f_expr_wellFormed_of ?_
    have hlen : ((ks.map enc).length : Int) = (ks.length : Int) := by simp
    have hl := wf_loop hok.len (fun k hk => ih k hk (hok.kid k hk)) ks [] rfl
    simp only [List.length_nil, Int.natCast_zero, Int.ofNat_zero] at hl
    have hall : (Loop (s_expr_wellFormed_1L CC letters (ks.map enc) ((ks.map enc).length : Int)) 0).bind (way2 (fun (t : Bool) => some [V.bool t]) (un fun (_ : Int) (_ : Bool) => some [V.bool true])) = some [.bool (wfs letters ks)] := by
      rcases hl with ⟨h1, h2⟩ | ⟨i, b, h1, h2⟩
      · erw [h1]; rw [h2]; rfl
      · erw [h1]; rw [h2]; rfl
    simp only [Ex.op, Ex.letter, Ex.kids]
    unfold f_expr_wellFormed
    rw [hall, hlen]
    simp only [Ex.wf, shapeOk]
    have hk0 : ks.length = 0 → wfs letters ks = true := fun h => by rw [List.eq_nil_of_length_eq_zero h]; simp only [wfs]
    rcases op_cases o with rfl | rfl | rfl | rfl | rfl | rfl | rfl | rfl | ho
    case inr.inr.inr.inr.inr.inr.inr.inr =>
      have n1 : o ≠ 1 := by omega
      have n2 : o ≠ 2 := by omega
      have n3 : o ≠ 3 := by omega
      have n4 : o ≠ 4 := by omega
      have n5 : o ≠ 5 := by omega
      have n6 : o ≠ 6 := by omega
      have n7 : o ≠ 7 := by omega
      have n8 : o ≠ 8 := by omega
      have n9 : ¬ (4 ≤ o ∧ o ≤ 6 ∧ 2 ≤ (ks.length : Int)) := by omega
      by_cases hlt : lt = 0 <;> simp [n1, n2, n3, n4, n5, n6, n7, n8, n9, hlt]
    all_goals by_cases hlt : lt = 0 <;> by_cases h0 : ks.length = 0 <;> by_cases h1 : ks.length = 1 <;> simp [hlt, h0, h1, hk0]
    all_goals (try omega)
    all_goals (try (split <;> simp_all <;> omega))
theorem shaped1 {C : CallF} {letters k o lt : Int} {ok t : Bool} {es : List V} {β : Type} (kr : Bool → Option β) : s_semigroupref04_shaped_1 C letters k ok t o lt es kr = kr (ok && (bif t then decide (0 ≤ lt ∧ lt < letters) else decide (lt = 0))) := by
  unfold s_semigroupref04_shaped_1
  have hb : (lt == 0) = decide (lt = 0) := by rw [Bool.eq_iff_iff]; simp
  rw [hb]
  cases t <;> cases ok <;> first | rfl | skip
  by_cases h : 0 ≤ lt <;> simp [h]
theorem shaped_loop {ks : List Ex} (hlen : ks.length ≤ maxLen) {letters o lt : Int} (ih : ∀ k ∈ ks, CC F_semigroupref04_shaped (exA k [.int .i64 letters]) = some [.bool (k.wf letters)]) :
    ∀ (suf pre : List Ex) (ok : Bool), ks = pre ++ suf →
    ∃ i b, Loop (s_semigroupref04_shaped_2L CC letters (ks.length : Int) o lt (ks.map enc)) (ok, ((pre.length : Nat) : Int)) = some (ok && wfs letters suf, i, b) := by
  intro suf
  induction suf with
  | nil =>
    intro pre ok hks
    subst hks
    refine ⟨((pre.length : Nat) : Int), false, Loop_end ?_⟩
    simp only [s_semigroupref04_shaped_2L, s_semigroupref04_shaped_2, un, List.append_nil, bif_decide]
    rw [if_neg (by omega)]
    simp [wfs]
  | cons k suf ihs =>
    intro pre ok hks
    have hpl : pre.length < ks.length := by rw [hks]; simp
    have := maxLen_le
    have hix : idx (ks.map enc) (pre.length : Int) = some k.enc := by rw [hks]; exact idx_kid _ _ _
    have e1 := ih k (by rw [hks]; simp)
    cases ok with
    | true =>
      have hstep : s_semigroupref04_shaped_2L CC letters (ks.length : Int) o lt (ks.map enc) (true, ((pre.length : Nat) : Int)) = some (.inl (k.wf letters, (((pre ++ [k]).length : Nat) : Int))) := by
        simp only [s_semigroupref04_shaped_2L, s_semigroupref04_shaped_2, un, bif_decide, cond_true]
        rw [if_pos (by omega), hix]
        simp only [Option.bind_some, enc_0, enc_1, enc_2]
        rw [e1]
        simp only [Option.bind_some, V.nth_zero, V.toBool_bool]
        rw [wrap64 (by omega) (by omega)]
        simp
      rw [Loop_norm hstep]
      simp only [wfs, Bool.true_and]
      exact ihs (pre ++ [k]) _ (by rw [hks]; simp)
    | false =>
      refine ⟨((pre.length : Nat) : Int), false, Loop_end ?_⟩
      simp only [s_semigroupref04_shaped_2L, s_semigroupref04_shaped_2, un, bif_decide, cond_false]
      rw [if_pos (by omega)]
      simp
theorem shaped_spec {letters : Int} : ∀ e : Ex, e.Ok → CC F_semigroupref04_shaped (exA e [.int .i64 letters]) = some [.bool (e.wf letters)] :=
  ind fun o lt ks ih hok => by
    refine f_semigroupref04_shaped_of ?_
    have hlen : ((ks.map enc).length : Int) = (ks.length : Int) := by simp
    have hall : ∀ ok : Bool, (Loop (s_semigroupref04_shaped_2L CC letters (ks.length : Int) o lt (ks.map enc)) (ok, 0)).bind (un fun (ok : Bool) => un fun (_ : Int) (_ : Bool) => some [V.bool ok]) = some [.bool (ok && wfs letters ks)] := by
      intro ok
      obtain ⟨i, b, h⟩ := shaped_loop hok.len (o := o) (lt := lt) (fun k hk => ih k hk (hok.kid k hk)) ks [] ok rfl
      simp only [List.length_nil, Int.natCast_zero, Int.ofNat_zero] at h
      erw [h]; rfl
    simp only [Ex.op, Ex.letter, Ex.kids]
    unfold f_semigroupref04_shaped
    simp only [shaped1, hlen, hall]
    simp only [Ex.wf, shapeOk]
    have hk0 : ks.length = 0 → wfs letters ks = true := fun h => by rw [List.eq_nil_of_length_eq_zero h]; simp only [wfs]
    rcases op_cases o with rfl | rfl | rfl | rfl | rfl | rfl | rfl | rfl | ho
    case inr.inr.inr.inr.inr.inr.inr.inr =>
      have n1 : o ≠ 1 := by omega
      have n2 : o ≠ 2 := by omega
      have n3 : o ≠ 3 := by omega
      have n4 : o ≠ 4 := by omega
      have n5 : o ≠ 5 := by omega
      have n6 : o ≠ 6 := by omega
      have n7 : o ≠ 7 := by omega
      have n8 : o ≠ 8 := by omega
      have n9 : ¬ (4 ≤ o ∧ o ≤ 6 ∧ 2 ≤ (ks.length : Int)) := by omega
      by_cases h1 : 1 ≤ o
      · have h2 : ¬ o ≤ 8 := by omega
        simp [n1, n2, n3, n4, n5, n6, n7, n8, n9, h1, h2]
      · simp [n1, n2, n3, n4, n5, n6, n7, n8, n9, h1]
    all_goals by_cases hlt : lt = 0 <;> by_cases h0 : ks.length = 0 <;> by_cases h1 : ks.length = 1 <;> simp [hlt, h0, h1, hk0]
    all_goals (try omega)
    all_goals (try (split <;> simp_all <;> omega))
    all_goals (try (by_cases h5 : 2 ≤ ks.length <;> simp [h5]))
    all_goals (rw [show ((ks.length : Int) == 1) = decide ((ks.length : Int) = 1) from by rw [Bool.eq_iff_iff]; simp])
/-! Validate -/
theorem mayLetters_spec (letters : Int) : CC F_semigroupref01_MayLetters [.int .i64 letters] = some [.bool (decide (1 ≤ letters ∧ letters ≤ 6))] := by
  refine f_semigroupref01_MayLetters_of ?_
  unfold f_semigroupref01_MayLetters
  by_cases h1 : 1 ≤ letters <;> by_cases h2 : letters ≤ 6 <;> simp [h1, h2]
theorem within_spec (e : Ex) (h : e.Ok) : CC F_semigroupref04_Within (exA e []) = some [.bool (decide (e.depth ≤ 40 ∧ e.size ≤ 400))] := by
  obtain ⟨d, e1, e2⟩ := measure_spec e h 400 (by omega) (by omega)
  refine f_semigroupref04_Within_of ?_
  unfold f_semigroupref04_Within
  rw [e1]
  simp only [Option.bind_some, V.nth_zero, V.toInt_int, bif_decide, List.drop_succ_cons, List.drop_zero]
  by_cases hs : e.size ≤ 400
  · rw [if_pos (by omega), e2 (by omega)]
    congr 3
    rw [decide_eq_decide]
    omega
  · rw [if_neg (by omega)]
    congr 3
    simp [hs]
/-- What Validate answers. -/
def Ex.val (e : Ex) (letters : Int) : Int :=
  if 1 ≤ letters ∧ letters ≤ 6 then (if e.depth ≤ 40 ∧ e.size ≤ 400 then (if e.wf letters = true then 0 else 4) else 3) else 1
theorem Validate_spec (e : Ex) (h : e.Ok) (letters : Int) : CC F_expr_Validate (exA e [.int .i64 letters]) = some [.int .i64 (e.val letters)] := by
  refine f_expr_Validate_of ?_
  unfold f_expr_Validate Ex.val
  rw [withinLimits_spec e h, wellFormed_spec e h]
  by_cases h1 : 1 ≤ letters
  · by_cases h2 : letters ≤ 6
    · by_cases h3 : e.depth ≤ 40 ∧ e.size ≤ 400
      · cases h4 : e.wf letters <;> simp [h1, h2, h3, show ¬ letters < 1 by omega, show ¬ 6 < letters by omega]
      · simp [h1, h2, h3, show ¬ letters < 1 by omega, show ¬ 6 < letters by omega]
    · simp [h1, h2, show ¬ letters < 1 by omega, show 6 < letters by omega]
  · simp [h1, show letters < 1 by omega]
theorem refValidate_spec (e : Ex) (h : e.Ok) (letters : Int) : CC F_semigroupref04_Validate (exA e [.int .i64 letters]) = some [.int .i64 (e.val letters)] := by
  refine f_semigroupref04_Validate_of ?_
  unfold f_semigroupref04_Validate Ex.val
  rw [within_spec e h, shaped_spec e h, mayLetters_spec]
  by_cases h1 : 1 ≤ letters ∧ letters ≤ 6
  · by_cases h3 : e.depth ≤ 40 ∧ e.size ≤ 400
    · cases h4 : e.wf letters <;> simp [h1, h3]
    · simp [h1, h3]
  · simp [h1]
end Go.AM

set_option maxRecDepth 100000
namespace Go.AM
open Go.Proofs
noncomputable abbrev B_expr_Size : Code := bodyOf Try.prog (ann.fid 21)
noncomputable def LT_expr_Size (C : CallF) : LTab := fun β n ds k =>
  none
noncomputable def f_expr_Size (C : CallF) (e_0 e_1 : Int) (e_2 : List V) : Option (List V) :=
  (C F_expr_valid [.int .i64 e_0, .int .i64 e_1, .list T_api_Expr e_2]).bind fun r1 =>
  bif !((V.nth r1 0).toBool) then
   some [.int .i64 0]
  else
   (C F_expr_size [.int .i64 e_0, .int .i64 e_1, .list T_api_Expr e_2]).bind fun r2 =>
   some [.int .i64 ((V.nth r2 0).toInt)]
theorem f_expr_Size_eq (C : CallF) (e_0 e_1 : Int) (e_2 : List V) : bodyT Try.prog ann C (LT_expr_Size C) 21 [.int .i64 e_0, .int .i64 e_1, .list T_api_Expr e_2] = f_expr_Size C e_0 e_1 e_2 := by kernel_rfl
theorem f_expr_Size_of {e_0 e_1 : Int} {e_2 : List V} {r : Option (List V)} (h : f_expr_Size CC e_0 e_1 e_2 = r) : CC F_expr_Size [.int .i64 e_0, .int .i64 e_1, .list T_api_Expr e_2] = r :=
  func_of (key := 21) (L := LT_expr_Size CC) (bs := []) (by kernel_rfl) tells_nil ((f_expr_Size_eq CC e_0 e_1 e_2).trans h)
end Go.AM

set_option maxRecDepth 100000
namespace Go.AM
open Go.Proofs
noncomputable abbrev B_expr_size : Code := bodyOf Try.prog (ann.fid 47)
noncomputable def s_expr_size_1 (C : CallF) (t7 : List V) (t8 nodes t9 : Int) {β : Type} (kn : (Int × Int) → Option β) (kr : (Int × Int × Bool) → Option β) : Option β :=
  bif decide ((t9 : Int) < t8) then
   (idx t7 t9).bind fun x1 =>
   (C F_expr_size [.int .i64 ((x1.cell 0).toInt), .int .i64 ((x1.cell 1).toInt), .list T_api_Expr ((x1.cell 2).toList)]).bind fun r2 =>
   kn (IntKind.wrap .i64 (nodes + ((V.nth r2 0).toInt)), IntKind.wrap .i64 (t9 + 1))
  else
   kr (nodes, t9, decide ((t9 : Int) < t8))
noncomputable def s_expr_size_1L (C : CallF) (t7 : List V) (t8 : Int) : (Int × Int) → Option ((Int × Int) ⊕ (Int × Int × Bool)) := un fun nodes t9 => s_expr_size_1 C t7 t8 nodes t9 (fun y => some (.inl y)) (fun r => some (.inr r))
def w_expr_size_1 (t7 : List V) (t8 : Int) (β : Type) (k : Nat → List V → Option β) : (Int × Int × Bool) → Option β := (un fun (v0 : Int) => un fun (v3 : Int) (v4 : Bool) => k 0 [.int .i64 v0, .list T_api_Expr t7, .int .i64 t8, .int .i64 v3, .bool v4])
noncomputable def l_expr_size_1 (C : CallF) (β : Type) (ds : List V) (k : Nat → List V → Option β) : Option β :=
  (Loop (s_expr_size_1L C ((V.nth (ds.drop 1) 0).toList) ((V.nth ((ds.drop 1).drop 1) 0).toInt)) ((V.nth ds 0).toInt, (V.nth (((ds.drop 1).drop 1).drop 1) 0).toInt)).bind (w_expr_size_1 ((V.nth (ds.drop 1) 0).toList) ((V.nth ((ds.drop 1).drop 1) 0).toInt) β k)
noncomputable def LT_expr_size (C : CallF) : LTab := fun β n ds k =>
  bif Nat.beq n 49 then l_expr_size_1 C β ds k else
  none
theorem t_expr_size_1 (C : CallF) : Tells Try.prog ann C (LT_expr_size C) 47 (ntmpsOf Try.prog (ann.fid 47)) (ann.sin 47).blks.length (.loop (codeAt [1, 1, 0, 1, 0, 0] B_expr_size)) :=
  tells_loop2 (I := (List V) × Int) (X := Int × Int) (R := Int × Int × Bool) (S := (⟨[(3, .one (.int .i64)), (7, .one (.list T_api_Expr)), (8, .one (.int .i64)), (9, .one (.int .i64))], []⟩, [(.exit 0, ⟨[(3, .one (.int .i64)), (7, .one (.list T_api_Expr)), (8, .one (.int .i64)), (9, .one (.int .i64)), (10, .one (.bool))], []⟩)])) (by kernel_rfl) (ltok_of (bs := []) (by kernel_rfl) tells_nil)
    (un fun (t7 : List V) (t8 : Int) => (un fun (nodes : Int) (t9 : Int) => [.int .i64 nodes, .list T_api_Expr t7, .int .i64 t8, .int .i64 t9] : (Int × Int) → List V)) (un fun (t7 : List V) (t8 : Int) => w_expr_size_1 t7 t8)
    (fun ds => ((V.nth (ds.drop 1) 0).toList, (V.nth ((ds.drop 1).drop 1) 0).toInt)) (fun ds => ((V.nth ds 0).toInt, (V.nth (((ds.drop 1).drop 1).drop 1) 0).toInt)) (fun e => ((V.nth e.2 0).toInt, (V.nth (((e.2.drop 1).drop 1).drop 1) 0).toInt, (V.nth ((((e.2.drop 1).drop 1).drop 1).drop 1) 0).toBool))
    (un fun (t7 : List V) (t8 : Int) => (un fun (nodes : Int) (t9 : Int) => fun β kn kr => s_expr_size_1 C t7 t8 nodes t9 kn kr : (Int × Int) → (β : Type) → ((Int × Int) → Option β) → ((Int × Int × Bool) → Option β) → Option β))
    (l_expr_size_1 C) (fun ds => by kernel_rfl) (fun i x => by kernel_rfl) (fun i r => by skip <;> kernel_rfl)
    (fun i x β k => by kernel_rfl) (fun β ds k => by kernel_rfl) (fun β ds k => by kernel_rfl) (fun i β k r => by skip <;> kernel_rfl)
noncomputable def f_expr_size (C : CallF) (e_0 e_1 : Int) (e_2 : List V) : Option (List V) :=
  (Loop (s_expr_size_1L C e_2 (e_2.length : Int)) (1, 0)).bind (un fun (nodes_3 : Int) => un fun (t_4 : Int) (t_5 : Bool) =>
    some [.int .i64 nodes_3])
theorem f_expr_size_eq (C : CallF) (e_0 e_1 : Int) (e_2 : List V) : bodyT Try.prog ann C (LT_expr_size C) 47 [.int .i64 e_0, .int .i64 e_1, .list T_api_Expr e_2] = f_expr_size C e_0 e_1 e_2 := by kernel_rfl
theorem f_expr_size_of {e_0 e_1 : Int} {e_2 : List V} {r : Option (List V)} (h : f_expr_size CC e_0 e_1 e_2 = r) : CC F_expr_size [.int .i64 e_0, .int .i64 e_1, .list T_api_Expr e_2] = r :=
  func_of (key := 47) (L := LT_expr_size CC) (bs := [.loop (codeAt [1, 1, 0, 1, 0, 0] B_expr_size)]) (by kernel_rfl) (tells_cons (t_expr_size_1 CC) tells_nil) ((f_expr_size_eq CC e_0 e_1 e_2).trans h)
end Go.AM

set_option maxRecDepth 100000
namespace Go.AM
open Go.Proofs
noncomputable abbrev B_expr_Depth : Code := bodyOf Try.prog (ann.fid 22)
noncomputable def LT_expr_Depth (C : CallF) : LTab := fun β n ds k =>
  none
noncomputable def f_expr_Depth (C : CallF) (e_0 e_1 : Int) (e_2 : List V) : Option (List V) :=
  (C F_expr_valid [.int .i64 e_0, .int .i64 e_1, .list T_api_Expr e_2]).bind fun r1 =>
  bif !((V.nth r1 0).toBool) then
   some [.int .i64 0]
  else
   (C F_expr_depth [.int .i64 e_0, .int .i64 e_1, .list T_api_Expr e_2]).bind fun r2 =>
   some [.int .i64 ((V.nth r2 0).toInt)]
theorem f_expr_Depth_eq (C : CallF) (e_0 e_1 : Int) (e_2 : List V) : bodyT Try.prog ann C (LT_expr_Depth C) 22 [.int .i64 e_0, .int .i64 e_1, .list T_api_Expr e_2] = f_expr_Depth C e_0 e_1 e_2 := by kernel_rfl
theorem f_expr_Depth_of {e_0 e_1 : Int} {e_2 : List V} {r : Option (List V)} (h : f_expr_Depth CC e_0 e_1 e_2 = r) : CC F_expr_Depth [.int .i64 e_0, .int .i64 e_1, .list T_api_Expr e_2] = r :=
  func_of (key := 22) (L := LT_expr_Depth CC) (bs := []) (by kernel_rfl) tells_nil ((f_expr_Depth_eq CC e_0 e_1 e_2).trans h)
end Go.AM

set_option maxRecDepth 100000
namespace Go.AM
open Go.Proofs
noncomputable abbrev B_expr_depth : Code := bodyOf Try.prog (ann.fid 48)
noncomputable def s_expr_depth_1 (C : CallF) (t7 : List V) (t8 greatest t9 : Int) {β : Type} (kn : (Int × Int) → Option β) (kr : (Int × Int × Bool) → Option β) : Option β :=
  bif decide ((t9 : Int) < t8) then
   (idx t7 t9).bind fun x1 =>
   (C F_expr_depth [.int .i64 ((x1.cell 0).toInt), .int .i64 ((x1.cell 1).toInt), .list T_api_Expr ((x1.cell 2).toList)]).bind fun r2 =>
   kn (if ((V.nth r2 0).toInt) > greatest then ((V.nth r2 0).toInt) else greatest, IntKind.wrap .i64 (t9 + 1))
  else
   kr (greatest, t9, decide ((t9 : Int) < t8))
noncomputable def s_expr_depth_1L (C : CallF) (t7 : List V) (t8 : Int) : (Int × Int) → Option ((Int × Int) ⊕ (Int × Int × Bool)) := un fun greatest t9 => s_expr_depth_1 C t7 t8 greatest t9 (fun y => some (.inl y)) (fun r => some (.inr r))
def w_expr_depth_1 (t7 : List V) (t8 : Int) (β : Type) (k : Nat → List V → Option β) : (Int × Int × Bool) → Option β := (un fun (v0 : Int) => un fun (v3 : Int) (v4 : Bool) => k 0 [.int .i64 v0, .list T_api_Expr t7, .int .i64 t8, .int .i64 v3, .bool v4])
noncomputable def l_expr_depth_1 (C : CallF) (β : Type) (ds : List V) (k : Nat → List V → Option β) : Option β :=
  (Loop (s_expr_depth_1L C ((V.nth (ds.drop 1) 0).toList) ((V.nth ((ds.drop 1).drop 1) 0).toInt)) ((V.nth ds 0).toInt, (V.nth (((ds.drop 1).drop 1).drop 1) 0).toInt)).bind (w_expr_depth_1 ((V.nth (ds.drop 1) 0).toList) ((V.nth ((ds.drop 1).drop 1) 0).toInt) β k)
noncomputable def LT_expr_depth (C : CallF) : LTab := fun β n ds k =>
  bif Nat.beq n 49 then l_expr_depth_1 C β ds k else
  none
theorem t_expr_depth_1 (C : CallF) : Tells Try.prog ann C (LT_expr_depth C) 48 (ntmpsOf Try.prog (ann.fid 48)) (ann.sin 48).blks.length (.loop (codeAt [1, 1, 0, 1, 0, 0] B_expr_depth)) :=
  tells_loop2 (I := (List V) × Int) (X := Int × Int) (R := Int × Int × Bool) (S := (⟨[(3, .one (.int .i64)), (7, .one (.list T_api_Expr)), (8, .one (.int .i64)), (9, .one (.int .i64))], []⟩, [(.exit 0, ⟨[(3, .one (.int .i64)), (7, .one (.list T_api_Expr)), (8, .one (.int .i64)), (9, .one (.int .i64)), (10, .one (.bool))], []⟩)])) (by kernel_rfl) (ltok_of (bs := []) (by kernel_rfl) tells_nil)
    (un fun (t7 : List V) (t8 : Int) => (un fun (greatest : Int) (t9 : Int) => [.int .i64 greatest, .list T_api_Expr t7, .int .i64 t8, .int .i64 t9] : (Int × Int) → List V)) (un fun (t7 : List V) (t8 : Int) => w_expr_depth_1 t7 t8)
    (fun ds => ((V.nth (ds.drop 1) 0).toList, (V.nth ((ds.drop 1).drop 1) 0).toInt)) (fun ds => ((V.nth ds 0).toInt, (V.nth (((ds.drop 1).drop 1).drop 1) 0).toInt)) (fun e => ((V.nth e.2 0).toInt, (V.nth (((e.2.drop 1).drop 1).drop 1) 0).toInt, (V.nth ((((e.2.drop 1).drop 1).drop 1).drop 1) 0).toBool))
    (un fun (t7 : List V) (t8 : Int) => (un fun (greatest : Int) (t9 : Int) => fun β kn kr => s_expr_depth_1 C t7 t8 greatest t9 kn kr : (Int × Int) → (β : Type) → ((Int × Int) → Option β) → ((Int × Int × Bool) → Option β) → Option β))
    (l_expr_depth_1 C) (fun ds => by kernel_rfl) (fun i x => by kernel_rfl) (fun i r => by skip <;> kernel_rfl)
    (fun i x β k => by kernel_rfl) (fun β ds k => by kernel_rfl) (fun β ds k => by kernel_rfl) (fun i β k r => by skip <;> kernel_rfl)
noncomputable def f_expr_depth (C : CallF) (e_0 e_1 : Int) (e_2 : List V) : Option (List V) :=
  (Loop (s_expr_depth_1L C e_2 (e_2.length : Int)) (0, 0)).bind (un fun (greatest_3 : Int) => un fun (t_4 : Int) (t_5 : Bool) =>
    some [.int .i64 (IntKind.wrap .i64 (1 + greatest_3))])
theorem f_expr_depth_eq (C : CallF) (e_0 e_1 : Int) (e_2 : List V) : bodyT Try.prog ann C (LT_expr_depth C) 48 [.int .i64 e_0, .int .i64 e_1, .list T_api_Expr e_2] = f_expr_depth C e_0 e_1 e_2 := by kernel_rfl
theorem f_expr_depth_of {e_0 e_1 : Int} {e_2 : List V} {r : Option (List V)} (h : f_expr_depth CC e_0 e_1 e_2 = r) : CC F_expr_depth [.int .i64 e_0, .int .i64 e_1, .list T_api_Expr e_2] = r :=
  func_of (key := 48) (L := LT_expr_depth CC) (bs := [.loop (codeAt [1, 1, 0, 1, 0, 0] B_expr_depth)]) (by kernel_rfl) (tells_cons (t_expr_depth_1 CC) tells_nil) ((f_expr_depth_eq CC e_0 e_1 e_2).trans h)
end Go.AM

set_option maxRecDepth 100000
namespace Go.AM
open Go.Proofs
noncomputable abbrev B_expr_StarHeight : Code := bodyOf Try.prog (ann.fid 23)
noncomputable def LT_expr_StarHeight (C : CallF) : LTab := fun β n ds k =>
  none
noncomputable def f_expr_StarHeight (C : CallF) (e_0 e_1 : Int) (e_2 : List V) : Option (List V) :=
  (C F_expr_valid [.int .i64 e_0, .int .i64 e_1, .list T_api_Expr e_2]).bind fun r1 =>
  bif !((V.nth r1 0).toBool) then
   some [.int .i64 0]
  else
   (C F_expr_starHeight [.int .i64 e_0, .int .i64 e_1, .list T_api_Expr e_2]).bind fun r2 =>
   some [.int .i64 ((V.nth r2 0).toInt)]
theorem f_expr_StarHeight_eq (C : CallF) (e_0 e_1 : Int) (e_2 : List V) : bodyT Try.prog ann C (LT_expr_StarHeight C) 23 [.int .i64 e_0, .int .i64 e_1, .list T_api_Expr e_2] = f_expr_StarHeight C e_0 e_1 e_2 := by kernel_rfl
theorem f_expr_StarHeight_of {e_0 e_1 : Int} {e_2 : List V} {r : Option (List V)} (h : f_expr_StarHeight CC e_0 e_1 e_2 = r) : CC F_expr_StarHeight [.int .i64 e_0, .int .i64 e_1, .list T_api_Expr e_2] = r :=
  func_of (key := 23) (L := LT_expr_StarHeight CC) (bs := []) (by kernel_rfl) tells_nil ((f_expr_StarHeight_eq CC e_0 e_1 e_2).trans h)
end Go.AM

set_option maxRecDepth 100000
namespace Go.AM
open Go.Proofs
noncomputable abbrev B_expr_starHeight : Code := bodyOf Try.prog (ann.fid 49)
noncomputable def s_expr_starHeight_1 (C : CallF) (t7 : List V) (t8 es_0 es_1 : Int) (es_2 : List V) (greatest t9 : Int) {β : Type} (kn : (Int × Int) → Option β) (kr : (Int × Int × Bool) → Option β) : Option β :=
  bif decide ((t9 : Int) < t8) then
   (idx t7 t9).bind fun x1 =>
   (C F_expr_starHeight [.int .i64 ((x1.cell 0).toInt), .int .i64 ((x1.cell 1).toInt), .list T_api_Expr ((x1.cell 2).toList)]).bind fun r2 =>
   kn (if ((V.nth r2 0).toInt) > greatest then ((V.nth r2 0).toInt) else greatest, IntKind.wrap .i64 (t9 + 1))
  else
   kr (greatest, t9, decide ((t9 : Int) < t8))
noncomputable def s_expr_starHeight_1L (C : CallF) (t7 : List V) (t8 es_0 es_1 : Int) (es_2 : List V) : (Int × Int) → Option ((Int × Int) ⊕ (Int × Int × Bool)) := un fun greatest t9 => s_expr_starHeight_1 C t7 t8 es_0 es_1 es_2 greatest t9 (fun y => some (.inl y)) (fun r => some (.inr r))
def w_expr_starHeight_1 (t7 : List V) (t8 es_0 es_1 : Int) (es_2 : List V) (β : Type) (k : Nat → List V → Option β) : (Int × Int × Bool) → Option β := (un fun (v0 : Int) => un fun (v3 : Int) (v4 : Bool) => k 0 [.int .i64 v0, .list T_api_Expr t7, .int .i64 t8, .int .i64 v3, .bool v4, .int .i64 es_0, .int .i64 es_1, .list T_api_Expr es_2])
noncomputable def l_expr_starHeight_1 (C : CallF) (β : Type) (ds : List V) (k : Nat → List V → Option β) : Option β :=
  (Loop (s_expr_starHeight_1L C ((V.nth (ds.drop 1) 0).toList) ((V.nth ((ds.drop 1).drop 1) 0).toInt) ((V.nth (ds.drop 4) 0).toInt) ((V.nth ((ds.drop 4).drop 1) 0).toInt) ((V.nth (((ds.drop 4).drop 1).drop 1) 0).toList)) ((V.nth ds 0).toInt, (V.nth (((ds.drop 1).drop 1).drop 1) 0).toInt)).bind (w_expr_starHeight_1 ((V.nth (ds.drop 1) 0).toList) ((V.nth ((ds.drop 1).drop 1) 0).toInt) ((V.nth (ds.drop 4) 0).toInt) ((V.nth ((ds.drop 4).drop 1) 0).toInt) ((V.nth (((ds.drop 4).drop 1).drop 1) 0).toList) β k)
noncomputable def LT_expr_starHeight (C : CallF) : LTab := fun β n ds k =>
  bif Nat.beq n 49 then l_expr_starHeight_1 C β ds k else
  none
theorem t_expr_starHeight_1 (C : CallF) : Tells Try.prog ann C (LT_expr_starHeight C) 49 (ntmpsOf Try.prog (ann.fid 49)) (ann.sin 49).blks.length (.loop (codeAt [1, 1, 0, 1, 0, 0] B_expr_starHeight)) :=
  tells_loop2 (I := (List V) × Int × Int × Int × (List V)) (X := Int × Int) (R := Int × Int × Bool) (S := (⟨[(1, .one (.ptrC 0 0 0)), (3, .one (.int .i64)), (7, .one (.list T_api_Expr)), (8, .one (.int .i64)), (9, .one (.int .i64))], [.var 24 [.one (.int .i64), .one (.int .i64), .one (.list T_api_Expr)]]⟩, [(.exit 0, ⟨[(1, .one (.ptrC 0 0 0)), (3, .one (.int .i64)), (7, .one (.list T_api_Expr)), (8, .one (.int .i64)), (9, .one (.int .i64)), (10, .one (.bool))], [.var 24 [.one (.int .i64), .one (.int .i64), .one (.list T_api_Expr)]]⟩)])) (by kernel_rfl) (ltok_of (bs := []) (by kernel_rfl) tells_nil)
    (un fun (t7 : List V) => un fun (t8 : Int) => un fun (es_0 : Int) => un fun (es_1 : Int) (es_2 : List V) => (un fun (greatest : Int) (t9 : Int) => [.int .i64 greatest, .list T_api_Expr t7, .int .i64 t8, .int .i64 t9, .int .i64 es_0, .int .i64 es_1, .list T_api_Expr es_2] : (Int × Int) → List V)) (un fun (t7 : List V) => un fun (t8 : Int) => un fun (es_0 : Int) => un fun (es_1 : Int) (es_2 : List V) => w_expr_starHeight_1 t7 t8 es_0 es_1 es_2)
    (fun ds => ((V.nth (ds.drop 1) 0).toList, (V.nth ((ds.drop 1).drop 1) 0).toInt, (V.nth (ds.drop 4) 0).toInt, (V.nth ((ds.drop 4).drop 1) 0).toInt, (V.nth (((ds.drop 4).drop 1).drop 1) 0).toList)) (fun ds => ((V.nth ds 0).toInt, (V.nth (((ds.drop 1).drop 1).drop 1) 0).toInt)) (fun e => ((V.nth e.2 0).toInt, (V.nth (((e.2.drop 1).drop 1).drop 1) 0).toInt, (V.nth ((((e.2.drop 1).drop 1).drop 1).drop 1) 0).toBool))
    (un fun (t7 : List V) => un fun (t8 : Int) => un fun (es_0 : Int) => un fun (es_1 : Int) (es_2 : List V) => (un fun (greatest : Int) (t9 : Int) => fun β kn kr => s_expr_starHeight_1 C t7 t8 es_0 es_1 es_2 greatest t9 kn kr : (Int × Int) → (β : Type) → ((Int × Int) → Option β) → ((Int × Int × Bool) → Option β) → Option β))
    (l_expr_starHeight_1 C) (fun ds => by kernel_rfl) (fun i x => by kernel_rfl) (fun i r => by skip <;> kernel_rfl)
    (fun i x β k => by kernel_rfl) (fun β ds k => by kernel_rfl) (fun β ds k => by kernel_rfl) (fun i β k r => by skip <;> kernel_rfl)
noncomputable def f_expr_starHeight (C : CallF) (e_0 e_1 : Int) (e_2 : List V) : Option (List V) :=
  (Loop (s_expr_starHeight_1L C e_2 (e_2.length : Int) e_0 e_1 e_2) (0, 0)).bind (un fun (greatest_3 : Int) => un fun (t_4 : Int) (t_5 : Bool) =>
    bif (e_0 : Int) == 7 then
     some [.int .i64 (IntKind.wrap .i64 (greatest_3 + 1))]
    else
     some [.int .i64 greatest_3])
theorem f_expr_starHeight_eq (C : CallF) (e_0 e_1 : Int) (e_2 : List V) : bodyT Try.prog ann C (LT_expr_starHeight C) 49 [.int .i64 e_0, .int .i64 e_1, .list T_api_Expr e_2] = f_expr_starHeight C e_0 e_1 e_2 := by kernel_rfl
theorem f_expr_starHeight_of {e_0 e_1 : Int} {e_2 : List V} {r : Option (List V)} (h : f_expr_starHeight CC e_0 e_1 e_2 = r) : CC F_expr_starHeight [.int .i64 e_0, .int .i64 e_1, .list T_api_Expr e_2] = r :=
  func_of (key := 49) (L := LT_expr_starHeight CC) (bs := [.loop (codeAt [1, 1, 0, 1, 0, 0] B_expr_starHeight)]) (by kernel_rfl) (tells_cons (t_expr_starHeight_1 CC) tells_nil) ((f_expr_starHeight_eq CC e_0 e_1 e_2).trans h)
end Go.AM

set_option maxRecDepth 100000
namespace Go.AM
open Go.Proofs
noncomputable abbrev B_expr_StarFree : Code := bodyOf Try.prog (ann.fid 24)
noncomputable def LT_expr_StarFree (C : CallF) : LTab := fun β n ds k =>
  none
noncomputable def f_expr_StarFree (C : CallF) (e_0 e_1 : Int) (e_2 : List V) : Option (List V) :=
  (C F_expr_valid [.int .i64 e_0, .int .i64 e_1, .list T_api_Expr e_2]).bind fun r1 =>
  bif (V.nth r1 0).toBool then
   (C F_expr_starHeight [.int .i64 e_0, .int .i64 e_1, .list T_api_Expr e_2]).bind fun r2 =>
   some [.bool ((((V.nth r2 0).toInt) : Int) == 0)]
  else
   some [.bool false]
theorem f_expr_StarFree_eq (C : CallF) (e_0 e_1 : Int) (e_2 : List V) : bodyT Try.prog ann C (LT_expr_StarFree C) 24 [.int .i64 e_0, .int .i64 e_1, .list T_api_Expr e_2] = f_expr_StarFree C e_0 e_1 e_2 := by kernel_rfl
theorem f_expr_StarFree_of {e_0 e_1 : Int} {e_2 : List V} {r : Option (List V)} (h : f_expr_StarFree CC e_0 e_1 e_2 = r) : CC F_expr_StarFree [.int .i64 e_0, .int .i64 e_1, .list T_api_Expr e_2] = r :=
  func_of (key := 24) (L := LT_expr_StarFree CC) (bs := []) (by kernel_rfl) tells_nil ((f_expr_StarFree_eq CC e_0 e_1 e_2).trans h)
end Go.AM

set_option maxRecDepth 100000
namespace Go.AM
open Go.Proofs
noncomputable abbrev B_expr_Nullable : Code := bodyOf Try.prog (ann.fid 25)
noncomputable def LT_expr_Nullable (C : CallF) : LTab := fun β n ds k =>
  none
noncomputable def f_expr_Nullable (C : CallF) (e_0 e_1 : Int) (e_2 : List V) : Option (List V) :=
  (C F_expr_valid [.int .i64 e_0, .int .i64 e_1, .list T_api_Expr e_2]).bind fun r1 =>
  bif (V.nth r1 0).toBool then
   (C F_expr_HasUnit [.int .i64 e_0, .int .i64 e_1, .list T_api_Expr e_2]).bind fun r2 =>
   some [.bool ((V.nth r2 0).toBool)]
  else
   some [.bool false]
theorem f_expr_Nullable_eq (C : CallF) (e_0 e_1 : Int) (e_2 : List V) : bodyT Try.prog ann C (LT_expr_Nullable C) 25 [.int .i64 e_0, .int .i64 e_1, .list T_api_Expr e_2] = f_expr_Nullable C e_0 e_1 e_2 := by kernel_rfl
theorem f_expr_Nullable_of {e_0 e_1 : Int} {e_2 : List V} {r : Option (List V)} (h : f_expr_Nullable CC e_0 e_1 e_2 = r) : CC F_expr_Nullable [.int .i64 e_0, .int .i64 e_1, .list T_api_Expr e_2] = r :=
  func_of (key := 25) (L := LT_expr_Nullable CC) (bs := []) (by kernel_rfl) tells_nil ((f_expr_Nullable_eq CC e_0 e_1 e_2).trans h)
end Go.AM

set_option maxRecDepth 100000
namespace Go.AM
open Go.Proofs
noncomputable abbrev B_expr_HasUnit : Code := bodyOf Try.prog (ann.fid 50)
noncomputable def s_expr_HasUnit_1 (C : CallF) (t19 : List V) (t20 t21 : Int) {β : Type} (kn : Int → Option β) (kr : ((Bool) ⊕ (Int × Bool)) → Option β) : Option β :=
  bif decide ((t21 : Int) < t20) then
   (idx t19 t21).bind fun x2 =>
   (C F_expr_HasUnit [.int .i64 ((x2.cell 0).toInt), .int .i64 ((x2.cell 1).toInt), .list T_api_Expr ((x2.cell 2).toList)]).bind fun r3 =>
   bif !((V.nth r3 0).toBool) then
    kr (.inl false)
   else
    kn (IntKind.wrap .i64 (t21 + 1))
  else
   kr (.inr (t21, decide ((t21 : Int) < t20)))
noncomputable def s_expr_HasUnit_1L (C : CallF) (t19 : List V) (t20 : Int) : (Int) → Option ((Int) ⊕ ((Bool) ⊕ (Int × Bool))) := fun t21 => s_expr_HasUnit_1 C t19 t20 t21 (fun y => some (.inl y)) (fun r => some (.inr r))
def w_expr_HasUnit_1 (t19 : List V) (t20 : Int) (β : Type) (k : Nat → List V → Option β) : ((Bool) ⊕ (Int × Bool)) → Option β := (way2 (fun (v0 : Bool) => k 0 [.bool v0]) (un fun (v2 : Int) (v3 : Bool) => k 1 [.list T_api_Expr t19, .int .i64 t20, .int .i64 v2, .bool v3]))
noncomputable def l_expr_HasUnit_1 (C : CallF) (β : Type) (ds : List V) (k : Nat → List V → Option β) : Option β :=
  (Loop (s_expr_HasUnit_1L C ((V.nth ds 0).toList) ((V.nth (ds.drop 1) 0).toInt)) ((V.nth ((ds.drop 1).drop 1) 0).toInt)).bind (w_expr_HasUnit_1 ((V.nth ds 0).toList) ((V.nth (ds.drop 1) 0).toInt) β k)
noncomputable def LT_expr_HasUnit (C : CallF) : LTab := fun β n ds k =>
  bif Nat.beq n 161 then l_expr_HasUnit_1 C β ds k else
  none
theorem t_expr_HasUnit_1 (C : CallF) : Tells Try.prog ann C (LT_expr_HasUnit C) 50 (ntmpsOf Try.prog (ann.fid 50)) (ann.sin 50).blks.length (.loop (codeAt [1, 0, 1, 0, 1, 1, 1, 1, 1, 0, 0, 1, 0, 0] B_expr_HasUnit)) :=
  tells_loop2 (I := (List V) × Int) (X := Int) (R := (Bool) ⊕ (Int × Bool)) (S := (⟨[(19, .one (.list T_api_Expr)), (20, .one (.int .i64)), (21, .one (.int .i64))], []⟩, [(.ret, ⟨[(2, .one (.bool))], []⟩), (.exit 1, ⟨[(19, .one (.list T_api_Expr)), (20, .one (.int .i64)), (21, .one (.int .i64)), (22, .one (.bool))], []⟩)])) (by kernel_rfl) (ltok_of (bs := []) (by kernel_rfl) tells_nil)
    (un fun (t19 : List V) (t20 : Int) => (fun (t21 : Int) => [.list T_api_Expr t19, .int .i64 t20, .int .i64 t21] : (Int) → List V)) (un fun (t19 : List V) (t20 : Int) => w_expr_HasUnit_1 t19 t20)
    (fun ds => ((V.nth ds 0).toList, (V.nth (ds.drop 1) 0).toInt)) (fun ds => ((V.nth ((ds.drop 1).drop 1) 0).toInt)) (fun e => bif Nat.beq e.1 0 then (.inl ((V.nth e.2 0).toBool)) else (.inr ((V.nth ((e.2.drop 1).drop 1) 0).toInt, (V.nth (((e.2.drop 1).drop 1).drop 1) 0).toBool)))
    (un fun (t19 : List V) (t20 : Int) => (fun (t21 : Int) => fun β kn kr => s_expr_HasUnit_1 C t19 t20 t21 kn kr : (Int) → (β : Type) → ((Int) → Option β) → (((Bool) ⊕ (Int × Bool)) → Option β) → Option β))
    (l_expr_HasUnit_1 C) (fun ds => by kernel_rfl) (fun i x => by kernel_rfl) (fun i r => by rcases r with r | r <;> kernel_rfl)
    (fun i x β k => by kernel_rfl) (fun β ds k => by kernel_rfl) (fun β ds k => by kernel_rfl) (fun i β k r => by rcases r with r | r <;> kernel_rfl)
noncomputable def f_expr_HasUnit (C : CallF) (e_0 e_1 : Int) (e_2 : List V) : Option (List V) :=
  bif (e_0 : Int) == 2 then
   bif (e_0 : Int) == 2 then
    some [.bool true]
   else
    bif (e_0 : Int) == 4 then
     (C F_slices_ContainsFunc___api_Expr_api_Expr_ [.list T_api_Expr e_2]).bind fun r1 =>
     some [.bool ((V.nth r1 0).toBool)]
    else
     bif (e_0 : Int) == 5 then
      bif (e_0 : Int) == 5 then
       (Loop (s_expr_HasUnit_1L C e_2 (e_2.length : Int)) 0).bind (way2 (fun (t_4 : Bool) =>
         some [.bool t_4]) (un fun (t_5 : Int) (t_6 : Bool) =>
         some [.bool true]))
      else
       bif (e_0 : Int) == 8 then
        bif ((e_2.length : Int) : Int) == 1 then
         (e_2[0]?).bind fun x7 =>
         (C F_expr_HasUnit [.int .i64 ((x7.cell 0).toInt), .int .i64 ((x7.cell 1).toInt), .list T_api_Expr ((x7.cell 2).toList)]).bind fun r8 =>
         some [.bool (!((V.nth r8 0).toBool))]
        else
         some [.bool false]
       else
        some [.bool false]
     else
      bif (e_0 : Int) == 6 then
       (Loop (s_expr_HasUnit_1L C e_2 (e_2.length : Int)) 0).bind (way2 (fun (t_9 : Bool) =>
         some [.bool t_9]) (un fun (t_10 : Int) (t_11 : Bool) =>
         some [.bool true]))
      else
       bif (e_0 : Int) == 8 then
        bif ((e_2.length : Int) : Int) == 1 then
         (e_2[0]?).bind fun x12 =>
         (C F_expr_HasUnit [.int .i64 ((x12.cell 0).toInt), .int .i64 ((x12.cell 1).toInt), .list T_api_Expr ((x12.cell 2).toList)]).bind fun r13 =>
         some [.bool (!((V.nth r13 0).toBool))]
        else
         some [.bool false]
       else
        some [.bool false]
  else
   bif (e_0 : Int) == 7 then
    some [.bool true]
   else
    bif (e_0 : Int) == 4 then
     (C F_slices_ContainsFunc___api_Expr_api_Expr_ [.list T_api_Expr e_2]).bind fun r14 =>
     some [.bool ((V.nth r14 0).toBool)]
    else
     bif (e_0 : Int) == 5 then
      bif (e_0 : Int) == 5 then
       (Loop (s_expr_HasUnit_1L C e_2 (e_2.length : Int)) 0).bind (way2 (fun (t_15 : Bool) =>
         some [.bool t_15]) (un fun (t_16 : Int) (t_17 : Bool) =>
         some [.bool true]))
      else
       bif (e_0 : Int) == 8 then
        bif ((e_2.length : Int) : Int) == 1 then
         (e_2[0]?).bind fun x18 =>
         (C F_expr_HasUnit [.int .i64 ((x18.cell 0).toInt), .int .i64 ((x18.cell 1).toInt), .list T_api_Expr ((x18.cell 2).toList)]).bind fun r19 =>
         some [.bool (!((V.nth r19 0).toBool))]
        else
         some [.bool false]
       else
        some [.bool false]
     else
      bif (e_0 : Int) == 6 then
       (Loop (s_expr_HasUnit_1L C e_2 (e_2.length : Int)) 0).bind (way2 (fun (t_20 : Bool) =>
         some [.bool t_20]) (un fun (t_21 : Int) (t_22 : Bool) =>
         some [.bool true]))
      else
       bif (e_0 : Int) == 8 then
        bif ((e_2.length : Int) : Int) == 1 then
         (e_2[0]?).bind fun x23 =>
         (C F_expr_HasUnit [.int .i64 ((x23.cell 0).toInt), .int .i64 ((x23.cell 1).toInt), .list T_api_Expr ((x23.cell 2).toList)]).bind fun r24 =>
         some [.bool (!((V.nth r24 0).toBool))]
        else
         some [.bool false]
       else
        some [.bool false]
theorem f_expr_HasUnit_eq (C : CallF) (e_0 e_1 : Int) (e_2 : List V) : bodyT Try.prog ann C (LT_expr_HasUnit C) 50 [.int .i64 e_0, .int .i64 e_1, .list T_api_Expr e_2] = f_expr_HasUnit C e_0 e_1 e_2 := by kernel_rfl
theorem f_expr_HasUnit_of {e_0 e_1 : Int} {e_2 : List V} {r : Option (List V)} (h : f_expr_HasUnit CC e_0 e_1 e_2 = r) : CC F_expr_HasUnit [.int .i64 e_0, .int .i64 e_1, .list T_api_Expr e_2] = r :=
  func_of (key := 50) (L := LT_expr_HasUnit CC) (bs := [.loop (codeAt [1, 0, 1, 0, 1, 1, 1, 1, 1, 0, 0, 1, 0, 0] B_expr_HasUnit)]) (by kernel_rfl) (tells_cons (t_expr_HasUnit_1 CC) tells_nil) ((f_expr_HasUnit_eq CC e_0 e_1 e_2).trans h)
end Go.AM

set_option maxRecDepth 100000
namespace Go.AM
open Go.Proofs
noncomputable abbrev B_slices_ContainsFunc___api_Expr_api_Expr_ : Code := bodyOf Try.prog (ann.fid 65)
noncomputable def LT_slices_ContainsFunc___api_Expr_api_Expr_ (C : CallF) : LTab := fun β n ds k =>
  none
noncomputable def f_slices_ContainsFunc___api_Expr_api_Expr_ (C : CallF) (s : List V) : Option (List V) :=
  (C F_slices_IndexFunc___api_Expr_api_Expr_ [.list T_api_Expr s]).bind fun r1 =>
  some [.bool (decide ((((V.nth r1 0).toInt) : Int) ≥ 0))]
theorem f_slices_ContainsFunc___api_Expr_api_Expr__eq (C : CallF) (s : List V) : bodyT Try.prog ann C (LT_slices_ContainsFunc___api_Expr_api_Expr_ C) 65 [.list T_api_Expr s] = f_slices_ContainsFunc___api_Expr_api_Expr_ C s := by kernel_rfl
theorem f_slices_ContainsFunc___api_Expr_api_Expr__of {s : List V} {r : Option (List V)} (h : f_slices_ContainsFunc___api_Expr_api_Expr_ CC s = r) : CC F_slices_ContainsFunc___api_Expr_api_Expr_ [.list T_api_Expr s] = r :=
  func_of (key := 65) (L := LT_slices_ContainsFunc___api_Expr_api_Expr_ CC) (bs := []) (by kernel_rfl) tells_nil ((f_slices_ContainsFunc___api_Expr_api_Expr__eq CC s).trans h)
end Go.AM

set_option maxRecDepth 100000
namespace Go.AM
open Go.Proofs
noncomputable abbrev B_slices_IndexFunc___api_Expr_api_Expr_ : Code := bodyOf Try.prog (ann.fid 72)
noncomputable def s_slices_IndexFunc___api_Expr_api_Expr__1 (C : CallF) (s : List V) (t7 t8 : Int) {β : Type} (kn : Int → Option β) (kr : ((Int) ⊕ (Int × Bool)) → Option β) : Option β :=
  bif decide ((t8 : Int) < t7) then
   (idx s t8).bind fun x1 =>
   (C F_expr_HasUnit [.int .i64 ((x1.cell 0).toInt), .int .i64 ((x1.cell 1).toInt), .list T_api_Expr ((x1.cell 2).toList)]).bind fun r2 =>
   bif (V.nth r2 0).toBool then
    kr (.inl t8)
   else
    kn (IntKind.wrap .i64 (t8 + 1))
  else
   kr (.inr (t8, decide ((t8 : Int) < t7)))
noncomputable def s_slices_IndexFunc___api_Expr_api_Expr__1L (C : CallF) (s : List V) (t7 : Int) : (Int) → Option ((Int) ⊕ ((Int) ⊕ (Int × Bool))) := fun t8 => s_slices_IndexFunc___api_Expr_api_Expr__1 C s t7 t8 (fun y => some (.inl y)) (fun r => some (.inr r))
def w_slices_IndexFunc___api_Expr_api_Expr__1 (s : List V) (t7 : Int) (β : Type) (k : Nat → List V → Option β) : ((Int) ⊕ (Int × Bool)) → Option β := (way2 (fun (v0 : Int) => k 0 [.int .i64 v0]) (un fun (v2 : Int) (v3 : Bool) => k 1 [.list T_api_Expr s, .int .i64 t7, .int .i64 v2, .bool v3]))
noncomputable def l_slices_IndexFunc___api_Expr_api_Expr__1 (C : CallF) (β : Type) (ds : List V) (k : Nat → List V → Option β) : Option β :=
  (Loop (s_slices_IndexFunc___api_Expr_api_Expr__1L C ((V.nth ds 0).toList) ((V.nth (ds.drop 1) 0).toInt)) ((V.nth ((ds.drop 1).drop 1) 0).toInt)).bind (w_slices_IndexFunc___api_Expr_api_Expr__1 ((V.nth ds 0).toList) ((V.nth (ds.drop 1) 0).toInt) β k)
noncomputable def LT_slices_IndexFunc___api_Expr_api_Expr_ (C : CallF) : LTab := fun β n ds k =>
  bif Nat.beq n 33 then l_slices_IndexFunc___api_Expr_api_Expr__1 C β ds k else
  none
theorem t_slices_IndexFunc___api_Expr_api_Expr__1 (C : CallF) : Tells Try.prog ann C (LT_slices_IndexFunc___api_Expr_api_Expr_ C) 72 (ntmpsOf Try.prog (ann.fid 72)) (ann.sin 72).blks.length (.loop (codeAt [1, 0, 1, 0, 0] B_slices_IndexFunc___api_Expr_api_Expr_)) :=
  tells_loop2 (I := (List V) × Int) (X := Int) (R := (Int) ⊕ (Int × Bool)) (S := (⟨[(0, .one (.list T_api_Expr)), (1, .fn F_expr_HasUnit [] []), (7, .one (.int .i64)), (8, .one (.int .i64))], []⟩, [(.ret, ⟨[(4, .one (.int .i64))], []⟩), (.exit 0, ⟨[(0, .one (.list T_api_Expr)), (1, .fn F_expr_HasUnit [] []), (7, .one (.int .i64)), (8, .one (.int .i64)), (9, .one (.bool))], []⟩)])) (by kernel_rfl) (ltok_of (bs := []) (by kernel_rfl) tells_nil)
    (un fun (s : List V) (t7 : Int) => (fun (t8 : Int) => [.list T_api_Expr s, .int .i64 t7, .int .i64 t8] : (Int) → List V)) (un fun (s : List V) (t7 : Int) => w_slices_IndexFunc___api_Expr_api_Expr__1 s t7)
    (fun ds => ((V.nth ds 0).toList, (V.nth (ds.drop 1) 0).toInt)) (fun ds => ((V.nth ((ds.drop 1).drop 1) 0).toInt)) (fun e => bif Nat.beq e.1 0 then (.inl ((V.nth e.2 0).toInt)) else (.inr ((V.nth ((e.2.drop 1).drop 1) 0).toInt, (V.nth (((e.2.drop 1).drop 1).drop 1) 0).toBool)))
    (un fun (s : List V) (t7 : Int) => (fun (t8 : Int) => fun β kn kr => s_slices_IndexFunc___api_Expr_api_Expr__1 C s t7 t8 kn kr : (Int) → (β : Type) → ((Int) → Option β) → (((Int) ⊕ (Int × Bool)) → Option β) → Option β))
    (l_slices_IndexFunc___api_Expr_api_Expr__1 C) (fun ds => by kernel_rfl) (fun i x => by kernel_rfl) (fun i r => by rcases r with r | r <;> kernel_rfl)
    (fun i x β k => by kernel_rfl) (fun β ds k => by kernel_rfl) (fun β ds k => by kernel_rfl) (fun i β k r => by rcases r with r | r <;> kernel_rfl)
noncomputable def f_slices_IndexFunc___api_Expr_api_Expr_ (C : CallF) (s : List V) : Option (List V) :=
  (Loop (s_slices_IndexFunc___api_Expr_api_Expr__1L C s (s.length : Int)) 0).bind (way2 (fun (t_3 : Int) =>
    some [.int .i64 t_3]) (un fun (t_4 : Int) (t_5 : Bool) =>
    some [.int .i64 (-1)]))
theorem f_slices_IndexFunc___api_Expr_api_Expr__eq (C : CallF) (s : List V) : bodyT Try.prog ann C (LT_slices_IndexFunc___api_Expr_api_Expr_ C) 72 [.list T_api_Expr s] = f_slices_IndexFunc___api_Expr_api_Expr_ C s := by kernel_rfl
theorem f_slices_IndexFunc___api_Expr_api_Expr__of {s : List V} {r : Option (List V)} (h : f_slices_IndexFunc___api_Expr_api_Expr_ CC s = r) : CC F_slices_IndexFunc___api_Expr_api_Expr_ [.list T_api_Expr s] = r :=
  func_of (key := 72) (L := LT_slices_IndexFunc___api_Expr_api_Expr_ CC) (bs := [.loop (codeAt [1, 0, 1, 0, 0] B_slices_IndexFunc___api_Expr_api_Expr_)]) (by kernel_rfl) (tells_cons (t_slices_IndexFunc___api_Expr_api_Expr__1 CC) tells_nil) ((f_slices_IndexFunc___api_Expr_api_Expr__eq CC s).trans h)
end Go.AM

set_option maxRecDepth 100000
namespace Go.AM
open Go.Proofs
noncomputable abbrev B_expr_valid : Code := bodyOf Try.prog (ann.fid 39)
noncomputable def LT_expr_valid (C : CallF) : LTab := fun β n ds k =>
  none
noncomputable def f_expr_valid (C : CallF) (e_0 e_1 : Int) (e_2 : List V) : Option (List V) :=
  (C F_expr_Validate [.int .i64 e_0, .int .i64 e_1, .list T_api_Expr e_2, .int .i64 6]).bind fun r1 =>
  some [.bool ((((V.nth r1 0).toInt) : Int) == 0)]
theorem f_expr_valid_eq (C : CallF) (e_0 e_1 : Int) (e_2 : List V) : bodyT Try.prog ann C (LT_expr_valid C) 39 [.int .i64 e_0, .int .i64 e_1, .list T_api_Expr e_2] = f_expr_valid C e_0 e_1 e_2 := by kernel_rfl
theorem f_expr_valid_of {e_0 e_1 : Int} {e_2 : List V} {r : Option (List V)} (h : f_expr_valid CC e_0 e_1 e_2 = r) : CC F_expr_valid [.int .i64 e_0, .int .i64 e_1, .list T_api_Expr e_2] = r :=
  func_of (key := 39) (L := LT_expr_valid CC) (bs := []) (by kernel_rfl) tells_nil ((f_expr_valid_eq CC e_0 e_1 e_2).trans h)
end Go.AM

set_option maxRecDepth 100000
namespace Go.AM
open Go.Proofs
noncomputable abbrev B_semigroupref04_Valid : Code := bodyOf Try.prog (ann.fid 15)
noncomputable def LT_semigroupref04_Valid (C : CallF) : LTab := fun β n ds k =>
  none
noncomputable def f_semigroupref04_Valid (C : CallF) (e_0 e_1 : Int) (e_2 : List V) : Option (List V) :=
  (C F_semigroupref04_Validate [.int .i64 e_0, .int .i64 e_1, .list T_api_Expr e_2, .int .i64 6]).bind fun r1 =>
  some [.bool ((((V.nth r1 0).toInt) : Int) == 0)]
theorem f_semigroupref04_Valid_eq (C : CallF) (e_0 e_1 : Int) (e_2 : List V) : bodyT Try.prog ann C (LT_semigroupref04_Valid C) 15 [.int .i64 e_0, .int .i64 e_1, .list T_api_Expr e_2] = f_semigroupref04_Valid C e_0 e_1 e_2 := by kernel_rfl
theorem f_semigroupref04_Valid_of {e_0 e_1 : Int} {e_2 : List V} {r : Option (List V)} (h : f_semigroupref04_Valid CC e_0 e_1 e_2 = r) : CC F_semigroupref04_Valid [.int .i64 e_0, .int .i64 e_1, .list T_api_Expr e_2] = r :=
  func_of (key := 15) (L := LT_semigroupref04_Valid CC) (bs := []) (by kernel_rfl) tells_nil ((f_semigroupref04_Valid_eq CC e_0 e_1 e_2).trans h)
end Go.AM

set_option maxRecDepth 100000
namespace Go.AM
open Go.Proofs
noncomputable abbrev B_semigroupref04_Size : Code := bodyOf Try.prog (ann.fid 26)
noncomputable def LT_semigroupref04_Size (C : CallF) : LTab := fun β n ds k =>
  none
noncomputable def f_semigroupref04_Size (C : CallF) (e_0 e_1 : Int) (e_2 : List V) : Option (List V) :=
  (C F_semigroupref04_measure [.int .i64 e_0, .int .i64 e_1, .list T_api_Expr e_2, .int .i64 400]).bind fun r1 =>
  some [.int .i64 ((V.nth r1 0).toInt)]
theorem f_semigroupref04_Size_eq (C : CallF) (e_0 e_1 : Int) (e_2 : List V) : bodyT Try.prog ann C (LT_semigroupref04_Size C) 26 [.int .i64 e_0, .int .i64 e_1, .list T_api_Expr e_2] = f_semigroupref04_Size C e_0 e_1 e_2 := by kernel_rfl
theorem f_semigroupref04_Size_of {e_0 e_1 : Int} {e_2 : List V} {r : Option (List V)} (h : f_semigroupref04_Size CC e_0 e_1 e_2 = r) : CC F_semigroupref04_Size [.int .i64 e_0, .int .i64 e_1, .list T_api_Expr e_2] = r :=
  func_of (key := 26) (L := LT_semigroupref04_Size CC) (bs := []) (by kernel_rfl) tells_nil ((f_semigroupref04_Size_eq CC e_0 e_1 e_2).trans h)
end Go.AM

set_option maxRecDepth 100000
namespace Go.AM
open Go.Proofs
noncomputable abbrev B_semigroupref04_Depth : Code := bodyOf Try.prog (ann.fid 27)
noncomputable def LT_semigroupref04_Depth (C : CallF) : LTab := fun β n ds k =>
  none
noncomputable def f_semigroupref04_Depth (C : CallF) (e_0 e_1 : Int) (e_2 : List V) : Option (List V) :=
  (C F_semigroupref04_measure [.int .i64 e_0, .int .i64 e_1, .list T_api_Expr e_2, .int .i64 400]).bind fun r1 =>
  some [.int .i64 ((V.nth (r1.drop 1) 0).toInt)]
theorem f_semigroupref04_Depth_eq (C : CallF) (e_0 e_1 : Int) (e_2 : List V) : bodyT Try.prog ann C (LT_semigroupref04_Depth C) 27 [.int .i64 e_0, .int .i64 e_1, .list T_api_Expr e_2] = f_semigroupref04_Depth C e_0 e_1 e_2 := by kernel_rfl
theorem f_semigroupref04_Depth_of {e_0 e_1 : Int} {e_2 : List V} {r : Option (List V)} (h : f_semigroupref04_Depth CC e_0 e_1 e_2 = r) : CC F_semigroupref04_Depth [.int .i64 e_0, .int .i64 e_1, .list T_api_Expr e_2] = r :=
  func_of (key := 27) (L := LT_semigroupref04_Depth CC) (bs := []) (by kernel_rfl) tells_nil ((f_semigroupref04_Depth_eq CC e_0 e_1 e_2).trans h)
end Go.AM

set_option maxRecDepth 100000
namespace Go.AM
open Go.Proofs
noncomputable abbrev B_semigroupref04_StarHeight : Code := bodyOf Try.prog (ann.fid 28)
noncomputable def s_semigroupref04_StarHeight_1 (C : CallF) (t7 : List V) (t8 es_0 es_1 : Int) (es_2 : List V) (n t9 : Int) {β : Type} (kn : (Int × Int) → Option β) (kr : (Int × Int × Bool) → Option β) : Option β :=
  bif decide ((t9 : Int) < t8) then
   (idx t7 t9).bind fun x1 =>
   (C F_semigroupref04_StarHeight [.int .i64 ((x1.cell 0).toInt), .int .i64 ((x1.cell 1).toInt), .list T_api_Expr ((x1.cell 2).toList)]).bind fun r2 =>
   kn (if ((V.nth r2 0).toInt) > n then ((V.nth r2 0).toInt) else n, IntKind.wrap .i64 (t9 + 1))
  else
   kr (n, t9, decide ((t9 : Int) < t8))
noncomputable def s_semigroupref04_StarHeight_1L (C : CallF) (t7 : List V) (t8 es_0 es_1 : Int) (es_2 : List V) : (Int × Int) → Option ((Int × Int) ⊕ (Int × Int × Bool)) := un fun n t9 => s_semigroupref04_StarHeight_1 C t7 t8 es_0 es_1 es_2 n t9 (fun y => some (.inl y)) (fun r => some (.inr r))
def w_semigroupref04_StarHeight_1 (t7 : List V) (t8 es_0 es_1 : Int) (es_2 : List V) (β : Type) (k : Nat → List V → Option β) : (Int × Int × Bool) → Option β := (un fun (v0 : Int) => un fun (v3 : Int) (v4 : Bool) => k 0 [.int .i64 v0, .list T_api_Expr t7, .int .i64 t8, .int .i64 v3, .bool v4, .int .i64 es_0, .int .i64 es_1, .list T_api_Expr es_2])
noncomputable def l_semigroupref04_StarHeight_1 (C : CallF) (β : Type) (ds : List V) (k : Nat → List V → Option β) : Option β :=
  (Loop (s_semigroupref04_StarHeight_1L C ((V.nth (ds.drop 1) 0).toList) ((V.nth ((ds.drop 1).drop 1) 0).toInt) ((V.nth (ds.drop 4) 0).toInt) ((V.nth ((ds.drop 4).drop 1) 0).toInt) ((V.nth (((ds.drop 4).drop 1).drop 1) 0).toList)) ((V.nth ds 0).toInt, (V.nth (((ds.drop 1).drop 1).drop 1) 0).toInt)).bind (w_semigroupref04_StarHeight_1 ((V.nth (ds.drop 1) 0).toList) ((V.nth ((ds.drop 1).drop 1) 0).toInt) ((V.nth (ds.drop 4) 0).toInt) ((V.nth ((ds.drop 4).drop 1) 0).toInt) ((V.nth (((ds.drop 4).drop 1).drop 1) 0).toList) β k)
noncomputable def LT_semigroupref04_StarHeight (C : CallF) : LTab := fun β n ds k =>
  bif Nat.beq n 49 then l_semigroupref04_StarHeight_1 C β ds k else
  none
theorem t_semigroupref04_StarHeight_1 (C : CallF) : Tells Try.prog ann C (LT_semigroupref04_StarHeight C) 28 (ntmpsOf Try.prog (ann.fid 28)) (ann.sin 28).blks.length (.loop (codeAt [1, 1, 0, 1, 0, 0] B_semigroupref04_StarHeight)) :=
  tells_loop2 (I := (List V) × Int × Int × Int × (List V)) (X := Int × Int) (R := Int × Int × Bool) (S := (⟨[(1, .one (.ptrC 0 0 0)), (3, .one (.int .i64)), (7, .one (.list T_api_Expr)), (8, .one (.int .i64)), (9, .one (.int .i64))], [.var 24 [.one (.int .i64), .one (.int .i64), .one (.list T_api_Expr)]]⟩, [(.exit 0, ⟨[(1, .one (.ptrC 0 0 0)), (3, .one (.int .i64)), (7, .one (.list T_api_Expr)), (8, .one (.int .i64)), (9, .one (.int .i64)), (10, .one (.bool))], [.var 24 [.one (.int .i64), .one (.int .i64), .one (.list T_api_Expr)]]⟩)])) (by kernel_rfl) (ltok_of (bs := []) (by kernel_rfl) tells_nil)
    (un fun (t7 : List V) => un fun (t8 : Int) => un fun (es_0 : Int) => un fun (es_1 : Int) (es_2 : List V) => (un fun (n : Int) (t9 : Int) => [.int .i64 n, .list T_api_Expr t7, .int .i64 t8, .int .i64 t9, .int .i64 es_0, .int .i64 es_1, .list T_api_Expr es_2] : (Int × Int) → List V)) (un fun (t7 : List V) => un fun (t8 : Int) => un fun (es_0 : Int) => un fun (es_1 : Int) (es_2 : List V) => w_semigroupref04_StarHeight_1 t7 t8 es_0 es_1 es_2)
    (fun ds => ((V.nth (ds.drop 1) 0).toList, (V.nth ((ds.drop 1).drop 1) 0).toInt, (V.nth (ds.drop 4) 0).toInt, (V.nth ((ds.drop 4).drop 1) 0).toInt, (V.nth (((ds.drop 4).drop 1).drop 1) 0).toList)) (fun ds => ((V.nth ds 0).toInt, (V.nth (((ds.drop 1).drop 1).drop 1) 0).toInt)) (fun e => ((V.nth e.2 0).toInt, (V.nth (((e.2.drop 1).drop 1).drop 1) 0).toInt, (V.nth ((((e.2.drop 1).drop 1).drop 1).drop 1) 0).toBool))
    (un fun (t7 : List V) => un fun (t8 : Int) => un fun (es_0 : Int) => un fun (es_1 : Int) (es_2 : List V) => (un fun (n : Int) (t9 : Int) => fun β kn kr => s_semigroupref04_StarHeight_1 C t7 t8 es_0 es_1 es_2 n t9 kn kr : (Int × Int) → (β : Type) → ((Int × Int) → Option β) → ((Int × Int × Bool) → Option β) → Option β))
    (l_semigroupref04_StarHeight_1 C) (fun ds => by kernel_rfl) (fun i x => by kernel_rfl) (fun i r => by skip <;> kernel_rfl)
    (fun i x β k => by kernel_rfl) (fun β ds k => by kernel_rfl) (fun β ds k => by kernel_rfl) (fun i β k r => by skip <;> kernel_rfl)
noncomputable def f_semigroupref04_StarHeight (C : CallF) (e_0 e_1 : Int) (e_2 : List V) : Option (List V) :=
  (Loop (s_semigroupref04_StarHeight_1L C e_2 (e_2.length : Int) e_0 e_1 e_2) (0, 0)).bind (un fun (n_3 : Int) => un fun (t_4 : Int) (t_5 : Bool) =>
    bif (e_0 : Int) == 7 then
     some [.int .i64 (IntKind.wrap .i64 (n_3 + 1))]
    else
     some [.int .i64 n_3])
theorem f_semigroupref04_StarHeight_eq (C : CallF) (e_0 e_1 : Int) (e_2 : List V) : bodyT Try.prog ann C (LT_semigroupref04_StarHeight C) 28 [.int .i64 e_0, .int .i64 e_1, .list T_api_Expr e_2] = f_semigroupref04_StarHeight C e_0 e_1 e_2 := by kernel_rfl
theorem f_semigroupref04_StarHeight_of {e_0 e_1 : Int} {e_2 : List V} {r : Option (List V)} (h : f_semigroupref04_StarHeight CC e_0 e_1 e_2 = r) : CC F_semigroupref04_StarHeight [.int .i64 e_0, .int .i64 e_1, .list T_api_Expr e_2] = r :=
  func_of (key := 28) (L := LT_semigroupref04_StarHeight CC) (bs := [.loop (codeAt [1, 1, 0, 1, 0, 0] B_semigroupref04_StarHeight)]) (by kernel_rfl) (tells_cons (t_semigroupref04_StarHeight_1 CC) tells_nil) ((f_semigroupref04_StarHeight_eq CC e_0 e_1 e_2).trans h)
end Go.AM

set_option maxRecDepth 100000
namespace Go.AM
open Go.Proofs
noncomputable abbrev B_semigroupref04_Uses : Code := bodyOf Try.prog (ann.fid 29)
noncomputable def s_semigroupref04_Uses_1 (C : CallF) (op : Int) (t12 : List V) (t13 t14 : Int) {β : Type} (kn : Int → Option β) (kr : ((Bool) ⊕ (Int × Bool)) → Option β) : Option β :=
  bif decide ((t14 : Int) < t13) then
   (idx t12 t14).bind fun x1 =>
   (C F_semigroupref04_Uses [.int .i64 ((x1.cell 0).toInt), .int .i64 ((x1.cell 1).toInt), .list T_api_Expr ((x1.cell 2).toList), .int .i64 op]).bind fun r2 =>
   bif (V.nth r2 0).toBool then
    kr (.inl true)
   else
    kn (IntKind.wrap .i64 (t14 + 1))
  else
   kr (.inr (t14, decide ((t14 : Int) < t13)))
noncomputable def s_semigroupref04_Uses_1L (C : CallF) (op : Int) (t12 : List V) (t13 : Int) : (Int) → Option ((Int) ⊕ ((Bool) ⊕ (Int × Bool))) := fun t14 => s_semigroupref04_Uses_1 C op t12 t13 t14 (fun y => some (.inl y)) (fun r => some (.inr r))
def w_semigroupref04_Uses_1 (op : Int) (t12 : List V) (t13 : Int) (β : Type) (k : Nat → List V → Option β) : ((Bool) ⊕ (Int × Bool)) → Option β := (way2 (fun (v0 : Bool) => k 0 [.bool v0]) (un fun (v3 : Int) (v4 : Bool) => k 1 [.int .i64 op, .list T_api_Expr t12, .int .i64 t13, .int .i64 v3, .bool v4]))
noncomputable def l_semigroupref04_Uses_1 (C : CallF) (β : Type) (ds : List V) (k : Nat → List V → Option β) : Option β :=
  (Loop (s_semigroupref04_Uses_1L C ((V.nth ds 0).toInt) ((V.nth (ds.drop 1) 0).toList) ((V.nth ((ds.drop 1).drop 1) 0).toInt)) ((V.nth (((ds.drop 1).drop 1).drop 1) 0).toInt)).bind (w_semigroupref04_Uses_1 ((V.nth ds 0).toInt) ((V.nth (ds.drop 1) 0).toList) ((V.nth ((ds.drop 1).drop 1) 0).toInt) β k)
noncomputable def LT_semigroupref04_Uses (C : CallF) : LTab := fun β n ds k =>
  bif Nat.beq n 65 then l_semigroupref04_Uses_1 C β ds k else
  none
theorem t_semigroupref04_Uses_1 (C : CallF) : Tells Try.prog ann C (LT_semigroupref04_Uses C) 29 (ntmpsOf Try.prog (ann.fid 29)) (ann.sin 29).blks.length (.loop (codeAt [1, 1, 0, 1, 0, 0] B_semigroupref04_Uses)) :=
  tells_loop2 (I := Int × (List V) × Int) (X := Int) (R := (Bool) ⊕ (Int × Bool)) (S := (⟨[(1, .one (.int .i64)), (12, .one (.list T_api_Expr)), (13, .one (.int .i64)), (14, .one (.int .i64))], []⟩, [(.ret, ⟨[(4, .one (.bool))], []⟩), (.exit 0, ⟨[(1, .one (.int .i64)), (12, .one (.list T_api_Expr)), (13, .one (.int .i64)), (14, .one (.int .i64)), (15, .one (.bool))], []⟩)])) (by kernel_rfl) (ltok_of (bs := []) (by kernel_rfl) tells_nil)
    (un fun (op : Int) => un fun (t12 : List V) (t13 : Int) => (fun (t14 : Int) => [.int .i64 op, .list T_api_Expr t12, .int .i64 t13, .int .i64 t14] : (Int) → List V)) (un fun (op : Int) => un fun (t12 : List V) (t13 : Int) => w_semigroupref04_Uses_1 op t12 t13)
    (fun ds => ((V.nth ds 0).toInt, (V.nth (ds.drop 1) 0).toList, (V.nth ((ds.drop 1).drop 1) 0).toInt)) (fun ds => ((V.nth (((ds.drop 1).drop 1).drop 1) 0).toInt)) (fun e => bif Nat.beq e.1 0 then (.inl ((V.nth e.2 0).toBool)) else (.inr ((V.nth (((e.2.drop 1).drop 1).drop 1) 0).toInt, (V.nth ((((e.2.drop 1).drop 1).drop 1).drop 1) 0).toBool)))
    (un fun (op : Int) => un fun (t12 : List V) (t13 : Int) => (fun (t14 : Int) => fun β kn kr => s_semigroupref04_Uses_1 C op t12 t13 t14 kn kr : (Int) → (β : Type) → ((Int) → Option β) → (((Bool) ⊕ (Int × Bool)) → Option β) → Option β))
    (l_semigroupref04_Uses_1 C) (fun ds => by kernel_rfl) (fun i x => by kernel_rfl) (fun i r => by rcases r with r | r <;> kernel_rfl)
    (fun i x β k => by kernel_rfl) (fun β ds k => by kernel_rfl) (fun β ds k => by kernel_rfl) (fun i β k r => by rcases r with r | r <;> kernel_rfl)
noncomputable def f_semigroupref04_Uses (C : CallF) (e_0 e_1 : Int) (e_2 : List V) (op : Int) : Option (List V) :=
  bif (e_0 : Int) == op then
   some [.bool true]
  else
   (Loop (s_semigroupref04_Uses_1L C op e_2 (e_2.length : Int)) 0).bind (way2 (fun (t_3 : Bool) =>
     some [.bool t_3]) (un fun (t_4 : Int) (t_5 : Bool) =>
     some [.bool false]))
theorem f_semigroupref04_Uses_eq (C : CallF) (e_0 e_1 : Int) (e_2 : List V) (op : Int) : bodyT Try.prog ann C (LT_semigroupref04_Uses C) 29 [.int .i64 e_0, .int .i64 e_1, .list T_api_Expr e_2, .int .i64 op] = f_semigroupref04_Uses C e_0 e_1 e_2 op := by kernel_rfl
theorem f_semigroupref04_Uses_of {e_0 e_1 : Int} {e_2 : List V} {op : Int} {r : Option (List V)} (h : f_semigroupref04_Uses CC e_0 e_1 e_2 op = r) : CC F_semigroupref04_Uses [.int .i64 e_0, .int .i64 e_1, .list T_api_Expr e_2, .int .i64 op] = r :=
  func_of (key := 29) (L := LT_semigroupref04_Uses CC) (bs := [.loop (codeAt [1, 1, 0, 1, 0, 0] B_semigroupref04_Uses)]) (by kernel_rfl) (tells_cons (t_semigroupref04_Uses_1 CC) tells_nil) ((f_semigroupref04_Uses_eq CC e_0 e_1 e_2 op).trans h)
end Go.AM

set_option maxRecDepth 100000
namespace Go.AM
open Go.Proofs
noncomputable abbrev B_semigroupref04_Nullable : Code := bodyOf Try.prog (ann.fid 30)
noncomputable def s_semigroupref04_Nullable_1 (C : CallF) (t9 : List V) (t10 es_0 es_1 : Int) (es_2 : List V) (all one : Bool) (t11 : Int) {β : Type} (kn : (Bool × Bool × Int) → Option β) (kr : (Bool × Bool × Int × Bool) → Option β) : Option β :=
  bif decide ((t11 : Int) < t10) then
   (idx t9 t11).bind fun x1 =>
   (C F_semigroupref04_Nullable [.int .i64 ((x1.cell 0).toInt), .int .i64 ((x1.cell 1).toInt), .list T_api_Expr ((x1.cell 2).toList)]).bind fun r2 =>
   bif all then
    bif one then
     kn ((V.nth r2 0).toBool, true, IntKind.wrap .i64 (t11 + 1))
    else
     kn ((V.nth r2 0).toBool, (V.nth r2 0).toBool, IntKind.wrap .i64 (t11 + 1))
   else
    bif one then
     kn (false, true, IntKind.wrap .i64 (t11 + 1))
    else
     kn (false, (V.nth r2 0).toBool, IntKind.wrap .i64 (t11 + 1))
  else
   kr (all, one, t11, decide ((t11 : Int) < t10))
noncomputable def s_semigroupref04_Nullable_1L (C : CallF) (t9 : List V) (t10 es_0 es_1 : Int) (es_2 : List V) : (Bool × Bool × Int) → Option ((Bool × Bool × Int) ⊕ (Bool × Bool × Int × Bool)) := un fun all => un fun one t11 => s_semigroupref04_Nullable_1 C t9 t10 es_0 es_1 es_2 all one t11 (fun y => some (.inl y)) (fun r => some (.inr r))
def w_semigroupref04_Nullable_1 (t9 : List V) (t10 es_0 es_1 : Int) (es_2 : List V) (β : Type) (k : Nat → List V → Option β) : (Bool × Bool × Int × Bool) → Option β := (un fun (v0 : Bool) => un fun (v1 : Bool) => un fun (v4 : Int) (v5 : Bool) => k 0 [.bool v0, .bool v1, .list T_api_Expr t9, .int .i64 t10, .int .i64 v4, .bool v5, .int .i64 es_0, .int .i64 es_1, .list T_api_Expr es_2])
noncomputable def l_semigroupref04_Nullable_1 (C : CallF) (β : Type) (ds : List V) (k : Nat → List V → Option β) : Option β :=
  (Loop (s_semigroupref04_Nullable_1L C ((V.nth ((ds.drop 1).drop 1) 0).toList) ((V.nth (((ds.drop 1).drop 1).drop 1) 0).toInt) ((V.nth (ds.drop 5) 0).toInt) ((V.nth ((ds.drop 5).drop 1) 0).toInt) ((V.nth (((ds.drop 5).drop 1).drop 1) 0).toList)) ((V.nth ds 0).toBool, (V.nth (ds.drop 1) 0).toBool, (V.nth ((((ds.drop 1).drop 1).drop 1).drop 1) 0).toInt)).bind (w_semigroupref04_Nullable_1 ((V.nth ((ds.drop 1).drop 1) 0).toList) ((V.nth (((ds.drop 1).drop 1).drop 1) 0).toInt) ((V.nth (ds.drop 5) 0).toInt) ((V.nth ((ds.drop 5).drop 1) 0).toInt) ((V.nth (((ds.drop 5).drop 1).drop 1) 0).toList) β k)
noncomputable def LT_semigroupref04_Nullable (C : CallF) : LTab := fun β n ds k =>
  bif Nat.beq n 49 then l_semigroupref04_Nullable_1 C β ds k else
  none
theorem t_semigroupref04_Nullable_1 (C : CallF) : Tells Try.prog ann C (LT_semigroupref04_Nullable C) 30 (ntmpsOf Try.prog (ann.fid 30)) (ann.sin 30).blks.length (.loop (codeAt [1, 1, 0, 1, 0, 0] B_semigroupref04_Nullable)) :=
  tells_loop2 (I := (List V) × Int × Int × Int × (List V)) (X := Bool × Bool × Int) (R := Bool × Bool × Int × Bool) (S := (⟨[(1, .one (.ptrC 0 0 0)), (3, .one (.bool)), (4, .one (.bool)), (9, .one (.list T_api_Expr)), (10, .one (.int .i64)), (11, .one (.int .i64))], [.var 24 [.one (.int .i64), .one (.int .i64), .one (.list T_api_Expr)]]⟩, [(.exit 0, ⟨[(1, .one (.ptrC 0 0 0)), (3, .one (.bool)), (4, .one (.bool)), (9, .one (.list T_api_Expr)), (10, .one (.int .i64)), (11, .one (.int .i64)), (12, .one (.bool))], [.var 24 [.one (.int .i64), .one (.int .i64), .one (.list T_api_Expr)]]⟩)])) (by kernel_rfl) (ltok_of (bs := []) (by kernel_rfl) tells_nil)
    (un fun (t9 : List V) => un fun (t10 : Int) => un fun (es_0 : Int) => un fun (es_1 : Int) (es_2 : List V) => (un fun (all : Bool) => un fun (one : Bool) (t11 : Int) => [.bool all, .bool one, .list T_api_Expr t9, .int .i64 t10, .int .i64 t11, .int .i64 es_0, .int .i64 es_1, .list T_api_Expr es_2] : (Bool × Bool × Int) → List V)) (un fun (t9 : List V) => un fun (t10 : Int) => un fun (es_0 : Int) => un fun (es_1 : Int) (es_2 : List V) => w_semigroupref04_Nullable_1 t9 t10 es_0 es_1 es_2)
    (fun ds => ((V.nth ((ds.drop 1).drop 1) 0).toList, (V.nth (((ds.drop 1).drop 1).drop 1) 0).toInt, (V.nth (ds.drop 5) 0).toInt, (V.nth ((ds.drop 5).drop 1) 0).toInt, (V.nth (((ds.drop 5).drop 1).drop 1) 0).toList)) (fun ds => ((V.nth ds 0).toBool, (V.nth (ds.drop 1) 0).toBool, (V.nth ((((ds.drop 1).drop 1).drop 1).drop 1) 0).toInt)) (fun e => ((V.nth e.2 0).toBool, (V.nth (e.2.drop 1) 0).toBool, (V.nth ((((e.2.drop 1).drop 1).drop 1).drop 1) 0).toInt, (V.nth (((((e.2.drop 1).drop 1).drop 1).drop 1).drop 1) 0).toBool))
    (un fun (t9 : List V) => un fun (t10 : Int) => un fun (es_0 : Int) => un fun (es_1 : Int) (es_2 : List V) => (un fun (all : Bool) => un fun (one : Bool) (t11 : Int) => fun β kn kr => s_semigroupref04_Nullable_1 C t9 t10 es_0 es_1 es_2 all one t11 kn kr : (Bool × Bool × Int) → (β : Type) → ((Bool × Bool × Int) → Option β) → ((Bool × Bool × Int × Bool) → Option β) → Option β))
    (l_semigroupref04_Nullable_1 C) (fun ds => by kernel_rfl) (fun i x => by kernel_rfl) (fun i r => by skip <;> kernel_rfl)
    (fun i x β k => by kernel_rfl) (fun β ds k => by kernel_rfl) (fun β ds k => by kernel_rfl) (fun i β k r => by skip <;> kernel_rfl)
noncomputable def f_semigroupref04_Nullable (C : CallF) (e_0 e_1 : Int) (e_2 : List V) : Option (List V) :=
  (Loop (s_semigroupref04_Nullable_1L C e_2 (e_2.length : Int) e_0 e_1 e_2) (true, false, 0)).bind (un fun (all_3 : Bool) => un fun (one_4 : Bool) => un fun (t_5 : Int) (t_6 : Bool) =>
    bif (e_0 : Int) == 2 then
     bif (e_0 : Int) == 2 then
      some [.bool true]
     else
      bif (e_0 : Int) == 4 then
       some [.bool one_4]
      else
       bif (e_0 : Int) == 5 then
        bif (e_0 : Int) == 5 then
         some [.bool all_3]
        else
         bif (e_0 : Int) == 8 then
          some [.bool (!one_4)]
         else
          some [.bool false]
       else
        bif (e_0 : Int) == 6 then
         some [.bool all_3]
        else
         bif (e_0 : Int) == 8 then
          some [.bool (!one_4)]
         else
          some [.bool false]
    else
     bif (e_0 : Int) == 7 then
      some [.bool true]
     else
      bif (e_0 : Int) == 4 then
       some [.bool one_4]
      else
       bif (e_0 : Int) == 5 then
        bif (e_0 : Int) == 5 then
         some [.bool all_3]
        else
         bif (e_0 : Int) == 8 then
          some [.bool (!one_4)]
         else
          some [.bool false]
       else
        bif (e_0 : Int) == 6 then
         some [.bool all_3]
        else
         bif (e_0 : Int) == 8 then
          some [.bool (!one_4)]
         else
          some [.bool false])
theorem f_semigroupref04_Nullable_eq (C : CallF) (e_0 e_1 : Int) (e_2 : List V) : bodyT Try.prog ann C (LT_semigroupref04_Nullable C) 30 [.int .i64 e_0, .int .i64 e_1, .list T_api_Expr e_2] = f_semigroupref04_Nullable C e_0 e_1 e_2 := by kernel_rfl
theorem f_semigroupref04_Nullable_of {e_0 e_1 : Int} {e_2 : List V} {r : Option (List V)} (h : f_semigroupref04_Nullable CC e_0 e_1 e_2 = r) : CC F_semigroupref04_Nullable [.int .i64 e_0, .int .i64 e_1, .list T_api_Expr e_2] = r :=
  func_of (key := 30) (L := LT_semigroupref04_Nullable CC) (bs := [.loop (codeAt [1, 1, 0, 1, 0, 0] B_semigroupref04_Nullable)]) (by kernel_rfl) (tells_cons (t_semigroupref04_Nullable_1 CC) tells_nil) ((f_semigroupref04_Nullable_eq CC e_0 e_1 e_2).trans h)
end Go.AM

/-
  Chapter 4: nodes, depth, star height, the empty word.
-/
set_option maxRecDepth 100000
set_option linter.unusedSimpArgs false
namespace Go.AM
open Go.Proofs Ex
/-- A loop over all kids. -/
theorem scan_loop {X R S : Type} {step : X → Option (X ⊕ R)} {ks : List Ex} (st : S → Nat → X) (g : S → Ex → S) (r : S → R) (I : S → List Ex → Prop)
    (h : ∀ pre k suf s, ks = pre ++ k :: suf → I s (k :: suf) → step (st s pre.length) = some (.inl (st (g s k) (pre.length + 1))) ∧ I (g s k) suf) (he : ∀ s, step (st s ks.length) = some (.inr (r s))) :
    ∀ suf pre s, ks = pre ++ suf → I s suf → Loop step (st s pre.length) = some (r (suf.foldl g s)) := by
  intro suf
  induction suf with
  | nil =>
    intro pre s hks _
    have : pre.length = ks.length := by rw [hks]; simp
    rw [this]
    exact Loop_end (he s)
  | cons k suf ih =>
    intro pre s hks hI
    obtain ⟨h1, h2⟩ := h pre k suf s hks hI
    rw [Loop_norm h1, List.foldl_cons]
    have := ih (pre ++ [k]) (g s k) (by rw [hks]; simp) h2
    simpa using this
/-- A loop that ends at the first kid of a kind. -/
theorem find_loop {X R : Type} {step : X → Option (X ⊕ R)} {ks : List Ex} (st : Nat → X) (p : Ex → Bool) (r1 : Nat → R) (r2 : R)
    (h : ∀ pre k suf, ks = pre ++ k :: suf → step (st pre.length) = if p k = true then some (.inr (r1 pre.length)) else some (.inl (st (pre.length + 1)))) (he : step (st ks.length) = some (.inr r2)) :
    ∀ suf pre, ks = pre ++ suf → (suf.any p = true ∧ ∃ i, Loop step (st pre.length) = some (r1 i)) ∨ (suf.any p = false ∧ Loop step (st pre.length) = some r2) := by
  intro suf
  induction suf with
  | nil =>
    intro pre hks
    have : pre.length = ks.length := by rw [hks]; simp
    rw [this]
    exact .inr ⟨rfl, Loop_end he⟩
  | cons k suf ih =>
    intro pre hks
    have h1 := h pre k suf hks
    cases hp : p k with
    | true =>
      rw [if_pos hp] at h1
      exact .inl ⟨by simp [hp], _, Loop_end h1⟩
    | false =>
      rw [if_neg (by simp [hp])] at h1
      rw [Loop_norm h1]
      have := ih (pre ++ [k]) (by rw [hks]; simp)
      simpa [hp] using this
theorem beqd (m n : Int) : (m == n) = decide (m = n) := by rw [Bool.eq_iff_iff]; simp
theorem valid_spec (e : Ex) (h : e.Ok) : CC F_expr_valid (exA e []) = some [.bool (decide (e.val 6 = 0))] := by
  refine f_expr_valid_of ?_
  unfold f_expr_valid
  rw [Validate_spec e h]
  simp only [Option.bind_some, V.nth_zero, V.toInt_int]
  rw [beqd]
theorem refValid_spec (e : Ex) (h : e.Ok) : CC F_semigroupref04_Valid (exA e []) = some [.bool (decide (e.val 6 = 0))] := by
  refine f_semigroupref04_Valid_of ?_
  unfold f_semigroupref04_Valid
  rw [refValidate_spec e h]
  simp only [Option.bind_some, V.nth_zero, V.toInt_int]
  rw [beqd]
theorem val0 {e : Ex} (h : e.val 6 = 0) : e.depth ≤ 40 ∧ e.size ≤ 400 ∧ e.wf 6 = true := by
  unfold Ex.val at h
  rw [if_pos (by omega)] at h
  split at h
  · rename_i h1
    split at h
    · rename_i h2; exact ⟨h1.1, h1.2, h2⟩
    · omega
  · omega
theorem kid_size {ks : List Ex} : ∀ {k}, k ∈ ks → k.size ≤ sizes ks := by
  induction ks with
  | nil => intro k h; simp at h
  | cons a ks ih =>
    intro k h
    simp only [sizes]
    rcases List.mem_cons.1 h with rfl | h
    · omega
    · have := ih h; omega
theorem fold_size : ∀ (ks : List Ex) (n : Int), ks.foldl (fun n k => n + (k.size : Int)) n = n + sizes ks
  | [], n => by simp [sizes]
  | k :: ks, n => by rw [List.foldl_cons, fold_size ks]; simp only [sizes]; omega
theorem fold_depth : ∀ (ks : List Ex) (n : Int), 0 ≤ n → ks.foldl (fun n k => max n (k.depth : Int)) n = max n (depths ks)
  | [], n, h => by simp only [depths, List.foldl_nil]; omega
  | k :: ks, n, h => by rw [List.foldl_cons, fold_depth ks _ (by omega)]; simp only [depths]; omega
theorem size_spec : ∀ e : Ex, e.Ok → e.size ≤ 400 → CC F_expr_size (exA e []) = some [.int .i64 e.size] :=
  ind fun o l ks ih hok hsz => by
    have hs : (Ex.node o l ks).size = 1 + sizes ks := by simp only [size]
    have := maxLen_le
    have hlen := hok.len
    refine f_expr_size_of ?_
    have hl := scan_loop (step := s_expr_size_1L CC (ks.map enc) ((ks.map enc).length : Int)) (ks := ks) (fun n i => (n, (i : Int))) (fun n k => n + (k.size : Int)) (fun n => (n, ((ks.length : Nat) : Int), false)) (fun n suf => 0 ≤ n ∧ n + sizes suf ≤ 400)
      (fun pre k suf s hks hI => by
        have hpl : pre.length < ks.length := by rw [hks]; simp
        have hm : k ∈ ks := by rw [hks]; simp
        have hks1 := kid_size hm
        have hI' := hI
        simp only [sizes] at hI'
        refine ⟨?_, by omega⟩
        simp only [s_expr_size_1L, s_expr_size_1, un, List.length_map, bif_decide]
        rw [if_pos (by omega), show idx (ks.map enc) (pre.length : Int) = some k.enc by rw [hks]; exact idx_kid _ _ _]
        simp only [Option.bind_some, enc_0, enc_1, enc_2]
        rw [ih k hm (hok.kid k hm) (by omega)]
        simp only [Option.bind_some, V.nth_zero, V.toInt_int]
        rw [wrap64 (by omega) (by omega), wrap64 (by omega) (by omega)]
        simp)
      (fun s => by
        simp only [s_expr_size_1L, s_expr_size_1, un, List.length_map, bif_decide]
        rw [if_neg (by omega)]
        simp) ks [] 1 rfl ⟨by omega, by omega⟩
    unfold f_expr_size
    simp only [Ex.kids]
    rw [fold_size] at hl
    simp only [List.length_nil, Int.ofNat_zero, Int.natCast_zero] at hl
    erw [hl]
    simp only [Option.bind_some, un]
    rw [hs]
    rfl
theorem depth_spec : ∀ e : Ex, e.Ok → e.size ≤ 400 → CC F_expr_depth (exA e []) = some [.int .i64 e.depth] :=
  ind fun o l ks ih hok hsz => by
    have hs : (Ex.node o l ks).size = 1 + sizes ks := by simp only [size]
    have hd : (Ex.node o l ks).depth = 1 + depths ks := by simp only [depth]
    have hds := depth_le_size (.node o l ks)
    have := maxLen_le
    have hlen := hok.len
    refine f_expr_depth_of ?_
    have hl := scan_loop (step := s_expr_depth_1L CC (ks.map enc) ((ks.map enc).length : Int)) (ks := ks) (fun n i => (n, (i : Int))) (fun n k => max n (k.depth : Int)) (fun n => (n, ((ks.length : Nat) : Int), false)) (fun _ _ => True)
      (fun pre k suf s hks hI => by
        have hpl : pre.length < ks.length := by rw [hks]; simp
        have hm : k ∈ ks := by rw [hks]; simp
        have hks1 := kid_size hm
        refine ⟨?_, trivial⟩
        simp only [s_expr_depth_1L, s_expr_depth_1, un, List.length_map, bif_decide]
        rw [if_pos (by omega), show idx (ks.map enc) (pre.length : Int) = some k.enc by rw [hks]; exact idx_kid _ _ _]
        simp only [Option.bind_some, enc_0, enc_1, enc_2]
        rw [ih k hm (hok.kid k hm) (by omega)]
        simp only [Option.bind_some, V.nth_zero, V.toInt_int]
        rw [wrap64 (by omega) (by omega), show (if (k.depth : Int) > s then (k.depth : Int) else s) = max s (k.depth : Int) by split <;> omega]
        simp)
      (fun s => by
        simp only [s_expr_depth_1L, s_expr_depth_1, un, List.length_map, bif_decide]
        rw [if_neg (by omega)]
        simp) ks [] 0 rfl trivial
    unfold f_expr_depth
    simp only [Ex.kids]
    rw [fold_depth _ _ (by omega)] at hl
    simp only [List.length_nil, Int.ofNat_zero, Int.natCast_zero] at hl
    erw [hl]
    simp only [Option.bind_some, un]
    rw [show max (0 : Int) (depths ks : Int) = depths ks by omega, wrap64 (by omega) (by omega), hd]
    rfl
/-! star height -/
mutual
def Ex.sh : Ex → Nat
  | .node o _ ks => shs ks + (if o = 7 then 1 else 0)
def Ex.shs : List Ex → Nat
  | [] => 0
  | k :: ks => max (sh k) (shs ks)
end
theorem shs_le {ks : List Ex} (h : ∀ k ∈ ks, k.sh ≤ k.size) : shs ks ≤ sizes ks := by
  induction ks with
  | nil => simp [shs]
  | cons k ks ih =>
    have h1 := h k (by simp)
    have h2 := ih fun k hk => h k (by simp [hk])
    simp only [shs, sizes]; omega
theorem sh_le : ∀ e : Ex, e.sh ≤ e.size := ind fun o l ks ih => by
  have := shs_le ih
  simp only [sh, size]
  split <;> omega
theorem fold_sh : ∀ (ks : List Ex) (n : Int), 0 ≤ n → ks.foldl (fun n k => max n (k.sh : Int)) n = max n (shs ks)
  | [], n, h => by simp only [shs, List.foldl_nil]; omega
  | k :: ks, n, h => by rw [List.foldl_cons, fold_sh ks _ (by omega)]; simp only [shs]; omega
theorem starHeight_spec : ∀ e : Ex, e.Ok → e.size ≤ 400 → CC F_expr_starHeight (exA e []) = some [.int .i64 e.sh] :=
  ind fun o l ks ih hok hsz => by
    have hs : (Ex.node o l ks).size = 1 + sizes ks := by simp only [size]
    have hd : (Ex.node o l ks).sh = shs ks + (if o = 7 then 1 else 0) := by simp only [sh]
    have hds := sh_le (.node o l ks)
    have := maxLen_le
    have hlen := hok.len
    refine f_expr_starHeight_of ?_
    have hl := scan_loop (step := s_expr_starHeight_1L CC (ks.map enc) ((ks.map enc).length : Int) o l (ks.map enc)) (ks := ks) (fun n i => (n, (i : Int))) (fun n k => max n (k.sh : Int)) (fun n => (n, ((ks.length : Nat) : Int), false)) (fun _ _ => True)
      (fun pre k suf s hks hI => by
        have hpl : pre.length < ks.length := by rw [hks]; simp
        have hm : k ∈ ks := by rw [hks]; simp
        have hks1 := kid_size hm
        refine ⟨?_, trivial⟩
        simp only [s_expr_starHeight_1L, s_expr_starHeight_1, un, List.length_map, bif_decide]
        rw [if_pos (by omega), show idx (ks.map enc) (pre.length : Int) = some k.enc by rw [hks]; exact idx_kid _ _ _]
        simp only [Option.bind_some, enc_0, enc_1, enc_2]
        rw [ih k hm (hok.kid k hm) (by omega)]
        simp only [Option.bind_some, V.nth_zero, V.toInt_int]
        rw [wrap64 (by omega) (by omega), show (if (k.sh : Int) > s then (k.sh : Int) else s) = max s (k.sh : Int) by split <;> omega]
        simp)
      (fun s => by
        simp only [s_expr_starHeight_1L, s_expr_starHeight_1, un, List.length_map, bif_decide]
        rw [if_neg (by omega)]
        simp) ks [] 0 rfl trivial
    unfold f_expr_starHeight
    simp only [Ex.kids, Ex.op, Ex.letter]
    rw [fold_sh _ _ (by omega)] at hl
    simp only [List.length_nil, Int.ofNat_zero, Int.natCast_zero] at hl
    erw [hl]
    simp only [Option.bind_some, un, bif_beq]
    have hle := shs_le (ks := ks) fun k _ => sh_le k
    have hmx : max (0 : Int) (shs ks : Int) = shs ks := by omega
    rw [hd, hmx]
    by_cases h7 : o = 7
    · rw [if_pos h7, if_pos h7, wrap64 (by omega) (by omega)]
      rfl
    · rw [if_neg h7, if_neg h7]
      rfl
theorem refStarHeight_spec : ∀ e : Ex, e.Ok → e.size ≤ 400 → CC F_semigroupref04_StarHeight (exA e []) = some [.int .i64 e.sh] :=
  ind fun o l ks ih hok hsz => by
    have hs : (Ex.node o l ks).size = 1 + sizes ks := by simp only [size]
    have hd : (Ex.node o l ks).sh = shs ks + (if o = 7 then 1 else 0) := by simp only [sh]
    have hds := sh_le (.node o l ks)
    have := maxLen_le
    have hlen := hok.len
    refine f_semigroupref04_StarHeight_of ?_
    have hl := scan_loop (step := s_semigroupref04_StarHeight_1L CC (ks.map enc) ((ks.map enc).length : Int) o l (ks.map enc)) (ks := ks) (fun n i => (n, (i : Int))) (fun n k => max n (k.sh : Int)) (fun n => (n, ((ks.length : Nat) : Int), false)) (fun _ _ => True)
      (fun pre k suf s hks hI => by
        have hpl : pre.length < ks.length := by rw [hks]; simp
        have hm : k ∈ ks := by rw [hks]; simp
        have hks1 := kid_size hm
        refine ⟨?_, trivial⟩
        simp only [s_semigroupref04_StarHeight_1L, s_semigroupref04_StarHeight_1, un, List.length_map, bif_decide]
        rw [if_pos (by omega), show idx (ks.map enc) (pre.length : Int) = some k.enc by rw [hks]; exact idx_kid _ _ _]
        simp only [Option.bind_some, enc_0, enc_1, enc_2]
        rw [ih k hm (hok.kid k hm) (by omega)]
        simp only [Option.bind_some, V.nth_zero, V.toInt_int]
        rw [wrap64 (by omega) (by omega), show (if (k.sh : Int) > s then (k.sh : Int) else s) = max s (k.sh : Int) by split <;> omega]
        simp)
      (fun s => by
        simp only [s_semigroupref04_StarHeight_1L, s_semigroupref04_StarHeight_1, un, List.length_map, bif_decide]
        rw [if_neg (by omega)]
        simp) ks [] 0 rfl trivial
    unfold f_semigroupref04_StarHeight
    simp only [Ex.kids, Ex.op, Ex.letter]
    rw [fold_sh _ _ (by omega)] at hl
    simp only [List.length_nil, Int.ofNat_zero, Int.natCast_zero] at hl
    erw [hl]
    simp only [Option.bind_some, un, bif_beq]
    have hle := shs_le (ks := ks) fun k _ => sh_le k
    have hmx : max (0 : Int) (shs ks : Int) = shs ks := by omega
    rw [hd, hmx]
    by_cases h7 : o = 7
    · rw [if_pos h7, if_pos h7, wrap64 (by omega) (by omega)]
      rfl
    · rw [if_neg h7, if_neg h7]
      rfl
/-! which ops occur -/
mutual
def Ex.uses (op : Int) : Ex → Bool
  | .node o _ ks => decide (o = op) || usess op ks
def Ex.usess (op : Int) : List Ex → Bool
  | [] => false
  | k :: ks => uses op k || usess op ks
end
theorem usess_any (op : Int) : ∀ ks, usess op ks = ks.any (uses op)
  | [] => by simp [usess]
  | k :: ks => by simp [usess, usess_any op ks]
theorem sh_uses : ∀ e : Ex, (e.sh = 0) ↔ e.uses 7 = false := ind fun o l ks ih => by
  have hl : ∀ ks : List Ex, (∀ k ∈ ks, (k.sh = 0) ↔ k.uses 7 = false) → ((shs ks = 0) ↔ usess 7 ks = false) := by
    intro ks
    induction ks with
    | nil => intro _; simp [shs, usess]
    | cons k ks ih2 =>
      intro h
      have h1 := h k (by simp)
      have h2 := ih2 fun k hk => h k (by simp [hk])
      simp only [shs, usess, Bool.or_eq_false_iff]
      rw [← h1, ← h2]
      omega
  have h := hl ks ih
  simp only [sh, uses, Bool.or_eq_false_iff, decide_eq_false_iff_not]
  rw [← h]
  split <;> rename_i h7
  · simp [h7]
  · simp [h7]
theorem uses_spec {op : Int} : ∀ e : Ex, e.Ok → CC F_semigroupref04_Uses (exA e [.int .i64 op]) = some [.bool (e.uses op)] :=
  ind fun o l ks ih hok => by
    have := maxLen_le
    have hlen := hok.len
    refine f_semigroupref04_Uses_of ?_
    unfold f_semigroupref04_Uses
    simp only [Ex.op, Ex.letter, Ex.kids, bif_beq, uses, usess_any]
    by_cases ho : o = op
    · simp [ho]
    · rw [if_neg ho]
      have hl := find_loop (step := s_semigroupref04_Uses_1L CC op (ks.map enc) ((ks.map enc).length : Int)) (ks := ks) (fun i => (i : Int)) (Ex.uses op) (fun _ => .inl true) (.inr (((ks.length : Nat) : Int), false))
        (fun pre k suf hks => by
          have hpl : pre.length < ks.length := by rw [hks]; simp
          have hm : k ∈ ks := by rw [hks]; simp
          simp only [s_semigroupref04_Uses_1L, s_semigroupref04_Uses_1, List.length_map, bif_decide]
          rw [if_pos (by omega), show idx (ks.map enc) (pre.length : Int) = some k.enc by rw [hks]; exact idx_kid _ _ _]
          simp only [Option.bind_some, enc_0, enc_1, enc_2]
          rw [ih k hm (hok.kid k hm)]
          simp only [Option.bind_some, V.nth_zero, V.toBool_bool]
          rw [wrap64 (by omega) (by omega)]
          cases k.uses op <;> simp)
        (by
          simp only [s_semigroupref04_Uses_1L, s_semigroupref04_Uses_1, List.length_map, bif_decide]
          rw [if_neg (by omega)]
          simp) ks [] rfl
      simp only [List.length_nil, Int.ofNat_zero, Int.natCast_zero] at hl
      rcases hl with ⟨h1, i, h2⟩ | ⟨h1, h2⟩
      · erw [h2]; simp [h1, way2]
      · erw [h2]; simp [h1, way2, un, ho]
/-! the empty word -/
mutual
def Ex.nul : Ex → Bool
  | .node o _ ks => if o = 2 ∨ o = 7 then true else if o = 4 then nulAny ks else if o = 5 ∨ o = 6 then nulAll ks else if o = 8 then !(nulAny ks) else false
def Ex.nulAny : List Ex → Bool
  | [] => false
  | k :: ks => nul k || nulAny ks
def Ex.nulAll : List Ex → Bool
  | [] => true
  | k :: ks => nul k && nulAll ks
end
theorem nulAny_eq : ∀ ks, nulAny ks = ks.any nul
  | [] => by simp [nulAny]
  | k :: ks => by simp [nulAny, nulAny_eq ks]
theorem nulAll_eq : ∀ ks, nulAll ks = !(ks.any fun k => !(nul k))
  | [] => by simp [nulAll]
  | k :: ks => by simp [nulAll, nulAll_eq ks]
theorem wfs_kid {letters : Int} {ks : List Ex} (h : wfs letters ks = true) : ∀ k ∈ ks, k.wf letters = true := by
  induction ks with
  | nil => simp
  | cons a ks ih =>
    simp only [wfs, Bool.and_eq_true] at h
    intro k hk
    rcases List.mem_cons.1 hk with rfl | hk
    · exact h.1
    · exact ih h.2 k hk
theorem wf_node {letters o l : Int} {ks : List Ex} (h : (Ex.node o l ks).wf letters = true) : shapeOk o l ks.length letters = true ∧ ∀ k ∈ ks, k.wf letters = true := by
  simp only [Ex.wf, Bool.and_eq_true] at h
  exact ⟨h.1, wfs_kid h.2⟩
theorem shape8 {letters l n : Int} (h : shapeOk 8 l n letters = true) : n = 1 := by
  simp [shapeOk] at h; exact h.2
theorem contains_spec {ks : List Ex} (hlen : ks.length ≤ maxLen) (ih : ∀ k ∈ ks, CC F_expr_HasUnit (exA k []) = some [.bool k.nul]) : CC F_slices_ContainsFunc___api_Expr_api_Expr_ [.list T_api_Expr (ks.map enc)] = some [.bool (nulAny ks)] := by
  have := maxLen_le
  refine f_slices_ContainsFunc___api_Expr_api_Expr__of ?_
  unfold f_slices_ContainsFunc___api_Expr_api_Expr_
  have hl := find_loop (step := s_slices_IndexFunc___api_Expr_api_Expr__1L CC (ks.map enc) ((ks.map enc).length : Int)) (ks := ks) (fun i => (i : Int)) nul (fun i => .inl (i : Int)) (.inr (((ks.length : Nat) : Int), false))
    (fun pre k suf hks => by
      have hpl : pre.length < ks.length := by rw [hks]; simp
      have hm : k ∈ ks := by rw [hks]; simp
      simp only [s_slices_IndexFunc___api_Expr_api_Expr__1L, s_slices_IndexFunc___api_Expr_api_Expr__1, List.length_map, bif_decide]
      rw [if_pos (by omega), show idx (ks.map enc) (pre.length : Int) = some k.enc by rw [hks]; exact idx_kid _ _ _]
      simp only [Option.bind_some, enc_0, enc_1, enc_2]
      rw [ih k hm]
      simp only [Option.bind_some, V.nth_zero, V.toBool_bool]
      rw [wrap64 (by omega) (by omega)]
      cases k.nul <;> simp)
    (by
      simp only [s_slices_IndexFunc___api_Expr_api_Expr__1L, s_slices_IndexFunc___api_Expr_api_Expr__1, List.length_map, bif_decide]
      rw [if_neg (by omega)]
      simp) ks [] rfl
  simp only [List.length_nil, Int.ofNat_zero, Int.natCast_zero] at hl
  rcases hl with ⟨h1, i, h2⟩ | ⟨h1, h2⟩
  · have hi : CC F_slices_IndexFunc___api_Expr_api_Expr_ [.list T_api_Expr (ks.map enc)] = some [.int .i64 (i : Int)] := by
      refine f_slices_IndexFunc___api_Expr_api_Expr__of ?_
      unfold f_slices_IndexFunc___api_Expr_api_Expr_
      erw [h2]; rfl
    rw [hi, nulAny_eq, h1]
    simp
  · have hi : CC F_slices_IndexFunc___api_Expr_api_Expr_ [.list T_api_Expr (ks.map enc)] = some [.int .i64 (-1)] := by
      refine f_slices_IndexFunc___api_Expr_api_Expr__of ?_
      unfold f_slices_IndexFunc___api_Expr_api_Expr_
      erw [h2]; rfl
    rw [hi, nulAny_eq, h1]
    simp
theorem hasUnit_spec {letters : Int} : ∀ e : Ex, e.Ok → e.wf letters = true → CC F_expr_HasUnit (exA e []) = some [.bool e.nul] :=
  ind fun o l ks ih hok hwf => by
    have := maxLen_le
    have hlen := hok.len
    obtain ⟨w1, w2⟩ := wf_node hwf
    have ih' : ∀ k ∈ ks, CC F_expr_HasUnit (exA k []) = some [.bool k.nul] := fun k hk => ih k hk (hok.kid k hk) (w2 k hk)
    refine f_expr_HasUnit_of ?_
    have hall : (Loop (s_expr_HasUnit_1L CC (ks.map enc) ((ks.map enc).length : Int)) 0).bind (way2 (fun (t : Bool) => some [V.bool t]) (un fun (_ : Int) (_ : Bool) => some [V.bool true])) = some [.bool (nulAll ks)] := by
      have hl := find_loop (step := s_expr_HasUnit_1L CC (ks.map enc) ((ks.map enc).length : Int)) (ks := ks) (fun i => (i : Int)) (fun k => !(nul k)) (fun _ => .inl false) (.inr (((ks.length : Nat) : Int), false))
        (fun pre k suf hks => by
          have hpl : pre.length < ks.length := by rw [hks]; simp
          have hm : k ∈ ks := by rw [hks]; simp
          simp only [s_expr_HasUnit_1L, s_expr_HasUnit_1, List.length_map, bif_decide]
          rw [if_pos (by omega), show idx (ks.map enc) (pre.length : Int) = some k.enc by rw [hks]; exact idx_kid _ _ _]
          simp only [Option.bind_some, enc_0, enc_1, enc_2]
          rw [ih' k hm]
          simp only [Option.bind_some, V.nth_zero, V.toBool_bool]
          rw [wrap64 (by omega) (by omega)]
          cases k.nul <;> simp)
        (by
          simp only [s_expr_HasUnit_1L, s_expr_HasUnit_1, List.length_map, bif_decide]
          rw [if_neg (by omega)]
          simp) ks [] rfl
      simp only [List.length_nil, Int.ofNat_zero, Int.natCast_zero] at hl
      rcases hl with ⟨h1, i, h2⟩ | ⟨h1, h2⟩
      · erw [h2]; rw [nulAll_eq, h1]; rfl
      · erw [h2]; rw [nulAll_eq, h1]; rfl
    unfold f_expr_HasUnit
    simp only [Ex.op, Ex.letter, Ex.kids]
    rw [hall, contains_spec hlen ih']
    simp only [nul]
    rcases op_cases o with rfl | rfl | rfl | rfl | rfl | rfl | rfl | rfl | ho
    case inr.inr.inr.inr.inr.inr.inr.inr =>
      have n2 : o ≠ 2 := by omega
      have n4 : o ≠ 4 := by omega
      have n5 : o ≠ 5 := by omega
      have n6 : o ≠ 6 := by omega
      have n7 : o ≠ 7 := by omega
      have n8 : o ≠ 8 := by omega
      simp [n2, n4, n5, n6, n7, n8]
    case inr.inr.inr.inr.inr.inr.inr.inl =>
      have h1 := shape8 w1
      match ks, h1, ih' with
      | [k], _, ih' =>
        have := ih' k (by simp)
        simp only [List.map_cons, List.map_nil, List.length_singleton, List.getElem?_cons_zero, Option.bind_some, enc_0, enc_1, enc_2]
        rw [this]
        simp [nulAny]
    all_goals simp
theorem nullable_spec : ∀ e : Ex, e.Ok → CC F_semigroupref04_Nullable (exA e []) = some [.bool e.nul] :=
  ind fun o l ks ih hok => by
    have := maxLen_le
    have hlen := hok.len
    refine f_semigroupref04_Nullable_of ?_
    have hl := scan_loop (step := s_semigroupref04_Nullable_1L CC (ks.map enc) ((ks.map enc).length : Int) o l (ks.map enc)) (ks := ks) (fun (s : Bool × Bool) i => (s.1, s.2, (i : Int))) (fun s k => (s.1 && k.nul, s.2 || k.nul)) (fun s => (s.1, s.2, ((ks.length : Nat) : Int), false)) (fun _ _ => True)
      (fun pre k suf s hks hI => by
        have hpl : pre.length < ks.length := by rw [hks]; simp
        have hm : k ∈ ks := by rw [hks]; simp
        refine ⟨?_, trivial⟩
        simp only [s_semigroupref04_Nullable_1L, s_semigroupref04_Nullable_1, un, List.length_map, bif_decide]
        rw [if_pos (by omega), show idx (ks.map enc) (pre.length : Int) = some k.enc by rw [hks]; exact idx_kid _ _ _]
        simp only [Option.bind_some, enc_0, enc_1, enc_2]
        rw [ih k hm (hok.kid k hm)]
        simp only [Option.bind_some, V.nth_zero, V.toBool_bool]
        rw [wrap64 (by omega) (by omega)]
        obtain ⟨a, b⟩ := s
        cases a <;> cases b <;> simp)
      (fun s => by
        simp only [s_semigroupref04_Nullable_1L, s_semigroupref04_Nullable_1, un, List.length_map, bif_decide]
        rw [if_neg (by omega)]
        simp) ks [] (true, false) rfl trivial
    have hf : ∀ (ks : List Ex) (a b : Bool), ks.foldl (fun (s : Bool × Bool) k => (s.1 && k.nul, s.2 || k.nul)) (a, b) = (a && nulAll ks, b || nulAny ks) := by
      intro ks
      induction ks with
      | nil => intro a b; simp [nulAll, nulAny]
      | cons k ks ih => intro a b; simp [ih, nulAll, nulAny, Bool.and_assoc, Bool.or_assoc]
    rw [hf] at hl
    simp only [List.length_nil, Int.ofNat_zero, Int.natCast_zero] at hl
    unfold f_semigroupref04_Nullable
    simp only [Ex.op, Ex.letter, Ex.kids]
    erw [hl]
    simp only [Option.bind_some, un, nul, Bool.true_and, Bool.false_or]
    rcases op_cases o with rfl | rfl | rfl | rfl | rfl | rfl | rfl | rfl | ho
    case inr.inr.inr.inr.inr.inr.inr.inr =>
      have n2 : o ≠ 2 := by omega
      have n4 : o ≠ 4 := by omega
      have n5 : o ≠ 5 := by omega
      have n6 : o ≠ 6 := by omega
      have n7 : o ≠ 7 := by omega
      have n8 : o ≠ 8 := by omega
      simp [n2, n4, n5, n6, n7, n8]
    all_goals simp
/-! the functions of the package -/
theorem Size_spec (e : Ex) (h : e.Ok) : CC F_expr_Size (exA e []) = some [.int .i64 (if e.val 6 = 0 then (e.size : Int) else 0)] := by
  refine f_expr_Size_of ?_
  unfold f_expr_Size
  rw [valid_spec e h]
  by_cases hv : e.val 6 = 0
  · rw [size_spec e h (val0 hv).2.1]; simp [hv]
  · simp [hv]
theorem Depth_spec (e : Ex) (h : e.Ok) : CC F_expr_Depth (exA e []) = some [.int .i64 (if e.val 6 = 0 then (e.depth : Int) else 0)] := by
  refine f_expr_Depth_of ?_
  unfold f_expr_Depth
  rw [valid_spec e h]
  by_cases hv : e.val 6 = 0
  · rw [depth_spec e h (val0 hv).2.1]; simp [hv]
  · simp [hv]
theorem StarHeight_spec (e : Ex) (h : e.Ok) : CC F_expr_StarHeight (exA e []) = some [.int .i64 (if e.val 6 = 0 then (e.sh : Int) else 0)] := by
  refine f_expr_StarHeight_of ?_
  unfold f_expr_StarHeight
  rw [valid_spec e h]
  by_cases hv : e.val 6 = 0
  · rw [starHeight_spec e h (val0 hv).2.1]; simp [hv]
  · simp [hv]
theorem StarFree_spec (e : Ex) (h : e.Ok) : CC F_expr_StarFree (exA e []) = some [.bool (if e.val 6 = 0 then !(e.uses 7) else false)] := by
  refine f_expr_StarFree_of ?_
  unfold f_expr_StarFree
  rw [valid_spec e h]
  by_cases hv : e.val 6 = 0
  · rw [starHeight_spec e h (val0 hv).2.1]
    have := sh_uses e
    cases hu : e.uses 7 with
    | true => rw [hu] at this; simp [hv, beqd]; simpa using this
    | false => rw [hu] at this; simp at this; simp [hv, this]
  · simp [hv]
theorem Nullable_spec (e : Ex) (h : e.Ok) : CC F_expr_Nullable (exA e []) = some [.bool (if e.val 6 = 0 then e.nul else false)] := by
  refine f_expr_Nullable_of ?_
  unfold f_expr_Nullable
  rw [valid_spec e h]
  by_cases hv : e.val 6 = 0
  · rw [hasUnit_spec e h (val0 hv).2.2]; simp [hv]
  · simp [hv]
theorem refSize_spec (e : Ex) (h : e.Ok) (hs : e.size ≤ 400) : CC F_semigroupref04_Size (exA e []) = some [.int .i64 e.size] := by
  obtain ⟨d, e1, e2⟩ := measure_spec e h 400 (by omega) (by omega)
  refine f_semigroupref04_Size_of ?_
  unfold f_semigroupref04_Size
  rw [e1, show min (e.size : Int) (400 + 1) = e.size by omega]
  simp
theorem refDepth_spec (e : Ex) (h : e.Ok) (hs : e.size ≤ 400) : CC F_semigroupref04_Depth (exA e []) = some [.int .i64 e.depth] := by
  obtain ⟨d, e1, e2⟩ := measure_spec e h 400 (by omega) (by omega)
  refine f_semigroupref04_Depth_of ?_
  unfold f_semigroupref04_Depth
  rw [e1, e2 (by omega)]
  simp
end Go.AM

/-
  The sanity check of chapter 4's laws, run in the kernel.
-/
set_option maxRecDepth 100000
namespace Go.AM
open Go.Proofs
theorem awake : CC F_semigrouplaw04_awake [] = some [.bool true] := Call_of_run (N := 40) (n := 40) (by kernel_rfl)
end Go.AM

set_option maxRecDepth 100000
namespace Go.AM
open Go.Proofs
noncomputable abbrev B_semigrouplaw04_ExprMeasures : Code := bodyOf Try.prog (ann.fid 7)
noncomputable def LT_semigrouplaw04_ExprMeasures (C : CallF) : LTab := fun β n ds k =>
  none
noncomputable def f_semigrouplaw04_ExprMeasures (C : CallF) (e_0 e_1 : Int) (e_2 : List V) : Option (List V) :=
  (C F_semigroupref04_Valid [.int .i64 e_0, .int .i64 e_1, .list T_api_Expr e_2]).bind fun r1 =>
  bif !((V.nth r1 0).toBool) then
   (C F_expr_Size [.int .i64 e_0, .int .i64 e_1, .list T_api_Expr e_2]).bind fun r2 =>
   bif (((V.nth r2 0).toInt) : Int) == 0 then
    (C F_expr_Depth [.int .i64 e_0, .int .i64 e_1, .list T_api_Expr e_2]).bind fun r3 =>
    bif (((V.nth r3 0).toInt) : Int) == 0 then
     (C F_expr_StarHeight [.int .i64 e_0, .int .i64 e_1, .list T_api_Expr e_2]).bind fun r4 =>
     bif (((V.nth r4 0).toInt) : Int) == 0 then
      (C F_expr_StarFree [.int .i64 e_0, .int .i64 e_1, .list T_api_Expr e_2]).bind fun r5 =>
      bif !((V.nth r5 0).toBool) then
       (C F_expr_Nullable [.int .i64 e_0, .int .i64 e_1, .list T_api_Expr e_2]).bind fun r6 =>
       bif !((V.nth r6 0).toBool) then
        (C F_semigrouplaw04_awake []).bind fun r7 =>
        some [.bool ((V.nth r7 0).toBool)]
       else
        some [.bool false]
      else
       some [.bool false]
     else
      some [.bool false]
    else
     some [.bool false]
   else
    some [.bool false]
  else
   (C F_expr_Size [.int .i64 e_0, .int .i64 e_1, .list T_api_Expr e_2]).bind fun r8 =>
   (C F_semigroupref04_Size [.int .i64 e_0, .int .i64 e_1, .list T_api_Expr e_2]).bind fun r9 =>
   bif (((V.nth r8 0).toInt) : Int) == ((V.nth r9 0).toInt) then
    (C F_expr_Depth [.int .i64 e_0, .int .i64 e_1, .list T_api_Expr e_2]).bind fun r10 =>
    (C F_semigroupref04_Depth [.int .i64 e_0, .int .i64 e_1, .list T_api_Expr e_2]).bind fun r11 =>
    bif (((V.nth r10 0).toInt) : Int) == ((V.nth r11 0).toInt) then
     (C F_expr_StarHeight [.int .i64 e_0, .int .i64 e_1, .list T_api_Expr e_2]).bind fun r12 =>
     (C F_semigroupref04_StarHeight [.int .i64 e_0, .int .i64 e_1, .list T_api_Expr e_2]).bind fun r13 =>
     bif (((V.nth r12 0).toInt) : Int) == ((V.nth r13 0).toInt) then
      (C F_expr_StarFree [.int .i64 e_0, .int .i64 e_1, .list T_api_Expr e_2]).bind fun r14 =>
      (C F_semigroupref04_Uses [.int .i64 e_0, .int .i64 e_1, .list T_api_Expr e_2, .int .i64 7]).bind fun r15 =>
      bif ((V.nth r14 0).toBool) == (!((V.nth r15 0).toBool)) then
       (C F_expr_Nullable [.int .i64 e_0, .int .i64 e_1, .list T_api_Expr e_2]).bind fun r16 =>
       (C F_semigroupref04_Nullable [.int .i64 e_0, .int .i64 e_1, .list T_api_Expr e_2]).bind fun r17 =>
       bif ((V.nth r16 0).toBool) == ((V.nth r17 0).toBool) then
        (C F_semigrouplaw04_awake []).bind fun r18 =>
        some [.bool ((V.nth r18 0).toBool)]
       else
        some [.bool false]
      else
       some [.bool false]
     else
      some [.bool false]
    else
     some [.bool false]
   else
    some [.bool false]
theorem f_semigrouplaw04_ExprMeasures_eq (C : CallF) (e_0 e_1 : Int) (e_2 : List V) : bodyT Try.prog ann C (LT_semigrouplaw04_ExprMeasures C) 7 [.int .i64 e_0, .int .i64 e_1, .list T_api_Expr e_2] = f_semigrouplaw04_ExprMeasures C e_0 e_1 e_2 := by kernel_rfl
theorem f_semigrouplaw04_ExprMeasures_of {e_0 e_1 : Int} {e_2 : List V} {r : Option (List V)} (h : f_semigrouplaw04_ExprMeasures CC e_0 e_1 e_2 = r) : CC F_semigrouplaw04_ExprMeasures [.int .i64 e_0, .int .i64 e_1, .list T_api_Expr e_2] = r :=
  func_of (key := 7) (L := LT_semigrouplaw04_ExprMeasures CC) (bs := []) (by kernel_rfl) tells_nil ((f_semigrouplaw04_ExprMeasures_eq CC e_0 e_1 e_2).trans h)
end Go.AM

/-
  ExprMeasures, on plain data.
-/
namespace Go.AM
open Go.Proofs Ex
theorem exprMeasures (e : Ex) (h : e.Ok) : CC F_semigrouplaw04_ExprMeasures (exA e []) = some [.bool true] := by
  refine f_semigrouplaw04_ExprMeasures_of ?_
  unfold f_semigrouplaw04_ExprMeasures
  rw [refValid_spec e h, Size_spec e h, Depth_spec e h, StarHeight_spec e h, StarFree_spec e h, Nullable_spec e h, awake]
  by_cases hv : e.val 6 = 0
  · obtain ⟨_, hs, hw⟩ := val0 hv
    rw [refSize_spec e h hs, refDepth_spec e h hs, refStarHeight_spec e h hs, uses_spec e h, nullable_spec e h]
    simp [hv]
  · simp [hv]
end Go.AM
