/-
  Functions of the program, lifted to plain data.
-/
import Derived.Test.YtppefogdkedaiaaGreatDoorP5
set_option linter.unusedVariables false
set_option linter.unusedSimpArgs false
set_option maxRecDepth 100000
namespace Go.AM
open Go.Proofs
noncomputable abbrev qE:Code:=cj Tryz.prog (av.aQ 100)
noncomputable def DC (C:ae) (a j:Int) (ak:List V) (i:Int) {β:Type} (kn:Int→Option β) (kr:(Int × Bool)→Option β):Option β:=
 bif decide ((i:Int)≤j) then
  bif (decide (0≤i))&&(decide (i<(ak.length:Int))) then
  (ak[(i:Int).toNat]?).bind fun x5=>
  bif (decide (0≤a))&&(decide (a<(ak.length:Int))) then
   (ak[(a:Int).toNat]?).bind fun x6=>
   (C bn [.int .i64 ((x5.cell 0).toInt),.int .i64 ((x5.cell 1).toInt),.list aa ((x5.cell 2).toList),.int .i64 ((x6.cell 0).toInt),.int .i64 ((x6.cell 1).toInt),.list aa ((x6.cell 2).toList)]).bind fun r7=>
   bif decide ((((V.nth r7 0).toInt):Int)<0) then
   kn (IntKind.wrap .i64 (i+1))
   else
   kr (i,decide ((((V.nth r7 0).toInt):Int)<0))
  else none
  else none
 else
  kr (i,false)
noncomputable def DD (C:ae) (a j:Int) (ak:List V):(Int)→Option ((Int) ⊕ (Int × Bool)):=fun i=>DC C a j ak i (fun y=>some (.inl y)) (fun r=>some (.inr r))
noncomputable def zy (C:ae) (a i:Int) (ak:List V) (j:Int) {β:Type} (kn:Int→Option β) (kr:(Int × Bool)→Option β):Option β:=
 bif decide ((i:Int)≤j) then
  bif (decide (0≤j))&&(decide (j<(ak.length:Int))) then
  (ak[(j:Int).toNat]?).bind fun ic=>
  bif (decide (0≤a))&&(decide (a<(ak.length:Int))) then
   (ak[(a:Int).toNat]?).bind fun ew=>
   (C bn [.int .i64 ((ic.cell 0).toInt),.int .i64 ((ic.cell 1).toInt),.list aa ((ic.cell 2).toList),.int .i64 ((ew.cell 0).toInt),.int .i64 ((ew.cell 1).toInt),.list aa ((ew.cell 2).toList)]).bind fun fg=>
   bif !(decide ((((V.nth fg 0).toInt):Int)<0)) then
   kn (IntKind.wrap .i64 (j-1))
   else
   kr (j,!(decide ((((V.nth fg 0).toInt):Int)<0)))
  else none
  else none
 else
  kr (j,false)
noncomputable def zz (C:ae) (a i:Int) (ak:List V):(Int)→Option ((Int) ⊕ (Int × Bool)):=fun j=>zy C a i ak j (fun y=>some (.inl y)) (fun r=>some (.inr r))
noncomputable def DE (C:ae) (a j:Int) (ak:List V) (i:Int) {β:Type} (kn:Int→Option β) (kr:(Int × Bool)→Option β):Option β:=
 bif decide ((i:Int)≤j) then
  bif (decide (0≤i))&&(decide (i<(ak.length:Int))) then
  (ak[(i:Int).toNat]?).bind fun iL=>
  bif (decide (0≤a))&&(decide (a<(ak.length:Int))) then
   (ak[(a:Int).toNat]?).bind fun tJ=>
   (C bn [.int .i64 ((iL.cell 0).toInt),.int .i64 ((iL.cell 1).toInt),.list aa ((iL.cell 2).toList),.int .i64 ((tJ.cell 0).toInt),.int .i64 ((tJ.cell 1).toInt),.list aa ((tJ.cell 2).toList)]).bind fun Xs=>
   bif decide ((((V.nth Xs 0).toInt):Int)<0) then
   kn (IntKind.wrap .i64 (i+1))
   else
   kr (i,decide ((((V.nth Xs 0).toInt):Int)<0))
  else none
  else none
 else
  kr (i,false)
noncomputable def DF (C:ae) (a j:Int) (ak:List V):(Int)→Option ((Int) ⊕ (Int × Bool)):=fun i=>DE C a j ak i (fun y=>some (.inl y)) (fun r=>some (.inr r))
noncomputable def zA (C:ae) (a i:Int) (ak:List V) (j:Int) {β:Type} (kn:Int→Option β) (kr:(Int × Bool)→Option β):Option β:=
 bif decide ((i:Int)≤j) then
  bif (decide (0≤j))&&(decide (j<(ak.length:Int))) then
  (ak[(j:Int).toNat]?).bind fun wE=>
  bif (decide (0≤a))&&(decide (a<(ak.length:Int))) then
   (ak[(a:Int).toNat]?).bind fun wF=>
   (C bn [.int .i64 ((wE.cell 0).toInt),.int .i64 ((wE.cell 1).toInt),.list aa ((wE.cell 2).toList),.int .i64 ((wF.cell 0).toInt),.int .i64 ((wF.cell 1).toInt),.list aa ((wF.cell 2).toList)]).bind fun Iy=>
   bif !(decide ((((V.nth Iy 0).toInt):Int)<0)) then
   kn (IntKind.wrap .i64 (j-1))
   else
   kr (j,!(decide ((((V.nth Iy 0).toInt):Int)<0)))
  else none
  else none
 else
  kr (j,false)
noncomputable def zB (C:ae) (a i:Int) (ak:List V):(Int)→Option ((Int) ⊕ (Int × Bool)):=fun j=>zA C a i ak j (fun y=>some (.inl y)) (fun r=>some (.inr r))
noncomputable def DG (C:ae) (a i j:Int) (ak:List V) {β:Type} (kn:(Int × Int × (List V))→Option β) (kr:(Int × Int × Bool × (List V))→Option β):Option β:=
 (Loop (DF C a j ak) i).bind (un fun (mr:Int) (Ua:Bool)=>
  (Loop (zB C a mr ak) j).bind (un fun (py:Int) (aeb:Bool)=>
   bif decide ((mr:Int)>py) then
    kr (mr,py,decide ((mr:Int)>py),ak)
   else
    bif (decide (0≤py))&&(decide (py<(ak.length:Int))) then
    (ak[(py:Int).toNat]?).bind fun sm=>
    bif (decide (0≤mr))&&(decide (mr<(ak.length:Int))) then
     (ak[(mr:Int).toNat]?).bind fun OC=>
     bif (decide (0≤mr))&&(decide (mr<(ak.length:Int))) then
     (ak[(mr:Int).toNat]?).bind fun x35=>
     bif (decide (0≤py))&&(decide (py<((ak.set ((mr:Int).toNat) (.agg [.int .i64 ((sm.cell 0).toInt),.int .i64 ((sm.cell 1).toInt),.list aa ((sm.cell 2).toList)])).length:Int))) then
      ((ak.set ((mr:Int).toNat) (.agg [.int .i64 ((sm.cell 0).toInt),.int .i64 ((sm.cell 1).toInt),.list aa ((sm.cell 2).toList)]))[(py:Int).toNat]?).bind fun x36=>
      kn (IntKind.wrap .i64 (mr+1),IntKind.wrap .i64 (py-1),(ak.set ((mr:Int).toNat) (.agg [.int .i64 ((sm.cell 0).toInt),.int .i64 ((sm.cell 1).toInt),.list aa ((sm.cell 2).toList)])).set ((py:Int).toNat) (.agg [.int .i64 ((OC.cell 0).toInt),.int .i64 ((OC.cell 1).toInt),.list aa ((OC.cell 2).toList)]))
     else none
     else none
    else none
    else none))
noncomputable def zC (C:ae) (a:Int):(Int × Int × (List V))→Option ((Int × Int × (List V)) ⊕ (Int × Int × Bool × (List V))):=un fun i=>un fun j ak=>DG C a i j ak (fun y=>some (.inl y)) (fun r=>some (.inr r))
noncomputable def Xt (C:ae):b8:=fun β n ds k=>
 bif Nat.beq n 49 then bM MY [false,true,false,false] [[1,0,3,0,4]] (@DC C) ds k else
 bif Nat.beq n 81 then bM MZ [false,false,true,false] [[1,2,0,0,4]] (@zy C) ds k else
 bif Nat.beq n 209 then bM M0 [false,true,false,false] [[1,0,3,0,4]] (@DE C) ds k else
 bif Nat.beq n 241 then bM M1 [false,false,true,false] [[1,2,0,0,4]] (@zA C) ds k else
 bif Nat.beq n 210 then bM M3 [false,true,true,true] [[1,0,0,0,0]] (@DG C) ds k else
 none
abbrev DH (C:ae) (b:bZ):Prop:=b6 Tryz.prog av C (Xt C) 100 (cl Tryz.prog (av.aQ 100)) (av.sin 100).bc.length b
theorem ajR (C:ae):DH C (.loop (ax [1,1,1,0,0,0] qE)):=
 bP MY [false,true,false,false] [[1,0,3,0,4]] (@DC C) (by kernel_rfl) (a9 (bs:=[]) (by kernel_rfl) aw) (fun ds=>by kernel_rfl) (fun i x=>by kernel_rfl) (fun i x β k=>by kernel_rfl) (fun β ds k=>by kernel_rfl)
theorem ajS (C:ae):DH C (.loop (ax [1,1,1,1,0,0,0] qE)):=
 bP MZ [false,false,true,false] [[1,2,0,0,4]] (@zy C) (by kernel_rfl) (a9 (bs:=[]) (by kernel_rfl) aw) (fun ds=>by kernel_rfl) (fun i x=>by kernel_rfl) (fun i x β k=>by kernel_rfl) (fun β ds k=>by kernel_rfl)
theorem ajT (C:ae):DH C (.loop (ax [1,1,1,1,1,1,1,1,1,0,0,0,0,0,0,0] qE)):=
 bP M0 [false,true,false,false] [[1,0,3,0,4]] (@DE C) (by kernel_rfl) (a9 (bs:=[]) (by kernel_rfl) aw) (fun ds=>by kernel_rfl) (fun i x=>by kernel_rfl) (fun i x β k=>by kernel_rfl) (fun β ds k=>by kernel_rfl)
theorem ajU (C:ae):DH C (.loop (ax [1,1,1,1,1,1,1,1,1,0,0,0,0,1,0,0,0] qE)):=
 bP M1 [false,false,true,false] [[1,2,0,0,4]] (@zA C) (by kernel_rfl) (a9 (bs:=[]) (by kernel_rfl) aw) (fun ds=>by kernel_rfl) (fun i x=>by kernel_rfl) (fun i x β k=>by kernel_rfl) (fun β ds k=>by kernel_rfl)
theorem ajV (C:ae):DH C (.loop (ax [1,1,1,1,1,1,1,1,1,0,0,0] qE)):=
 bP M3 [false,true,true,true] [[1,0,0,0,0]] (@DG C) (by kernel_rfl) (a9 (bs:=[.loop (ax [1,1,1,1,1,1,1,1,1,0,0,0,0,0,0,0] qE),.loop (ax [1,1,1,1,1,1,1,1,1,0,0,0,0,1,0,0,0] qE)]) (by kernel_rfl) (br (ajT C) (br (ajU C) aw))) (fun ds=>by kernel_rfl) (fun i x=>by kernel_rfl) (fun i x β k=>by kernel_rfl) (fun β ds k=>by kernel_rfl)
noncomputable def Xu (C:ae) (a b' pivot:Int) (ak:List V):Option (List V):=
 bif (decide (0≤pivot))&&(decide (pivot<(ak.length:Int))) then
  (ak[(pivot:Int).toNat]?).bind fun x1=>
  bif (decide (0≤a))&&(decide (a<(ak.length:Int))) then
  (ak[(a:Int).toNat]?).bind fun x2=>
  bif (decide (0≤a))&&(decide (a<(ak.length:Int))) then
   (ak[(a:Int).toNat]?).bind fun x3=>
   bif (decide (0≤pivot))&&(decide (pivot<((ak.set ((a:Int).toNat) (.agg [.int .i64 ((x1.cell 0).toInt),.int .i64 ((x1.cell 1).toInt),.list aa ((x1.cell 2).toList)])).length:Int))) then
   ((ak.set ((a:Int).toNat) (.agg [.int .i64 ((x1.cell 0).toInt),.int .i64 ((x1.cell 1).toInt),.list aa ((x1.cell 2).toList)]))[(pivot:Int).toNat]?).bind fun x4=>
   (Loop (DD C a (IntKind.wrap .i64 (b'-1)) ((ak.set ((a:Int).toNat) (.agg [.int .i64 ((x1.cell 0).toInt),.int .i64 ((x1.cell 1).toInt),.list aa ((x1.cell 2).toList)])).set ((pivot:Int).toNat) (.agg [.int .i64 ((x2.cell 0).toInt),.int .i64 ((x2.cell 1).toInt),.list aa ((x2.cell 2).toList)]))) (IntKind.wrap .i64 (a+1))).bind (un fun (fj:Int) (oe:Bool)=>
    (Loop (zz C a fj ((ak.set ((a:Int).toNat) (.agg [.int .i64 ((x1.cell 0).toInt),.int .i64 ((x1.cell 1).toInt),.list aa ((x1.cell 2).toList)])).set ((pivot:Int).toNat) (.agg [.int .i64 ((x2.cell 0).toInt),.int .i64 ((x2.cell 1).toInt),.list aa ((x2.cell 2).toList)]))) (IntKind.wrap .i64 (b'-1))).bind (un fun (eI:Int) (Cf:Bool)=>
     bif decide ((fj:Int)>eI) then
      bif (decide (0≤a))&&(decide (a<(((ak.set ((a:Int).toNat) (.agg [.int .i64 ((x1.cell 0).toInt),.int .i64 ((x1.cell 1).toInt),.list aa ((x1.cell 2).toList)])).set ((pivot:Int).toNat) (.agg [.int .i64 ((x2.cell 0).toInt),.int .i64 ((x2.cell 1).toInt),.list aa ((x2.cell 2).toList)])).length:Int))) then
      (((ak.set ((a:Int).toNat) (.agg [.int .i64 ((x1.cell 0).toInt),.int .i64 ((x1.cell 1).toInt),.list aa ((x1.cell 2).toList)])).set ((pivot:Int).toNat) (.agg [.int .i64 ((x2.cell 0).toInt),.int .i64 ((x2.cell 1).toInt),.list aa ((x2.cell 2).toList)]))[(a:Int).toNat]?).bind fun fy=>
      bif (decide (0≤eI))&&(decide (eI<(((ak.set ((a:Int).toNat) (.agg [.int .i64 ((x1.cell 0).toInt),.int .i64 ((x1.cell 1).toInt),.list aa ((x1.cell 2).toList)])).set ((pivot:Int).toNat) (.agg [.int .i64 ((x2.cell 0).toInt),.int .i64 ((x2.cell 1).toInt),.list aa ((x2.cell 2).toList)])).length:Int))) then
       (((ak.set ((a:Int).toNat) (.agg [.int .i64 ((x1.cell 0).toInt),.int .i64 ((x1.cell 1).toInt),.list aa ((x1.cell 2).toList)])).set ((pivot:Int).toNat) (.agg [.int .i64 ((x2.cell 0).toInt),.int .i64 ((x2.cell 1).toInt),.list aa ((x2.cell 2).toList)]))[(eI:Int).toNat]?).bind fun gd=>
       bif (decide (0≤eI))&&(decide (eI<(((ak.set ((a:Int).toNat) (.agg [.int .i64 ((x1.cell 0).toInt),.int .i64 ((x1.cell 1).toInt),.list aa ((x1.cell 2).toList)])).set ((pivot:Int).toNat) (.agg [.int .i64 ((x2.cell 0).toInt),.int .i64 ((x2.cell 1).toInt),.list aa ((x2.cell 2).toList)])).length:Int))) then
       (((ak.set ((a:Int).toNat) (.agg [.int .i64 ((x1.cell 0).toInt),.int .i64 ((x1.cell 1).toInt),.list aa ((x1.cell 2).toList)])).set ((pivot:Int).toNat) (.agg [.int .i64 ((x2.cell 0).toInt),.int .i64 ((x2.cell 1).toInt),.list aa ((x2.cell 2).toList)]))[(eI:Int).toNat]?).bind fun po=>
       bif (decide (0≤a))&&(decide (a<((((ak.set ((a:Int).toNat) (.agg [.int .i64 ((x1.cell 0).toInt),.int .i64 ((x1.cell 1).toInt),.list aa ((x1.cell 2).toList)])).set ((pivot:Int).toNat) (.agg [.int .i64 ((x2.cell 0).toInt),.int .i64 ((x2.cell 1).toInt),.list aa ((x2.cell 2).toList)])).set ((eI:Int).toNat) (.agg [.int .i64 ((fy.cell 0).toInt),.int .i64 ((fy.cell 1).toInt),.list aa ((fy.cell 2).toList)])).length:Int))) then
        ((((ak.set ((a:Int).toNat) (.agg [.int .i64 ((x1.cell 0).toInt),.int .i64 ((x1.cell 1).toInt),.list aa ((x1.cell 2).toList)])).set ((pivot:Int).toNat) (.agg [.int .i64 ((x2.cell 0).toInt),.int .i64 ((x2.cell 1).toInt),.list aa ((x2.cell 2).toList)])).set ((eI:Int).toNat) (.agg [.int .i64 ((fy.cell 0).toInt),.int .i64 ((fy.cell 1).toInt),.list aa ((fy.cell 2).toList)]))[(a:Int).toNat]?).bind fun wa=>
        some [.int .i64 eI,.bool true,.list aa ((((ak.set ((a:Int).toNat) (.agg [.int .i64 ((x1.cell 0).toInt),.int .i64 ((x1.cell 1).toInt),.list aa ((x1.cell 2).toList)])).set ((pivot:Int).toNat) (.agg [.int .i64 ((x2.cell 0).toInt),.int .i64 ((x2.cell 1).toInt),.list aa ((x2.cell 2).toList)])).set ((eI:Int).toNat) (.agg [.int .i64 ((fy.cell 0).toInt),.int .i64 ((fy.cell 1).toInt),.list aa ((fy.cell 2).toList)])).set ((a:Int).toNat) (.agg [.int .i64 ((gd.cell 0).toInt),.int .i64 ((gd.cell 1).toInt),.list aa ((gd.cell 2).toList)]))]
       else none
       else none
      else none
      else none
     else
      bif (decide (0≤eI))&&(decide (eI<(((ak.set ((a:Int).toNat) (.agg [.int .i64 ((x1.cell 0).toInt),.int .i64 ((x1.cell 1).toInt),.list aa ((x1.cell 2).toList)])).set ((pivot:Int).toNat) (.agg [.int .i64 ((x2.cell 0).toInt),.int .i64 ((x2.cell 1).toInt),.list aa ((x2.cell 2).toList)])).length:Int))) then
      (((ak.set ((a:Int).toNat) (.agg [.int .i64 ((x1.cell 0).toInt),.int .i64 ((x1.cell 1).toInt),.list aa ((x1.cell 2).toList)])).set ((pivot:Int).toNat) (.agg [.int .i64 ((x2.cell 0).toInt),.int .i64 ((x2.cell 1).toInt),.list aa ((x2.cell 2).toList)]))[(eI:Int).toNat]?).bind fun oh=>
      bif (decide (0≤fj))&&(decide (fj<(((ak.set ((a:Int).toNat) (.agg [.int .i64 ((x1.cell 0).toInt),.int .i64 ((x1.cell 1).toInt),.list aa ((x1.cell 2).toList)])).set ((pivot:Int).toNat) (.agg [.int .i64 ((x2.cell 0).toInt),.int .i64 ((x2.cell 1).toInt),.list aa ((x2.cell 2).toList)])).length:Int))) then
       (((ak.set ((a:Int).toNat) (.agg [.int .i64 ((x1.cell 0).toInt),.int .i64 ((x1.cell 1).toInt),.list aa ((x1.cell 2).toList)])).set ((pivot:Int).toNat) (.agg [.int .i64 ((x2.cell 0).toInt),.int .i64 ((x2.cell 1).toInt),.list aa ((x2.cell 2).toList)]))[(fj:Int).toNat]?).bind fun sa=>
       bif (decide (0≤fj))&&(decide (fj<(((ak.set ((a:Int).toNat) (.agg [.int .i64 ((x1.cell 0).toInt),.int .i64 ((x1.cell 1).toInt),.list aa ((x1.cell 2).toList)])).set ((pivot:Int).toNat) (.agg [.int .i64 ((x2.cell 0).toInt),.int .i64 ((x2.cell 1).toInt),.list aa ((x2.cell 2).toList)])).length:Int))) then
       (((ak.set ((a:Int).toNat) (.agg [.int .i64 ((x1.cell 0).toInt),.int .i64 ((x1.cell 1).toInt),.list aa ((x1.cell 2).toList)])).set ((pivot:Int).toNat) (.agg [.int .i64 ((x2.cell 0).toInt),.int .i64 ((x2.cell 1).toInt),.list aa ((x2.cell 2).toList)]))[(fj:Int).toNat]?).bind fun y8=>
       bif (decide (0≤eI))&&(decide (eI<((((ak.set ((a:Int).toNat) (.agg [.int .i64 ((x1.cell 0).toInt),.int .i64 ((x1.cell 1).toInt),.list aa ((x1.cell 2).toList)])).set ((pivot:Int).toNat) (.agg [.int .i64 ((x2.cell 0).toInt),.int .i64 ((x2.cell 1).toInt),.list aa ((x2.cell 2).toList)])).set ((fj:Int).toNat) (.agg [.int .i64 ((oh.cell 0).toInt),.int .i64 ((oh.cell 1).toInt),.list aa ((oh.cell 2).toList)])).length:Int))) then
        ((((ak.set ((a:Int).toNat) (.agg [.int .i64 ((x1.cell 0).toInt),.int .i64 ((x1.cell 1).toInt),.list aa ((x1.cell 2).toList)])).set ((pivot:Int).toNat) (.agg [.int .i64 ((x2.cell 0).toInt),.int .i64 ((x2.cell 1).toInt),.list aa ((x2.cell 2).toList)])).set ((fj:Int).toNat) (.agg [.int .i64 ((oh.cell 0).toInt),.int .i64 ((oh.cell 1).toInt),.list aa ((oh.cell 2).toList)]))[(eI:Int).toNat]?).bind fun Vv=>
        (Loop (zC C a) (IntKind.wrap .i64 (fj+1),IntKind.wrap .i64 (eI-1),(((ak.set ((a:Int).toNat) (.agg [.int .i64 ((x1.cell 0).toInt),.int .i64 ((x1.cell 1).toInt),.list aa ((x1.cell 2).toList)])).set ((pivot:Int).toNat) (.agg [.int .i64 ((x2.cell 0).toInt),.int .i64 ((x2.cell 1).toInt),.list aa ((x2.cell 2).toList)])).set ((fj:Int).toNat) (.agg [.int .i64 ((oh.cell 0).toInt),.int .i64 ((oh.cell 1).toInt),.list aa ((oh.cell 2).toList)])).set ((eI:Int).toNat) (.agg [.int .i64 ((sa.cell 0).toInt),.int .i64 ((sa.cell 1).toInt),.list aa ((sa.cell 2).toList)]))).bind (un fun (aeK:Int)=>un fun (qF:Int)=>un fun (Ug:Bool) (j6:List V)=>
         bif (decide (0≤a))&&(decide (a<(j6.length:Int))) then
         (j6[(a:Int).toNat]?).bind fun ni=>
         bif (decide (0≤qF))&&(decide (qF<(j6.length:Int))) then
          (j6[(qF:Int).toNat]?).bind fun wG=>
          bif (decide (0≤qF))&&(decide (qF<(j6.length:Int))) then
          (j6[(qF:Int).toNat]?).bind fun x43=>
          bif (decide (0≤a))&&(decide (a<((j6.set ((qF:Int).toNat) (.agg [.int .i64 ((ni.cell 0).toInt),.int .i64 ((ni.cell 1).toInt),.list aa ((ni.cell 2).toList)])).length:Int))) then
           ((j6.set ((qF:Int).toNat) (.agg [.int .i64 ((ni.cell 0).toInt),.int .i64 ((ni.cell 1).toInt),.list aa ((ni.cell 2).toList)]))[(a:Int).toNat]?).bind fun x44=>
           some [.int .i64 qF,.bool false,.list aa ((j6.set ((qF:Int).toNat) (.agg [.int .i64 ((ni.cell 0).toInt),.int .i64 ((ni.cell 1).toInt),.list aa ((ni.cell 2).toList)])).set ((a:Int).toNat) (.agg [.int .i64 ((wG.cell 0).toInt),.int .i64 ((wG.cell 1).toInt),.list aa ((wG.cell 2).toList)]))]
          else none
          else none
         else none
         else none)
       else none
       else none
      else none
      else none))
   else none
  else none
  else none
 else none
theorem ajW {a b' pivot:Int} {ak:List V} {r:Option (List V)} (h:Xu CC a b' pivot ak=r):CC nW [.int .i64 a,.int .i64 b',.int .i64 pivot,.list aa ak]=r:=
 aZ (key:=100) (L:=Xt CC) (bs:=[.loop (ax [1,1,1,0,0,0] qE),.loop (ax [1,1,1,1,0,0,0] qE),.loop (ax [1,1,1,1,1,1,1,1,1,0,0,0] qE)]) (by kernel_rfl) (br (ajR CC) (br (ajS CC) (br (ajV CC) aw))) (aX (by kernel_rfl) h)
noncomputable abbrev zD:Code:=cj Tryz.prog (av.aQ 99)
noncomputable def DI (C:ae) (a j:Int) (ak:List V) (i:Int) {β:Type} (kn:Int→Option β) (kr:(Int × Bool)→Option β):Option β:=
 bif decide ((i:Int)≤j) then
  bif (decide (0≤a))&&(decide (a<(ak.length:Int))) then
  (ak[(a:Int).toNat]?).bind fun x5=>
  bif (decide (0≤i))&&(decide (i<(ak.length:Int))) then
   (ak[(i:Int).toNat]?).bind fun x6=>
   (C bn [.int .i64 ((x5.cell 0).toInt),.int .i64 ((x5.cell 1).toInt),.list aa ((x5.cell 2).toList),.int .i64 ((x6.cell 0).toInt),.int .i64 ((x6.cell 1).toInt),.list aa ((x6.cell 2).toList)]).bind fun r7=>
   bif !(decide ((((V.nth r7 0).toInt):Int)<0)) then
   kn (IntKind.wrap .i64 (i+1))
   else
   kr (i,!(decide ((((V.nth r7 0).toInt):Int)<0)))
  else none
  else none
 else
  kr (i,false)
noncomputable def DJ (C:ae) (a j:Int) (ak:List V):(Int)→Option ((Int) ⊕ (Int × Bool)):=fun i=>DI C a j ak i (fun y=>some (.inl y)) (fun r=>some (.inr r))
noncomputable def zF (C:ae) (a i:Int) (ak:List V) (j:Int) {β:Type} (kn:Int→Option β) (kr:(Int × Bool)→Option β):Option β:=
 bif decide ((i:Int)≤j) then
  bif (decide (0≤a))&&(decide (a<(ak.length:Int))) then
  (ak[(a:Int).toNat]?).bind fun ic=>
  bif (decide (0≤j))&&(decide (j<(ak.length:Int))) then
   (ak[(j:Int).toNat]?).bind fun ew=>
   (C bn [.int .i64 ((ic.cell 0).toInt),.int .i64 ((ic.cell 1).toInt),.list aa ((ic.cell 2).toList),.int .i64 ((ew.cell 0).toInt),.int .i64 ((ew.cell 1).toInt),.list aa ((ew.cell 2).toList)]).bind fun fg=>
   bif decide ((((V.nth fg 0).toInt):Int)<0) then
   kn (IntKind.wrap .i64 (j-1))
   else
   kr (j,decide ((((V.nth fg 0).toInt):Int)<0))
  else none
  else none
 else
  kr (j,false)
noncomputable def zG (C:ae) (a i:Int) (ak:List V):(Int)→Option ((Int) ⊕ (Int × Bool)):=fun j=>zF C a i ak j (fun y=>some (.inl y)) (fun r=>some (.inr r))
noncomputable def DK (C:ae) (a i j:Int) (ak:List V) {β:Type} (kn:(Int × Int × (List V))→Option β) (kr:(Int × Int × Bool × (List V))→Option β):Option β:=
 (Loop (DJ C a j ak) i).bind (un fun (fj:Int) (oe:Bool)=>
  (Loop (zG C a fj ak) j).bind (un fun (eI:Int) (Cf:Bool)=>
   bif decide ((fj:Int)>eI) then
    kr (fj,eI,decide ((fj:Int)>eI),ak)
   else
    bif (decide (0≤eI))&&(decide (eI<(ak.length:Int))) then
    (ak[(eI:Int).toNat]?).bind fun fy=>
    bif (decide (0≤fj))&&(decide (fj<(ak.length:Int))) then
     (ak[(fj:Int).toNat]?).bind fun gd=>
     bif (decide (0≤fj))&&(decide (fj<(ak.length:Int))) then
     (ak[(fj:Int).toNat]?).bind fun po=>
     bif (decide (0≤eI))&&(decide (eI<((ak.set ((fj:Int).toNat) (.agg [.int .i64 ((fy.cell 0).toInt),.int .i64 ((fy.cell 1).toInt),.list aa ((fy.cell 2).toList)])).length:Int))) then
      ((ak.set ((fj:Int).toNat) (.agg [.int .i64 ((fy.cell 0).toInt),.int .i64 ((fy.cell 1).toInt),.list aa ((fy.cell 2).toList)]))[(eI:Int).toNat]?).bind fun wa=>
      kn (IntKind.wrap .i64 (fj+1),IntKind.wrap .i64 (eI-1),(ak.set ((fj:Int).toNat) (.agg [.int .i64 ((fy.cell 0).toInt),.int .i64 ((fy.cell 1).toInt),.list aa ((fy.cell 2).toList)])).set ((eI:Int).toNat) (.agg [.int .i64 ((gd.cell 0).toInt),.int .i64 ((gd.cell 1).toInt),.list aa ((gd.cell 2).toList)]))
     else none
     else none
    else none
    else none))
noncomputable def zH (C:ae) (a:Int):(Int × Int × (List V))→Option ((Int × Int × (List V)) ⊕ (Int × Int × Bool × (List V))):=un fun i=>un fun j ak=>DK C a i j ak (fun y=>some (.inl y)) (fun r=>some (.inr r))
noncomputable def Xv (C:ae):b8:=fun β n ds k=>
 bif Nat.beq n 49 then bM MV [false,true,false,false] [[1,0,3,0,4]] (@DI C) ds k else
 bif Nat.beq n 81 then bM MW [false,false,true,false] [[1,2,0,0,4]] (@zF C) ds k else
 bif Nat.beq n 50 then bM MX [false,true,true,true] [[1,0,0,0,0]] (@DK C) ds k else
 none
abbrev OD (C:ae) (b:bZ):Prop:=b6 Tryz.prog av C (Xv C) 99 (cl Tryz.prog (av.aQ 99)) (av.sin 99).bc.length b
theorem ajX (C:ae):OD C (.loop (ax [1,1,1,0,0,0,0,0,0,0] zD)):=
 bP MV [false,true,false,false] [[1,0,3,0,4]] (@DI C) (by kernel_rfl) (a9 (bs:=[]) (by kernel_rfl) aw) (fun ds=>by kernel_rfl) (fun i x=>by kernel_rfl) (fun i x β k=>by kernel_rfl) (fun β ds k=>by kernel_rfl)
theorem ajY (C:ae):OD C (.loop (ax [1,1,1,0,0,0,0,1,0,0,0] zD)):=
 bP MW [false,false,true,false] [[1,2,0,0,4]] (@zF C) (by kernel_rfl) (a9 (bs:=[]) (by kernel_rfl) aw) (fun ds=>by kernel_rfl) (fun i x=>by kernel_rfl) (fun i x β k=>by kernel_rfl) (fun β ds k=>by kernel_rfl)
theorem ajZ (C:ae):OD C (.loop (ax [1,1,1,0,0,0] zD)):=
 bP MX [false,true,true,true] [[1,0,0,0,0]] (@DK C) (by kernel_rfl) (a9 (bs:=[.loop (ax [1,1,1,0,0,0,0,0,0,0] zD),.loop (ax [1,1,1,0,0,0,0,1,0,0,0] zD)]) (by kernel_rfl) (br (ajX C) (br (ajY C) aw))) (fun ds=>by kernel_rfl) (fun i x=>by kernel_rfl) (fun i x β k=>by kernel_rfl) (fun β ds k=>by kernel_rfl)
noncomputable def Xw (C:ae) (a b' pivot:Int) (ak:List V):Option (List V):=
 bif (decide (0≤pivot))&&(decide (pivot<(ak.length:Int))) then
  (ak[(pivot:Int).toNat]?).bind fun x1=>
  bif (decide (0≤a))&&(decide (a<(ak.length:Int))) then
  (ak[(a:Int).toNat]?).bind fun x2=>
  bif (decide (0≤a))&&(decide (a<(ak.length:Int))) then
   (ak[(a:Int).toNat]?).bind fun x3=>
   bif (decide (0≤pivot))&&(decide (pivot<((ak.set ((a:Int).toNat) (.agg [.int .i64 ((x1.cell 0).toInt),.int .i64 ((x1.cell 1).toInt),.list aa ((x1.cell 2).toList)])).length:Int))) then
   ((ak.set ((a:Int).toNat) (.agg [.int .i64 ((x1.cell 0).toInt),.int .i64 ((x1.cell 1).toInt),.list aa ((x1.cell 2).toList)]))[(pivot:Int).toNat]?).bind fun x4=>
   (Loop (zH C a) (IntKind.wrap .i64 (a+1),IntKind.wrap .i64 (b'-1),(ak.set ((a:Int).toNat) (.agg [.int .i64 ((x1.cell 0).toInt),.int .i64 ((x1.cell 1).toInt),.list aa ((x1.cell 2).toList)])).set ((pivot:Int).toNat) (.agg [.int .i64 ((x2.cell 0).toInt),.int .i64 ((x2.cell 1).toInt),.list aa ((x2.cell 2).toList)]))).bind (un fun (aj0:Int)=>un fun (aph:Int)=>un fun (Nu:Bool) (aj1:List V)=>
    some [.int .i64 aj0,.list aa aj1])
   else none
  else none
  else none
 else none
theorem aj2 {a b' pivot:Int} {ak:List V} {r:Option (List V)} (h:Xw CC a b' pivot ak=r):CC vD [.int .i64 a,.int .i64 b',.int .i64 pivot,.list aa ak]=r:=
 aZ (key:=99) (L:=Xv CC) (bs:=[.loop (ax [1,1,1,0,0,0] zD)]) (by kernel_rfl) (br (ajZ CC) aw) (aX (by kernel_rfl) h)
noncomputable abbrev ov:Code:=cj Tryz.prog (av.aQ 98)
noncomputable def DL (C:ae) (a b' j:Int) (ak:List V) (i:Int) {β:Type} (kn:Int→Option β) (kr:(Int × Bool)→Option β):Option β:=
 bif decide ((i:Int)<b') then
  bif (decide (0≤i))&&(decide (i<(ak.length:Int))) then
  (ak[(i:Int).toNat]?).bind fun x1=>
  bif (decide (0≤(IntKind.wrap .i64 (i-1))))&&(decide ((IntKind.wrap .i64 (i-1))<(ak.length:Int))) then
   (ak[(IntKind.wrap .i64 (i-1):Int).toNat]?).bind fun x2=>
   (C bn [.int .i64 ((x1.cell 0).toInt),.int .i64 ((x1.cell 1).toInt),.list aa ((x1.cell 2).toList),.int .i64 ((x2.cell 0).toInt),.int .i64 ((x2.cell 1).toInt),.list aa ((x2.cell 2).toList)]).bind fun r3=>
   bif !(decide ((((V.nth r3 0).toInt):Int)<0)) then
   kn (IntKind.wrap .i64 (i+1))
   else
   kr (i,!(decide ((((V.nth r3 0).toInt):Int)<0)))
  else none
  else none
 else
  kr (i,false)
noncomputable def DM (C:ae) (a b' j:Int) (ak:List V):(Int)→Option ((Int) ⊕ (Int × Bool)):=fun i=>DL C a b' j ak i (fun y=>some (.inl y)) (fun r=>some (.inr r))
noncomputable def DN (C:ae) (a b' i j j':Int) (ak:List V) {β:Type} (kn:(Int × (List V))→Option β) (kr:(Int × (List V))→Option β):Option β:=
 bif decide ((j':Int)≥1) then
  bif (decide (0≤j'))&&(decide (j'<(ak.length:Int))) then
  (ak[(j':Int).toNat]?).bind fun ic=>
  bif (decide (0≤(IntKind.wrap .i64 (j'-1))))&&(decide ((IntKind.wrap .i64 (j'-1))<(ak.length:Int))) then
   (ak[(IntKind.wrap .i64 (j'-1):Int).toNat]?).bind fun ew=>
   (C bn [.int .i64 ((ic.cell 0).toInt),.int .i64 ((ic.cell 1).toInt),.list aa ((ic.cell 2).toList),.int .i64 ((ew.cell 0).toInt),.int .i64 ((ew.cell 1).toInt),.list aa ((ew.cell 2).toList)]).bind fun fg=>
   bif !(decide ((((V.nth fg 0).toInt):Int)<0)) then
   kr (j',ak)
   else
   bif (decide (0≤(IntKind.wrap .i64 (j'-1))))&&(decide ((IntKind.wrap .i64 (j'-1))<(ak.length:Int))) then
    (ak[(IntKind.wrap .i64 (j'-1):Int).toNat]?).bind fun iK=>
    bif (decide (0≤j'))&&(decide (j'<(ak.length:Int))) then
    (ak[(j':Int).toNat]?).bind fun ml=>
    bif (decide (0≤j'))&&(decide (j'<(ak.length:Int))) then
     (ak[(j':Int).toNat]?).bind fun fy=>
     bif (decide (0≤(IntKind.wrap .i64 (j'-1))))&&(decide ((IntKind.wrap .i64 (j'-1))<((ak.set ((j':Int).toNat) (.agg [.int .i64 ((iK.cell 0).toInt),.int .i64 ((iK.cell 1).toInt),.list aa ((iK.cell 2).toList)])).length:Int))) then
     ((ak.set ((j':Int).toNat) (.agg [.int .i64 ((iK.cell 0).toInt),.int .i64 ((iK.cell 1).toInt),.list aa ((iK.cell 2).toList)]))[(IntKind.wrap .i64 (j'-1):Int).toNat]?).bind fun gd=>
     kn (IntKind.wrap .i64 (j'-1),(ak.set ((j':Int).toNat) (.agg [.int .i64 ((iK.cell 0).toInt),.int .i64 ((iK.cell 1).toInt),.list aa ((iK.cell 2).toList)])).set ((IntKind.wrap .i64 (j'-1):Int).toNat) (.agg [.int .i64 ((ml.cell 0).toInt),.int .i64 ((ml.cell 1).toInt),.list aa ((ml.cell 2).toList)]))
     else none
    else none
    else none
   else none
  else none
  else none
 else
  kr (j',ak)
noncomputable def DO (C:ae) (a b' i j:Int):(Int × (List V))→Option ((Int × (List V)) ⊕ (Int × (List V))):=un fun j' ak=>DN C a b' i j j' ak (fun y=>some (.inl y)) (fun r=>some (.inr r))
noncomputable def Iz (C:ae) (a b' i j:Int) (t65:Bool) (ak:List V) {β:Type} (kr:(List V)→Option β):Option β:=
 bif t65 then
  (Loop (DO C a b' i j) (IntKind.wrap .i64 (i-1),ak)).bind (un fun (api:Int) (aj3:List V)=>
   kr aj3)
 else
  kr ak
noncomputable def DP (C:ae) (a b' i j j':Int) (ak:List V) {β:Type} (kn:(Int × (List V))→Option β) (kr:(Int × (List V))→Option β):Option β:=
 bif decide ((j':Int)<b') then
  bif (decide (0≤j'))&&(decide (j'<(ak.length:Int))) then
  (ak[(j':Int).toNat]?).bind fun sa=>
  bif (decide (0≤(IntKind.wrap .i64 (j'-1))))&&(decide ((IntKind.wrap .i64 (j'-1))<(ak.length:Int))) then
   (ak[(IntKind.wrap .i64 (j'-1):Int).toNat]?).bind fun y8=>
   (C bn [.int .i64 ((sa.cell 0).toInt),.int .i64 ((sa.cell 1).toInt),.list aa ((sa.cell 2).toList),.int .i64 ((y8.cell 0).toInt),.int .i64 ((y8.cell 1).toInt),.list aa ((y8.cell 2).toList)]).bind fun kQ=>
   bif !(decide ((((V.nth kQ 0).toInt):Int)<0)) then
   kr (j',ak)
   else
   bif (decide (0≤(IntKind.wrap .i64 (j'-1))))&&(decide ((IntKind.wrap .i64 (j'-1))<(ak.length:Int))) then
    (ak[(IntKind.wrap .i64 (j'-1):Int).toNat]?).bind fun iL=>
    bif (decide (0≤j'))&&(decide (j'<(ak.length:Int))) then
    (ak[(j':Int).toNat]?).bind fun tJ=>
    bif (decide (0≤j'))&&(decide (j'<(ak.length:Int))) then
     (ak[(j':Int).toNat]?).bind fun x25=>
     bif (decide (0≤(IntKind.wrap .i64 (j'-1))))&&(decide ((IntKind.wrap .i64 (j'-1))<((ak.set ((j':Int).toNat) (.agg [.int .i64 ((iL.cell 0).toInt),.int .i64 ((iL.cell 1).toInt),.list aa ((iL.cell 2).toList)])).length:Int))) then
     ((ak.set ((j':Int).toNat) (.agg [.int .i64 ((iL.cell 0).toInt),.int .i64 ((iL.cell 1).toInt),.list aa ((iL.cell 2).toList)]))[(IntKind.wrap .i64 (j'-1):Int).toNat]?).bind fun x26=>
     kn (IntKind.wrap .i64 (j'+1),(ak.set ((j':Int).toNat) (.agg [.int .i64 ((iL.cell 0).toInt),.int .i64 ((iL.cell 1).toInt),.list aa ((iL.cell 2).toList)])).set ((IntKind.wrap .i64 (j'-1):Int).toNat) (.agg [.int .i64 ((tJ.cell 0).toInt),.int .i64 ((tJ.cell 1).toInt),.list aa ((tJ.cell 2).toList)]))
     else none
    else none
    else none
   else none
  else none
  else none
 else
  kr (j',ak)
noncomputable def DQ (C:ae) (a b' i j:Int):(Int × (List V))→Option ((Int × (List V)) ⊕ (Int × (List V))):=un fun j' ak=>DP C a b' i j j' ak (fun y=>some (.inl y)) (fun r=>some (.inr r))
noncomputable def DR (C:ae) (a b' i j:Int) (ak:List V) {β:Type} (kn:(Int × Int × (List V))→Option β) (kr:((Bool × (List V)) ⊕ (Int × Int × Bool × (List V)))→Option β):Option β:=
 bif decide ((j:Int)<5) then
  (Loop (DM C a b' j ak) i).bind (un fun (fh:Int) (iJ:Bool)=>
   bif (fh:Int)==b' then
   kr (.inl (true,ak))
   else
   bif decide (((IntKind.wrap .i64 (b'-a)):Int)<50) then
    kr (.inl (false,ak))
   else
    bif (decide (0≤(IntKind.wrap .i64 (fh-1))))&&(decide ((IntKind.wrap .i64 (fh-1))<(ak.length:Int))) then
    (ak[(IntKind.wrap .i64 (fh-1):Int).toNat]?).bind fun x6=>
    bif (decide (0≤fh))&&(decide (fh<(ak.length:Int))) then
     (ak[(fh:Int).toNat]?).bind fun x7=>
     bif (decide (0≤fh))&&(decide (fh<(ak.length:Int))) then
     (ak[(fh:Int).toNat]?).bind fun x8=>
     bif (decide (0≤(IntKind.wrap .i64 (fh-1))))&&(decide ((IntKind.wrap .i64 (fh-1))<((ak.set ((fh:Int).toNat) (.agg [.int .i64 ((x6.cell 0).toInt),.int .i64 ((x6.cell 1).toInt),.list aa ((x6.cell 2).toList)])).length:Int))) then
      ((ak.set ((fh:Int).toNat) (.agg [.int .i64 ((x6.cell 0).toInt),.int .i64 ((x6.cell 1).toInt),.list aa ((x6.cell 2).toList)]))[(IntKind.wrap .i64 (fh-1):Int).toNat]?).bind fun x9=>
      Iz C a b' fh j (decide (((IntKind.wrap .i64 (fh-a)):Int)≥2)) ((ak.set ((fh:Int).toNat) (.agg [.int .i64 ((x6.cell 0).toInt),.int .i64 ((x6.cell 1).toInt),.list aa ((x6.cell 2).toList)])).set ((IntKind.wrap .i64 (fh-1):Int).toNat) (.agg [.int .i64 ((x7.cell 0).toInt),.int .i64 ((x7.cell 1).toInt),.list aa ((x7.cell 2).toList)])) (fun (Xx:List V)=>
       bif decide (((IntKind.wrap .i64 (b'-fh)):Int)≥2) then
       (Loop (DQ C a b' fh j) (IntKind.wrap .i64 (fh+1),Xx)).bind (un fun (apj:Int) (aj4:List V)=>
        kn (fh,IntKind.wrap .i64 (j+1),aj4))
       else
       kn (fh,IntKind.wrap .i64 (j+1),Xx))
     else none
     else none
    else none
    else none)
 else
  kr (.inr (i,j,decide ((j:Int)<5),ak))
noncomputable def tV (C:ae) (a b':Int):(Int × Int × (List V))→Option ((Int × Int × (List V)) ⊕ ((Bool × (List V)) ⊕ (Int × Int × Bool × (List V)))):=un fun i=>un fun j ak=>DR C a b' i j ak (fun y=>some (.inl y)) (fun r=>some (.inr r))
noncomputable def Xy (C:ae):b8:=fun β n ds k=>
 bif Nat.beq n 81 then bM MQ [false,false,true,false,false] [[1,2,0,4,0,5]] (@DL C) ds k else
 bif Nat.beq n 225 then bM MR [false,false,false,false,true,true] [[1,2,3,4,0,0]] (@DN C) ds k else
 bif Nat.beq n 1055 then iH MS [[1,2,3,4,0]] (@Iz C) ds k else
 bif Nat.beq n 321 then bM MT [false,false,false,false,true,true] [[1,2,3,4,0,0]] (@DP C) ds k else
 bif Nat.beq n 49 then bM MU [false,false,true,true,true] [[0,0],[1,2,0,0,0,0]] (@DR C) ds k else
 none
abbrev DS (C:ae) (b:bZ):Prop:=b6 Tryz.prog av C (Xy C) 98 (cl Tryz.prog (av.aQ 98)) (av.sin 98).bc.length b
theorem aj5 (C:ae):DS C (.loop (ax [1,1,0,1,0,0,1,0,0,0,0,0] ov)):=
 bP MQ [false,false,true,false,false] [[1,2,0,4,0,5]] (@DL C) (by kernel_rfl) (a9 (bs:=[]) (by kernel_rfl) aw) (fun ds=>by kernel_rfl) (fun i x=>by kernel_rfl) (fun i x β k=>by kernel_rfl) (fun β ds k=>by kernel_rfl)
theorem aj6 (C:ae):DS C (.loop (ax [1,1,0,1,0,0,1,0,0,1,1,1,1,0,1,0,1,0,0] ov)):=
 bP MR [false,false,false,false,true,true] [[1,2,3,4,0,0]] (@DN C) (by kernel_rfl) (a9 (bs:=[]) (by kernel_rfl) aw) (fun ds=>by kernel_rfl) (fun i x=>by kernel_rfl) (fun i x β k=>by kernel_rfl) (fun β ds k=>by kernel_rfl)
theorem aj7 (C:ae):DS C (.cond 65 (ax [1,1,0,1,0,0,1,0,0,1,1,1,1,0,1,0] ov) (ax [1,1,0,1,0,0,1,0,0,1,1,1,1,0,1,1] ov)):=
 jn MS [[1,2,3,4,0]] (@Iz C) (by kernel_rfl) (a9 (bs:=[.loop (ax [1,1,0,1,0,0,1,0,0,1,1,1,1,0,1,0,1,0,0] ov)]) (by kernel_rfl) (br (aj6 C) aw)) (a9 (bs:=[]) (by kernel_rfl) aw) (fun ds=>by kernel_rfl) (fun i β k=>by kernel_rfl) (fun β ds k=>by kernel_rfl)
theorem aj8 (C:ae):DS C (.loop (ax [1,1,0,1,0,0,1,0,0,1,1,1,1,1,1,0,1,0,0] ov)):=
 bP MT [false,false,false,false,true,true] [[1,2,3,4,0,0]] (@DP C) (by kernel_rfl) (a9 (bs:=[]) (by kernel_rfl) aw) (fun ds=>by kernel_rfl) (fun i x=>by kernel_rfl) (fun i x β k=>by kernel_rfl) (fun β ds k=>by kernel_rfl)
theorem aj9 (C:ae):DS C (.loop (ax [1,1,0,1,0,0] ov)):=
 bP MU [false,false,true,true,true] [[0,0],[1,2,0,0,0,0]] (@DR C) (by kernel_rfl) (a9 (bs:=[.loop (ax [1,1,0,1,0,0,1,0,0,0,0,0] ov),.cond 65 (ax [1,1,0,1,0,0,1,0,0,1,1,1,1,0,1,0] ov) (ax [1,1,0,1,0,0,1,0,0,1,1,1,1,0,1,1] ov),.loop (ax [1,1,0,1,0,0,1,0,0,1,1,1,1,1,1,0,1,0,0] ov)]) (by kernel_rfl) (br (aj5 C) (br (aj7 C) (br (aj8 C) aw)))) (fun ds=>by kernel_rfl) (fun i x=>by kernel_rfl) (fun i x β k=>by kernel_rfl) (fun β ds k=>by kernel_rfl)
noncomputable def Xz (C:ae) (a b':Int) (ak:List V):Option (List V):=
 (Loop (tV C a b') (IntKind.wrap .i64 (a+1),0,ak)).bind (cB (un fun (Ub:Bool) (aka:List V)=>
  some [.bool Ub,.list aa aka]) (un fun (apk:Int)=>un fun (apl:Int)=>un fun (Ud:Bool) (akb:List V)=>
  some [.bool false,.list aa akb]))
theorem akc {a b':Int} {ak:List V} {r:Option (List V)} (h:Xz CC a b' ak=r):CC Hi [.int .i64 a,.int .i64 b',.list aa ak]=r:=
 aZ (key:=98) (L:=Xy CC) (bs:=[.loop (ax [1,1,0,1,0,0] ov)]) (by kernel_rfl) (br (aj9 CC) aw) (aX (by kernel_rfl) h)
end Go.AM
set_option maxRecDepth 100000
set_option maxHeartbeats 4000000
namespace Go.AM.SX
open Go.Proofs Go.Sort
theorem zI (p:XE→Bool) (d:Array XE) (j i:Nat):scanUp p d j i=if i≤j then (if p d[i]! =true then scanUp p d j (i+1) else i) else i:=by
 conv=>lhs;rw[scanUp]
 by_cases h:i≤j
 ·rw[ah h];simp only[h,oG,ka]
 ·rw[ai h,ai (by simp[h])]
theorem OE (p:XE→Bool) (d:Array XE) (i j:Nat):scanDown p d i (j+1)=if i≤j+1 then (if p d[j+1]! =true then scanDown p d i j else j+1) else j+1:=by
 conv=>lhs;rw[scanDown]
 by_cases h:i≤j+1
 ·rw[ah h];simp only[h,oG,ka]
 ·rw[ai h,ai (by simp[h])]
theorem IA (d:Array XE) (b i:Nat):scanSorted aA d b i=if i<b then (if b9 d[i]! d[i-1]! <0 then i else scanSorted aA d b (i+1)) else i:=by
 conv=>lhs;rw[scanSorted]
 by_cases h:i<b
 ·rw[ah h];simp only[h,oG,ka,sk]
  by_cases U:b9 d[i]! d[i-1]! <0
  ·rw[ai (qS U),ah U]
  ·rw[ah U,ai U]
 ·rw[ai h,ai (by simp[h])]
theorem XA (j:Nat) (d:Array XE):shiftDown aA (j+1) d=if b9 d[j+1]! d[j]! <0 then shiftDown aA j (swp d (j+1) j) else d:=by
 conv=>lhs;rw[shiftDown]
 simp only[sk]
 by_cases U:b9 d[j+1]! d[j]! <0
 ·rw[ai (qS U),ah U]
 ·rw[ah U,ai U]
theorem IB (b j:Nat) (d:Array XE):shiftUp aA b j d=if j<b then (if b9 d[j]! d[j-1]! <0 then shiftUp aA b (j+1) (swp d j (j-1)) else d) else d:=by
 conv=>lhs;rw[shiftUp]
 simp only[sk]
 by_cases h:j<b
 ·rw[ah h,ah h]
  by_cases U:b9 d[j]! d[j-1]! <0
  ·rw[ai (qS U),ah U]
  ·rw[ah U,ai U]
 ·rw[ai h,ai h]
theorem akd {a:Nat}: ∀(n i j:Nat) (d:Array XE),j+1-i≤n→(partLoop aA a i j d).2.size=d.size∧(partLoop aA a i j d).1≤j:=by
 intro n
 induction n with
 | zero=>
  intro i j d hn
  have h1:=scanUp_ge (fun x=>aA x d[a]!) d j i
  have U:=scanDown_le (fun x=> !aA x d[a]!) d (scanUp (fun x=>aA x d[a]!) d j i) j
  rw[partLoop_eq,ah (by omega)]
  exact ⟨rfl,U⟩
 | succ n ih=>
  intro i j d hn
  rw[partLoop_eq]
  have h1:=scanUp_ge (fun x=>aA x d[a]!) d j i
  have U:=scanDown_le (fun x=> !aA x d[a]!) d (scanUp (fun x=>aA x d[a]!) d j i) j
  split
  ·exact ⟨rfl,U⟩
  ·obtain ⟨h3,h4⟩:=ih (scanUp (fun x=>aA x d[a]!) d j i+1) (scanDown (fun x=> !aA x d[a]!) d (scanUp (fun x=>aA x d[a]!) d j i) j-1) (swp d (scanUp (fun x=>aA x d[a]!) d j i) (scanDown (fun x=> !aA x d[a]!) d (scanUp (fun x=>aA x d[a]!) d j i) j)) (by omega)
   exact ⟨by rw[h3,size_swp],by omega⟩
theorem kR {β:Type} {d:Array XE} {i:Nat} {x y:Option β} (h:i<d.size):(bif (decide (0≤(i:Int)))&&(decide ((i:Int)<((eA d).length:Int))) then x else y)=x:=by
 rw[gh,cu,az,ah (by omega),az,ah (by omega)]
theorem IC {β:Type} {d:Array XE} {i k:Nat} {v:V} {x y:Option β} (h:i<d.size):(bif (decide (0≤(i:Int)))&&(decide ((i:Int)<(((eA d).set k v).length:Int))) then x else y)=x:=by
 rw[nq,gh,cu,az,ah (by omega),az,ah (by omega)]
theorem kS {β:Type} {d:Array XE} {i:Nat} {f:V→Option β} (h:i<d.size):((eA d)[(i:Int).toNat]?).bind f=f (d[i]!).enc:=by
 rw[Int.toNat_natCast,gj h];rfl
theorem ID {β:Type} {d:Array XE} {i k:Nat} {v:V} {x:Option β} (h:i<d.size):(((eA d).set k v)[(i:Int).toNat]?).bind (fun _=>x)=x:=by
 rw[Int.toNat_natCast,bN (by rw[nq,gh];exact h)];rfl
theorem sn {β:Type} {d:Array XE} {i:Nat} {f:V→Option β} (h:i<d.size):((eA d)[i]?).bind f=f (d[i]!).enc:=by
 rw[gj h];rfl
theorem OF {β:Type} {d:Array XE} {i k:Nat} {v:V} {x:Option β} (h:i<d.size):(((eA d).set k v)[i]?).bind (fun _=>x)=x:=by
 rw[bN (by rw[nq,gh];exact h)];rfl
theorem ake {a j:Nat} {d:Array XE} (ha:a<d.size) (hj:j<d.size) (hs:d.size<1152921504606846976): ∀(n i:Nat),j+1-i=n→i≤d.size→
  ∃t,Loop (DD CC a j (eA d)) (i:Int)=some (((scanUp (fun x=>aA x d[a]!) d j i:Nat):Int),t):=by
 intro n
 induction n with
 | zero=>
  intro i hn hi
  rw[zI,ai (by omega)]
  exact ⟨false,bj (by simp (disch:=omega) only[DD,DC,az,ai])⟩
 | succ n ih=>
  intro i hn hi
  obtain ⟨t,h⟩:=ih (i+1) (by omega) (by omega)
  rw[zI,ah (by omega)]
  have e:DD CC a j (eA d) (i:Int)=if b9 d[i]! d[a]! <0 then some (.inl ((i+1:Nat):Int)) else some (.inr ((i:Int),decide (b9 d[i]! d[a]! <0))):=by
   simp (disch:=omega) only[DD,DC,az,cu,ga,ah,ai,wrap64,dU,gk,Int.toNat_natCast,Option.bind_some,gh,gj,XE.bz,XE.bA,XE.bB,XE.re,gi,iP,gR,gN,V.aC,V.toInt_int,cond_true,cond_false]
  simp only[tU]
  by_cases U:b9 d[i]! d[a]! <0
  ·rw[ah U] at e
   rw[ah U]
   exact ⟨t,(bW e).trans h⟩
  ·rw[ai U] at e
   rw[ai U]
   exact ⟨_,bj e⟩
theorem XB {a j:Nat} {d:Array XE} (ha:a<d.size) (hj:j<d.size) (hs:d.size<1152921504606846976): ∀(n i:Nat),j+1-i=n→i≤d.size→
  ∃t,Loop (DF CC a j (eA d)) (i:Int)=some (((scanUp (fun x=>aA x d[a]!) d j i:Nat):Int),t):=by
 intro n
 induction n with
 | zero=>
  intro i hn hi
  rw[zI,ai (by omega)]
  exact ⟨false,bj (by simp (disch:=omega) only[DF,DE,az,ai])⟩
 | succ n ih=>
  intro i hn hi
  obtain ⟨t,h⟩:=ih (i+1) (by omega) (by omega)
  rw[zI,ah (by omega)]
  have e:DF CC a j (eA d) (i:Int)=if b9 d[i]! d[a]! <0 then some (.inl ((i+1:Nat):Int)) else some (.inr ((i:Int),decide (b9 d[i]! d[a]! <0))):=by
   simp (disch:=omega) only[DF,DE,az,cu,ga,ah,ai,wrap64,dU,gk,Int.toNat_natCast,Option.bind_some,gh,gj,XE.bz,XE.bA,XE.bB,XE.re,gi,iP,gR,gN,V.aC,V.toInt_int,cond_true,cond_false]
  simp only[tU]
  by_cases U:b9 d[i]! d[a]! <0
  ·rw[ah U] at e
   rw[ah U]
   exact ⟨t,(bW e).trans h⟩
  ·rw[ai U] at e
   rw[ai U]
   exact ⟨_,bj e⟩
theorem XC {a i:Nat} {d:Array XE} (ha:a<d.size) (hi:1≤i) (hs:d.size<1152921504606846976): ∀(j:Nat),j<d.size→
  ∃t,Loop (zz CC a i (eA d)) (j:Int)=some (((scanDown (fun x=> !aA x d[a]!) d i j:Nat):Int),t)
 | 0,hj=>⟨false,bj (by simp (disch:=omega) only[zz,zy,az,ai];rfl)⟩
 | j+1,hj=>by
  obtain ⟨t,h⟩:=XC ha hi hs j (by omega)
  rw[OE]
  by_cases h1:i≤j+1
  ·rw[ah h1]
   have e:zz CC a i (eA d) ((j+1:Nat):Int)=if b9 d[j+1]! d[a]! <0 then some (.inr (((j+1:Nat):Int),!decide (b9 d[j+1]! d[a]! <0))) else some (.inl (j:Int)):=by
    simp (disch:=omega) only[zz,zy,az,cu,ga,ah,ai,wrap64,dU,gk,Int.toNat_natCast,Option.bind_some,gh,gj,XE.bz,XE.bA,XE.bB,XE.re,gi,iP,gR,gN,V.aC,V.toInt_int,cond_true,cond_false,wC]
   simp only[sk]
   by_cases U:b9 d[j+1]! d[a]! <0
   ·rw[ah U] at e
    rw[ai (qS U)]
    exact ⟨_,bj e⟩
   ·rw[ai U] at e
    rw[ah U]
    exact ⟨t,(bW e).trans h⟩
  ·rw[ai h1]
   exact ⟨false,bj (by simp (disch:=omega) only[zz,zy,az,ai])⟩
theorem ph {a i:Nat} {d:Array XE} (ha:a<d.size) (hi:1≤i) (hs:d.size<1152921504606846976): ∀(j:Nat),j<d.size→
  ∃t,Loop (zB CC a i (eA d)) (j:Int)=some (((scanDown (fun x=> !aA x d[a]!) d i j:Nat):Int),t)
 | 0,hj=>⟨false,bj (by simp (disch:=omega) only[zB,zA,az,ai];rfl)⟩
 | j+1,hj=>by
  obtain ⟨t,h⟩:=ph ha hi hs j (by omega)
  rw[OE]
  by_cases h1:i≤j+1
  ·rw[ah h1]
   have e:zB CC a i (eA d) ((j+1:Nat):Int)=if b9 d[j+1]! d[a]! <0 then some (.inr (((j+1:Nat):Int),!decide (b9 d[j+1]! d[a]! <0))) else some (.inl (j:Int)):=by
    simp (disch:=omega) only[zB,zA,az,cu,ga,ah,ai,wrap64,dU,gk,Int.toNat_natCast,Option.bind_some,gh,gj,XE.bz,XE.bA,XE.bB,XE.re,gi,iP,gR,gN,V.aC,V.toInt_int,cond_true,cond_false,wC]
   simp only[sk]
   by_cases U:b9 d[j+1]! d[a]! <0
   ·rw[ah U] at e
    rw[ai (qS U)]
    exact ⟨_,bj e⟩
   ·rw[ai U] at e
    rw[ah U]
    exact ⟨t,(bW e).trans h⟩
  ·rw[ai h1]
   exact ⟨false,bj (by simp (disch:=omega) only[zB,zA,az,ai])⟩
theorem XD {a j:Nat} {d:Array XE} (ha:a<d.size) (hj:j<d.size) (hs:d.size<1152921504606846976): ∀(n i:Nat),j+1-i=n→i≤d.size→
  ∃t,Loop (DJ CC a j (eA d)) (i:Int)=some (((scanUp (fun x=> !aA d[a]! x) d j i:Nat):Int),t):=by
 intro n
 induction n with
 | zero=>
  intro i hn hi
  rw[zI,ai (by omega)]
  exact ⟨false,bj (by simp (disch:=omega) only[DJ,DI,az,ai])⟩
 | succ n ih=>
  intro i hn hi
  obtain ⟨t,h⟩:=ih (i+1) (by omega) (by omega)
  rw[zI,ah (by omega)]
  have e:DJ CC a j (eA d) (i:Int)=if b9 d[a]! d[i]! <0 then some (.inr ((i:Int),!decide (b9 d[a]! d[i]! <0))) else some (.inl ((i+1:Nat):Int)):=by
   simp (disch:=omega) only[DJ,DI,az,cu,ga,ah,ai,wrap64,dU,gk,Int.toNat_natCast,Option.bind_some,gh,gj,XE.bz,XE.bA,XE.bB,XE.re,gi,iP,gR,gN,V.aC,V.toInt_int,cond_true,cond_false]
  simp only[sk]
  by_cases U:b9 d[a]! d[i]! <0
  ·rw[ah U] at e
   rw[ai (qS U)]
   exact ⟨_,bj e⟩
  ·rw[ai U] at e
   rw[ah U]
   exact ⟨t,(bW e).trans h⟩
theorem OG {a i:Nat} {d:Array XE} (ha:a<d.size) (hi:1≤i) (hs:d.size<1152921504606846976): ∀(j:Nat),j<d.size→
  ∃t,Loop (zG CC a i (eA d)) (j:Int)=some (((scanDown (fun x=>aA d[a]! x) d i j:Nat):Int),t)
 | 0,hj=>⟨false,bj (by simp (disch:=omega) only[zG,zF,az,ai];rfl)⟩
 | j+1,hj=>by
  obtain ⟨t,h⟩:=OG ha hi hs j (by omega)
  rw[OE]
  by_cases h1:i≤j+1
  ·rw[ah h1]
   have e:zG CC a i (eA d) ((j+1:Nat):Int)=if b9 d[a]! d[j+1]! <0 then some (.inl (j:Int)) else some (.inr (((j+1:Nat):Int),decide (b9 d[a]! d[j+1]! <0))):=by
    simp (disch:=omega) only[zG,zF,az,cu,ga,ah,ai,wrap64,dU,gk,Int.toNat_natCast,Option.bind_some,gh,gj,XE.bz,XE.bA,XE.bB,XE.re,gi,iP,gR,gN,V.aC,V.toInt_int,cond_true,cond_false,wC]
   simp only[tU]
   by_cases U:b9 d[a]! d[j+1]! <0
   ·rw[ah U] at e
    rw[ah U]
    exact ⟨t,(bW e).trans h⟩
   ·rw[ai U] at e
    rw[ai U]
    exact ⟨_,bj e⟩
  ·rw[ai h1]
   exact ⟨false,bj (by simp (disch:=omega) only[zG,zF,az,ai])⟩
theorem akf {a:Nat}: ∀(n i j:Nat) (d:Array XE),j+1-i≤n→1≤i→i≤d.size→a<d.size→j<d.size→d.size<1152921504606846976→
  ∃x z,Loop (zC CC a) ((i:Int),(j:Int),eA d)=some (x,(((partLoop aA a i j d).1:Nat):Int),z,eA (partLoop aA a i j d).2):=by
 intro n
 induction n with
 | zero=>
  intro i j d hn h1 U ha hj hs
  obtain ⟨t3,e3⟩:=XB (a:=a) ha hj hs _ i rfl U
  have g1:=scanUp_ge (fun x=>aA x d[a]!) d j i
  have g2:=scanDown_le (fun x=> !aA x d[a]!) d (scanUp (fun x=>aA x d[a]!) d j i) j
  obtain ⟨t4,e4⟩:=ph (a:=a) (i:=scanUp (fun x=>aA x d[a]!) d j i) ha (by omega) hs j hj
  rw[partLoop_eq,ah (by omega)]
  refine ⟨((scanUp (fun x=>aA x d[a]!) d j i:Nat):Int),true,bj ?_⟩
  simp only[zC,DG,un]
  rw[e3]
  simp only[Option.bind_some,un]
  rw[e4]
  simp (disch:=omega) only[Option.bind_some,un,oo,cond_true]
 | succ n ih=>
  intro i j d hn h1 U ha hj hs
  obtain ⟨t3,e3⟩:=XB (a:=a) ha hj hs _ i rfl U
  have g1:=scanUp_ge (fun x=>aA x d[a]!) d j i
  have g2:=scanDown_le (fun x=> !aA x d[a]!) d (scanUp (fun x=>aA x d[a]!) d j i) j
  obtain ⟨t4,e4⟩:=ph (a:=a) (i:=scanUp (fun x=>aA x d[a]!) d j i) ha (by omega) hs j hj
  rw[partLoop_eq]
  have f:zC CC a ((i:Int),(j:Int),eA d)=zC CC a ((i:Int),(j:Int),eA d):=rfl
  conv at f=>rhs;simp only[zC,DG,un];rw[e3];simp only[Option.bind_some,un];rw[e4];simp only[Option.bind_some,un]
  generalize g9:scanUp (fun x=>aA x d[a]!) d j i=i2 at*
  generalize gu:scanDown (fun x=> !aA x d[a]!) d i2 j=j2 at*
  by_cases h:i2>j2
  ·rw[ah h]
   refine ⟨(i2:Int),true,bj (f.trans ?_)⟩
   simp (disch:=omega) only[Option.bind_some,oo,cond_true]
  ·rw[ai h]
   obtain ⟨x,z,e⟩:=ih (i2+1) (j2-1) (swp d i2 j2) (by omega) (by omega) (by rw[size_swp];omega) (by rw[size_swp];omega) (by rw[size_swp];omega) (by rw[size_swp];omega)
   refine ⟨x,z,(bW (f.trans ?_)).trans e⟩
   simp (disch:=omega) only[az,cu,ga,ah,ai,wrap64,dU,gk,Int.toNat_natCast,Option.bind_some,gh,gj,XE.bz,XE.bA,XE.bB,XE.re,gi,iP,gR,gN,V.aC,V.toInt_int,cond_true,cond_false,kP]
   rfl
theorem akg (d:Array XE) (a b pivot:Nat):partition aA d a b pivot=
  if scanUp (fun x=>aA x (swp d a pivot)[a]!) (swp d a pivot) (b-1) (a+1)>scanDown (fun x=> !aA x (swp d a pivot)[a]!) (swp d a pivot) (scanUp (fun x=>aA x (swp d a pivot)[a]!) (swp d a pivot) (b-1) (a+1)) (b-1) then
   (scanDown (fun x=> !aA x (swp d a pivot)[a]!) (swp d a pivot) (scanUp (fun x=>aA x (swp d a pivot)[a]!) (swp d a pivot) (b-1) (a+1)) (b-1),true,swp (swp d a pivot) (scanDown (fun x=> !aA x (swp d a pivot)[a]!) (swp d a pivot) (scanUp (fun x=>aA x (swp d a pivot)[a]!) (swp d a pivot) (b-1) (a+1)) (b-1)) a)
  else
   ((partLoop aA a (scanUp (fun x=>aA x (swp d a pivot)[a]!) (swp d a pivot) (b-1) (a+1)+1) (scanDown (fun x=> !aA x (swp d a pivot)[a]!) (swp d a pivot) (scanUp (fun x=>aA x (swp d a pivot)[a]!) (swp d a pivot) (b-1) (a+1)) (b-1)-1) (swp (swp d a pivot) (scanUp (fun x=>aA x (swp d a pivot)[a]!) (swp d a pivot) (b-1) (a+1)) (scanDown (fun x=> !aA x (swp d a pivot)[a]!) (swp d a pivot) (scanUp (fun x=>aA x (swp d a pivot)[a]!) (swp d a pivot) (b-1) (a+1)) (b-1)))).1,false,
    swp (partLoop aA a (scanUp (fun x=>aA x (swp d a pivot)[a]!) (swp d a pivot) (b-1) (a+1)+1) (scanDown (fun x=> !aA x (swp d a pivot)[a]!) (swp d a pivot) (scanUp (fun x=>aA x (swp d a pivot)[a]!) (swp d a pivot) (b-1) (a+1)) (b-1)-1) (swp (swp d a pivot) (scanUp (fun x=>aA x (swp d a pivot)[a]!) (swp d a pivot) (b-1) (a+1)) (scanDown (fun x=> !aA x (swp d a pivot)[a]!) (swp d a pivot) (scanUp (fun x=>aA x (swp d a pivot)[a]!) (swp d a pivot) (b-1) (a+1)) (b-1)))).2
    (partLoop aA a (scanUp (fun x=>aA x (swp d a pivot)[a]!) (swp d a pivot) (b-1) (a+1)+1) (scanDown (fun x=> !aA x (swp d a pivot)[a]!) (swp d a pivot) (scanUp (fun x=>aA x (swp d a pivot)[a]!) (swp d a pivot) (b-1) (a+1)) (b-1)-1) (swp (swp d a pivot) (scanUp (fun x=>aA x (swp d a pivot)[a]!) (swp d a pivot) (b-1) (a+1)) (scanDown (fun x=> !aA x (swp d a pivot)[a]!) (swp d a pivot) (scanUp (fun x=>aA x (swp d a pivot)[a]!) (swp d a pivot) (b-1) (a+1)) (b-1)))).1 a):=rfl
theorem zJ (d:Array XE) (i j:Nat):eA ((d.setIfInBounds i d[j]!).setIfInBounds j d[i]!)=eA (swp d i j):=rfl
theorem akh {a b pivot:Nat} {d:Array XE} (hp:pivot<b) (fq:a<b) (hb:b≤d.size) (hs:d.size<1152921504606846976):
  CC nW [.int .i64 (a:Int),.int .i64 (b:Int),.int .i64 (pivot:Int),.list aa (eA d)]=
   some [.int .i64 ((partition aA d a b pivot).1:Int),.bool (partition aA d a b pivot).2.1,.list aa (eA (partition aA d a b pivot).2.2)]:=by
 refine ajW ?_
 unfold Xu
 have z1:(swp d a pivot).size=d.size:=size_swp ..
 obtain ⟨t1,e1⟩:=ake (a:=a) (j:=b-1) (d:=swp d a pivot) (by omega) (by omega) (by omega) _ (a+1) rfl (by omega)
 have g1:=scanUp_ge (fun x=>aA x (swp d a pivot)[a]!) (swp d a pivot) (b-1) (a+1)
 have g2:=scanDown_le (fun x=> !aA x (swp d a pivot)[a]!) (swp d a pivot) (scanUp (fun x=>aA x (swp d a pivot)[a]!) (swp d a pivot) (b-1) (a+1)) (b-1)
 obtain ⟨t2,e2⟩:=XC (a:=a) (i:=scanUp (fun x=>aA x (swp d a pivot)[a]!) (swp d a pivot) (b-1) (a+1)) (d:=swp d a pivot) (by omega) (by omega) (by omega) (b-1) (by omega)
 have e0:=akg d a b pivot
 rw[kR (i:=pivot) (by omega),kS (by omega),kR (i:=a) (by omega),kS (by omega),kR (i:=a) (by omega),kS (by omega),IC (i:=pivot) (by omega),ID (by omega)]
 simp only[XE.bz,XE.bA,XE.bB,XE.re,Int.toNat_natCast,gi,zJ]
 simp (disch:=omega) only[kP,dU,wrap64]
 rw[e1]
 simp only[Option.bind_some,un]
 rw[e2]
 simp only[Option.bind_some,un]
 generalize g9:scanUp (fun x=>aA x (swp d a pivot)[a]!) (swp d a pivot) (b-1) (a+1)=i2 at*
 generalize gu:scanDown (fun x=> !aA x (swp d a pivot)[a]!) (swp d a pivot) i2 (b-1)=j2 at*
 generalize swp d a pivot=d1 at*
 by_cases h:i2>j2
 ·rw[ah h] at e0
  rw[e0,az,ah (by omega)]
  rw[kR (i:=a) (by omega)];(first|rw[kS (by omega)]|rw[sn (by omega)]);rw[kR (i:=j2) (by omega)];(first|rw[kS (by omega)]|rw[sn (by omega)]);rw[kR (i:=j2) (by omega)];(first|rw[kS (by omega)]|rw[sn (by omega)]);rw[IC (i:=a) (by omega)];(first|rw[ID (by omega)]|rw[OF (by omega)])
  simp only[XE.bz,XE.bA,XE.bB,XE.re,Int.toNat_natCast,gi,zJ]
 ·rw[ai h] at e0
  rw[e0,az,ai (by omega)]
  have z2:(swp d1 i2 j2).size=d1.size:=size_swp ..
  obtain ⟨x,z,e5⟩:=akf (a:=a) _ (i2+1) (j2-1) (swp d1 i2 j2) (bU _) (by omega) (by omega) (by omega) (by omega) (by omega)
  obtain ⟨q1,q2⟩:=akd (a:=a) _ (i2+1) (j2-1) (swp d1 i2 j2) (bU _)
  rw[kR (i:=j2) (by omega)];(first|rw[kS (by omega)]|rw[sn (by omega)]);rw[kR (i:=i2) (by omega)];(first|rw[kS (by omega)]|rw[sn (by omega)]);rw[kR (i:=i2) (by omega)];(first|rw[kS (by omega)]|rw[sn (by omega)]);rw[IC (i:=j2) (by omega)];(first|rw[ID (by omega)]|rw[OF (by omega)])
  simp only[XE.bz,XE.bA,XE.bB,XE.re,Int.toNat_natCast,gi,zJ]
  simp (disch:=omega) only[kP,dU,wrap64]
  rw[e5]
  generalize partLoop aA a (i2+1) (j2-1) (swp d1 i2 j2)=r at*
  simp only[Option.bind_some,un]
  rw[kR (i:=a) (by omega)];(first|rw[kS (by omega)]|rw[sn (by omega)]);rw[kR (i:=r.1) (by omega)];(first|rw[kS (by omega)]|rw[sn (by omega)]);rw[kR (i:=r.1) (by omega)];(first|rw[kS (by omega)]|rw[sn (by omega)]);rw[IC (i:=a) (by omega)];(first|rw[ID (by omega)]|rw[OF (by omega)])
  simp only[XE.bz,XE.bA,XE.bB,XE.re,Int.toNat_natCast,gi,zJ]
theorem aki {a:Nat}: ∀(n i j:Nat) (d:Array XE),j+1-i≤n→1≤i→i≤d.size→a<d.size→j<d.size→d.size<1152921504606846976→
  ∃x z,Loop (zH CC a) ((i:Int),(j:Int),eA d)=some ((((partEqLoop aA a i j d).1:Nat):Int),x,z,eA (partEqLoop aA a i j d).2):=by
 intro n
 induction n with
 | zero=>
  intro i j d hn h1 U ha hj hs
  obtain ⟨t3,e3⟩:=XD (a:=a) ha hj hs _ i rfl U
  have g1:=scanUp_ge (fun x=> !aA d[a]! x) d j i
  have g2:=scanDown_le (fun x=>aA d[a]! x) d (scanUp (fun x=> !aA d[a]! x) d j i) j
  obtain ⟨t4,e4⟩:=OG (a:=a) (i:=scanUp (fun x=> !aA d[a]! x) d j i) ha (by omega) hs j hj
  rw[partEqLoop_eq,ah (by omega)]
  refine ⟨((scanDown (fun x=>aA d[a]! x) d (scanUp (fun x=> !aA d[a]! x) d j i) j:Nat):Int),true,bj ?_⟩
  simp only[zH,DK,un]
  rw[e3]
  simp only[Option.bind_some,un]
  rw[e4]
  simp (disch:=omega) only[Option.bind_some,un,oo,cond_true]
 | succ n ih=>
  intro i j d hn h1 U ha hj hs
  obtain ⟨t3,e3⟩:=XD (a:=a) ha hj hs _ i rfl U
  have g1:=scanUp_ge (fun x=> !aA d[a]! x) d j i
  have g2:=scanDown_le (fun x=>aA d[a]! x) d (scanUp (fun x=> !aA d[a]! x) d j i) j
  obtain ⟨t4,e4⟩:=OG (a:=a) (i:=scanUp (fun x=> !aA d[a]! x) d j i) ha (by omega) hs j hj
  rw[partEqLoop_eq]
  have f:zH CC a ((i:Int),(j:Int),eA d)=zH CC a ((i:Int),(j:Int),eA d):=rfl
  conv at f=>rhs;simp only[zH,DK,un];rw[e3];simp only[Option.bind_some,un];rw[e4];simp only[Option.bind_some,un]
  generalize g9:scanUp (fun x=> !aA d[a]! x) d j i=i2 at*
  generalize gu:scanDown (fun x=>aA d[a]! x) d i2 j=j2 at*
  by_cases h:i2>j2
  ·rw[ah h]
   refine ⟨(j2:Int),true,bj (f.trans ?_)⟩
   simp (disch:=omega) only[Option.bind_some,oo,cond_true]
  ·rw[ai h]
   obtain ⟨x,z,e⟩:=ih (i2+1) (j2-1) (swp d i2 j2) (by omega) (by omega) (by rw[size_swp];omega) (by rw[size_swp];omega) (by rw[size_swp];omega) (by rw[size_swp];omega)
   refine ⟨x,z,(bW (f.trans ?_)).trans e⟩
   simp (disch:=omega) only[az,cu,ga,ah,ai,wrap64,dU,gk,Int.toNat_natCast,Option.bind_some,gh,gj,XE.bz,XE.bA,XE.bB,XE.re,gi,iP,gR,gN,V.aC,V.toInt_int,cond_true,cond_false,kP]
   rfl
theorem akj {a b pivot:Nat} {d:Array XE} (hp:pivot<b) (fq:a<b) (hb:b≤d.size) (hs:d.size<1152921504606846976):
  CC vD [.int .i64 (a:Int),.int .i64 (b:Int),.int .i64 (pivot:Int),.list aa (eA d)]=
   some [.int .i64 ((partitionEqual aA d a b pivot).1:Int),.list aa (eA (partitionEqual aA d a b pivot).2)]:=by
 refine aj2 ?_
 unfold Xw
 have z1:(swp d a pivot).size=d.size:=size_swp ..
 obtain ⟨x,z,e⟩:=aki (a:=a) _ (a+1) (b-1) (swp d a pivot) (bU _) (by omega) (by omega) (by omega) (by omega) (by omega)
 simp (disch:=omega) only[az,cu,ah,gh,gj,Int.toNat_natCast,Option.bind_some,XE.bz,XE.bA,XE.bB,XE.re,gi,iP,gR,kP,dU,wrap64,zJ]
 rw[e]
 rfl
theorem akk {a b j:Nat} {d:Array XE} (hb:b≤d.size) (hs:d.size<1152921504606846976): ∀(n i:Nat),b-i=n→1≤i→i≤b→
  ∃t,Loop (DM CC a b j (eA d)) (i:Int)=some (((scanSorted aA d b i:Nat):Int),t):=by
 intro n
 induction n with
 | zero=>
  intro i hn h1 hi
  rw[IA,ai (by omega)]
  exact ⟨false,bj (by simp (disch:=omega) only[DM,DL,az,ai])⟩
 | succ n ih=>
  intro i hn h1 hi
  obtain ⟨t,h⟩:=ih (i+1) (by omega) (by omega) (by omega)
  rw[IA,ah (by omega)]
  have e:DM CC a b j (eA d) (i:Int)=if b9 d[i]! d[i-1]! <0 then some (.inr ((i:Int),!decide (b9 d[i]! d[i-1]! <0))) else some (.inl ((i+1:Nat):Int)):=by
   simp (disch:=omega) only[DM,DL,kP,az,cu,ga,ah,ai,wrap64,dU,gk,Int.toNat_natCast,Option.bind_some,gh,gj,XE.bz,XE.bA,XE.bB,XE.re,gi,iP,gR,gN,V.aC,V.toInt_int,cond_true,cond_false]
  by_cases U:b9 d[i]! d[i-1]! <0
  ·rw[ah U] at e⊢
   exact ⟨_,bj e⟩
  ·rw[ai U] at e⊢
   exact ⟨t,(bW e).trans h⟩
theorem XF: ∀(j:Nat) (d:Array XE),(shiftDown aA j d).size=d.size
 | 0,_=>rfl
 | j+1,d=>by
  rw[XA]
  split
  ·rw[XF j,size_swp]
  ·rfl
theorem akl {b:Nat}: ∀(n j:Nat) (d:Array XE),b-j=n→(shiftUp aA b j d).size=d.size:=by
 intro n
 induction n with
 | zero=>intro j d h;rw[IB,ai (by omega)]
 | succ n ih=>
  intro j d h
  rw[IB,ah (by omega)]
  split
  ·rw[ih _ _ (by omega),size_swp]
  ·rfl
theorem XG {a b i k:Nat}: ∀(j:Nat) (d:Array XE),j<d.size→d.size<1152921504606846976→
  ∃t,Loop (DO CC a b i k) ((j:Int),eA d)=some (t,eA (shiftDown aA j d))
 | 0,d,hj,hs=>⟨(0:Nat),bj (by
   simp (disch:=omega) only[DO,DN,un,az,ai]
   rfl)⟩
 | j+1,d,hj,hs=>by
  obtain ⟨t,ih⟩:=XG (a:=a) (b:=b) (i:=i) (k:=k) j (swp d (j+1) j) (by rw[size_swp];omega) (by rw[size_swp];omega)
  rw[XA]
  have e:DO CC a b i k (((j+1:Nat):Int),eA d)=if b9 d[j+1]! d[j]! <0 then some (.inl ((j:Int),eA (swp d (j+1) j))) else some (.inr (((j+1:Nat):Int),eA d)):=by
   simp (disch:=omega) only[DO,DN,un,az,cu,ga,ah,ai,wrap64,dU,gk,Int.toNat_natCast,Option.bind_some,gh,gj,XE.bz,XE.bA,XE.bB,XE.re,gi,iP,gR,gN,V.aC,V.toInt_int,cond_true,cond_false,wC]
   rfl
  by_cases U:b9 d[j+1]! d[j]! <0
  ·rw[ah U] at e⊢
   exact ⟨t,(bW e).trans ih⟩
  ·rw[ai U] at e⊢
   exact ⟨_,bj e⟩
theorem akm {a b i k:Nat}: ∀(n j:Nat) (d:Array XE),b-j=n→1≤j→j≤b→b≤d.size→d.size<1152921504606846976→
  ∃t,Loop (DQ CC a b i k) ((j:Int),eA d)=some (t,eA (shiftUp aA b j d)):=by
 intro n
 induction n with
 | zero=>
  intro j d hn h1 hj hb hs
  rw[IB,ai (by omega)]
  exact ⟨(j:Int),bj (by
   simp (disch:=omega) only[DQ,DP,un,az,ai])⟩
 | succ n ih=>
  intro j d hn h1 hj hb hs
  obtain ⟨t,h⟩:=ih (j+1) (swp d j (j-1)) (by omega) (by omega) (by omega) (by rw[size_swp];omega) (by rw[size_swp];omega)
  rw[IB,ah (by omega)]
  have e:DQ CC a b i k ((j:Int),eA d)=if b9 d[j]! d[j-1]! <0 then some (.inl (((j+1:Nat):Int),eA (swp d j (j-1)))) else some (.inr ((j:Int),eA d)):=by
   simp (disch:=omega) only[DQ,DP,un,kP,az,cu,ga,ah,ai,wrap64,dU,gk,Int.toNat_natCast,Option.bind_some,gh,gj,XE.bz,XE.bA,XE.bB,XE.re,gi,iP,gR,gN,V.aC,V.toInt_int,cond_true,cond_false]
   rfl
  by_cases U:b9 d[j]! d[j-1]! <0
  ·rw[ah U] at e⊢
   exact ⟨t,(bW e).trans h⟩
  ·rw[ai U] at e⊢
   exact ⟨_,bj e⟩
theorem akn {d:Array XE} {b:Nat}: ∀(n i:Nat),b-i=n→i≤b→i≤scanSorted aA d b i∧scanSorted aA d b i≤b:=by
 intro n
 induction n with
 | zero=>intro i hn hi;rw[IA,ai (by omega)];omega
 | succ n ih=>
  intro i hn hi
  rw[IA,ah (by omega)]
  obtain ⟨h1,U⟩:=ih (i+1) (by omega) (by omega)
  split<;>omega
theorem ako {a b:Nat}: ∀(s i:Nat) (d:Array XE),s≤5→a<i→i≤b→b≤d.size→d.size<1152921504606846976→
  (Loop (tV CC a b) ((i:Int),((5-s:Nat):Int),eA d)=some (.inl ((partialIns aA a b s i d).2,eA (partialIns aA a b s i d).1)))∨
  (∃x y z,(partialIns aA a b s i d).2=false∧Loop (tV CC a b) ((i:Int),((5-s:Nat):Int),eA d)=some (.inr (x,y,z,eA (partialIns aA a b s i d).1))):=by
 intro s
 induction s with
 | zero=>
  intro i d hs5 hi OH hb hs
  refine .inr ⟨(i:Int),((5:Nat):Int),false,rfl,bj ?_⟩
  simp (disch:=omega) only[tV,DR,un,tS,cond_false]
  rfl
 | succ s ih=>
  intro i d hs5 hi OH hb hs
  obtain ⟨t1,e1⟩:=akk (a:=a) (j:=5-(s+1)) hb hs _ i rfl (by omega) OH
  obtain ⟨q1,q2⟩:=akn (d:=d) _ i rfl OH
  rw[partialIns_succ]
  have f:tV CC a b ((i:Int),((5-(s+1):Nat):Int),eA d)=tV CC a b ((i:Int),((5-(s+1):Nat):Int),eA d):=rfl
  conv at f=>rhs;simp only[tV,DR,un];rw[az,ah (by omega),e1];simp only[Option.bind_some,un]
  generalize scanSorted aA d b i=k at*
  by_cases h1:k=b
  ·rw[ah h1]
   left
   refine bj (f.trans ?_)
   rw[dC,ah (by omega)]
  ·rw[ai h1]
   by_cases U:b-a<50
   ·rw[ah U]
    left
    refine bj (f.trans ?_)
    rw[dC,ai (by omega),wrap64 (by omega) (by omega),az,ah (by omega)]
   ·rw[ai U]
    have z1:(swp d k (k-1)).size=d.size:=size_swp ..
    have z2:(fixDown aA a k (swp d k (k-1))).size=d.size:=by
     unfold fixDown
     split
     ·rw[XF,z1]
     ·exact z1
    have z3:(fixUp aA b k (fixDown aA a k (swp d k (k-1)))).size=d.size:=by
     unfold fixUp
     split
     ·rw[akl _ _ _ rfl,z2]
     ·exact z2
    obtain ⟨t2,e2⟩:=XG (a:=a) (b:=b) (i:=k) (k:=5-(s+1)) (k-1) (swp d k (k-1)) (by omega) (by omega)
    obtain ⟨t4,e4⟩:=akm (a:=a) (b:=b) (i:=k) (k:=5-(s+1)) _ (k+1) (fixDown aA a k (swp d k (k-1))) rfl (by omega) (by omega) (by omega) (by omega)
    have e5:tV CC a b ((i:Int),((5-(s+1):Nat):Int),eA d)=some (.inl ((k:Int),((5-s:Nat):Int),eA (fixUp aA b k (fixDown aA a k (swp d k (k-1)))))):=by
     refine f.trans ?_
     rw[dC,ai (by omega),wrap64 (by omega) (by omega),az,ai (by omega)]
     simp (disch:=omega) only[az,cu,ah,gh,gj,Int.toNat_natCast,Option.bind_some,XE.bz,XE.bA,XE.bB,XE.re,gi,iP,gR,kP,dU,ng,wrap64,zJ,Iz]
     rw[show 5-(s+1)+1=5-s by omega]
     unfold fixDown at e4⊢
     unfold fixUp
     have c1:(((k-a:Nat):Int)≥2)=(k-a≥2):=propext (by omega)
     have c2:(((b-k:Nat):Int)≥2)=(b-k≥2):=propext (by omega)
     simp only[c1,c2]
     by_cases g1:k-a≥2
     ·by_cases g2:b-k≥2
      ·simp only[g1,g2,cU,e2,Option.bind_some,un] at e4⊢
       rw[e4]
       rfl
      ·simp only[g1,g2,cU,fR,e2,Option.bind_some,un]
     ·by_cases g2:b-k≥2
      ·simp only[g1,g2,cU,fR] at e4⊢
       rw[e4]
       rfl
      ·exact absurd (show b-k≥2 by omega) g2
    rw[bW e5]
    exact ih k _ (by omega) (by omega) (by omega) (by omega) (by omega)
theorem XH {a b:Nat} {d:Array XE} (fq:a<b) (hb:b≤d.size) (hs:d.size<1152921504606846976):
  CC Hi [.int .i64 (a:Int),.int .i64 (b:Int),.list aa (eA d)]=
   some [.bool (partialInsertionSort aA d a b).2,.list aa (eA (partialInsertionSort aA d a b).1)]:=by
 refine akc ?_
 unfold Xz
 simp (disch:=omega) only[dU,wrap64]
 rcases ako (a:=a) (b:=b) 5 (a+1) d (bU _) (by omega) (by omega) hb hs with h|⟨x,y,z,h0,h⟩
 ·rw[show ((5-5:Nat):Int)=0 from rfl] at h
  rw[h]
  rfl
 ·rw[show ((5-5:Nat):Int)=0 from rfl] at h
  rw[h]
  unfold partialInsertionSort
  rw[h0]
  rfl
end Go.AM.SX
set_option maxRecDepth 100000
namespace Go.AM
open Go.Proofs
noncomputable abbrev tW:Code:=cj Tryz.prog (av.aQ 96)
noncomputable def DT (C:ae) (data:List V) (i j k':Int) (t36:Bool) (ig:Int) {β:Type} (kr:(Int × Int × Int × Int)→Option β):Option β:=
 bif t36 then
  (C yH [.list aa data,.int .i64 i,.int .i64 ig]).bind fun r1=>
  (C yH [.list aa data,.int .i64 j,.int .i64 ((V.nth (r1.drop 1) 0).toInt)]).bind fun r2=>
  (C yH [.list aa data,.int .i64 k',.int .i64 ((V.nth (r2.drop 1) 0).toInt)]).bind fun r3=>
  kr ((V.nth r1 0).toInt,(V.nth r2 0).toInt,(V.nth r3 0).toInt,(V.nth (r3.drop 1) 0).toInt)
 else
  kr (i,j,k',ig)
noncomputable def DU (C:ae) (data:List V) (l i j k':Int) (t34:Bool) (ig:Int) {β:Type} (kr:(Int × Int)→Option β):Option β:=
 bif t34 then
  DT C data i j k' (decide ((l:Int)≥50)) ig (un fun (fh:Int)=>un fun (j_5:Int)=>un fun (k_6:Int) (akp:Int)=>
   (C BV [.list aa data,.int .i64 fh,.int .i64 j_5,.int .i64 k_6,.int .i64 akp]).bind fun r8=>
   kr ((V.nth r8 0).toInt,(V.nth (r8.drop 1) 0).toInt))
 else
  kr (j,ig)
noncomputable def XI (C:ae):b8:=fun β n ds k=>
 bif Nat.beq n 591 then iH MN [[1,0,0,0,0]] (@DT C) ds k else
 bif Nat.beq n 559 then iH MO [[0,0]] (@DU C) ds k else
 none
abbrev XJ (C:ae) (b:bZ):Prop:=b6 Tryz.prog av C (XI C) 96 (cl Tryz.prog (av.aQ 96)) (av.sin 96).bc.length b
theorem akq (C:ae):XJ C (.cond 36 (ax [1,1,1,1,1,1,0,1,0,0,1,0] tW) (ax [1,1,1,1,1,1,0,1,0,0,1,1] tW)):=
 jn MN [[1,0,0,0,0]] (@DT C) (by kernel_rfl) (a9 (bs:=[]) (by kernel_rfl) aw) (a9 (bs:=[]) (by kernel_rfl) aw) (fun ds=>by kernel_rfl) (fun i β k=>by kernel_rfl) (fun β ds k=>by kernel_rfl)
theorem akr (C:ae):XJ C (.cond 34 (ax [1,1,1,1,1,1,0,1,0] tW) (ax [1,1,1,1,1,1,0,1,1] tW)):=
 jn MO [[0,0]] (@DU C) (by kernel_rfl) (a9 (bs:=[.cond 36 (ax [1,1,1,1,1,1,0,1,0,0,1,0] tW) (ax [1,1,1,1,1,1,0,1,0,0,1,1] tW)]) (by kernel_rfl) (br (akq C) aw)) (a9 (bs:=[]) (by kernel_rfl) aw) (fun ds=>by kernel_rfl) (fun i β k=>by kernel_rfl) (fun β ds k=>by kernel_rfl)
noncomputable def OI (C:ae) (data:List V) (a b':Int):Option (List V):=
 DU C data (IntKind.wrap .i64 (b'-a)) (IntKind.wrap .i64 (a+(IntKind.wrap .i64 (1*(IntKind.wrap .i64 (Int.tdiv (IntKind.wrap .i64 (b'-a)) 4)))))) (IntKind.wrap .i64 (a+(IntKind.wrap .i64 (2*(IntKind.wrap .i64 (Int.tdiv (IntKind.wrap .i64 (b'-a)) 4)))))) (IntKind.wrap .i64 (a+(IntKind.wrap .i64 (3*(IntKind.wrap .i64 (Int.tdiv (IntKind.wrap .i64 (b'-a)) 4)))))) (decide (((IntKind.wrap .i64 (b'-a)):Int)≥8)) 0 (un fun (OJ:Int) (XK:Int)=>
  bif (XK:Int)==0 then
   some [.int .i64 OJ,.int .i64 1]
  else
   bif (XK:Int)==12 then
   some [.int .i64 OJ,.int .i64 2]
   else
   some [.int .i64 OJ,.int .i64 0])
theorem XL {data:List V} {a b':Int} {r:Option (List V)} (h:OI CC data a b'=r):CC BR [.list aa data,.int .i64 a,.int .i64 b']=r:=
 aZ (key:=96) (L:=XI CC) (bs:=[.cond 34 (ax [1,1,1,1,1,1,0,1,0] tW) (ax [1,1,1,1,1,1,0,1,1] tW)]) (by kernel_rfl) (br (akr CC) aw) (aX (by kernel_rfl) h)
noncomputable def XM (C:ae) (data:List V) (a b' c ig:Int):Option (List V):=
 (C yI [.list aa data,.int .i64 a,.int .i64 b',.int .i64 ig]).bind fun r1=>
 (C yI [.list aa data,.int .i64 ((V.nth (r1.drop 1) 0).toInt),.int .i64 c,.int .i64 ((V.nth (r1.drop 2) 0).toInt)]).bind fun r2=>
 (C yI [.list aa data,.int .i64 ((V.nth r1 0).toInt),.int .i64 ((V.nth r2 0).toInt),.int .i64 ((V.nth (r2.drop 2) 0).toInt)]).bind fun r3=>
 some [.int .i64 ((V.nth (r3.drop 1) 0).toInt),.int .i64 ((V.nth (r3.drop 2) 0).toInt)]
theorem aks {data:List V} {a b' c ig:Int} {r:Option (List V)} (h:XM CC data a b' c ig=r):CC BV [.list aa data,.int .i64 a,.int .i64 b',.int .i64 c,.int .i64 ig]=r:=
 aZ (key:=108) (L:=bX) (bs:=[]) (by kernel_rfl) aw (aX (by kernel_rfl) h)
noncomputable def OK (C:ae) (data:List V) (a b' ig:Int):Option (List V):=
 (idx data b').bind fun x1=>
 (idx data a).bind fun x2=>
 (C bn [.int .i64 ((x1.cell 0).toInt),.int .i64 ((x1.cell 1).toInt),.list aa ((x1.cell 2).toList),.int .i64 ((x2.cell 0).toInt),.int .i64 ((x2.cell 1).toInt),.list aa ((x2.cell 2).toList)]).bind fun r3=>
 bif decide ((((V.nth r3 0).toInt):Int)<0) then
  some [.int .i64 b',.int .i64 a,.int .i64 (IntKind.wrap .i64 (ig+1))]
 else
  some [.int .i64 a,.int .i64 b',.int .i64 ig]
theorem XN {data:List V} {a b' ig:Int} {r:Option (List V)} (h:OK CC data a b' ig=r):CC yI [.list aa data,.int .i64 a,.int .i64 b',.int .i64 ig]=r:=
 aZ (key:=109) (L:=bX) (bs:=[]) (by kernel_rfl) aw (aX (by kernel_rfl) h)
noncomputable def XO (C:ae) (data:List V) (a ig:Int):Option (List V):=
 (C BV [.list aa data,.int .i64 (IntKind.wrap .i64 (a-1)),.int .i64 a,.int .i64 (IntKind.wrap .i64 (a+1)),.int .i64 ig]).bind fun r1=>
 some [.int .i64 ((V.nth r1 0).toInt),.int .i64 ((V.nth (r1.drop 1) 0).toInt)]
theorem akt {data:List V} {a ig:Int} {r:Option (List V)} (h:XO CC data a ig=r):CC yH [.list aa data,.int .i64 a,.int .i64 ig]=r:=
 aZ (key:=107) (L:=bX) (bs:=[]) (by kernel_rfl) aw (aX (by kernel_rfl) h)
noncomputable abbrev zK:Code:=cj Tryz.prog (av.aQ 95)
noncomputable def IE (C:ae) (a length zL j7 other:Int) (t45:Bool) (ak:List V) (DV:Int) {β:Type} (kr:(Int)→Option β):Option β:=
 bif t45 then
  kr (IntKind.wrap .i64 (other-length))
 else
  kr other
noncomputable def DW (C:ae) (a length zL j7:Int) (ak:List V) (DV:Int) {β:Type} (kn:(Int × (List V) × Int)→Option β) (kr:(Int × Bool × (List V) × Int)→Option β):Option β:=
 bif decide ((j7:Int)≤(IntKind.wrap .i64 ((IntKind.wrap .i64 (a+(IntKind.wrap .i64 (2*(IntKind.wrap .i64 (Int.tdiv length 4))))))+1))) then
  (C Hl [.int .u64 DV]).bind fun r2=>
  IE C a length zL j7 (IntKind.wrap .i64 (IntKind.wrap .u64 ((BitVec.ofInt (IntKind.bits .u64) ((V.nth r2 0).toInt)&&&BitVec.ofInt (IntKind.bits .u64) (IntKind.wrap .u64 (zL-1))).toNat))) (decide (((IntKind.wrap .i64 (IntKind.wrap .u64 ((BitVec.ofInt (IntKind.bits .u64) ((V.nth r2 0).toInt)&&&BitVec.ofInt (IntKind.bits .u64) (IntKind.wrap .u64 (zL-1))).toNat))):Int)≥length)) ak ((V.nth (r2.drop 1) 0).toInt) (fun (wH:Int)=>
   bif (decide (0≤(IntKind.wrap .i64 (a+wH))))&&(decide ((IntKind.wrap .i64 (a+wH))<(ak.length:Int))) then
   (ak[(IntKind.wrap .i64 (a+wH):Int).toNat]?).bind fun x4=>
   bif (decide (0≤j7))&&(decide (j7<(ak.length:Int))) then
    (ak[(j7:Int).toNat]?).bind fun x5=>
    bif (decide (0≤j7))&&(decide (j7<(ak.length:Int))) then
    (ak[(j7:Int).toNat]?).bind fun x6=>
    bif (decide (0≤(IntKind.wrap .i64 (a+wH))))&&(decide ((IntKind.wrap .i64 (a+wH))<((ak.set ((j7:Int).toNat) (.agg [.int .i64 ((x4.cell 0).toInt),.int .i64 ((x4.cell 1).toInt),.list aa ((x4.cell 2).toList)])).length:Int))) then
     ((ak.set ((j7:Int).toNat) (.agg [.int .i64 ((x4.cell 0).toInt),.int .i64 ((x4.cell 1).toInt),.list aa ((x4.cell 2).toList)]))[(IntKind.wrap .i64 (a+wH):Int).toNat]?).bind fun x7=>
     kn (IntKind.wrap .i64 (j7+1),(ak.set ((j7:Int).toNat) (.agg [.int .i64 ((x4.cell 0).toInt),.int .i64 ((x4.cell 1).toInt),.list aa ((x4.cell 2).toList)])).set ((IntKind.wrap .i64 (a+wH):Int).toNat) (.agg [.int .i64 ((x5.cell 0).toInt),.int .i64 ((x5.cell 1).toInt),.list aa ((x5.cell 2).toList)]),(V.nth (r2.drop 1) 0).toInt)
    else none
    else none
   else none
   else none)
 else
  kr (j7,decide ((j7:Int)≤(IntKind.wrap .i64 ((IntKind.wrap .i64 (a+(IntKind.wrap .i64 (2*(IntKind.wrap .i64 (Int.tdiv length 4))))))+1))),ak,DV)
noncomputable def IF (C:ae) (a length zL:Int):(Int × (List V) × Int)→Option ((Int × (List V) × Int) ⊕ (Int × Bool × (List V) × Int)):=un fun j7=>un fun ak DV=>DW C a length zL j7 ak DV (fun y=>some (.inl y)) (fun r=>some (.inr r))
noncomputable def XP (C:ae):b8:=fun β n ds k=>
 bif Nat.beq n 735 then iH ML [[1,2,3,4,0,7,8]] (@IE C) ds k else
 bif Nat.beq n 81 then bM MM [false,false,false,true,true,true] [[1,2,3,0,0,0,0]] (@DW C) ds k else
 none
abbrev XQ (C:ae) (b:bZ):Prop:=b6 Tryz.prog av C (XP C) 95 (cl Tryz.prog (av.aQ 95)) (av.sin 95).bc.length b
theorem aku (C:ae):XQ C (.cond 45 (ax [1,1,0,1,1,1,0,0,1,0,0,1,0,1,0] zK) (ax [1,1,0,1,1,1,0,0,1,0,0,1,0,1,1] zK)):=
 jn ML [[1,2,3,4,0,7,8]] (@IE C) (by kernel_rfl) (a9 (bs:=[]) (by kernel_rfl) aw) (a9 (bs:=[]) (by kernel_rfl) aw) (fun ds=>by kernel_rfl) (fun i β k=>by kernel_rfl) (fun β ds k=>by kernel_rfl)
theorem akv (C:ae):XQ C (.loop (ax [1,1,0,1,1,1,0,0] zK)):=
 bP MM [false,false,false,true,true,true] [[1,2,3,0,0,0,0]] (@DW C) (by kernel_rfl) (a9 (bs:=[.cond 45 (ax [1,1,0,1,1,1,0,0,1,0,0,1,0,1,0] zK) (ax [1,1,0,1,1,1,0,0,1,0,0,1,0,1,1] zK)]) (by kernel_rfl) (br (aku C) aw)) (fun ds=>by kernel_rfl) (fun i x=>by kernel_rfl) (fun i x β k=>by kernel_rfl) (fun β ds k=>by kernel_rfl)
noncomputable def XR (C:ae) (a b':Int) (ak:List V):Option (List V):=
 bif decide (((IntKind.wrap .i64 (b'-a)):Int)≥8) then
  (C Hk [.int .i64 (IntKind.wrap .i64 (b'-a))]).bind fun r1=>
  (Loop (IF C a (IntKind.wrap .i64 (b'-a)) ((V.nth r1 0).toInt)) (IntKind.wrap .i64 ((IntKind.wrap .i64 (a+(IntKind.wrap .i64 (2*(IntKind.wrap .i64 (Int.tdiv (IntKind.wrap .i64 (b'-a)) 4))))))-1),ak,IntKind.wrap .u64 (IntKind.wrap .i64 (b'-a)))).bind (un fun (apm:Int)=>un fun (oe:Bool)=>un fun (pt:List V) (apn:Int)=>
   some [.list aa pt])
 else
  some [.list aa ak]
theorem akw {a b':Int} {ak:List V} {r:Option (List V)} (h:XR CC a b' ak=r):CC Hg [.int .i64 a,.int .i64 b',.list aa ak]=r:=
 aZ (key:=95) (L:=XP CC) (bs:=[.loop (ax [1,1,0,1,1,1,0,0] zK)]) (by kernel_rfl) (br (akv CC) aw) (aX (by kernel_rfl) h)
noncomputable def XS (C:ae) (js:Int):Option (List V):=
 some [.int .u64 (IntKind.wrap .u64 ((BitVec.ofInt (IntKind.bits .u64) (IntKind.wrap .u64 ((BitVec.ofInt (IntKind.bits .u64) (IntKind.wrap .u64 ((BitVec.ofInt (IntKind.bits .u64) js ^^^ BitVec.ofInt (IntKind.bits .u64) (IntKind.wrap .u64 (js*2^(min (13:Int).toNat (IntKind.bits .u64))))).toNat)) ^^^ BitVec.ofInt (IntKind.bits .u64) (Int.fdiv (IntKind.wrap .u64 ((BitVec.ofInt (IntKind.bits .u64) js ^^^ BitVec.ofInt (IntKind.bits .u64) (IntKind.wrap .u64 (js*2^(min (13:Int).toNat (IntKind.bits .u64))))).toNat)) (2^(min (7:Int).toNat (IntKind.bits .u64))))).toNat)) ^^^ BitVec.ofInt (IntKind.bits .u64) (IntKind.wrap .u64 ((IntKind.wrap .u64 ((BitVec.ofInt (IntKind.bits .u64) (IntKind.wrap .u64 ((BitVec.ofInt (IntKind.bits .u64) js ^^^ BitVec.ofInt (IntKind.bits .u64) (IntKind.wrap .u64 (js*2^(min (13:Int).toNat (IntKind.bits .u64))))).toNat)) ^^^ BitVec.ofInt (IntKind.bits .u64) (Int.fdiv (IntKind.wrap .u64 ((BitVec.ofInt (IntKind.bits .u64) js ^^^ BitVec.ofInt (IntKind.bits .u64) (IntKind.wrap .u64 (js*2^(min (13:Int).toNat (IntKind.bits .u64))))).toNat)) (2^(min (7:Int).toNat (IntKind.bits .u64))))).toNat))*2^(min (17:Int).toNat (IntKind.bits .u64))))).toNat)),.int .u64 (IntKind.wrap .u64 ((BitVec.ofInt (IntKind.bits .u64) (IntKind.wrap .u64 ((BitVec.ofInt (IntKind.bits .u64) (IntKind.wrap .u64 ((BitVec.ofInt (IntKind.bits .u64) js ^^^ BitVec.ofInt (IntKind.bits .u64) (IntKind.wrap .u64 (js*2^(min (13:Int).toNat (IntKind.bits .u64))))).toNat)) ^^^ BitVec.ofInt (IntKind.bits .u64) (Int.fdiv (IntKind.wrap .u64 ((BitVec.ofInt (IntKind.bits .u64) js ^^^ BitVec.ofInt (IntKind.bits .u64) (IntKind.wrap .u64 (js*2^(min (13:Int).toNat (IntKind.bits .u64))))).toNat)) (2^(min (7:Int).toNat (IntKind.bits .u64))))).toNat)) ^^^ BitVec.ofInt (IntKind.bits .u64) (IntKind.wrap .u64 ((IntKind.wrap .u64 ((BitVec.ofInt (IntKind.bits .u64) (IntKind.wrap .u64 ((BitVec.ofInt (IntKind.bits .u64) js ^^^ BitVec.ofInt (IntKind.bits .u64) (IntKind.wrap .u64 (js*2^(min (13:Int).toNat (IntKind.bits .u64))))).toNat)) ^^^ BitVec.ofInt (IntKind.bits .u64) (Int.fdiv (IntKind.wrap .u64 ((BitVec.ofInt (IntKind.bits .u64) js ^^^ BitVec.ofInt (IntKind.bits .u64) (IntKind.wrap .u64 (js*2^(min (13:Int).toNat (IntKind.bits .u64))))).toNat)) (2^(min (7:Int).toNat (IntKind.bits .u64))))).toNat))*2^(min (17:Int).toNat (IntKind.bits .u64))))).toNat))]
theorem akx {js:Int} {r:Option (List V)} (h:XS CC js=r):CC Hl [.int .u64 js]=r:=
 aZ (key:=106) (L:=bX) (bs:=[]) (by kernel_rfl) aw (aX (by kernel_rfl) h)
noncomputable def XT (C:ae) (length:Int):Option (List V):=
 (C BO [.int .u64 (IntKind.wrap .u64 length)]).bind fun r1=>
 bif decide (0≤((V.nth r1 0).toInt)) then
  some [.int .u64 (IntKind.wrap .u64 (1*2^(min ((V.nth r1 0).toInt).toNat (IntKind.bits .u64))))]
 else none
theorem aky {length:Int} {r:Option (List V)} (h:XT CC length=r):CC Hk [.int .i64 length]=r:=
 aZ (key:=105) (L:=bX) (bs:=[]) (by kernel_rfl) aw (aX (by kernel_rfl) h)
noncomputable def XU (C:ae) (x:Int):Option (List V):=
 (C Hj [.int .u64 x]).bind fun r1=>
 some [.int .i64 ((V.nth r1 0).toInt)]
theorem akz {x:Int} {r:Option (List V)} (h:XU CC x=r):CC BO [.int .u64 x]=r:=
 aZ (key:=90) (L:=bX) (bs:=[]) (by kernel_rfl) aw (aX (by kernel_rfl) h)
noncomputable abbrev tX:Code:=cj Tryz.prog (av.aQ 102)
noncomputable def wI (C:ae) (x n:Int) (t4:Bool) {β:Type} (kr:(Int × Int)→Option β):Option β:=
 bif t4 then
  kr (Int.fdiv x (2^(min (32:Int).toNat (IntKind.bits .u64))),32)
 else
  kr (x,n)
noncomputable def wJ (C:ae) (x n:Int) (t8:Bool) {β:Type} (kr:(Int × Int)→Option β):Option β:=
 bif t8 then
  kr (Int.fdiv x (2^(min (16:Int).toNat (IntKind.bits .u64))),IntKind.wrap .i64 (n+16))
 else
  kr (x,n)
noncomputable def XV (C:ae):b8:=fun β n ds k=>
 bif Nat.beq n 79 then iH M4 [[0,0]] (@wI C) ds k else
 bif Nat.beq n 143 then iH M5 [[0,0]] (@wJ C) ds k else
 none
abbrev XW (C:ae) (b:bZ):Prop:=b6 Tryz.prog av C (XV C) 102 (cl Tryz.prog (av.aQ 102)) (av.sin 102).bc.length b
theorem akA (C:ae):XW C (.cond 4 (ax [1,0,1,0] tX) (ax [1,0,1,1] tX)):=
 jn M4 [[0,0]] (@wI C) (by kernel_rfl) (a9 (bs:=[]) (by kernel_rfl) aw) (a9 (bs:=[]) (by kernel_rfl) aw) (fun ds=>by kernel_rfl) (fun i β k=>by kernel_rfl) (fun β ds k=>by kernel_rfl)
theorem akB (C:ae):XW C (.cond 8 (ax [1,1,0,1,0] tX) (ax [1,1,0,1,1] tX)):=
 jn M5 [[0,0]] (@wJ C) (by kernel_rfl) (a9 (bs:=[]) (by kernel_rfl) aw) (a9 (bs:=[]) (by kernel_rfl) aw) (fun ds=>by kernel_rfl) (fun i β k=>by kernel_rfl) (fun β ds k=>by kernel_rfl)
noncomputable def akC (C:ae) (x:Int):Option (List V):=
 wI C x 0 (decide ((x:Int)≥4294967296)) (un fun (tY:Int) (DX:Int)=>
  wJ C tY DX (decide ((tY:Int)≥65536)) (un fun (DY:Int) (XX:Int)=>
   bif decide ((DY:Int)≥256) then
    (bif decide (0≤(IntKind.wrap .u8 (Int.fdiv DY (2^(min (8:Int).toNat (IntKind.bits .u64)))))) then (([0,1,2,2,3,3,3,3,4,4,4,4,4,4,4,4,5,5,5,5,5,5,5,5,5,5,5,5,5,5,5,5,6,6,6,6,6,6,6,6,6,6,6,6,6,6,6,6,6,6,6,6,6,6,6,6,6,6,6,6,6,6,6,6,7,7,7,7,7,7,7,7,7,7,7,7,7,7,7,7,7,7,7,7,7,7,7,7,7,7,7,7,7,7,7,7,7,7,7,7,7,7,7,7,7,7,7,7,7,7,7,7,7,7,7,7,7,7,7,7,7,7,7,7,7,7,7,7,8,8,8,8,8,8,8,8,8,8,8,8,8,8,8,8,8,8,8,8,8,8,8,8,8,8,8,8,8,8,8,8,8,8,8,8,8,8,8,8,8,8,8,8,8,8,8,8,8,8,8,8,8,8,8,8,8,8,8,8,8,8,8,8,8,8,8,8,8,8,8,8,8,8,8,8,8,8,8,8,8,8,8,8,8,8,8,8,8,8,8,8,8,8,8,8,8,8,8,8,8,8,8,8,8,8,8,8,8,8,8,8,8,8,8,8,8,8,8,8,8,8,8,8,8,8,8,8]:List UInt8)[(IntKind.wrap .u8 (Int.fdiv DY (2^(min (8:Int).toNat (IntKind.bits .u64)))):Int).toNat]?).map fun b=>V.int .u8 b.toNat else none).bind fun x5=>
    some [.int .i64 (IntKind.wrap .i64 ((IntKind.wrap .i64 (XX+8))+(IntKind.wrap .i64 x5.toInt)))]
   else
    (bif decide (0≤(IntKind.wrap .u8 DY)) then (([0,1,2,2,3,3,3,3,4,4,4,4,4,4,4,4,5,5,5,5,5,5,5,5,5,5,5,5,5,5,5,5,6,6,6,6,6,6,6,6,6,6,6,6,6,6,6,6,6,6,6,6,6,6,6,6,6,6,6,6,6,6,6,6,7,7,7,7,7,7,7,7,7,7,7,7,7,7,7,7,7,7,7,7,7,7,7,7,7,7,7,7,7,7,7,7,7,7,7,7,7,7,7,7,7,7,7,7,7,7,7,7,7,7,7,7,7,7,7,7,7,7,7,7,7,7,7,7,8,8,8,8,8,8,8,8,8,8,8,8,8,8,8,8,8,8,8,8,8,8,8,8,8,8,8,8,8,8,8,8,8,8,8,8,8,8,8,8,8,8,8,8,8,8,8,8,8,8,8,8,8,8,8,8,8,8,8,8,8,8,8,8,8,8,8,8,8,8,8,8,8,8,8,8,8,8,8,8,8,8,8,8,8,8,8,8,8,8,8,8,8,8,8,8,8,8,8,8,8,8,8,8,8,8,8,8,8,8,8,8,8,8,8,8,8,8,8,8,8,8,8,8,8,8,8,8]:List UInt8)[(IntKind.wrap .u8 DY:Int).toNat]?).map fun b=>V.int .u8 b.toNat else none).bind fun x6=>
    some [.int .i64 (IntKind.wrap .i64 (XX+(IntKind.wrap .i64 x6.toInt)))]))
theorem XY {x:Int} {r:Option (List V)} (h:akC CC x=r):CC Hj [.int .u64 x]=r:=
 aZ (key:=102) (L:=XV CC) (bs:=[.cond 4 (ax [1,0,1,0] tX) (ax [1,0,1,1] tX),.cond 8 (ax [1,1,0,1,0] tX) (ax [1,1,0,1,1] tX)]) (by kernel_rfl) (br (akA CC) (br (akB CC) aw)) (aX (by kernel_rfl) h)
noncomputable abbrev mu:Code:=cj Tryz.prog (av.aQ 89)
noncomputable def zM (C:ae) (a b' jF:Int) (eX fk:Bool) (length:Int) (t39:Bool) (ak:List V) {β:Type} (kr:(Int × (List V))→Option β):Option β:=
 bif t39 then
  (C Hg [.int .i64 a,.int .i64 b',.list aa ak]).bind fun r3=>
  kr (IntKind.wrap .i64 (jF-1),(V.nth r3 0).toList)
 else
  kr (jF,ak)
noncomputable def zN (C:ae) (a b' jF:Int) (eX fk:Bool) (length pivot hint:Int) (t56:Bool) (ak:List V) {β:Type} (kr:(Int × Int × (List V))→Option β):Option β:=
 bif t56 then
  (C Hh [.int .i64 a,.int .i64 b',.list aa ak]).bind fun r7=>
  kr (IntKind.wrap .i64 ((IntKind.wrap .i64 (b'-1))-(IntKind.wrap .i64 (pivot-a))),1,(V.nth r7 0).toList)
 else
  kr (pivot,hint,ak)
noncomputable def nj (C:ae) (a b' jF:Int) (eX fk:Bool) (length pivot:Int) (t75:Bool) (ak:List V) {β:Type} (kr:((Bool × (List V)) ⊕ (List V))→Option β):Option β:=
 bif t75 then
  (C Hi [.int .i64 a,.int .i64 b',.list aa ak]).bind fun ff=>
  bif (V.nth ff 0).toBool then
  kr (.inl ((V.nth ff 0).toBool,(V.nth (ff.drop 1) 0).toList))
  else
  kr (.inr ((V.nth (ff.drop 1) 0).toList))
 else
  kr (.inr ak)
noncomputable def qG (C:ae) (a b' jF:Int) (eX fk:Bool) (ak:List V) {β:Type} (kn:(Int × Int × Int × Bool × Bool × (List V))→Option β) (kr:(List V)→Option β):Option β:=
 bif decide (((IntKind.wrap .i64 (b'-a)):Int)≤12) then
  (C BP [.int .i64 a,.int .i64 b',.list aa ak]).bind fun r1=>
  kr ((V.nth r1 0).toList)
 else
  bif (jF:Int)==0 then
  (C BQ [.int .i64 a,.int .i64 b',.list aa ak]).bind fun r2=>
  kr ((V.nth r2 0).toList)
  else
  zM C a b' jF eX fk (IntKind.wrap .i64 (b'-a)) (!eX) ak (un fun (cO:Int) (DZ:List V)=>
   (C BR [.list aa DZ,.int .i64 a,.int .i64 b']).bind fun r6=>
   zN C a b' cO eX fk (IntKind.wrap .i64 (b'-a)) ((V.nth r6 0).toInt) ((V.nth (r6.drop 1) 0).toInt) ((((V.nth (r6.drop 1) 0).toInt):Int)==2) DZ (un fun (dV:Int)=>un fun (OL:Int) (pt:List V)=>
    bif eX then
     bif fk then
     nj C a b' cO eX fk (IntKind.wrap .i64 (b'-a)) dV ((OL:Int)==1) pt (cB (un fun (Ce:Bool) (OA:List V)=>
      kr OA) (fun (wK:List V)=>
      bif decide ((a:Int)>0) then
       bif (decide (0≤(IntKind.wrap .i64 (a-1))))&&(decide ((IntKind.wrap .i64 (a-1))<(wK.length:Int))) then
       (wK[(IntKind.wrap .i64 (a-1):Int).toNat]?).bind fun fy=>
       bif (decide (0≤dV))&&(decide (dV<(wK.length:Int))) then
        (wK[(dV:Int).toNat]?).bind fun gd=>
        (C bn [.int .i64 ((fy.cell 0).toInt),.int .i64 ((fy.cell 1).toInt),.list aa ((fy.cell 2).toList),.int .i64 ((gd.cell 0).toInt),.int .i64 ((gd.cell 1).toInt),.list aa ((gd.cell 2).toList)]).bind fun ey=>
        bif !(decide ((((V.nth ey 0).toInt):Int)<0)) then
        (C vD [.int .i64 a,.int .i64 b',.int .i64 dV,.list aa wK]).bind fun j8=>
        kn ((V.nth j8 0).toInt,b',cO,eX,fk,(V.nth (j8.drop 1) 0).toList)
        else
        (C nW [.int .i64 a,.int .i64 b',.int .i64 dV,.list aa wK]).bind fun eV=>
        bif decide (((IntKind.wrap .i64 (((V.nth eV 0).toInt)-a)):Int)<(IntKind.wrap .i64 (b'-((V.nth eV 0).toInt)))) then
         (C gI [.int .i64 a,.int .i64 ((V.nth eV 0).toInt),.int .i64 cO,.list aa ((V.nth (eV.drop 2) 0).toList)]).bind fun jG=>
         kn (IntKind.wrap .i64 (((V.nth eV 0).toInt)+1),b',cO,decide (((IntKind.wrap .i64 (((V.nth eV 0).toInt)-a)):Int)≥(IntKind.wrap .i64 (Int.tdiv (IntKind.wrap .i64 (b'-a)) 8))),(V.nth (eV.drop 1) 0).toBool,(V.nth jG 0).toList)
        else
         (C gI [.int .i64 (IntKind.wrap .i64 (((V.nth eV 0).toInt)+1)),.int .i64 b',.int .i64 cO,.list aa ((V.nth (eV.drop 2) 0).toList)]).bind fun pz=>
         kn (a,(V.nth eV 0).toInt,cO,decide (((IntKind.wrap .i64 (b'-((V.nth eV 0).toInt))):Int)≥(IntKind.wrap .i64 (Int.tdiv (IntKind.wrap .i64 (b'-a)) 8))),(V.nth (eV.drop 1) 0).toBool,(V.nth pz 0).toList)
       else none
       else none
      else
       (C nW [.int .i64 a,.int .i64 b',.int .i64 dV,.list aa wK]).bind fun kQ=>
       bif decide (((IntKind.wrap .i64 (((V.nth kQ 0).toInt)-a)):Int)<(IntKind.wrap .i64 (b'-((V.nth kQ 0).toInt)))) then
       (C gI [.int .i64 a,.int .i64 ((V.nth kQ 0).toInt),.int .i64 cO,.list aa ((V.nth (kQ.drop 2) 0).toList)]).bind fun r23=>
       kn (IntKind.wrap .i64 (((V.nth kQ 0).toInt)+1),b',cO,decide (((IntKind.wrap .i64 (((V.nth kQ 0).toInt)-a)):Int)≥(IntKind.wrap .i64 (Int.tdiv (IntKind.wrap .i64 (b'-a)) 8))),(V.nth (kQ.drop 1) 0).toBool,(V.nth r23 0).toList)
       else
       (C gI [.int .i64 (IntKind.wrap .i64 (((V.nth kQ 0).toInt)+1)),.int .i64 b',.int .i64 cO,.list aa ((V.nth (kQ.drop 2) 0).toList)]).bind fun NZ=>
       kn (a,(V.nth kQ 0).toInt,cO,decide (((IntKind.wrap .i64 (b'-((V.nth kQ 0).toInt))):Int)≥(IntKind.wrap .i64 (Int.tdiv (IntKind.wrap .i64 (b'-a)) 8))),(V.nth (kQ.drop 1) 0).toBool,(V.nth NZ 0).toList)))
     else
     nj C a b' cO eX fk (IntKind.wrap .i64 (b'-a)) dV false pt (cB (un fun (T9:Bool) (akD:List V)=>
      kr akD) (fun (sj:List V)=>
      bif decide ((a:Int)>0) then
       bif (decide (0≤(IntKind.wrap .i64 (a-1))))&&(decide ((IntKind.wrap .i64 (a-1))<(sj.length:Int))) then
       (sj[(IntKind.wrap .i64 (a-1):Int).toNat]?).bind fun wE=>
       bif (decide (0≤dV))&&(decide (dV<(sj.length:Int))) then
        (sj[(dV:Int).toNat]?).bind fun wF=>
        (C bn [.int .i64 ((wE.cell 0).toInt),.int .i64 ((wE.cell 1).toInt),.list aa ((wE.cell 2).toList),.int .i64 ((wF.cell 0).toInt),.int .i64 ((wF.cell 1).toInt),.list aa ((wF.cell 2).toList)]).bind fun Iy=>
        bif !(decide ((((V.nth Iy 0).toInt):Int)<0)) then
        (C vD [.int .i64 a,.int .i64 b',.int .i64 dV,.list aa sj]).bind fun XZ=>
        kn ((V.nth XZ 0).toInt,b',cO,eX,fk,(V.nth (XZ.drop 1) 0).toList)
        else
        (C nW [.int .i64 a,.int .i64 b',.int .i64 dV,.list aa sj]).bind fun ow=>
        bif decide (((IntKind.wrap .i64 (((V.nth ow 0).toInt)-a)):Int)<(IntKind.wrap .i64 (b'-((V.nth ow 0).toInt)))) then
         (C gI [.int .i64 a,.int .i64 ((V.nth ow 0).toInt),.int .i64 cO,.list aa ((V.nth (ow.drop 2) 0).toList)]).bind fun r33=>
         kn (IntKind.wrap .i64 (((V.nth ow 0).toInt)+1),b',cO,decide (((IntKind.wrap .i64 (((V.nth ow 0).toInt)-a)):Int)≥(IntKind.wrap .i64 (Int.tdiv (IntKind.wrap .i64 (b'-a)) 8))),(V.nth (ow.drop 1) 0).toBool,(V.nth r33 0).toList)
        else
         (C gI [.int .i64 (IntKind.wrap .i64 (((V.nth ow 0).toInt)+1)),.int .i64 b',.int .i64 cO,.list aa ((V.nth (ow.drop 2) 0).toList)]).bind fun r34=>
         kn (a,(V.nth ow 0).toInt,cO,decide (((IntKind.wrap .i64 (b'-((V.nth ow 0).toInt))):Int)≥(IntKind.wrap .i64 (Int.tdiv (IntKind.wrap .i64 (b'-a)) 8))),(V.nth (ow.drop 1) 0).toBool,(V.nth r34 0).toList)
       else none
       else none
      else
       (C nW [.int .i64 a,.int .i64 b',.int .i64 dV,.list aa sj]).bind fun ox=>
       bif decide (((IntKind.wrap .i64 (((V.nth ox 0).toInt)-a)):Int)<(IntKind.wrap .i64 (b'-((V.nth ox 0).toInt)))) then
       (C gI [.int .i64 a,.int .i64 ((V.nth ox 0).toInt),.int .i64 cO,.list aa ((V.nth (ox.drop 2) 0).toList)]).bind fun r36=>
       kn (IntKind.wrap .i64 (((V.nth ox 0).toInt)+1),b',cO,decide (((IntKind.wrap .i64 (((V.nth ox 0).toInt)-a)):Int)≥(IntKind.wrap .i64 (Int.tdiv (IntKind.wrap .i64 (b'-a)) 8))),(V.nth (ox.drop 1) 0).toBool,(V.nth r36 0).toList)
       else
       (C gI [.int .i64 (IntKind.wrap .i64 (((V.nth ox 0).toInt)+1)),.int .i64 b',.int .i64 cO,.list aa ((V.nth (ox.drop 2) 0).toList)]).bind fun r37=>
       kn (a,(V.nth ox 0).toInt,cO,decide (((IntKind.wrap .i64 (b'-((V.nth ox 0).toInt))):Int)≥(IntKind.wrap .i64 (Int.tdiv (IntKind.wrap .i64 (b'-a)) 8))),(V.nth (ox.drop 1) 0).toBool,(V.nth r37 0).toList)))
    else
     nj C a b' cO eX fk (IntKind.wrap .i64 (b'-a)) dV false pt (cB (un fun (Uf:Bool) (akE:List V)=>
      kr akE) (fun (j6:List V)=>
      bif decide ((a:Int)>0) then
      bif (decide (0≤(IntKind.wrap .i64 (a-1))))&&(decide ((IntKind.wrap .i64 (a-1))<(j6.length:Int))) then
       (j6[(IntKind.wrap .i64 (a-1):Int).toNat]?).bind fun ni=>
       bif (decide (0≤dV))&&(decide (dV<(j6.length:Int))) then
       (j6[(dV:Int).toNat]?).bind fun wG=>
       (C bn [.int .i64 ((ni.cell 0).toInt),.int .i64 ((ni.cell 1).toInt),.list aa ((ni.cell 2).toList),.int .i64 ((wG.cell 0).toInt),.int .i64 ((wG.cell 1).toInt),.list aa ((wG.cell 2).toList)]).bind fun r43=>
       bif !(decide ((((V.nth r43 0).toInt):Int)<0)) then
        (C vD [.int .i64 a,.int .i64 b',.int .i64 dV,.list aa j6]).bind fun X0=>
        kn ((V.nth X0 0).toInt,b',cO,eX,fk,(V.nth (X0.drop 1) 0).toList)
       else
        (C nW [.int .i64 a,.int .i64 b',.int .i64 dV,.list aa j6]).bind fun oy=>
        bif decide (((IntKind.wrap .i64 (((V.nth oy 0).toInt)-a)):Int)<(IntKind.wrap .i64 (b'-((V.nth oy 0).toInt)))) then
        (C gI [.int .i64 a,.int .i64 ((V.nth oy 0).toInt),.int .i64 cO,.list aa ((V.nth (oy.drop 2) 0).toList)]).bind fun r46=>
        kn (IntKind.wrap .i64 (((V.nth oy 0).toInt)+1),b',cO,decide (((IntKind.wrap .i64 (((V.nth oy 0).toInt)-a)):Int)≥(IntKind.wrap .i64 (Int.tdiv (IntKind.wrap .i64 (b'-a)) 8))),(V.nth (oy.drop 1) 0).toBool,(V.nth r46 0).toList)
        else
        (C gI [.int .i64 (IntKind.wrap .i64 (((V.nth oy 0).toInt)+1)),.int .i64 b',.int .i64 cO,.list aa ((V.nth (oy.drop 2) 0).toList)]).bind fun r47=>
        kn (a,(V.nth oy 0).toInt,cO,decide (((IntKind.wrap .i64 (b'-((V.nth oy 0).toInt))):Int)≥(IntKind.wrap .i64 (Int.tdiv (IntKind.wrap .i64 (b'-a)) 8))),(V.nth (oy.drop 1) 0).toBool,(V.nth r47 0).toList)
       else none
      else none
      else
      (C nW [.int .i64 a,.int .i64 b',.int .i64 dV,.list aa j6]).bind fun oz=>
      bif decide (((IntKind.wrap .i64 (((V.nth oz 0).toInt)-a)):Int)<(IntKind.wrap .i64 (b'-((V.nth oz 0).toInt)))) then
       (C gI [.int .i64 a,.int .i64 ((V.nth oz 0).toInt),.int .i64 cO,.list aa ((V.nth (oz.drop 2) 0).toList)]).bind fun r49=>
       kn (IntKind.wrap .i64 (((V.nth oz 0).toInt)+1),b',cO,decide (((IntKind.wrap .i64 (((V.nth oz 0).toInt)-a)):Int)≥(IntKind.wrap .i64 (Int.tdiv (IntKind.wrap .i64 (b'-a)) 8))),(V.nth (oz.drop 1) 0).toBool,(V.nth r49 0).toList)
      else
       (C gI [.int .i64 (IntKind.wrap .i64 (((V.nth oz 0).toInt)+1)),.int .i64 b',.int .i64 cO,.list aa ((V.nth (oz.drop 2) 0).toList)]).bind fun r50=>
       kn (a,(V.nth oz 0).toInt,cO,decide (((IntKind.wrap .i64 (b'-((V.nth oz 0).toInt))):Int)≥(IntKind.wrap .i64 (Int.tdiv (IntKind.wrap .i64 (b'-a)) 8))),(V.nth (oz.drop 1) 0).toBool,(V.nth r50 0).toList)))))
noncomputable def X1 (C:ae):(Int × Int × Int × Bool × Bool × (List V))→Option ((Int × Int × Int × Bool × Bool × (List V)) ⊕ (List V)):=un fun a=>un fun b'=>un fun jF=>un fun eX=>un fun fk ak=>qG C a b' jF eX fk ak (fun y=>some (.inl y)) (fun r=>some (.inr r))
noncomputable def X2 (C:ae):b8:=fun β n ds k=>
 bif Nat.beq n 639 then iH MC [[1,2,0,4,5,6,0]] (@zM C) ds k else
 bif Nat.beq n 911 then iH MD [[1,2,3,4,5,6,0,0,0]] (@zN C) ds k else
 bif Nat.beq n 1215 then iH ME [[1,2,3,4,5,6,7,0,0],[1,2,3,4,5,6,7,0]] (@nj C) ds k else
 bif Nat.beq n 33 then bM MF [true,true,true,true,true,true] [[0]] (@qG C) ds k else
 none
abbrev IG (C:ae) (b:bZ):Prop:=b6 Tryz.prog av C (X2 C) 89 (cl Tryz.prog (av.aQ 89)) (av.sin 89).bc.length b
theorem akF (C:ae):IG C (.cond 39 (ax [1,1,0,0,0,1,1,1,0,1,0] mu) (ax [1,1,0,0,0,1,1,1,0,1,1] mu)):=
 jn MC [[1,2,0,4,5,6,0]] (@zM C) (by kernel_rfl) (a9 (bs:=[]) (by kernel_rfl) aw) (a9 (bs:=[]) (by kernel_rfl) aw) (fun ds=>by kernel_rfl) (fun i β k=>by kernel_rfl) (fun β ds k=>by kernel_rfl)
theorem akG (C:ae):IG C (.cond 56 (ax [1,1,0,0,0,1,1,1,1,1,0,1,0] mu) (ax [1,1,0,0,0,1,1,1,1,1,0,1,1] mu)):=
 jn MD [[1,2,3,4,5,6,0,0,0]] (@zN C) (by kernel_rfl) (a9 (bs:=[]) (by kernel_rfl) aw) (a9 (bs:=[]) (by kernel_rfl) aw) (fun ds=>by kernel_rfl) (fun i β k=>by kernel_rfl) (fun β ds k=>by kernel_rfl)
theorem akH (C:ae):IG C (.cond 75 (ax [1,1,0,0,0,1,1,1,1,1,1,0,1,0] mu) (ax [1,1,0,0,0,1,1,1,1,1,1,0,1,1] mu)):=
 jn ME [[1,2,3,4,5,6,7,0,0],[1,2,3,4,5,6,7,0]] (@nj C) (by kernel_rfl) (a9 (bs:=[]) (by kernel_rfl) aw) (a9 (bs:=[]) (by kernel_rfl) aw) (fun ds=>by kernel_rfl) (fun i β k=>by kernel_rfl) (fun β ds k=>by kernel_rfl)
theorem akI (C:ae):IG C (.loop (ax [1,1,0,0] mu)):=
 bP MF [true,true,true,true,true,true] [[0]] (@qG C) (by kernel_rfl) (a9 (bs:=[.cond 39 (ax [1,1,0,0,0,1,1,1,0,1,0] mu) (ax [1,1,0,0,0,1,1,1,0,1,1] mu),.cond 56 (ax [1,1,0,0,0,1,1,1,1,1,0,1,0] mu) (ax [1,1,0,0,0,1,1,1,1,1,0,1,1] mu),.cond 75 (ax [1,1,0,0,0,1,1,1,1,1,1,0,1,0] mu) (ax [1,1,0,0,0,1,1,1,1,1,1,0,1,1] mu)]) (by kernel_rfl) (br (akF C) (br (akG C) (br (akH C) aw)))) (fun ds=>by kernel_rfl) (fun i x=>by kernel_rfl) (fun i x β k=>by kernel_rfl) (fun β ds k=>by kernel_rfl)
noncomputable def X3 (C:ae) (a b' jF:Int) (ak:List V):Option (List V):=
 (Loop (X1 C) (a,b',jF,true,true,ak)).bind (fun (akJ:List V)=>
  some [.list aa akJ])
theorem akK {a b' jF:Int} {ak:List V} {r:Option (List V)} (h:X3 CC a b' jF ak=r):CC gI [.int .i64 a,.int .i64 b',.int .i64 jF,.list aa ak]=r:=
 aZ (key:=89) (L:=X2 CC) (bs:=[.loop (ax [1,1,0,0] mu)]) (by kernel_rfl) (br (akI CC) aw) (aX (by kernel_rfl) h)
noncomputable def X4 (C:ae) (xs:List V):Option (List V):=
 (C BO [.int .u64 (IntKind.wrap .u64 (xs.length:Int))]).bind fun r1=>
 (C gI [.int .i64 0,.int .i64 (xs.length:Int),.int .i64 ((V.nth r1 0).toInt),.list aa xs]).bind fun r2=>
 some [.list aa ((V.nth r2 0).toList)]
theorem akL {xs:List V} {r:Option (List V)} (h:X4 CC xs=r):CC BN [.list aa xs]=r:=
 aZ (key:=84) (L:=bX) (bs:=[]) (by kernel_rfl) aw (aX (by kernel_rfl) h)
end Go.AM
set_option maxRecDepth 100000
set_option maxHeartbeats 4000000
namespace Go.AM.SX
open Go.Proofs Go.Sort
theorem akM (a b:XE):b9 a b<0↔a.lt b:=Iff.rfl
theorem X5 (a b:XE):(aA a b=true)=(a.lt b):=by rw[tU];rfl
theorem IH (a b:XE):(aA a b=false)= ¬(a.lt b):=by rw[←X5];simp
theorem zO:SWO aA where
 irrefl x:=by rw[IH];exact XE.lt_irrefl x
 trans x y z:=by simp only[X5];exact XE.lt_trans
 ntrans x y z:=by simp only[IH];exact XE.ajv
def II:List UInt8:=([0,1,2,2,3,3,3,3,4,4,4,4,4,4,4,4,5,5,5,5,5,5,5,5,5,5,5,5,5,5,5,5,6,6,6,6,6,6,6,6,6,6,6,6,6,6,6,6,6,6,6,6,6,6,6,6,6,6,6,6,6,6,6,6,7,7,7,7,7,7,7,7,7,7,7,7,7,7,7,7,7,7,7,7,7,7,7,7,7,7,7,7,7,7,7,7,7,7,7,7,7,7,7,7,7,7,7,7,7,7,7,7,7,7,7,7,7,7,7,7,7,7,7,7,7,7,7,7,8,8,8,8,8,8,8,8,8,8,8,8,8,8,8,8,8,8,8,8,8,8,8,8,8,8,8,8,8,8,8,8,8,8,8,8,8,8,8,8,8,8,8,8,8,8,8,8,8,8,8,8,8,8,8,8,8,8,8,8,8,8,8,8,8,8,8,8,8,8,8,8,8,8,8,8,8,8,8,8,8,8,8,8,8,8,8,8,8,8,8,8,8,8,8,8,8,8,8,8,8,8,8,8,8,8,8,8,8,8,8,8,8,8,8,8,8,8,8,8,8,8,8,8,8,8,8,8]:List UInt8)
theorem akN:(List.range 256).all (fun y=>match II[y]? with|some b=>decide (b.toNat≤8)&&(Nat.beq y 0||(decide (1≤b.toNat)&&decide (2^(b.toNat-1)≤y)))|none=>false)=true:=by decide+kernel
theorem X6 {y:Nat} (h:y<256): ∃b,II[y]? =some b∧b.toNat≤8∧(0<y→1≤b.toNat∧2^(b.toNat-1)≤y):=by
 have:=fc.1 akN y (Ac.2 h)
 cases hb:II[y]? with
 | none=>rw[hb] at this;cases this
 | some b=>
  rw[hb] at this
  simp only[aN,Ag,dW] at this
  refine ⟨b,rfl,this.1,fun hy=> ?_⟩
  rcases this.2 with U|U
  ·have:=z8 U;omega
  ·exact U
theorem OM {y t k:Nat} (h:2^(t-1)≤y/2^k) (ht:1≤t):2^(t+k-1)≤y:=by
 have e:t+k-1=(t-1)+k:=by omega
 rw[e,Nat.pow_add]
 exact kW (dM _ h) (Nat.div_mul_le_self _ _)
noncomputable def zP (y n:Int):Option (List V):=
(bif decide ((y:Int)≥256) then
    (bif decide (0≤(IntKind.wrap .u8 (Int.fdiv y (2^(min (8:Int).toNat (IntKind.bits .u64)))))) then (([0,1,2,2,3,3,3,3,4,4,4,4,4,4,4,4,5,5,5,5,5,5,5,5,5,5,5,5,5,5,5,5,6,6,6,6,6,6,6,6,6,6,6,6,6,6,6,6,6,6,6,6,6,6,6,6,6,6,6,6,6,6,6,6,7,7,7,7,7,7,7,7,7,7,7,7,7,7,7,7,7,7,7,7,7,7,7,7,7,7,7,7,7,7,7,7,7,7,7,7,7,7,7,7,7,7,7,7,7,7,7,7,7,7,7,7,7,7,7,7,7,7,7,7,7,7,7,7,8,8,8,8,8,8,8,8,8,8,8,8,8,8,8,8,8,8,8,8,8,8,8,8,8,8,8,8,8,8,8,8,8,8,8,8,8,8,8,8,8,8,8,8,8,8,8,8,8,8,8,8,8,8,8,8,8,8,8,8,8,8,8,8,8,8,8,8,8,8,8,8,8,8,8,8,8,8,8,8,8,8,8,8,8,8,8,8,8,8,8,8,8,8,8,8,8,8,8,8,8,8,8,8,8,8,8,8,8,8,8,8,8,8,8,8,8,8,8,8,8,8,8,8,8,8,8,8]:List UInt8)[(IntKind.wrap .u8 (Int.fdiv y (2^(min (8:Int).toNat (IntKind.bits .u64)))):Int).toNat]?).map fun b=>V.int .u8 b.toNat else none).bind fun x5=>
    some [V.int .i64 (IntKind.wrap .i64 ((IntKind.wrap .i64 (n+8))+(IntKind.wrap .i64 x5.toInt)))]
   else
    (bif decide (0≤(IntKind.wrap .u8 y)) then (([0,1,2,2,3,3,3,3,4,4,4,4,4,4,4,4,5,5,5,5,5,5,5,5,5,5,5,5,5,5,5,5,6,6,6,6,6,6,6,6,6,6,6,6,6,6,6,6,6,6,6,6,6,6,6,6,6,6,6,6,6,6,6,6,7,7,7,7,7,7,7,7,7,7,7,7,7,7,7,7,7,7,7,7,7,7,7,7,7,7,7,7,7,7,7,7,7,7,7,7,7,7,7,7,7,7,7,7,7,7,7,7,7,7,7,7,7,7,7,7,7,7,7,7,7,7,7,7,8,8,8,8,8,8,8,8,8,8,8,8,8,8,8,8,8,8,8,8,8,8,8,8,8,8,8,8,8,8,8,8,8,8,8,8,8,8,8,8,8,8,8,8,8,8,8,8,8,8,8,8,8,8,8,8,8,8,8,8,8,8,8,8,8,8,8,8,8,8,8,8,8,8,8,8,8,8,8,8,8,8,8,8,8,8,8,8,8,8,8,8,8,8,8,8,8,8,8,8,8,8,8,8,8,8,8,8,8,8,8,8,8,8,8,8,8,8,8,8,8,8,8,8,8,8,8,8]:List UInt8)[(IntKind.wrap .u8 y:Int).toNat]?).map fun b=>V.int .u8 b.toNat else none).bind fun x6=>
    some [V.int .i64 (IntKind.wrap .i64 (n+(IntKind.wrap .i64 x6.toInt)))])
theorem akO {x:Nat} (h:x<2^64): ∃L:Nat,CC Hj [.int .u64 (x:Int)]=some [.int .i64 (L:Int)]∧L≤64∧(0<x→1≤L∧2^(L-1)≤x):=by
 have last: ∀y n:Nat,y<65536→n≤48→∃t:Nat,
   zP (y:Int) (n:Int)=some [V.int .i64 ((n+t:Nat):Int)]∧t≤16∧(0<y→1≤t∧2^(t-1)≤y):=by
  intro y n hy hn
  unfold zP
  rw[show ([0,1,2,2,3,3,3,3,4,4,4,4,4,4,4,4,5,5,5,5,5,5,5,5,5,5,5,5,5,5,5,5,6,6,6,6,6,6,6,6,6,6,6,6,6,6,6,6,6,6,6,6,6,6,6,6,6,6,6,6,6,6,6,6,7,7,7,7,7,7,7,7,7,7,7,7,7,7,7,7,7,7,7,7,7,7,7,7,7,7,7,7,7,7,7,7,7,7,7,7,7,7,7,7,7,7,7,7,7,7,7,7,7,7,7,7,7,7,7,7,7,7,7,7,7,7,7,7,8,8,8,8,8,8,8,8,8,8,8,8,8,8,8,8,8,8,8,8,8,8,8,8,8,8,8,8,8,8,8,8,8,8,8,8,8,8,8,8,8,8,8,8,8,8,8,8,8,8,8,8,8,8,8,8,8,8,8,8,8,8,8,8,8,8,8,8,8,8,8,8,8,8,8,8,8,8,8,8,8,8,8,8,8,8,8,8,8,8,8,8,8,8,8,8,8,8,8,8,8,8,8,8,8,8,8,8,8,8,8,8,8,8,8,8,8,8,8,8,8,8,8,8,8,8,8,8]:List UInt8)=II from rfl]
  by_cases h1:y≥256
  ·have e:Int.fdiv (y:Int) (2^(min (8:Int).toNat (IntKind.bits .u64)))=((y/2^8:Nat):Int):=yP (m:=8) (by omega)
   obtain ⟨b,hb,b1,b2⟩:=X6 (y:=y/2^8) (by omega)
   refine ⟨b.toNat+8,?_,by omega,fun _=> ?_⟩
   ·rw[e,az,ah (by omega),BB (by omega) (by omega),az,ah (by omega),Int.toNat_natCast,hb]
    simp only[Option.map_some,Option.bind_some,V.toInt_int]
    simp (disch:=omega) only[wrap64]
    congr 3
    omega
   ·obtain ⟨b3,b4⟩:=b2 (by omega)
    exact ⟨by omega,OM b4 b3⟩
  ·obtain ⟨b,hb,b1,b2⟩:=X6 (y:=y) (by omega)
   refine ⟨b.toNat,?_,by omega,b2⟩
   rw[az,ai (by omega),BB (by omega) (by omega),az,ah (by omega),Int.toNat_natCast,hb]
   simp (disch:=omega) only[Option.map_some,Option.bind_some,V.toInt_int,wrap64]
   congr 3
 have mid: ∀y n:Nat,y<4294967296→n≤32→∃t:Nat,∀F:Int→Int→Option (List V),
   (∀y n:Nat,y<65536→n≤48→∃t:Nat,F (y:Int) (n:Int)=some [V.int .i64 ((n+t:Nat):Int)]∧t≤16∧(0<y→1≤t∧2^(t-1)≤y))→
   ∃t:Nat,wJ CC (y:Int) (n:Int) (decide (((y:Int):Int)≥65536)) (un F)=some [V.int .i64 ((n+t:Nat):Int)]∧t≤32∧(0<y→1≤t∧2^(t-1)≤y):=by
  intro y n hy hn
  refine ⟨0,fun F hF=> ?_⟩
  unfold wJ
  by_cases h1:y≥65536
  ·have e:Int.fdiv (y:Int) (2^(min (16:Int).toNat (IntKind.bits .u64)))=((y/2^16:Nat):Int):=yP (m:=16) (by omega)
   rw[az,ah (by omega),e,wrap64 (by omega) (by omega)]
   obtain ⟨t,U,h3,h4⟩:=hF (y/2^16) (n+16) (by omega) (by omega)
   refine ⟨t+16,?_,by omega,fun _=> ?_⟩
   ·rw[show ((n:Int)+16)=((n+16:Nat):Int) by omega]
    simp only[un]
    rw[U]
    congr 3
    omega
   ·obtain ⟨b3,b4⟩:=h4 (by omega)
    exact ⟨by omega,OM b4 b3⟩
  ·rw[az,ai (by omega)]
   obtain ⟨t,U,h3,h4⟩:=hF y n (by omega) (by omega)
   exact ⟨t,U,by omega,h4⟩
 by_cases h1:x≥4294967296
 ·have e:Int.fdiv (x:Int) (2^(min (32:Int).toNat (IntKind.bits .u64)))=((x/2^32:Nat):Int):=yP (m:=32) (by omega)
  obtain ⟨_,hm⟩:=mid (x/2^32) 32 (by omega) (by omega)
  obtain ⟨t,U,h3,h4⟩:=hm zP last
  refine ⟨32+t,XY ?_,by omega,fun _=> ?_⟩
  ·show wI CC (x:Int) 0 (decide (((x:Int):Int)≥4294967296)) (un fun (tY:Int) (DX:Int)=>wJ CC tY DX (decide ((tY:Int)≥65536)) (un zP))=_
   unfold wI
   rw[az,ah (by omega),e]
   exact U
  ·obtain ⟨b3,b4⟩:=h4 (by omega)
   rw[Nat.add_comm 32 t]
   exact ⟨by omega,OM b4 b3⟩
 ·obtain ⟨_,hm⟩:=mid x 0 (by omega) (by omega)
  obtain ⟨t,U,h3,h4⟩:=hm zP last
  refine ⟨t,XY ?_,by omega,h4⟩
  show wI CC (x:Int) 0 (decide (((x:Int):Int)≥4294967296)) (un fun (tY:Int) (DX:Int)=>wJ CC tY DX (decide ((tY:Int)≥65536)) (un zP))=_
  unfold wI
  rw[az,ai (by omega)]
  rw[gQ] at U
  exact U
theorem X7 {x:Nat} (h:x<2^64): ∃L:Nat,CC BO [.int .u64 (x:Int)]=some [.int .i64 (L:Int)]∧L≤64∧(0<x→1≤L∧2^(L-1)≤x):=by
 obtain ⟨L,h1,U⟩:=akO h
 refine ⟨L,akz ?_,U⟩
 unfold XU
 rw[h1]
 rfl
theorem akP {x:Nat} (h0:0<x) (h:x<1152921504606846976): ∃M:Nat,CC Hk [.int .i64 (x:Int)]=some [.int .u64 (M:Int)]∧1≤M∧M≤2*x:=by
 obtain ⟨L,h1,U,h3⟩:=X7 (x:=x) (by omega)
 obtain ⟨h4,h5⟩:=h3 h0
 have e:2^L=2*2^(L-1):=by
  obtain ⟨k,rfl⟩: ∃k,L=k+1:=⟨L-1,by omega⟩
  rw[Nat.pow_succ];simp only[w8];omega
 have hL:L<64:=by
  by_cases hx:L<64
  ·exact hx
  ·have:2^63≤2^(L-1):=Nat.pow_le_pow_right (by omega) (by omega)
   omega
 refine ⟨2^L,aky ?_,uu (by simp),by omega⟩
 unfold XT
 rw[tx (A:=x) (by omega),h1]
 simp only[Option.bind_some,V.aC,V.toInt_int]
 rw[az,ah (by omega),Int.toNat_natCast,Nt hL]
theorem akQ (r:Int): ∃R:Nat,CC Hl [.int .u64 r]=some [.int .u64 (R:Int),.int .u64 (R:Int)]∧R<2^64:=by
 have h: ∀n:Int,∃R:Nat,IntKind.wrap .u64 n=(R:Int)∧R<2^64:=fun n=>⟨(IntKind.wrap .u64 n).toNat,by rw[wrap_u64];omega,by rw[wrap_u64];omega⟩
 obtain ⟨R,h1,U⟩:=h _
 exact ⟨R,akx (by unfold XS;rw[h1]),U⟩
theorem IJ {d:Array XE} {i:Nat} (h:i<d.size):idx (eA d) (i:Int)=some (d[i]!).enc:=by rw[nU,gj h]
theorem ON {d:Array XE} {a b:Nat} {s:Int} (ha:a<d.size) (hb:b<d.size): ∃(x y:Nat) (s':Int),CC yI [.list aa (eA d),.int .i64 (a:Int),.int .i64 (b:Int),.int .i64 s]=some [.int .i64 (x:Int),.int .i64 (y:Int),.int .i64 s']∧(x=a∧y=b∨x=b∧y=a):=by
 by_cases h:b9 d[b]! d[a]! <0
 ·refine ⟨b,a,_,XN (by unfold OK;rw[IJ hb,IJ ha];simp only[Option.bind_some,XE.bz,XE.bA,XE.bB,gN,V.aC,V.toInt_int];rw[az,ah h]),.inr ⟨rfl,rfl⟩⟩
 ·refine ⟨a,b,_,XN (by unfold OK;rw[IJ hb,IJ ha];simp only[Option.bind_some,XE.bz,XE.bA,XE.bB,gN,V.aC,V.toInt_int];rw[az,ai h]),.inl ⟨rfl,rfl⟩⟩
theorem OO {d:Array XE} {a b c:Nat} {s:Int} (ha:a<d.size) (hb:b<d.size) (hc:c<d.size): ∃(m:Nat) (s':Int),CC BV [.list aa (eA d),.int .i64 (a:Int),.int .i64 (b:Int),.int .i64 (c:Int),.int .i64 s]=some [.int .i64 (m:Int),.int .i64 s']∧(m=a∨m=b∨m=c):=by
 obtain ⟨x1,y1,s1,e1,o1⟩:=ON (s:=s) ha hb
 obtain ⟨x2,y2,s2,e2,o2⟩:=ON (d:=d) (a:=y1) (b:=c) (s:=s1) (by omega) hc
 obtain ⟨x3,y3,s3,e3,o3⟩:=ON (d:=d) (a:=x1) (b:=x2) (s:=s2) (by omega) (by omega)
 refine ⟨y3,s3,aks ?_,by omega⟩
 unfold XM
 rw[e1]
 simp only[Option.bind_some,V.aC,V.rS,V.toInt_int,ek,dL]
 rw[e2]
 simp only[Option.bind_some,V.aC,V.rS,V.toInt_int,ek,dL]
 rw[e3]
 rfl
theorem OP {d:Array XE} {a:Nat} {s:Int} (h1:1≤a) (ha:a+1<d.size) (hs:d.size<1152921504606846976): ∃(m:Nat) (s':Int),CC yH [.list aa (eA d),.int .i64 (a:Int),.int .i64 s]=some [.int .i64 (m:Int),.int .i64 s']∧a≤m+1∧m≤a+1:=by
 obtain ⟨m,s',e,o⟩:=OO (d:=d) (a:=a-1) (b:=a) (c:=a+1) (s:=s) (by omega) (by omega) (by omega)
 refine ⟨m,s',akt ?_,by omega,by omega⟩
 unfold XO
 simp (disch:=omega) only[kP,dU,wrap64]
 rw[e]
 rfl
theorem OQ (n:Nat):Int.tdiv (n:Int) 4=((n/4:Nat):Int):=by
 have:=divC n 4
 exact this
theorem mulC (k n:Nat):((k:Nat):Int)*(n:Int)=((k*n:Nat):Int):=(Int.natCast_mul k n).symm
theorem akR {d:Array XE} {a b:Nat} (fq:a+12<b) (hb:b≤d.size) (hs:d.size<1152921504606846976): ∃(p:Nat) (h:Int),CC BR [.list aa (eA d),.int .i64 (a:Int),.int .i64 (b:Int)]=some [.int .i64 (p:Int),.int .i64 h]∧a≤p∧p<b:=by
 have fin: ∀(p:Nat) (s:Int),∃h:Int,(bif (s:Int)==0 then some [V.int .i64 (p:Int),V.int .i64 1] else bif (s:Int)==12 then some [V.int .i64 (p:Int),V.int .i64 2] else some [V.int .i64 (p:Int),V.int .i64 0])=some [V.int .i64 (p:Int),V.int .i64 h]:=by
  intro p s
  rw[dC]
  split
  ·exact ⟨1,rfl⟩
  ·rw[dC]
   split
   ·exact ⟨2,rfl⟩
   ·exact ⟨0,rfl⟩
 have e1:IntKind.wrap .i64 ((b:Int)-(a:Int))=((b-a:Nat):Int):=by rw[ng (by omega),wrap64 (by omega) (by omega)]
 have e2:IntKind.wrap .i64 (Int.tdiv ((b-a:Nat):Int) 4)=(((b-a)/4:Nat):Int):=by rw[OQ,wrap64 (by omega) (by omega)]
 have e3: ∀k:Nat,k≤3→IntKind.wrap .i64 ((a:Int)+IntKind.wrap .i64 ((k:Int)*(((b-a)/4:Nat):Int)))=((a+k*((b-a)/4):Nat):Int):=by
  intro k hk
  have fw:k*((b-a)/4)≤3*((b-a)/4):=dM _ hk
  simp (disch:=omega) only[mulC,wrap64,gk]
 have OR:=e3 1 (by omega)
 have tZ:=e3 2 (by omega)
 have OS:=e3 3 (by omega)
 rw[show ((1:Nat):Int)=1 from rfl] at OR
 rw[show ((2:Nat):Int)=2 from rfl] at tZ
 rw[show ((3:Nat):Int)=3 from rfl] at OS
 by_cases h50:b-a≥50
 ·obtain ⟨m1,s1,q1,r1⟩:=OP (d:=d) (a:=a+1*((b-a)/4)) (s:=0) (by omega) (by omega) hs
  obtain ⟨m2,s2,q2,r2⟩:=OP (d:=d) (a:=a+2*((b-a)/4)) (s:=s1) (by omega) (by omega) hs
  obtain ⟨m3,s3,q3,r3⟩:=OP (d:=d) (a:=a+3*((b-a)/4)) (s:=s2) (by omega) (by omega) hs
  obtain ⟨m,s,q,r⟩:=OO (d:=d) (a:=m1) (b:=m2) (c:=m3) (s:=s3) (by omega) (by omega) (by omega)
  obtain ⟨h,hf⟩:=fin m s
  refine ⟨m,h,XL ?_,by omega,by omega⟩
  unfold OI DU DT
  rw[e1,e2,OR,tZ,OS,oo (by omega),cond_true,oo (by omega),cond_true,q1]
  simp only[Option.bind_some,V.aC,V.rS,V.toInt_int,ek,dL]
  rw[q2]
  simp only[Option.bind_some,V.aC,V.rS,V.toInt_int,ek,dL]
  rw[q3]
  simp only[Option.bind_some,V.aC,V.rS,V.toInt_int,ek,dL,un]
  rw[q]
  exact hf
 ·obtain ⟨m,s,q,r⟩:=OO (d:=d) (a:=a+1*((b-a)/4)) (b:=a+2*((b-a)/4)) (c:=a+3*((b-a)/4)) (s:=0) (by omega) (by omega) (by omega)
  obtain ⟨h,hf⟩:=fin m s
  refine ⟨m,h,XL ?_,by omega,by omega⟩
  unfold OI DU DT
  rw[e1,e2,OR,tZ,OS,oo (by omega),cond_true,tS (by omega),cond_false]
  simp only[un]
  rw[q]
  exact hf
theorem akS {a b M:Nat} (hM1:1≤M) (hM:M≤2*(b-a)) (h8:8≤b-a) (hB:b<1152921504606846976): ∀(n i:Nat) (d:Array XE) (r:Int),a+2*((b-a)/4)+2-i=n→a≤i→b≤d.size→d.size<1152921504606846976→
  ∃x y z R,Loop (IF CC a (b-a:Nat) M) ((i:Int),eA d,r)=some (x,y,eA R,z)∧PermIn a b d R:=by
 have e2:IntKind.wrap .i64 (Int.tdiv ((b-a:Nat):Int) 4)=(((b-a)/4:Nat):Int):=by rw[OQ,wrap64 (by omega) (by omega)]
 have tZ:IntKind.wrap .i64 ((a:Int)+IntKind.wrap .i64 (2*(((b-a)/4:Nat):Int)))=((a+2*((b-a)/4):Nat):Int):=by
  have:=mulC 2 ((b-a)/4)
  rw[show ((2:Nat):Int)=2 from rfl] at this
  rw[this]
  simp (disch:=omega) only[wrap64,gk]
 intro n
 induction n with
 | zero=>
  intro i d r hn hi hb hs
  refine ⟨(i:Int),false,r,d,bj ?_,permIn_refl _ _ _⟩
  simp only[IF,DW,un]
  rw[e2,tZ,dU,wrap64 (by omega) (by omega),tS (by omega),cond_false]
 | succ n ih=>
  intro i d r hn hi hb hs
  obtain ⟨R1,q1,q2⟩:=akQ r
  obtain ⟨o,ho,lU⟩: ∃o:Nat,(o=if R1&&&(M-1)≥b-a then (R1&&&(M-1))-(b-a) else R1&&&(M-1))∧o<b-a:=by
   refine ⟨_,rfl,?_⟩
   have:R1&&&(M-1)≤M-1:=Nat.and_le_right
   split<;>omega
  have hand:R1&&&(M-1)≤M-1:=Nat.and_le_right
  have hP:=swp_permIn (α:=XE) d a b i (a+o) hi (by omega) (by omega) (by omega) hb
  obtain ⟨x,y,z,R,e,hR⟩:=ih (i+1) (swp d i (a+o)) (R1:Int) (by omega) (by omega) (by rw[size_swp];exact hb) (by rw[size_swp];exact hs)
  refine ⟨x,y,z,R,(bW ?_).trans e,permIn_trans _ _ _ a b hP hR⟩
  simp only[IF,DW,un]
  rw[e2,tZ,dU,wrap64 (x:=((a+2*((b-a)/4)+1:Nat):Int)) (by omega) (by omega),oo (by omega),cond_true,q1]
  simp only[Option.bind_some,V.aC,V.rS,V.toInt_int,ek,dL]
  have e5:IntKind.wrap .u64 ((M:Int)-1)=((M-1:Nat):Int):=by rw[kP hM1,tx (by omega)]
  rw[e5,u64_and q2 (by omega),wrap64 (x:=((R1&&&(M-1):Nat):Int)) (by omega) (by omega)]
  have fin: ∀k:Int,k=(o:Int)→(bif (decide (0≤(IntKind.wrap .i64 ((a:Int)+k))))&&(decide ((IntKind.wrap .i64 ((a:Int)+k))<((eA d).length:Int))) then
   ((eA d)[(IntKind.wrap .i64 ((a:Int)+k):Int).toNat]?).bind fun x4=>
   bif (decide (0≤(i:Int)))&&(decide ((i:Int)<((eA d).length:Int))) then
    ((eA d)[((i:Int):Int).toNat]?).bind fun x5=>
    bif (decide (0≤(i:Int)))&&(decide ((i:Int)<((eA d).length:Int))) then
    ((eA d)[((i:Int):Int).toNat]?).bind fun x6=>
    bif (decide (0≤(IntKind.wrap .i64 ((a:Int)+k))))&&(decide ((IntKind.wrap .i64 ((a:Int)+k))<(((eA d).set (((i:Int):Int).toNat) (.agg [.int .i64 ((x4.cell 0).toInt),.int .i64 ((x4.cell 1).toInt),.list aa ((x4.cell 2).toList)])).length:Int))) then
     (((eA d).set (((i:Int):Int).toNat) (.agg [.int .i64 ((x4.cell 0).toInt),.int .i64 ((x4.cell 1).toInt),.list aa ((x4.cell 2).toList)]))[(IntKind.wrap .i64 ((a:Int)+k):Int).toNat]?).bind fun x7=>
     some (.inl (IntKind.wrap .i64 ((i:Int)+1),((eA d).set (((i:Int):Int).toNat) (.agg [.int .i64 ((x4.cell 0).toInt),.int .i64 ((x4.cell 1).toInt),.list aa ((x4.cell 2).toList)])).set ((IntKind.wrap .i64 ((a:Int)+k):Int).toNat) (.agg [.int .i64 ((x5.cell 0).toInt),.int .i64 ((x5.cell 1).toInt),.list aa ((x5.cell 2).toList)]),(R1:Int)))
    else none
    else none
   else none
   else none:Option ((Int × List V × Int) ⊕ (Int × Bool × List V × Int)))=some (.inl (((i+1:Nat):Int),eA (swp d i (a+o)),(R1:Int))):=by
   intro k hk
   subst hk
   simp (disch:=omega) only[az,cu,ga,ah,ai,wrap64,dU,gk,Int.toNat_natCast,Option.bind_some,gh,gj,XE.bz,XE.bA,XE.bB,XE.re,gi,iP,gR,gN,V.aC,V.toInt_int,cond_true,cond_false]
   rfl
  unfold IE
  by_cases h:R1&&&(M-1)≥b-a
  ·rw[ah h] at ho
   rw[oo (by omega),cond_true]
   exact fin _ (by rw[ng (by omega),wrap64 (by omega) (by omega)];omega)
  ·rw[ai h] at ho
   rw[tS (by omega),cond_false]
   exact fin _ (by omega)
theorem akT {a b:Nat} {d:Array XE} (fq:a+12<b) (hb:b≤d.size) (hs:d.size<1152921504606846976): ∃R,CC Hg [.int .i64 (a:Int),.int .i64 (b:Int),.list aa (eA d)]=some [.list aa (eA R)]∧PermIn a b d R:=by
 obtain ⟨M,q1,q2,q3⟩:=akP (x:=b-a) (by omega) (by omega)
 have e1:IntKind.wrap .i64 ((b:Int)-(a:Int))=((b-a:Nat):Int):=by rw[ng (by omega),wrap64 (by omega) (by omega)]
 have e2:IntKind.wrap .i64 (Int.tdiv ((b-a:Nat):Int) 4)=(((b-a)/4:Nat):Int):=by rw[OQ,wrap64 (by omega) (by omega)]
 have tZ:IntKind.wrap .i64 ((a:Int)+IntKind.wrap .i64 (2*(((b-a)/4:Nat):Int)))=((a+2*((b-a)/4):Nat):Int):=by
  have:=mulC 2 ((b-a)/4)
  rw[show ((2:Nat):Int)=2 from rfl] at this
  rw[this]
  simp (disch:=omega) only[wrap64,gk]
 obtain ⟨x,y,z,R,e,hR⟩:=akS (a:=a) (b:=b) (M:=M) q2 q3 (by omega) (by omega) _ (a+2*((b-a)/4)-1) d (IntKind.wrap .u64 ((b-a:Nat):Int)) rfl (by omega) hb hs
 refine ⟨R,akw ?_,hR⟩
 unfold XR
 rw[e1,az,ah (by omega),q1]
 simp only[Option.bind_some,V.aC,V.toInt_int]
 rw[e2,tZ,kP (by omega),wrap64 (x:=((a+2*((b-a)/4)-1:Nat):Int)) (by omega) (by omega),e]
 rfl
noncomputable def ua (C:ae) (a b':Int) (eX fk:Bool) (cO dV:Int) (nh:List V) {β:Type} (kn:(Int × Int × Int × Bool × Bool × (List V))→Option β):Option β:=
      bif decide ((a:Int)>0) then
       bif (decide (0≤(IntKind.wrap .i64 (a-1))))&&(decide ((IntKind.wrap .i64 (a-1))<(nh.length:Int))) then
       (nh[(IntKind.wrap .i64 (a-1):Int).toNat]?).bind fun iK=>
       bif (decide (0≤dV))&&(decide (dV<(nh.length:Int))) then
        (nh[(dV:Int).toNat]?).bind fun ml=>
        (C bn [.int .i64 ((iK.cell 0).toInt),.int .i64 ((iK.cell 1).toInt),.list aa ((iK.cell 2).toList),.int .i64 ((ml.cell 0).toInt),.int .i64 ((ml.cell 1).toInt),.list aa ((ml.cell 2).toList)]).bind fun ou=>
        bif !(decide ((((V.nth ou 0).toInt):Int)<0)) then
        (C vD [.int .i64 a,.int .i64 b',.int .i64 dV,.list aa nh]).bind fun qH=>
        kn ((V.nth qH 0).toInt,b',cO,eX,fk,(V.nth (qH.drop 1) 0).toList)
        else
        (C nW [.int .i64 a,.int .i64 b',.int .i64 dV,.list aa nh]).bind fun ey=>
        bif decide (((IntKind.wrap .i64 (((V.nth ey 0).toInt)-a)):Int)<(IntKind.wrap .i64 (b'-((V.nth ey 0).toInt)))) then
         (C gI [.int .i64 a,.int .i64 ((V.nth ey 0).toInt),.int .i64 cO,.list aa ((V.nth (ey.drop 2) 0).toList)]).bind fun j8=>
         kn (IntKind.wrap .i64 (((V.nth ey 0).toInt)+1),b',cO,decide (((IntKind.wrap .i64 (((V.nth ey 0).toInt)-a)):Int)≥(IntKind.wrap .i64 (Int.tdiv (IntKind.wrap .i64 (b'-a)) 8))),(V.nth (ey.drop 1) 0).toBool,(V.nth j8 0).toList)
        else
         (C gI [.int .i64 (IntKind.wrap .i64 (((V.nth ey 0).toInt)+1)),.int .i64 b',.int .i64 cO,.list aa ((V.nth (ey.drop 2) 0).toList)]).bind fun eV=>
         kn (a,(V.nth ey 0).toInt,cO,decide (((IntKind.wrap .i64 (b'-((V.nth ey 0).toInt))):Int)≥(IntKind.wrap .i64 (Int.tdiv (IntKind.wrap .i64 (b'-a)) 8))),(V.nth (ey.drop 1) 0).toBool,(V.nth eV 0).toList)
       else none
       else none
      else
       (C nW [.int .i64 a,.int .i64 b',.int .i64 dV,.list aa nh]).bind fun jG=>
       bif decide (((IntKind.wrap .i64 (((V.nth jG 0).toInt)-a)):Int)<(IntKind.wrap .i64 (b'-((V.nth jG 0).toInt)))) then
       (C gI [.int .i64 a,.int .i64 ((V.nth jG 0).toInt),.int .i64 cO,.list aa ((V.nth (jG.drop 2) 0).toList)]).bind fun pz=>
       kn (IntKind.wrap .i64 (((V.nth jG 0).toInt)+1),b',cO,decide (((IntKind.wrap .i64 (((V.nth jG 0).toInt)-a)):Int)≥(IntKind.wrap .i64 (Int.tdiv (IntKind.wrap .i64 (b'-a)) 8))),(V.nth (jG.drop 1) 0).toBool,(V.nth pz 0).toList)
       else
       (C gI [.int .i64 (IntKind.wrap .i64 (((V.nth jG 0).toInt)+1)),.int .i64 b',.int .i64 cO,.list aa ((V.nth (jG.drop 2) 0).toList)]).bind fun kQ=>
       kn (a,(V.nth jG 0).toInt,cO,decide (((IntKind.wrap .i64 (b'-((V.nth jG 0).toInt))):Int)≥(IntKind.wrap .i64 (Int.tdiv (IntKind.wrap .i64 (b'-a)) 8))),(V.nth (jG.drop 1) 0).toBool,(V.nth kQ 0).toList)
theorem IK (C:ae) (a b' jF:Int) (eX fk:Bool) (ak:List V) {β:Type} (kn:(Int × Int × Int × Bool × Bool × (List V))→Option β) (kr:(List V)→Option β):
  qG C a b' jF eX fk ak kn kr=
 bif decide (((IntKind.wrap .i64 (b'-a)):Int)≤12) then
  (C BP [.int .i64 a,.int .i64 b',.list aa ak]).bind fun r1=>
  kr ((V.nth r1 0).toList)
 else
  bif (jF:Int)==0 then
  (C BQ [.int .i64 a,.int .i64 b',.list aa ak]).bind fun r2=>
  kr ((V.nth r2 0).toList)
  else
  zM C a b' jF eX fk (IntKind.wrap .i64 (b'-a)) (!eX) ak (un fun (cO:Int) (DZ:List V)=>
   (C BR [.list aa DZ,.int .i64 a,.int .i64 b']).bind fun r6=>
   zN C a b' cO eX fk (IntKind.wrap .i64 (b'-a)) ((V.nth r6 0).toInt) ((V.nth (r6.drop 1) 0).toInt) ((((V.nth (r6.drop 1) 0).toInt):Int)==2) DZ (un fun (dV:Int)=>un fun (OL:Int) (pt:List V)=>
    bif eX then
     bif fk then
     nj C a b' cO eX fk (IntKind.wrap .i64 (b'-a)) dV ((OL:Int)==1) pt (cB (un fun (T8:Bool) (OT:List V)=>
      kr OT) (fun (nh:List V)=>ua C a b' eX fk cO dV nh kn))
     else
     nj C a b' cO eX fk (IntKind.wrap .i64 (b'-a)) dV false pt (cB (un fun (Ue:Bool) (akU:List V)=>
      kr akU) (fun (akV:List V)=>ua C a b' eX fk cO dV akV kn))
    else
     nj C a b' cO eX fk (IntKind.wrap .i64 (b'-a)) dV false pt (cB (un fun (aeg:Bool) (akW:List V)=>
      kr akW) (fun (akX:List V)=>ua C a b' eX fk cO dV akX kn)))):=rfl
section
variable {a b:Nat} {lim:Int} {wb wp:Bool}
theorem akY {d:Array XE} (fq:a+12<b) (hb:b≤d.size) (hs:d.size<1152921504606846976) (len:Int) (t:Bool): ∃(l1:Int) (d1:Array XE),PermIn a b d d1∧∀(β:Type) (kr:(Int × List V)→Option β),zM CC a b lim wb wp len t (eA d) kr=kr (l1,eA d1):=by
 cases t with
 | true=>
  obtain ⟨R,e,hR⟩:=akT fq hb hs
  refine ⟨IntKind.wrap .i64 (lim-1),R,hR,fun β kr=> ?_⟩
  unfold zM
  rw[cond_true,e]
  rfl
 | false=>exact ⟨lim,d,permIn_refl _ _ _,fun β kr=>rfl⟩
theorem akZ {d:Array XE} (fq:a+12<b) (hb:b≤d.size) (hs:d.size<1152921504606846976) (len h:Int) (t:Bool) {p:Nat} (h1:a≤p) (U:p<b): ∃(p2:Nat) (U:Int) (d1:Array XE),a≤p2∧p2<b∧PermIn a b d d1∧∀(β:Type) (kr:(Int × Int × List V)→Option β),zN CC a b lim wb wp len p h t (eA d) kr=kr ((p2:Int),U,eA d1):=by
 cases t with
 | true=>
  refine ⟨b-1-(p-a),1,reverseRange d a b,by omega,by omega,reverseRange_holds d a b (by omega) hb,fun β kr=> ?_⟩
  unfold zN
  rw[cond_true,ajQ (by omega) hb hs]
  simp (disch:=omega) only[Option.bind_some,V.aC,V.bR,kP,ng,wrap64]
 | false=>exact ⟨p,h,d,h1,U,permIn_refl _ _ _,fun β kr=>rfl⟩
theorem ak0 {d:Array XE} (fq:a+12<b) (hb:b≤d.size) (hs:d.size<1152921504606846976) (hB:Below aA a b d) (len p:Int) (t:Bool): ∃d1:Array XE,PermIn a b d d1∧
  ((∀(β:Type) (kr:((Bool × List V) ⊕ List V)→Option β),nj CC a b lim wb wp len p t (eA d) kr=kr (.inr (eA d1)))∨
  (SortedIn aA a b d1∧∀(β:Type) (kr:((Bool × List V) ⊕ List V)→Option β),nj CC a b lim wb wp len p t (eA d) kr=kr (.inl (true,eA d1)))):=by
 cases t with
 | true=>
  have hp:=partialInsertionSort_holds (lt:=aA) zO d a b (by omega) hb hB
  refine ⟨_,hp.1,?_⟩
  cases h:(partialInsertionSort aA d a b).2 with
  | true=>
   refine .inr ⟨hp.2 h,fun β kr=> ?_⟩
   unfold nj
   rw[cond_true,XH (by omega) hb hs,h]
   rfl
  | false=>
   refine .inl fun β kr=> ?_
   unfold nj
   rw[cond_true,XH (by omega) hb hs,h]
   rfl
 | false=>exact ⟨d,permIn_refl _ _ _,.inl fun β kr=>rfl⟩
end
def IL (a b:Nat) (d:Array XE):Prop:= ∀(lim:Int) (wb wp:Bool),∃R,Loop (X1 CC) ((a:Int),(b:Int),lim,wb,wp,eA d)=some (eA R)∧PermIn a b d R∧SortedIn aA a b R
theorem IL.call {a b:Nat} {d:Array XE} (h:IL a b d) (lim:Int): ∃R,CC gI [.int .i64 (a:Int),.int .i64 (b:Int),.int .i64 lim,.list aa (eA d)]=some [.list aa (eA R)]∧PermIn a b d R∧SortedIn aA a b R:=by
 obtain ⟨R,e,h1,U⟩:=h lim true true
 refine ⟨R,akK ?_,h1,U⟩
 unfold X3
 rw[e]
 rfl
theorem ak1 {a b p:Nat} {d:Array XE} (fq:a+12<b) (hb:b≤d.size) (hs:d.size<1152921504606846976) (hB:Below aA a b d) (h1:a≤p) (U:p<b)
  (ih: ∀(a2 b2:Nat) (d2:Array XE),b2-a2<b-a→a2≤b2→b2≤d2.size→d2.size<1152921504606846976→Below aA a2 b2 d2→IL a2 b2 d2) (wb wp:Bool) (lim:Int):
  ∃(a2 b2:Nat) (wL wM:Bool) (d2:Array XE),b2-a2<b-a∧a2≤b2∧b2≤d2.size∧d2.size<1152921504606846976∧Below aA a2 b2 d2∧
   (∀R,PermIn a2 b2 d2 R→SortedIn aA a2 b2 R→PermIn a b d R∧SortedIn aA a b R)∧
   ∀(β:Type) (kn:(Int × Int × Int × Bool × Bool × (List V))→Option β),ua CC a b wb wp lim p (eA d) kn=kn ((a2:Int),(b2:Int),lim,wL,wM,eA d2):=by
 have part: ∃(a2 b2:Nat) (wL wM:Bool) (d2:Array XE),b2-a2<b-a∧a2≤b2∧b2≤d2.size∧d2.size<1152921504606846976∧Below aA a2 b2 d2∧
   (∀R,PermIn a2 b2 d2 R→SortedIn aA a2 b2 R→PermIn a b d R∧SortedIn aA a b R)∧
   ∀(β:Type) (kn:(Int × Int × Int × Bool × Bool × (List V))→Option β),
    ((CC nW [.int .i64 (a:Int),.int .i64 (b:Int),.int .i64 (p:Int),.list aa (eA d)]).bind fun ey=>
        bif decide (((IntKind.wrap .i64 (((V.nth ey 0).toInt)-(a:Int))):Int)<(IntKind.wrap .i64 ((b:Int)-((V.nth ey 0).toInt)))) then
         (CC gI [.int .i64 (a:Int),.int .i64 ((V.nth ey 0).toInt),.int .i64 lim,.list aa ((V.nth (ey.drop 2) 0).toList)]).bind fun j8=>
         kn (IntKind.wrap .i64 (((V.nth ey 0).toInt)+1),(b:Int),lim,decide (((IntKind.wrap .i64 (((V.nth ey 0).toInt)-(a:Int))):Int)≥(IntKind.wrap .i64 (Int.tdiv (IntKind.wrap .i64 ((b:Int)-(a:Int))) 8))),(V.nth (ey.drop 1) 0).toBool,(V.nth j8 0).toList)
        else
         (CC gI [.int .i64 (IntKind.wrap .i64 (((V.nth ey 0).toInt)+1)),.int .i64 (b:Int),.int .i64 lim,.list aa ((V.nth (ey.drop 2) 0).toList)]).bind fun eV=>
         kn ((a:Int),(V.nth ey 0).toInt,lim,decide (((IntKind.wrap .i64 ((b:Int)-((V.nth ey 0).toInt))):Int)≥(IntKind.wrap .i64 (Int.tdiv (IntKind.wrap .i64 ((b:Int)-(a:Int))) 8))),(V.nth (ey.drop 1) 0).toBool,(V.nth eV 0).toList))=kn ((a2:Int),(b2:Int),lim,wL,wM,eA d2):=by
  obtain ⟨mid,ap,d4,hx⟩: ∃mid ap d4,partition aA d a b p=(mid,ap,d4):=⟨_,_,_,rfl⟩
  obtain ⟨g1,g2,pA,hBa,hBr,ak2,ak3⟩:=round_part zO (partition_holds aA) h1 U hb hB hx
  have hc:=akh (a:=a) (b:=b) (pivot:=p) (d:=d) U (by omega) hb hs
  rw[hx] at hc
  by_cases hl:mid-a<b-mid
  ·obtain ⟨L,e,l1,l2⟩:=(ih a mid d4 (by omega) g1 (by rw[pA];omega) (by rw[pA];exact hs) hBa).call lim
   obtain ⟨OU,D0⟩:=ak2 _ l1 l2
   refine ⟨mid+1,b,decide (((IntKind.wrap .i64 ((mid:Int)-(a:Int))):Int)≥(IntKind.wrap .i64 (Int.tdiv (IntKind.wrap .i64 ((b:Int)-(a:Int))) 8))),ap,L,by omega,by omega,by rw[l1.1,pA];exact hb,by rw[l1.1,pA];exact hs,OU,D0,fun β kn=> ?_⟩
   ·rw[hc]
    simp only[Option.bind_some,V.aC,V.rS,V.toInt_int,V.cN,V.bR,ek,dL]
    rw[az,ah (by rw[ng g1,ng (by omega),wrap64 (by omega) (by omega),wrap64 (by omega) (by omega)];omega),e]
    simp only[Option.bind_some,V.aC,V.bR]
    rw[dU,wrap64 (x:=((mid+1:Nat):Int)) (by omega) (by omega)]
  ·obtain ⟨L,e,l1,l2⟩:=(ih (mid+1) b d4 (by omega) (by omega) (by rw[pA];exact hb) (by rw[pA];exact hs) hBr).call lim
   obtain ⟨OU,D0⟩:=ak3 _ l1 l2
   refine ⟨a,mid,decide (((IntKind.wrap .i64 ((b:Int)-(mid:Int))):Int)≥(IntKind.wrap .i64 (Int.tdiv (IntKind.wrap .i64 ((b:Int)-(a:Int))) 8))),ap,L,by omega,by omega,by rw[l1.1,pA];omega,by rw[l1.1,pA];exact hs,OU,D0,fun β kn=> ?_⟩
   ·rw[hc]
    simp only[Option.bind_some,V.aC,V.rS,V.toInt_int,V.cN,V.bR,ek,dL]
    rw[az,ai (by rw[ng g1,ng (by omega),wrap64 (by omega) (by omega),wrap64 (by omega) (by omega)];omega),dU,wrap64 (x:=((mid+1:Nat):Int)) (by omega) (by omega),e]
    simp only[Option.bind_some,V.aC,V.bR]
 by_cases ha:0<a
 ·by_cases hc:b9 d[a-1]! d[p]! <0
  ·obtain ⟨a2,b2,wL,wM,d2,q1,q2,q3,q4,q5,q6,q7⟩:=part
   refine ⟨a2,b2,wL,wM,d2,q1,q2,q3,q4,q5,q6,fun β kn=> ?_⟩
   rw[←q7 β kn]
   unfold ua
   rw[az,ah (by omega),kP ha,wrap64 (by omega) (by omega),kR (i:=a-1) (by omega),kS (by omega),kR (i:=p) (by omega),kS (by omega)]
   simp only[XE.bz,XE.bA,XE.bB,gN,Option.bind_some,V.aC,V.toInt_int]
   rw[ga,az,ah hc]
  ·obtain ⟨mid,d4,hx⟩: ∃mid d4,partitionEqual aA d a b p=(mid,d4):=⟨_,_,rfl⟩
   obtain ⟨g1,JZ,pA,hB4,D0⟩:=round_eq zO (partitionEqual_holds aA) ha h1 U hb hB (by rw[IH,←propext (akM _ _)];exact hc) hx
   have he:=akj (a:=a) (b:=b) (pivot:=p) (d:=d) U (by omega) hb hs
   rw[hx] at he
   refine ⟨mid,b,wb,wp,d4,by omega,JZ,by rw[pA];exact hb,by rw[pA];exact hs,hB4,D0,fun β kn=> ?_⟩
   unfold ua
   rw[az,ah (by omega),kP ha,wrap64 (by omega) (by omega),kR (i:=a-1) (by omega),kS (by omega),kR (i:=p) (by omega),kS (by omega)]
   simp only[XE.bz,XE.bA,XE.bB,gN,Option.bind_some,V.aC,V.toInt_int]
   rw[ga,az,ai hc,he]
   rfl
 ·obtain ⟨a2,b2,wL,wM,d2,q1,q2,q3,q4,q5,q6,q7⟩:=part
  refine ⟨a2,b2,wL,wM,d2,q1,q2,q3,q4,q5,q6,fun β kn=> ?_⟩
  rw[←q7 β kn]
  unfold ua
  rw[az,ai (by omega)]
theorem ak4: ∀(n a b:Nat) (d:Array XE),b-a≤n→a≤b→b≤d.size→d.size<1152921504606846976→Below aA a b d→IL a b d:=by
 intro n
 induction n with
 | zero=>
  intro a b d hn fq hb hs hB lim wb wp
  have hi:=insertionSort_holds (lt:=aA) zO d a b fq hb
  refine ⟨_,bj ?_,hi⟩
  show qG CC a b lim wb wp (eA d) (fun y=>some (Sum.inl y)) (fun r=>some (Sum.inr r))=_
  rw[IK,az,ah (by rw[ng fq,wrap64 (by omega) (by omega)];omega),Xo hb hs (by omega)]
  rfl
 | succ n ih=>
  intro a b d hn fq hb hs hB lim wb wp
  by_cases Wd:b-a≤12
  ·have hi:=insertionSort_holds (lt:=aA) zO d a b fq hb
   refine ⟨_,bj ?_,hi⟩
   show qG CC a b lim wb wp (eA d) (fun y=>some (Sum.inl y)) (fun r=>some (Sum.inr r))=_
   rw[IK,az,ah (by rw[ng fq,wrap64 (by omega) (by omega)];omega),Xo hb hs (by omega)]
   rfl
  ·have D1:a+12<b:=by omega
   have tf: ¬(((IntKind.wrap .i64 ((b:Int)-(a:Int))):Int)≤12):=by rw[ng fq,wrap64 (by omega) (by omega)];omega
   by_cases h0:lim=0
   ·have hi:=heapSort_holds (lt:=aA) zO d a b fq hb
    refine ⟨_,bj ?_,hi⟩
    show qG CC a b lim wb wp (eA d) (fun y=>some (Sum.inl y)) (fun r=>some (Sum.inr r))=_
    rw[IK,az,ai tf,dC,ah h0,ajO (by omega) hb hs]
    rfl
   ·obtain ⟨l1,d1,s1,k1⟩:=akY (lim:=lim) (wb:=wb) (wp:=wp) D1 hb hs (IntKind.wrap .i64 ((b:Int)-(a:Int))) (!wb)
    have b1:b≤d1.size:=by rw[s1.1];exact hb
    have z1:d1.size<1152921504606846976:=by rw[s1.1];exact hs
    obtain ⟨p,h,c1,p1,p2⟩:=akR D1 b1 z1
    obtain ⟨q,U,d2,q1,q2,s2,k2⟩:=akZ (lim:=l1) (wb:=wb) (wp:=wp) D1 b1 z1 (IntKind.wrap .i64 ((b:Int)-(a:Int))) h (h==2) p1 p2
    have b2:b≤d2.size:=by rw[s2.1];exact b1
    have z2:d2.size<1152921504606846976:=by rw[s2.1];exact z1
    have B2:Below aA a b d2:=(hB.perm hb s1).perm b1 s2
    obtain ⟨t,ht⟩: ∃t:Bool,t=(bif wb then (bif wp then (U==1) else false) else false):=⟨_,rfl⟩
    obtain ⟨d3,s3,k3⟩:=ak0 (lim:=l1) (wb:=wb) (wp:=wp) D1 b2 z2 B2 (IntKind.wrap .i64 ((b:Int)-(a:Int))) (q:Int) t
    have b3:b≤d3.size:=by rw[s3.1];exact b2
    have z3:d3.size<1152921504606846976:=by rw[s3.1];exact z2
    have B3:Below aA a b d3:=B2.perm b2 s3
    have P3:PermIn a b d d3:=permIn_trans _ _ _ a b (permIn_trans _ _ _ a b s1 s2) s3
    have step: ∀(β:Type) (kn:(Int × Int × Int × Bool × Bool × (List V))→Option β) (kr:(List V)→Option β),qG CC a b lim wb wp (eA d) kn kr=
      nj CC a b l1 wb wp (IntKind.wrap .i64 ((b:Int)-(a:Int))) (q:Int) t (eA d2) (cB (un fun (T8:Bool) (OT:List V)=>kr OT) (fun (nh:List V)=>ua CC a b wb wp l1 q nh kn)):=by
     intro β kn kr
     rw[IK,az,ai tf,dC,ai h0,k1]
     simp only[un]
     rw[c1]
     simp only[Option.bind_some,V.aC,V.rS,V.toInt_int,ek,dL]
     rw[k2]
     simp only[un]
     rw[ht]
     cases wb
     ·rfl
     ·cases wp
      ·rfl
      ·rfl
    rcases k3 with k3|⟨k3s,k3⟩
    ·obtain ⟨a4,b4,wb4,wp4,d4,r1,r2,r3,r4,r5,r6,r7⟩:=ak1 D1 b3 z3 B3 q1 q2 (fun a2 b2 d2 aT h1 U h3 h4=>ih a2 b2 d2 (by omega) h1 U h3 h4) wb wp l1
     obtain ⟨R,e,e1,e2⟩:=ih a4 b4 d4 (by omega) r2 r3 r4 r5 l1 wb4 wp4
     obtain ⟨f1,f2⟩:=r6 R e1 e2
     refine ⟨R,(bW ?_).trans e,permIn_trans _ _ _ a b P3 f1,f2⟩
     show qG CC a b lim wb wp (eA d) (fun y=>some (Sum.inl y)) (fun r=>some (Sum.inr r))=_
     rw[step,k3]
     exact r7 _ (fun y=>some (Sum.inl y))
    ·refine ⟨d3,bj ?_,P3,k3s⟩
     show qG CC a b lim wb wp (eA d) (fun y=>some (Sum.inl y)) (fun r=>some (Sum.inr r))=_
     rw[step,k3]
     rfl
theorem ak5 (l:List XE) (hs:l.length<1152921504606846976): ∃R:List XE,CC BN [.list aa (l.map XE.enc)]=some [.list aa (R.map XE.enc)]∧R.Perm l∧R.Pairwise (fun x y=> ¬y.lt x):=by
 obtain ⟨L,e1,_⟩:=X7 (x:=l.length) (by omega)
 obtain ⟨R,e2,h1,U⟩:=(ak4 _ 0 l.toArray.size l.toArray (bU _) (kV _) (bU _) (by simpa using hs) (.inl rfl)).call (L:Int)
 have bd:R.size=l.length:=by rw[h1.1];simp
 refine ⟨R.toList,akL ?_,?_,?_⟩
 ·unfold X4
  rw[bw,tx (A:=l.length) (by omega),e1]
  simp only[Option.bind_some,V.aC,V.toInt_int]
  have e3:eA l.toArray=l.map XE.enc:=by simp[qD]
  rw[e3,show ((l.toArray.size:Nat):Int)=(l.length:Int) by simp,show ((0:Nat):Int)=0 from rfl] at e2
  rw[e2]
  rfl
 ·have h3:=h1.2.2
  rw[show l.toArray.size=R.size from h1.1.symm,Array.extract_size,h1.1,Array.extract_size] at h3
  exact h3
 ·rw[EL]
  intro i j hi hj u5
  have h3:=U i j (kV _) u5 (by simpa[←bd] using hj)
  rw[IH] at h3
  have ee:i<R.size:=by simpa using hi
  have fZ:j<R.size:=by simpa using hj
  rw[getElem!_pos R i ee,getElem!_pos R j fZ] at h3
  simpa using h3
end Go.AM.SX
set_option maxRecDepth 100000
namespace Go.AM
open Go.Proofs
noncomputable abbrev IM:Code:=cj Tryz.prog (av.aQ 86)
noncomputable def zQ (C:ae) (D2 wO:Nat) (k' kT:Int) (ss:List V) {β:Type} (kn:(Int × Int × (List V))→Option β) (kr:(Int × Int × Bool × (List V))→Option β):Option β:=
 bif decide ((kT:Int)<(wO:Int)) then
  bif (decide (0≤kT))&&(decide (kT<(wO:Int))) then
  (ss[D2+((kT:Int).toNat)]?).bind fun x4=>
  bif (decide (0≤(IntKind.wrap .i64 (kT-1))))&&(decide ((IntKind.wrap .i64 (kT-1))<(wO:Int))) then
   (ss[D2+((IntKind.wrap .i64 (kT-1):Int).toNat)]?).bind fun x5=>
   (C qm [.int .i64 ((x4.cell 0).toInt),.int .i64 ((x4.cell 1).toInt),.list aa ((x4.cell 2).toList),.int .i64 ((x5.cell 0).toInt),.int .i64 ((x5.cell 1).toInt),.list aa ((x5.cell 2).toList)]).bind fun r6=>
   bif !((V.nth r6 0).toBool) then
   bif (decide (0≤kT))&&(decide (kT<(wO:Int))) then
    (ss[D2+((kT:Int).toNat)]?).bind fun x7=>
    bif (decide (0≤k'))&&(decide (k'<(ss.length:Int))) then
    (ss[(k':Int).toNat]?).bind fun x8=>
    kn (IntKind.wrap .i64 (k'+1),IntKind.wrap .i64 (kT+1),ss.set ((k':Int).toNat) (.agg [.int .i64 ((x7.cell 0).toInt),.int .i64 ((x7.cell 1).toInt),.list aa ((x7.cell 2).toList)]))
    else none
   else none
   else
   kn (k',IntKind.wrap .i64 (kT+1),ss)
  else none
  else none
 else
  kr (k',kT,decide ((kT:Int)<(wO:Int)),ss)
noncomputable def wP (C:ae) (D2 wO:Nat):(Int × Int × (List V))→Option ((Int × Int × (List V)) ⊕ (Int × Int × Bool × (List V))):=un fun k'=>un fun kT ss=>zQ C D2 wO k' kT ss (fun y=>some (.inl y)) (fun r=>some (.inr r))
noncomputable def zR (C:ae) (ss:List V) (k':Int) {β:Type} (kn:Int→Option β) (kr:((List V) ⊕ (Int × Bool))→Option β):Option β:=
 bif decide ((k':Int)<(ss.length:Int)) then
  bif (decide (0≤k'))&&(decide (k'<(ss.length:Int))) then
  (ss[(k':Int).toNat]?).bind fun x1=>
  bif (decide (0≤(IntKind.wrap .i64 (k'-1))))&&(decide ((IntKind.wrap .i64 (k'-1))<(ss.length:Int))) then
   (ss[(IntKind.wrap .i64 (k'-1):Int).toNat]?).bind fun x2=>
   (C qm [.int .i64 ((x1.cell 0).toInt),.int .i64 ((x1.cell 1).toInt),.list aa ((x1.cell 2).toList),.int .i64 ((x2.cell 0).toInt),.int .i64 ((x2.cell 1).toInt),.list aa ((x2.cell 2).toList)]).bind fun r3=>
   bif (V.nth r3 0).toBool then
   bif (decide (0≤k'))&&(decide (k'≤(ss.length:Int))) then
    (Loop (wP C ((k':Int).toNat) (ss.length-((k':Int).toNat))) (k',1,ss)).bind (un fun (nk:Int)=>un fun (apo:Int)=>un fun (rZ:Bool) (sq:List V)=>
     bif (decide (0≤nk))&&(decide (nk≤(sq.length:Int))) then
     bif (decide (0≤nk))&&(decide (nk≤((sq.take ((nk:Int).toNat)++(List.replicate (sq.length-((nk:Int).toNat)) (V.agg [.int .i64 0,.int .i64 0,.list aa ([]:List V)])++sq.drop (((nk:Int).toNat)+(sq.length-((nk:Int).toNat))))).length:Int))) then
      kr (.inl ((sq.take ((nk:Int).toNat)++(List.replicate (sq.length-((nk:Int).toNat)) (V.agg [.int .i64 0,.int .i64 0,.list aa ([]:List V)])++sq.drop (((nk:Int).toNat)+(sq.length-((nk:Int).toNat))))).take ((nk:Int).toNat)))
     else none
     else none)
   else none
   else
   kn (IntKind.wrap .i64 (k'+1))
  else none
  else none
 else
  kr (.inr (k',decide ((k':Int)<(ss.length:Int))))
noncomputable def wQ (C:ae) (ss:List V):(Int)→Option ((Int) ⊕ ((List V) ⊕ (Int × Bool))):=fun k'=>zR C ss k' (fun y=>some (.inl y)) (fun r=>some (.inr r))
noncomputable def X8 (C:ae):b8:=fun β n ds k=>
 bif Nat.beq n 145 then bM MA [true,false,false,true,true] [[0,2,3,0,0,0]] (@zQ C) ds k else
 bif Nat.beq n 65 then bM MB [true,false] [[0],[0,0,2]] (@zR C) ds k else
 none
abbrev X9 (C:ae) (b:bZ):Prop:=b6 Tryz.prog av C (X8 C) 86 (cl Tryz.prog (av.aQ 86)) (av.sin 86).bc.length b
theorem ak6 (C:ae):X9 C (.loop (ax [1,1,0,1,0,0,1,0,0,1,0,1,0,1,0,0] IM)):=
 bP MA [true,false,false,true,true] [[0,2,3,0,0,0]] (@zQ C) (by kernel_rfl) (a9 (bs:=[]) (by kernel_rfl) aw) (fun ds=>by kernel_rfl) (fun i x=>by kernel_rfl) (fun i x β k=>by kernel_rfl) (fun β ds k=>by kernel_rfl)
theorem ak7 (C:ae):X9 C (.loop (ax [1,1,0,1,0,0] IM)):=
 bP MB [true,false] [[0],[0,0,2]] (@zR C) (by kernel_rfl) (a9 (bs:=[.loop (ax [1,1,0,1,0,0,1,0,0,1,0,1,0,1,0,0] IM)]) (by kernel_rfl) (br (ak6 C) aw)) (fun ds=>by kernel_rfl) (fun i x=>by kernel_rfl) (fun i x β k=>by kernel_rfl) (fun β ds k=>by kernel_rfl)
noncomputable def IN (C:ae) (ss:List V):Option (List V):=
 bif decide (((ss.length:Int):Int)<2) then
  some [V.bool true,.list aa ss]
 else
  (Loop (wQ C ss) 1).bind (cB (fun (ak8:List V)=>
   some [V.bool false,.list aa ak8]) (un fun (apq:Int) (yS:Bool)=>
   some [V.bool true,.list aa ss]))
theorem OV {ss:List V} {r:Option (List V)} (h:IN CC ss=r):CC He [.list aa ss]=r:=
 aZ (key:=86) (L:=X8 CC) (bs:=[.loop (ax [1,1,0,1,0,0] IM)]) (by kernel_rfl) (br (ak7 CC) aw) (aX (by kernel_rfl) h)
noncomputable def Ya (C:ae) (gL:List V):Option (List V):=
 (C BN [.list aa gL]).bind fun r1=>
 (C He [.list aa ((V.nth r1 0).toList)]).bind fun r2=>
 bif (V.nth r2 0).toBool then
  some [V.bool true,.list aa ((V.nth (r2.drop 1) 0).toList)]
 else
  some [V.bool false,.list aa ((V.nth (r2.drop 1) 0).toList)]
theorem ak9 {gL:List V} {r:Option (List V)} (h:Ya CC gL=r):CC vC [.list aa gL]=r:=
 aZ (key:=78) (L:=bX) (bs:=[]) (by kernel_rfl) aw (aX (by kernel_rfl) h)
noncomputable def Yb (C:ae) (qw qx:Int) (se:List V) (qy qz:Int) (sf:List V):Option (List V):=
 (C bn [.int .i64 qw,.int .i64 qx,.list aa se,.int .i64 qy,.int .i64 qz,.list aa sf]).bind fun r1=>
 some [.bool ((((V.nth r1 0).toInt):Int)==0)]
theorem ala {qw qx:Int} {se:List V} {qy qz:Int} {sf:List V} {r:Option (List V)} (h:Yb CC qw qx se qy qz sf=r):CC qm [.int .i64 qw,.int .i64 qx,.list aa se,.int .i64 qy,.int .i64 qz,.list aa sf]=r:=
 aZ (key:=87) (L:=bX) (bs:=[]) (by kernel_rfl) aw (aX (by kernel_rfl) h)
end Go.AM
set_option maxRecDepth 100000
namespace Go.AM
open Go.Proofs Ex
def oA (prev:Ex):List Ex→List Ex
 | []=>[]
 | x::l=>if cmp x prev=0 then oA x l else x::oA x l
def jt:List Ex→List Ex
 | []=>[]
 | x::l=>x::oA x l
theorem Yc: ∀(m:List Ex) (prev x:Ex),oA prev (m++[x])=oA prev m++(if cmp x ((prev::m).getD m.length bp)=0 then [] else [x])
 | [],prev,x=>by simp only[List.nil_append,oA,List.length_nil,Ak]
 | y::m,prev,x=>by
  have ih:=Yc m y x
  simp only[List.cons_append,oA,List.length_cons,List.getD_cons_succ]
  split
  ·exact ih
  ·rw[ih];rfl
theorem Yd {l:List Ex} {p:Nat} (h1:1≤p) (U:p<l.length):jt (l.take (p+1))=jt (l.take p)++(if cmp (l.getD p bp) (l.getD (p-1) bp)=0 then [] else [l.getD p bp]):=by
 match l,p,h1,U with
 | y::l,p+1,_,U=>
  simp only[List.length_cons] at U
  rw[List.take_succ_cons,List.take_succ_cons,jt,jt,lE (by omega),Yc]
  simp only[List.getD_cons_succ,fS,w8]
  rw[show min p l.length=p by omega]
  have:(y::l.take p).getD p bp=(y::l).getD p bp:=by
   match p with
   | 0=>rfl
   | q+1=>simp only[List.getD_cons_succ];rw[iu,iu,fe (by omega)]
  rw[this];rfl
theorem Ye: ∀(m:List Ex) (prev:Ex),(prev::m).Pairwise (fun x y=> ¬y.lx x)→j4 (prev::oA prev m)∧∀x,x∈prev::oA prev m↔x∈prev::m
 | [],prev,_=>⟨by simp[oA],by simp[oA]⟩
 | y::m,prev,h=>by
  have h1:=uq.1 h
  obtain ⟨i1,i2⟩:=Ye m y h1.2
  rw[oA]
  by_cases hc:cmp y prev=0
  ·rw[ah hc]
   have:=wj _ _ hc
   subst this
   refine ⟨i1,fun x=> ?_⟩
   rw[i2 x];simp
  ·rw[ai hc]
   have aT:prev.lx y:=by
    by_cases U:prev.lx y
    ·exact U
    ·exact absurd (Ex.Ww U (h1.1 y (by simp))) fun e=>hc (by rw[e];exact Dj _)
   refine ⟨uq.2 ⟨fun x hx=> ?_,i1⟩,fun x=> ?_⟩
   ·rcases dp.1 hx with rfl|hx
    ·exact aT
    ·exact Ex.Od aT ((uq.1 i1).1 x hx)
   ·rw[dp,i2 x,←dp]
theorem alb {l:List Ex} (h:l.Pairwise (fun x y=> ¬y.lx x)):j4 (jt l)∧∀x,x∈jt l↔x∈l:=by
 match l,h with
 | [],_=>exact ⟨List.Pairwise.nil,fun _=>Iff.rfl⟩
 | y::l,h=>exact Ye l y h
theorem Yf (a:Ex) (ha:a.Ok) (b:Ex) (hb:b.Ok):CC qm (bY a (bY b []))=some [.bool (decide (cmp a b=0))]:=by
 refine ala ?_
 unfold Yb
 refine (congrArg (fun o=>Option.bind o _) (Wp a ha b hb)).trans ?_
 simp only[Option.bind_some,V.aC,V.toInt_int]
 rw[Df]
section
variable {l:List Ex} (hn:l.length≤1000000) (ay: ∀k∈l,k.Ok)
include hn ay
theorem alc {k:Nat}: ∀(d k2 i:Nat) (ss:List Ex),k+k2+d=l.length→1≤k2→i+1≤k+k2→ss.length=l.length→ss.take i=jt (l.take (k+k2))→ss.drop (k+k2-1)=l.drop (k+k2-1)→
  ∃t u fi,Loop (wP CC k (l.length-k)) ((i:Int),(k2:Int),ss.map enc)=some (((jt l).length:Int),u,t,List.map enc fi)∧fi.take (jt l).length=jt l∧fi.length=l.length:=by
 intro d
 induction d with
 | zero=>
  intro k2 i ss hj fw hi hl ht hd
  have e0:l.take (k+k2)=l:=List.take_of_length_le (by omega)
  rw[e0] at ht
  have g9:i=(jt l).length:=by rw[←ht,fS];omega
  refine ⟨false,(k2:Int),ss,bj ?_,by rw[←g9];exact ht,hl⟩
  simp only[wP,zQ,un,bw,az]
  rw[ai (by omega),ct (by omega),g9]
 | succ d ih=>
  intro k2 i ss hj fw hi hl ht hd
  have hp:k+k2<l.length:=by omega
  have jb:ss.drop (k+k2)=l.drop (k+k2):=by
   have h:=congrArg (List.drop 1) hd
   rw[pH,pH] at h
   rwa [show k+k2-1+1=k+k2 by omega] at h
  have g1:=Du hl jb hp
  have g0:=Du hl hd (show k+k2-1<l.length by omega)
  have x1:(ss.map enc)[k+k2]? =some (l.getD (k+k2) bp).enc:=by rw[pr (by omega),g1]
  have x0:(ss.map enc)[k+(k2-1)]? =some (l.getD (k+k2-1) bp).enc:=by rw[show k+(k2-1)=k+k2-1 by omega,pr (by omega),g0]
  have w1:IntKind.wrap .i64 ((k2:Int)-1)=((k2-1:Nat):Int):=by rw[wrap64 (by omega) (by omega)];omega
  have t1:((k2:Nat):Int)<((l.length-k:Nat):Int):=by omega
  have t2:(0:Int)≤((k2:Nat):Int):=by omega
  have t3:(0:Int)≤((k2-1:Nat):Int):=by omega
  have t4:((k2-1:Nat):Int)<((l.length-k:Nat):Int):=by omega
  have t5:((i:Nat):Int)<(ss.length:Int):=by omega
  have t6:(0:Int)≤((i:Nat):Int):=by omega
  have cC: ∃y,(ss.map enc)[i]? =some y:=⟨_,pr (by omega)⟩
  obtain ⟨y,hy⟩:=cC
  have co:=Yf (l.getD (k+k2) bp) (Ic ay hp) (l.getD (k+k2-1) bp) (Ic ay (by omega))
  have cs:=Yd (l:=l) (p:=k+k2) (by omega) hp
  by_cases he:cmp (l.getD (k+k2) bp) (l.getD (k+k2-1) bp)=0
  ·have bG:wP CC k (l.length-k) ((i:Int),(k2:Int),ss.map enc)=some (.inl ((i:Int),((k2+1:Nat):Int),ss.map enc)):=by
    simp only[wP,zQ,un,bw,az,cu,w1,t1,t2,t3,t4,cU,Int.toNat_natCast,x1,x0,Option.bind_some,bz,bA,bB]
    refine (congrArg (fun o=>Option.bind o _) co).trans ?_
    simp only[Option.bind_some,V.aC,V.cN]
    rw[eC he,qQ,cond_false,wrap64 (by omega) (by omega)]
    rfl
   rw[bW bG]
   refine ih (k2+1) i ss (by omega) (by omega) (by omega) hl ?_ (by rw[show k+(k2+1)-1=k+k2 by omega];exact jb)
   rw[show k+(k2+1)=k+k2+1 by omega,cs,ah he,dz,ht]
  ·have bG:wP CC k (l.length-k) ((i:Int),(k2:Int),ss.map enc)=some (.inl (((i+1:Nat):Int),((k2+1:Nat):Int),(ss.set i (l.getD (k+k2) bp)).map enc)):=by
    simp only[wP,zQ,un,bw,az,cu,w1,t1,t2,t3,t4,t5,t6,cU,Int.toNat_natCast,x1,x0,hy,Option.bind_some,bz,bA,bB]
    refine (congrArg (fun o=>Option.bind o _) co).trans ?_
    simp only[Option.bind_some,V.aC,V.cN]
    rw[ct he,ur,cond_true,wrap64 (by omega) (by omega),wrap64 (by omega) (by omega),←eY,Al]
    rfl
   rw[bW bG]
   refine ih (k2+1) (i+1) (ss.set i (l.getD (k+k2) bp)) (by omega) (by omega) (by omega) (by simpa using hl) ?_ ?_
   ·rw[lE (by rw[nq];omega),ES (bU i),ht,show k+(k2+1)=k+k2+1 by omega,cs,ai he]
    simp[show i<ss.length by omega]
   ·rw[show k+(k2+1)-1=k+k2 by omega,ET (by omega),jb]
theorem ald: ∀(d p:Nat),p+d=l.length→1≤p→jt (l.take p)=l.take p→
  (jt l=l∧∃t,Loop (wQ CC (l.map enc)) (p:Int)=some (.inr t))∨Loop (wQ CC (l.map enc)) (p:Int)=some (.inl ((jt l).map enc)):=by
 intro d
 induction d with
 | zero=>
  intro p hp h1 hc
  obtain rfl:p=l.length:=by omega
  rw[qO] at hc
  refine .inl ⟨hc,((l.length:Int),false),bj ?_⟩
  simp only[wQ,zR,bw,az]
  rw[ai (by omega),ct (by omega)]
 | succ d ih=>
  intro p hp h1 hc
  have cb:p<l.length:=by omega
  have cs:=Yd (l:=l) h1 cb
  have co:=Yf (l.getD p bp) (Ic ay cb) (l.getD (p-1) bp) (Ic ay (by omega))
  have x1:(l.map enc)[p]? =some (l.getD p bp).enc:=pr cb
  have x0:(l.map enc)[p-1]? =some (l.getD (p-1) bp).enc:=pr (by omega)
  have w1:IntKind.wrap .i64 ((p:Int)-1)=((p-1:Nat):Int):=by rw[wrap64 (by omega) (by omega)];omega
  have t1:((p:Nat):Int)<(l.length:Int):=by omega
  have t2:(0:Int)≤((p:Nat):Int):=by omega
  have t3:(0:Int)≤((p-1:Nat):Int):=by omega
  have t4:((p-1:Nat):Int)<(l.length:Int):=by omega
  have t5:((p:Nat):Int)≤(l.length:Int):=by omega
  by_cases he:cmp (l.getD p bp) (l.getD (p-1) bp)=0
  ·refine .inr (bj ?_)
   obtain ⟨t,u,fi,e1,e2,e3⟩:=alc hn ay (k:=p) (l.length-(p+1)) 1 p l (by omega) (by omega) (by omega) rfl (by rw[cs,ah he,dz,hc]) rfl
   have hm:(jt l).length≤fi.length:=by
    have:=congrArg List.length e2
    rw[fS] at this
    omega
   have m1:(0:Int)≤(((jt l).length:Nat):Int):=by omega
   have m2:(((jt l).length:Nat):Int)≤((fi.map enc).length:Int):=by rw[bw];omega
   simp only[wQ,zR,bw,az,cu,w1,t1,t2,t3,t4,t5,cU,Int.toNat_natCast,x1,x0,Option.bind_some,bz,bA,bB]
   refine (congrArg (fun o=>Option.bind o _) co).trans ?_
   simp only[Option.bind_some,V.aC,V.cN]
   rw[eC he,cond_true]
   refine (congrArg (fun o=>Option.bind o _) e1).trans ?_
   simp only[Option.bind_some,un,cu,az,Int.toNat_natCast]
   rw[ah m1,ah m2,ah m1,ah (by simp only[cz,fS,uo,um,bw];omega),Is _ _ _ hm,e2]
  ·have bG:wQ CC (l.map enc) (p:Int)=some (.inl ((p+1:Nat):Int)):=by
    simp only[wQ,zR,bw,az,cu,w1,t1,t2,t3,t4,cU,Int.toNat_natCast,x1,x0,Option.bind_some,bz,bA,bB]
    refine (congrArg (fun o=>Option.bind o _) co).trans ?_
    simp only[Option.bind_some,V.aC,V.cN]
    rw[ct he,cond_false,wrap64 (by omega) (by omega)]
    rfl
   rw[bW bG]
   exact ih (p+1) (by omega) (by omega) (by rw[cs,ai he,hc,←lE cb])
theorem ale: ∃b,CC He [.list aa (l.map enc)]=some [.bool b,.list aa ((jt l).map enc)]:=by
 by_cases U:l.length<2
 ·refine ⟨true,OV ?_⟩
  unfold IN
  rw[bw,az,ah (by omega)]
  match l,U with
  | [],_=>rfl
  | [k],_=>rfl
 ·rcases ald hn ay (l.length-1) 1 (by omega) (by omega) (by
   match l,U with
   | k::l,_=>rfl) with ⟨h3,t,h4⟩|h4
  ·refine ⟨true,OV ?_⟩
   unfold IN
   rw[bw,az,ai (by omega)]
   refine (congrArg (fun o=>Option.bind o _) h4).trans ?_
   rw[h3];rfl
  ·refine ⟨false,OV ?_⟩
   unfold IN
   rw[bw,az,ai (by omega)]
   refine (congrArg (fun o=>Option.bind o _) h4).trans ?_
   rfl
theorem alf: ∃R:List Ex,CC BN [.list aa (l.map enc)]=some [.list aa (R.map enc)]∧R.Perm l∧R.Pairwise (fun x y=> ¬y.lx x):=by
 have hx: ∃L:List SX.XE,L.map SX.XE.e=l:=by
  clear hn
  induction l with
  | nil=>exact ⟨[],rfl⟩
  | cons k l ih=>
   obtain ⟨L,hL⟩:=ih fun k hk=>ay k (by simp[hk])
   exact ⟨⟨k,ay k (by simp)⟩::L,by rw[cr,hL]⟩
 obtain ⟨L,rfl⟩:=hx
 have he: ∀L:List SX.XE,L.map SX.XE.enc=(L.map SX.XE.e).map enc:=fun L=>by rw[List.map_map];rfl
 obtain ⟨R,e1,h1,U⟩:=SX.ak5 L (by rw[bw] at hn;omega)
 refine ⟨R.map SX.XE.e,?_,h1.map _,List.pairwise_map.2 U⟩
 rw[←he,←he];exact e1
theorem Yg: ∃b,CC vC [.list aa (l.map enc)]=some [.bool b,.list aa ((l.foldl gg []).map enc)]:=by
 obtain ⟨R,e1,h1,U⟩:=alf hn ay
 obtain ⟨b,e2⟩:=ale (l:=R) (by rw[h1.length_eq];exact hn) fun k hk=>ay k (h1.mem_iff.1 hk)
 obtain ⟨c1,c2⟩:=alb U
 have hc:jt R=l.foldl gg []:=Oe c1 Im fun x=>by rw[c2,qC,h1.mem_iff]
 rw[hc] at e2
 refine ⟨b,ak9 ?_⟩
 unfold Ya
 refine (congrArg (fun o=>Option.bind o _) e1).trans ?_
 simp only[Option.bind_some,V.aC,V.bR]
 refine (congrArg (fun o=>Option.bind o _) e2).trans ?_
 cases b<;>rfl
end
end Go.AM
set_option maxRecDepth 100000
namespace Go.AM
open Go.Proofs
noncomputable def Yh (C:ae) (kids:List V):Option (List V):=
 (C LJ [.list aa kids]).bind fun r1=>
 bif (V.nth r1 0).toBool then
  (C tp []).bind fun r2=>
  some [.int .i64 ((V.nth r2 0).toInt),.int .i64 ((V.nth (r2.drop 1) 0).toInt),.list aa ((V.nth (r2.drop 2) 0).toList)]
 else
  (C yF [.int .i64 4,.list aa kids]).bind fun r3=>
  (C Ho [.list aa ((V.nth r3 0).toList)]).bind fun r4=>
  bif (V.nth r4 0).toBool then
  (C vC [.list aa ((V.nth (r4.drop 1) 0).toList)]).bind fun r5=>
  bif (V.nth r5 0).toBool then
   (C ql []).bind fun r6=>
   (C mU [.int .i64 4,.list aa ((V.nth (r5.drop 1) 0).toList),.int .i64 ((V.nth r6 0).toInt),.int .i64 ((V.nth (r6.drop 1) 0).toInt),.list aa ((V.nth (r6.drop 2) 0).toList)]).bind fun r7=>
   some [.int .i64 ((V.nth r7 0).toInt),.int .i64 ((V.nth (r7.drop 1) 0).toInt),.list aa ((V.nth ((r7.drop 1).drop 1) 0).toList)]
  else
   (C ql []).bind fun r8=>
   (C mU [.int .i64 4,.list aa ((V.nth (r5.drop 1) 0).toList),.int .i64 ((V.nth r8 0).toInt),.int .i64 ((V.nth (r8.drop 1) 0).toInt),.list aa ((V.nth (r8.drop 2) 0).toList)]).bind fun r9=>
   some [.int .i64 ((V.nth r9 0).toInt),.int .i64 ((V.nth (r9.drop 1) 0).toInt),.list aa ((V.nth ((r9.drop 1).drop 1) 0).toList)]
  else
  (C vC [.list aa ((V.nth (r4.drop 1) 0).toList)]).bind fun dY=>
  bif (V.nth dY 0).toBool then
   (C ql []).bind fun ff=>
   (C mU [.int .i64 4,.list aa ((V.nth (dY.drop 1) 0).toList),.int .i64 ((V.nth ff 0).toInt),.int .i64 ((V.nth (ff.drop 1) 0).toInt),.list aa ((V.nth (ff.drop 2) 0).toList)]).bind fun fg=>
   some [.int .i64 ((V.nth fg 0).toInt),.int .i64 ((V.nth (fg.drop 1) 0).toInt),.list aa ((V.nth ((fg.drop 1).drop 1) 0).toList)]
  else
   (C ql []).bind fun iM=>
   (C mU [.int .i64 4,.list aa ((V.nth (dY.drop 1) 0).toList),.int .i64 ((V.nth iM 0).toInt),.int .i64 ((V.nth (iM.drop 1) 0).toInt),.list aa ((V.nth (iM.drop 2) 0).toList)]).bind fun nc=>
   some [.int .i64 ((V.nth nc 0).toInt),.int .i64 ((V.nth (nc.drop 1) 0).toInt),.list aa ((V.nth ((nc.drop 1).drop 1) 0).toList)]
theorem alg {kids:List V} {r:Option (List V)} (h:Yh CC kids=r):CC G9 [.list aa kids]=r:=
 aZ (key:=65) (L:=bX) (bs:=[]) (by kernel_rfl) aw (aX (by kernel_rfl) h)
noncomputable def Yi (C:ae) (kids:List V):Option (List V):=
 (C tm [.list aa kids]).bind fun r1=>
 bif (V.nth r1 0).toBool then
  (C ql []).bind fun r2=>
  some [.int .i64 ((V.nth r2 0).toInt),.int .i64 ((V.nth (r2.drop 1) 0).toInt),.list aa ((V.nth (r2.drop 2) 0).toList)]
 else
  (C yF [.int .i64 5,.list aa kids]).bind fun r3=>
  (C Hm [.list aa ((V.nth r3 0).toList)]).bind fun r4=>
  bif (V.nth r4 0).toBool then
  (C vB []).bind fun r5=>
  (C mU [.int .i64 5,.list aa ((V.nth (r4.drop 1) 0).toList),.int .i64 ((V.nth r5 0).toInt),.int .i64 ((V.nth (r5.drop 1) 0).toInt),.list aa ((V.nth (r5.drop 2) 0).toList)]).bind fun r6=>
  some [.int .i64 ((V.nth r6 0).toInt),.int .i64 ((V.nth (r6.drop 1) 0).toInt),.list aa ((V.nth ((r6.drop 1).drop 1) 0).toList)]
  else
  (C vB []).bind fun r7=>
  (C mU [.int .i64 5,.list aa ((V.nth (r4.drop 1) 0).toList),.int .i64 ((V.nth r7 0).toInt),.int .i64 ((V.nth (r7.drop 1) 0).toInt),.list aa ((V.nth (r7.drop 2) 0).toList)]).bind fun r8=>
  some [.int .i64 ((V.nth r8 0).toInt),.int .i64 ((V.nth (r8.drop 1) 0).toInt),.list aa ((V.nth ((r8.drop 1).drop 1) 0).toList)]
theorem alh {kids:List V} {r:Option (List V)} (h:Yi CC kids=r):CC Ha [.list aa kids]=r:=
 aZ (key:=66) (L:=bX) (bs:=[]) (by kernel_rfl) aw (aX (by kernel_rfl) h)
noncomputable def Yj (C:ae) (kids:List V):Option (List V):=
 (C tm [.list aa kids]).bind fun r1=>
 bif (V.nth r1 0).toBool then
  (C ql []).bind fun r2=>
  some [.int .i64 ((V.nth r2 0).toInt),.int .i64 ((V.nth (r2.drop 1) 0).toInt),.list aa ((V.nth (r2.drop 2) 0).toList)]
 else
  (C yF [.int .i64 6,.list aa kids]).bind fun r3=>
  (C yE [.list aa ((V.nth r3 0).toList)]).bind fun r4=>
  bif (V.nth r4 0).toBool then
  (C vC [.list aa ((V.nth (r4.drop 1) 0).toList)]).bind fun r5=>
  bif (V.nth r5 0).toBool then
   (C tp []).bind fun r6=>
   (C mU [.int .i64 6,.list aa ((V.nth (r5.drop 1) 0).toList),.int .i64 ((V.nth r6 0).toInt),.int .i64 ((V.nth (r6.drop 1) 0).toInt),.list aa ((V.nth (r6.drop 2) 0).toList)]).bind fun r7=>
   some [.int .i64 ((V.nth r7 0).toInt),.int .i64 ((V.nth (r7.drop 1) 0).toInt),.list aa ((V.nth ((r7.drop 1).drop 1) 0).toList)]
  else
   (C tp []).bind fun r8=>
   (C mU [.int .i64 6,.list aa ((V.nth (r5.drop 1) 0).toList),.int .i64 ((V.nth r8 0).toInt),.int .i64 ((V.nth (r8.drop 1) 0).toInt),.list aa ((V.nth (r8.drop 2) 0).toList)]).bind fun r9=>
   some [.int .i64 ((V.nth r9 0).toInt),.int .i64 ((V.nth (r9.drop 1) 0).toInt),.list aa ((V.nth ((r9.drop 1).drop 1) 0).toList)]
  else
  (C vC [.list aa ((V.nth (r4.drop 1) 0).toList)]).bind fun dY=>
  bif (V.nth dY 0).toBool then
   (C tp []).bind fun ff=>
   (C mU [.int .i64 6,.list aa ((V.nth (dY.drop 1) 0).toList),.int .i64 ((V.nth ff 0).toInt),.int .i64 ((V.nth (ff.drop 1) 0).toInt),.list aa ((V.nth (ff.drop 2) 0).toList)]).bind fun fg=>
   some [.int .i64 ((V.nth fg 0).toInt),.int .i64 ((V.nth (fg.drop 1) 0).toInt),.list aa ((V.nth ((fg.drop 1).drop 1) 0).toList)]
  else
   (C tp []).bind fun iM=>
   (C mU [.int .i64 6,.list aa ((V.nth (dY.drop 1) 0).toList),.int .i64 ((V.nth iM 0).toInt),.int .i64 ((V.nth (iM.drop 1) 0).toInt),.list aa ((V.nth (iM.drop 2) 0).toList)]).bind fun nc=>
   some [.int .i64 ((V.nth nc 0).toInt),.int .i64 ((V.nth (nc.drop 1) 0).toInt),.list aa ((V.nth ((nc.drop 1).drop 1) 0).toList)]
theorem ali {kids:List V} {r:Option (List V)} (h:Yj CC kids=r):CC Hb [.list aa kids]=r:=
 aZ (key:=67) (L:=bX) (bs:=[]) (by kernel_rfl) aw (aX (by kernel_rfl) h)
noncomputable def OW (C:ae) (op:Int) (kids:List V):Option (List V):=
 bif (op:Int)==4 then
  (C G9 [.list aa kids]).bind fun r1=>
  some [.int .i64 ((V.nth r1 0).toInt),.int .i64 ((V.nth (r1.drop 1) 0).toInt),.list aa ((V.nth ((r1.drop 1).drop 1) 0).toList)]
 else
  bif (op:Int)==5 then
  (C Ha [.list aa kids]).bind fun r2=>
  some [.int .i64 ((V.nth r2 0).toInt),.int .i64 ((V.nth (r2.drop 1) 0).toInt),.list aa ((V.nth ((r2.drop 1).drop 1) 0).toList)]
  else
  bif (op:Int)==6 then
   (C Hb [.list aa kids]).bind fun r3=>
   some [.int .i64 ((V.nth r3 0).toInt),.int .i64 ((V.nth (r3.drop 1) 0).toInt),.list aa ((V.nth ((r3.drop 1).drop 1) 0).toList)]
  else
   bif ((kids.length:Int):Int) != 1 then
   some [.int .i64 0,.int .i64 0,.list aa ([]:List V)]
   else
   (kids[0]?).bind fun x4=>
   bif (op:Int)==8 then
    bif (((x4.cell 0).toInt):Int)==8 then
    bif ((((x4.cell 2).toList).length:Int):Int)==1 then
     (((x4.cell 2).toList)[0]?).bind fun x5=>
     some [.int .i64 ((x5.cell 0).toInt),.int .i64 ((x5.cell 1).toInt),.list aa ((x5.cell 2).toList)]
    else
     some [.int .i64 8,.int .i64 0,.list aa ([.agg [.int .i64 ((x4.cell 0).toInt),.int .i64 ((x4.cell 1).toInt),.list aa ((x4.cell 2).toList)]]:List V)]
    else
    some [.int .i64 8,.int .i64 0,.list aa ([.agg [.int .i64 ((x4.cell 0).toInt),.int .i64 ((x4.cell 1).toInt),.list aa ((x4.cell 2).toList)]]:List V)]
   else
    bif (op:Int)==7 then
    bif (((x4.cell 0).toInt):Int)==1 then
     (C vB []).bind fun r6=>
     some [.int .i64 ((V.nth r6 0).toInt),.int .i64 ((V.nth (r6.drop 1) 0).toInt),.list aa ((V.nth (r6.drop 2) 0).toList)]
    else
     bif (((x4.cell 0).toInt):Int)==2 then
     (C vB []).bind fun r7=>
     some [.int .i64 ((V.nth r7 0).toInt),.int .i64 ((V.nth (r7.drop 1) 0).toInt),.list aa ((V.nth (r7.drop 2) 0).toList)]
     else
     bif (((x4.cell 0).toInt):Int)==7 then
      some [.int .i64 ((x4.cell 0).toInt),.int .i64 ((x4.cell 1).toInt),.list aa ((x4.cell 2).toList)]
     else
      (C lz [.int .i64 ((x4.cell 0).toInt),.int .i64 ((x4.cell 1).toInt),.list aa ((x4.cell 2).toList)]).bind fun r8=>
      bif (V.nth r8 0).toBool then
      some [.int .i64 ((x4.cell 0).toInt),.int .i64 ((x4.cell 1).toInt),.list aa ((x4.cell 2).toList)]
      else
      some [.int .i64 7,.int .i64 0,.list aa ([.agg [.int .i64 ((x4.cell 0).toInt),.int .i64 ((x4.cell 1).toInt),.list aa ((x4.cell 2).toList)]]:List V)]
    else
    some [.int .i64 0,.int .i64 0,.list aa ([]:List V)]
theorem Yk {op:Int} {kids:List V} {r:Option (List V)} (h:OW CC op kids=r):CC kI [.int .i64 op,.list aa kids]=r:=
 aZ (key:=49) (L:=bX) (bs:=[]) (by kernel_rfl) aw (aX (by kernel_rfl) h)
noncomputable abbrev Yl:Code:=cj Tryz.prog (av.aQ 37)
noncomputable def D3 (C:ae) (t20:List V) (t21 eu dH:Int) (dj:List V) (lC mj:Int) (au:List V) (t22:Int) (zS:List V) {β:Type} (kn:(Int × (List V))→Option β) (kr:(Int × Bool × (List V))→Option β):Option β:=
 bif decide ((t22:Int)<t21) then
  (idx t20 t22).bind fun x1=>
  (C vz [.int .i64 ((x1.cell 0).toInt),.int .i64 ((x1.cell 1).toInt),.list aa ((x1.cell 2).toList)]).bind fun r2=>
  bif (decide (0≤t22))&&(decide (t22<(zS.length:Int))) then
  (zS[(t22:Int).toNat]?).bind fun x3=>
  kn (IntKind.wrap .i64 (t22+1),zS.set ((t22:Int).toNat) (.agg [.int .i64 ((V.nth r2 0).toInt),.int .i64 ((V.nth (r2.drop 1) 0).toInt),.list aa ((V.nth ((r2.drop 1).drop 1) 0).toList)]))
  else none
 else
  kr (t22,decide ((t22:Int)<t21),zS)
noncomputable def IP (C:ae) (t20:List V) (t21 eu dH:Int) (dj:List V) (lC mj:Int) (au:List V):(Int × (List V))→Option ((Int × (List V)) ⊕ (Int × Bool × (List V))):=un fun t22 zS=>D3 C t20 t21 eu dH dj lC mj au t22 zS (fun y=>some (.inl y)) (fun r=>some (.inr r))
noncomputable def Ym (C:ae):b8:=fun β n ds k=>
 bif Nat.beq n 81 then bM L9 [false,false,true,false,false,false,false,false,true,false] [[1,2,0,0,4,5,6,7,8,0,10]] (@D3 C) ds k else
 none
abbrev alj (C:ae) (b:bZ):Prop:=b6 Tryz.prog av C (Ym C) 37 (cl Tryz.prog (av.aQ 37)) (av.sin 37).bc.length b
theorem alk (C:ae):alj C (.loop (ax [1,1,1,0,1,0,0] Yl)):=
 bP L9 [false,false,true,false,false,false,false,false,true,false] [[1,2,0,0,4,5,6,7,8,0,10]] (@D3 C) (by kernel_rfl) (a9 (bs:=[]) (by kernel_rfl) aw) (fun ds=>by kernel_rfl) (fun i x=>by kernel_rfl) (fun i x β k=>by kernel_rfl) (fun β ds k=>by kernel_rfl)
noncomputable def Yn (C:ae) (aj ar:Int) (ag:List V):Option (List V):=
 bif ((ag.length:Int):Int)==0 then
  some [.int .i64 aj,.int .i64 ar,.list aa ([]:List V)]
 else
  bif (decide (0≤(ag.length:Int)))&&((decide ((ag.length:Int)≤(ag.length:Int)))&&(Nat.ble ((((ag.length:Int):Int).toNat)*40) cJ)) then
  (Loop (IP C ag (ag.length:Int) aj ar ag 0 0 ([]:List V)) (0,List.replicate (((ag.length:Int):Int).toNat) (V.agg [.int .i64 0,.int .i64 0,.list aa ([]:List V)]))).bind (un fun (mZ:Int)=>un fun (iJ:Bool) (alm:List V)=>
   (C kI [.int .i64 aj,.list aa alm]).bind fun r7=>
   some [.int .i64 ((V.nth r7 0).toInt),.int .i64 ((V.nth (r7.drop 1) 0).toInt),.list aa ((V.nth ((r7.drop 1).drop 1) 0).toList)])
  else none
theorem aln {aj ar:Int} {ag:List V} {r:Option (List V)} (h:Yn CC aj ar ag=r):CC vz [.int .i64 aj,.int .i64 ar,.list aa ag]=r:=
 aZ (key:=37) (L:=Ym CC) (bs:=[.loop (ax [1,1,1,0,1,0,0] Yl)]) (by kernel_rfl) (br (alk CC) aw) (aX (by kernel_rfl) h)
noncomputable def Yo (C:ae) (aj ar:Int) (ag:List V):Option (List V):=
 (C yw [.int .i64 aj,.int .i64 ar,.list aa ag]).bind fun r1=>
 bif !((V.nth r1 0).toBool) then
  some [.int .i64 0,.int .i64 0,.list aa ([]:List V)]
 else
  (C vz [.int .i64 aj,.int .i64 ar,.list aa ag]).bind fun r2=>
  some [.int .i64 ((V.nth r2 0).toInt),.int .i64 ((V.nth (r2.drop 1) 0).toInt),.list aa ((V.nth ((r2.drop 1).drop 1) 0).toList)]
theorem alo {aj ar:Int} {ag:List V} {r:Option (List V)} (h:Yo CC aj ar ag=r):CC BG [.int .i64 aj,.int .i64 ar,.list aa ag]=r:=
 aZ (key:=22) (L:=bX) (bs:=[]) (by kernel_rfl) aw (aX (by kernel_rfl) h)
end Go.AM
set_option maxRecDepth 100000
namespace Go.AM
open Go.Proofs Ex
theorem wR:CC ql []=some (iO dZ):=aiC rfl
theorem IQ:CC vB []=some (iO jr):=aiE rfl
theorem D4:CC tp []=some (iO gM):=by
 refine aiF ?_
 unfold Wu
 refine bs wR ?_
 simp[iO,dZ,gM,Ex.op,Ex.letter,Ex.kids,eY]
theorem Yp (o:Int) (l:List Ex):(l.filter fun k=> !(decide (k.op=o)))=l.filter fun k=>decide (k.op≠o):=by
 congr 1;funext k;simp
theorem Yq {ks:List Ex} (hlen:ks.length≤1000000):CC tm [.list aa (ks.map enc)]=some [.bool (ks.any fun k=>decide (k.op=1))]:=ajj hlen
theorem alp {ks:List Ex} (hn:ks.length≤1000000): ∃b,CC Ho [.list aa (ks.map enc)]=some [.bool b,.list aa ((ks.filter (fun k=>decide (k.op≠1))).map enc)]:=by
 rw[←Yp];exact ajl hn
theorem alq {ks:List Ex} (hn:ks.length≤1000000): ∃b,CC Hm [.list aa (ks.map enc)]=some [.bool b,.list aa ((ks.filter (fun k=>decide (k.op≠2))).map enc)]:=by
 rw[←Yp];exact ajp hn
theorem Yr {o:Int} {ks:List Ex} (h: ∀k∈ks,k.Ok): ∀k∈bH o ks,k.Ok:=fun x hx=>by
 obtain ⟨k,h1,U|U⟩:=jE.1 hx
 ·have:=h k h1
  obtain ⟨o2,l2,mn⟩:=k
  exact this.oa x U.2
 ·rw[U.2];exact h k h1
theorem alr {n:Int} {ks:List Ex} (hk: ∀k∈ks,Gd n k) (hs:aR ks≤1000000):CC Ha [.list aa (ks.map enc)]=some (iO (dJ 5 0 ks)):=by
 have hl:=qB ks
 have a1:=zh 5 ks
 have a2:=qB (bH 5 ks)
 refine alh ?_
 unfold Yi
 rw[tQ,Om hk]
 refine bs (Yq (by omega)) ?_
 cases hu:ks.any fun k=>decide (k.op=1) with
 | true=>
  refine bT rfl ?_
  refine bs wR ?_
  rfl
 | false=>
  refine bF rfl ?_
  refine bs (Oc (by omega) (by omega)) ?_
  obtain ⟨b,e⟩:=alq (ks:=bH 5 ks) (by omega)
  refine bs e ?_
  cases b
  ·exact bF rfl (bs IQ (bs (qA (z:=jr)) rfl))
  ·exact bT rfl (bs IQ (bs (qA (z:=jr)) rfl))
section
variable {n:Int} {ks:List Ex} (hk: ∀k∈ks,Gd n k) (ay: ∀k∈ks,k.Ok) (hs:aR ks≤1000000)
include hk ay hs
theorem als:CC G9 [.list aa (ks.map enc)]=some (iO (dJ 4 0 ks)):=by
 have hl:=qB ks
 have a1:=zh 4 ks
 have a2:=qB (bH 4 ks)
 refine alg ?_
 unfold Yh
 rw[wo,WE hk]
 refine bs (ajr (by omega)) ?_
 cases hu:ks.any univ with
 | true=>
  refine bT rfl ?_
  refine bs D4 ?_
  rfl
 | false=>
  refine bF rfl ?_
  refine bs (Oc (by omega) (by omega)) ?_
  obtain ⟨b,e⟩:=alp (ks:=bH 4 ks) (by omega)
  refine bs e ?_
  obtain ⟨b2,e2⟩:=Yg (l:=(bH 4 ks).filter fun k=>decide (k.op≠1)) (by have:=uv (fun k:Ex=>decide (k.op≠1)) (bH 4 ks);omega) fun k h=>Yr ay k (kg.1 h).1
  cases b
  ·refine bF rfl ?_
   refine bs e2 ?_
   cases b2
   ·exact bF rfl (bs wR (bs (qA (z:=dZ)) rfl))
   ·exact bT rfl (bs wR (bs (qA (z:=dZ)) rfl))
  ·refine bT rfl ?_
   refine bs e2 ?_
   cases b2
   ·exact bF rfl (bs wR (bs (qA (z:=dZ)) rfl))
   ·exact bT rfl (bs wR (bs (qA (z:=dZ)) rfl))
theorem alu:CC Hb [.list aa (ks.map enc)]=some (iO (dJ 6 0 ks)):=by
 have hl:=qB ks
 have a1:=zh 6 ks
 have a2:=qB (bH 6 ks)
 refine ali ?_
 unfold Yj
 rw[zi,aiQ hk]
 refine bs (Yq (by omega)) ?_
 cases hu:ks.any fun k=>decide (k.op=1) with
 | true=>
  refine bT rfl ?_
  refine bs wR ?_
  rfl
 | false=>
  refine bF rfl ?_
  refine bs (Oc (by omega) (by omega)) ?_
  obtain ⟨b,e⟩:=ajt (ks:=bH 6 ks) (by omega)
  refine bs e ?_
  obtain ⟨b2,e2⟩:=Yg (l:=(bH 6 ks).filter fun k=> !(univ k)) (by have:=uv (fun k:Ex=> !(univ k)) (bH 6 ks);omega) fun k h=>Yr ay k (kg.1 h).1
  cases b
  ·refine bF rfl ?_
   refine bs e2 ?_
   cases b2
   ·exact bF rfl (bs D4 (bs (qA (z:=gM)) rfl))
   ·exact bT rfl (bs D4 (bs (qA (z:=gM)) rfl))
  ·refine bT rfl ?_
   refine bs e2 ?_
   cases b2
   ·exact bF rfl (bs D4 (bs (qA (z:=gM)) rfl))
   ·exact bT rfl (bs D4 (bs (qA (z:=gM)) rfl))
theorem sr {o:Int} (ho:o=4∨o=5∨o=6):CC kI [.int .i64 o,.list aa (ks.map enc)]=some (iO (dJ o 0 ks)):=by
 refine Yk ?_
 unfold OW
 rcases ho with rfl|rfl|rfl
 ·exact bT rfl (bs (als hk ay hs) rfl)
 ·exact bF rfl (bT rfl (bs (alr hk hs) rfl))
 ·exact bF rfl (bF rfl (bT rfl (bs (alu hk ay hs) rfl)))
end
theorem OX (k:Ex):[V.agg [.int .i64 k.op,.int .i64 k.letter,.list aa (k.kids.map enc)]]=[k].map enc:=by rw[←eY];rfl
theorem IS {n o:Int} {k:Ex} (hk:Gd n k) (ho:o=7∨o=8):CC kI [.int .i64 o,.list aa ([k].map enc)]=some (iO (dJ o 0 [k])):=by
 refine Yk ?_
 unfold OW
 rcases ho with rfl|rfl
 ·refine bF rfl (bF rfl (bF rfl (bF rfl (bs (a:=k.enc) rfl (bF rfl (bT rfl ?_))))))
  rw[zj,bz,bA,bB,dC,dC,dC]
  by_cases h1:k.op=1
  ·rw[ah h1,ah (.inl h1)];exact bs IQ rfl
  ·rw[ai h1]
   by_cases U:k.op=2
   ·rw[ah U,ah (.inr U)];exact bs IQ rfl
   ·rw[ai U,ai (show¬(k.op=1∨k.op=2) by omega)]
    by_cases h7:k.op=7
    ·rw[ah h7,ah (.inl h7)];rfl
    ·rw[ai h7]
     refine bs (Dt k) ?_
     cases hu:univ k with
     | true=>rw[ah (.inr rfl)];exact bT rfl rfl
     | false=>
      rw[ai (by rintro (h|h);exact h7 h;cases h)]
      refine bF rfl ?_
      rw[OX];rfl
 ·refine bF rfl (bF rfl (bF rfl (bF rfl (bs (a:=k.enc) rfl (bT rfl ?_)))))
  rw[zk,bz,bA,bB,dC]
  by_cases h8:k.op=8
  ·rw[ah h8,ah h8]
   have hs:=eH hk.shape
   obtain ⟨o2,l2,mn⟩:=k
   simp only[Ex.op,Ex.kids,Ex.letter] at*
   match mn,(show (mn.length:Int)=1 by omega) with
   | [x],_=>
    refine bT (by simp) (bs (a:=x.enc) rfl ?_)
    rw[bz,bA,bB];rfl
  ·rw[ai h8,ai h8,OX];rfl
theorem Ys {α:Type} (a:List α) (x y:α) (b:List α) {i:Nat} (h:i=a.length):(a++x::b).set i y=(a++[y])++b:=by
 subst h;simp[List.set_append_right]
theorem alv {ks:List Ex} {a b c d:Int} {l1 l2:List V} (hn:ks.length≤1000000) (ih: ∀k∈ks,CC vz (bY k [])=some (iO (aV k))):
  ∀(aH pre:List Ex),ks=pre++aH→∃t,Loop (IP CC (ks.map enc) ((ks.map enc).length:Int) a b l1 c d l2) (((pre.length:Nat):Int),(pre.map aV).map enc++List.replicate aH.length (V.agg [.int .i64 0,.int .i64 0,.list aa ([]:List V)]))=some (((ks.map enc).length:Int),t,(ks.map aV).map enc):=by
 intro aH
 induction aH with
 | nil=>
  intro pre e
  rw[dz] at e
  subst e
  refine ⟨false,bj ?_⟩
  simp only[IP,D3,un,bw]
  rw[az,ai (by omega),ct (by omega)]
  simp
 | cons k aH gb=>
  intro pre e
  have cb:pre.length<ks.length:=by rw[e];simp
  have cC:idx (ks.map enc) (pre.length:Int)=some k.enc:=by rw[e];exact jD _ _ _
  obtain ⟨t,ht⟩:=gb (pre++[k]) (by simp[e])
  refine ⟨t,(bW ?_).trans ht⟩
  simp only[IP,D3,un,bw]
  rw[az,ah (by omega),cC]
  simp only[Option.bind_some,bz,bA,bB]
  refine bs (ih k (by rw[e];simp)) ?_
  refine bT (by simp only[aN,dW,cz,bw,uo,List.length_cons];omega) ?_
  refine bs (a:=V.agg [.int .i64 0,.int .i64 0,.list aa ([]:List V)]) ?_ ?_
  ·rw[Int.toNat_natCast,iq (by simp)]
   simp
  ·rw[wrap64 (by omega) (by omega),Int.toNat_natCast,List.length_cons,List.replicate_succ,Ys _ _ _ _ (by simp)]
   show some (Sum.inl _)=some (Sum.inl _)
   refine congrArg (fun x=>some (Sum.inl x)) (Prod.ext ?_ ?_)
   ·simp
   ·simp only[gm,cr,fl]
    rw[eY (aV k)];rfl
theorem Yt {n:Int} (hn:n≤6): ∀e:Ex,e.wf n=true→e.size≤1000000→CC vz (bY e [])=some (iO (aV e)):=
 ind fun o l ks ih hw hs=>by
  obtain ⟨h1,U⟩:=gf hw
  have hl:=qB ks
  simp only[size] at hs
  have h3:=eH h1
  refine aln ?_
  unfold Yn
  simp only[Ex.op,Ex.kids,Ex.letter,bw,dC]
  rw[mo]
  by_cases h0:ks=[]
  ·subst h0
   rw[ah (by simp),j5 (by simp only[List.length_nil] at h3;omega)]
   rfl
  ·have hp:0<ks.length:=List.length_pos_iff.2 h0
   rw[ai (by omega)]
   refine bT (by simp only[aN,dW,eb,n0,Int.toNat_natCast];omega) ?_
   obtain ⟨t,ht⟩:=alv (a:=o) (b:=l) (c:=0) (d:=0) (l1:=ks.map enc) (l2:=[]) (ks:=ks) (by omega) (fun k hk=>ih k hk (U k hk) (by have:=Dg hk;omega)) ks [] rfl
   rw[bw] at ht
   refine bs ht ?_
   have hg: ∀k∈ks.map aV,Gd n k:=fun x hx=>by
    obtain ⟨k,hk,rfl⟩:=eB.1 hx
    exact mq k (U k hk)
   have hz:aR (ks.map aV)≤aR ks:=by
    clear ht h3 h1 hw ih hp h0 hl hs hg
    induction ks with
    | nil=>simp[aR]
    | cons k ks ih=>have a:=Dq k (U k (by simp));have b:=ih fun k hk=>U k (by simp[hk]);simp only[cr,aR];omega
   have ay: ∀k∈ks.map aV,k.Ok:=fun k hk=>tR hn k (hg k hk).2 (by have:=Dg hk;omega)
   rcases (show (o=4∨o=5∨o=6)∨(o=7∨o=8) by omega) with ho|ho
   ·obtain rfl:l=0:=by omega
    exact bs (sr hg ay (by omega) ho) rfl
   ·obtain rfl:l=0:=by omega
    have h5:ks.length=1:=by omega
    match ks,h5 with
    | [k],_=>exact bs (IS (hg (aV k) (by simp)) ho) rfl
theorem Yu (e:Ex) (h:e.Ok):CC BG (bY e [])=some (iO (if e.val 6=0 then aV e else bp)):=by
 refine alo ?_
 unfold Yo
 refine bs (N3 e h) ?_
 by_cases hv:e.val 6=0
 ·have:=nf hv
  rw[ah hv]
  refine bF (by simp[hv]) ?_
  exact bs (Yt (by omega) e this.2.2 (by omega)) rfl
 ·rw[ai hv]
  refine bT (by simp[hv]) ?_
  rfl
end Go.AM
set_option maxRecDepth 100000
namespace Go.AM
open Go.Proofs
def tab {α:Type} (n:Nat) (g:Nat→α):List α:=(List.range n).map g
section
variable {α β:Type} {n i:Nat} {g h:Nat→α}
@[simp] theorem apr:(tab n g).length=n:=by simp[tab]
end
section
variable {γ:Type} {n i:Nat} {g:Nat→V}
theorem ub {es:List V} {v:V} (hi:es[i]? =some v) {K:V→Option γ}:(bif (decide (0≤(i:Int)))&&(decide ((i:Int)<(es.length:Int))) then (es[((i:Int)).toNat]?).bind K else none)=K v:=by
 have hl:i<es.length:=by
  rcases pF i es.length with h|h
  ·exact h
  ·rw[qN h] at hi;cases hi
 rw[Int.toNat_natCast,hi,xd.2 ⟨eC (by omega),eC (by omega)⟩]
 rfl
end
theorem cap {a b m:Nat} (h:a+b≤10000000) (hm:m≤1000):Nat.ble ((a+b)*m) cJ=true:=by
 rw[eb,n0]
 have:=Nat.mul_le_mul h hm
 omega
theorem alw {n m:Nat} (h:n≤10000000) (hm:m≤1000):((decide (0≤(n:Int)))&&((decide ((n:Int)≤(n:Int)))&&(Nat.ble (((n:Int).toNat)*m) cJ)))=true:=by
 have U:=Nat.mul_le_mul h hm
 rw[Int.toNat_natCast]
 refine xd.2 ⟨eC (by omega),xd.2 ⟨eC (by omega),?_⟩⟩
 rw[eb,n0]
 omega
theorem pB {i:Nat} (h:i≤1000000000):IntKind.wrap .i64 ((i:Int)+1)=((i+1:Nat):Int):=by rw[wrap64 (by omega) (by omega)];omega
theorem wS {i n:Nat} (h:i<n):decide ((i:Int)<(n:Int))=true:=eC (by omega)
end Go.AM
set_option maxRecDepth 100000
namespace Go.AM
open Go.Proofs Ex
def oneOf (o:Int):List Ex→Ex
 | [k]=>k
 | l=> .node o 0 l
mutual
def b7 (c:Int):Ex→Ex
 | .node o l ks=>
  if o=3 then (if l=c then jr else dZ)
  else if o=4∨o=6∨o=8 then .node o 0 (zT c ks)
  else if o=7 then .node 5 0 [(zT c ks).getD 0 bp,.node o l ks]
  else if o=5 then oneOf 4 (ij c ks)
  else dZ
def zT (c:Int):List Ex→List Ex
 | []=>[]
 | k::ks=>b7 c k::zT c ks
def ij (c:Int):List Ex→List Ex
 | []=>[]
 | k::ks=>oneOf 5 (b7 c k::ks)::(if k.dc=true then ij c ks else [])
end
theorem Yv {c:Int}: ∀ks,zT c ks=ks.map (b7 c)
 | []=>by simp only[zT,fl]
 | k::ks=>by simp only[zT,cr,Yv ks]
theorem wU {c o l:Int} {ks:List Ex}:b7 c (.node o l ks)=if o=3 then (if l=c then jr else dZ) else if o=4∨o=6∨o=8 then .node o 0 (ks.map (b7 c)) else if o=7 then .node 5 0 [(ks.map (b7 c)).getD 0 bp,.node o l ks] else if o=5 then oneOf 4 (ij c ks) else dZ:=by
 rw[b7,Yv]
theorem D5 {c:Int} {k:Ex} {ks:List Ex}:ij c (k::ks)=oneOf 5 (b7 c k::ks)::(if k.dc=true then ij c ks else []):=by rw[ij]
theorem alx {o:Int} {k:Ex} {l:List Ex}:oneOf o (k::l)=if l=[] then k else .node o 0 (k::l):=by
 cases l with
 | nil=>rfl
 | cons x l=>rw[ai (by simp)];rfl
theorem Yw {n:Int}:dZ.wf n=true:=wm (by simp[dx]) (by simp)
theorem aly {n:Int}:jr.wf n=true:=wm (by simp[dx]) (by simp)
theorem alz {n o l len:Int} (h:dx o l len n=true) (ho:o=4∨o=6∨o=8):dx o 0 len n=true:=by
 rcases eH h with h|⟨rfl,h⟩
 ·omega
 ·assumption
theorem Yx {n:Int} {o:Int} (ho:o=4∨o=5) {len:Int} (h:2≤len):dx o 0 len n=true:=by
 unfold dx
 rcases ho with rfl|rfl<;>simp[h]
theorem Yy {n:Int} {o:Int} (ho:o=4∨o=5) {l:List Ex} (hl:l≠[]) (h: ∀k∈l,k.wf n=true):(oneOf o l).wf n=true:=by
 match l,hl with
 | [k],_=>exact h k (by simp)
 | k::k2::l,_=>exact wm (Yx ho (by simp only[List.length_cons];omega)) h
theorem OY {c:Int} {ks:List Ex} (h:ks≠[]):ij c ks≠[]:=by
 cases ks with
 | nil=>exact absurd rfl h
 | cons k ks=>rw[D5];simp
theorem IT {n c:Int}: ∀{ks:List Ex},(∀k∈ks,k.wf n=true)→(∀k∈ks,(b7 c k).wf n=true)→∀x∈ij c ks,x.wf n=true
 | [],_,_,x,hx=>by rw[ij] at hx;cases hx
 | k::ks,h1,U,x,hx=>by
  rw[D5] at hx
  rcases dp.1 hx with rfl|hx
  ·refine Yy (.inr rfl) (by simp) fun y hy=> ?_
   rcases dp.1 hy with rfl|hy
   ·exact U k (by simp)
   ·exact h1 y (by simp[hy])
  ·split at hx
   ·exact IT (fun y hy=>h1 y (by simp[hy])) (fun y hy=>U y (by simp[hy])) x hx
   ·cases hx
theorem uc {n c:Int}: ∀e:Ex,e.wf n=true→(b7 c e).wf n=true:=ind fun o l ks ih hw=>by
 obtain ⟨h1,U⟩:=gf hw
 have hk: ∀k∈ks,(b7 c k).wf n=true:=fun k hk=>ih k hk (U k hk)
 rw[wU]
 split
 ·split
  ·exact aly
  ·exact Yw
 split
 ·next _ ho=>
  refine wm (by rw[bw];exact alz h1 ho) fun x hx=> ?_
  obtain ⟨k,fw,rfl⟩:=eB.1 hx
  exact hk k fw
 split
 ·next _ _ ho=>
  subst ho
  have hl:ks.length=1:=by rcases eH h1 with h|⟨_,h|h|h|h|h|h|h⟩<;>omega
  obtain ⟨k,rfl⟩:=oJ.1 hl
  refine wm (Yx (.inr rfl) (by simp)) fun x hx=> ?_
  rcases dp.1 hx with rfl|hx
  ·exact hk k (by simp)
  ·rw[ez.1 hx];exact hw
 split
 ·next _ _ _ ho=>
  subst ho
  have hl:2≤ks.length:=by rcases eH h1 with h|⟨_,h|h|h|h|h|h|h⟩<;>omega
  exact Yy (.inl rfl) (OY (by intro h;rw[h] at hl;simp at hl)) (IT U hk)
 ·exact Yw
theorem Yz {o:Int} {l:List Ex}:(oneOf o l).size≤1+aR l:=by
 match l with
 | []=>simp[oneOf,size,aR]
 | [k]=>simp[oneOf,aR]
 | k::k2::l=>simp[oneOf,size]
theorem OZ {f:Ex→Ex}: ∀{ks:List Ex},(∀k∈ks,(f k).size≤k.size*k.size)→aR (ks.map f)≤aR ks*aR ks
 | [],_=>by simp[aR]
 | k::ks,h=>by
  have ih:=OZ (f:=f) (ks:=ks) fun x hx=>h x (by simp[hx])
  have hk:=h k (by simp)
  simp only[cr,aR,dy,Nat.mul_add]
  omega
theorem O0 {c:Int}: ∀{ks:List Ex},(∀k∈ks,(b7 c k).size≤k.size*k.size)→1+aR (ij c ks)≤(1+aR ks)*(1+aR ks)
 | [],_=>by rw[ij];simp[aR]
 | k::ks,h=>by
  have ih:=O0 (c:=c) (ks:=ks) fun x hx=>h x (by simp[hx])
  have hk:=h k (by simp)
  have h1:(oneOf 5 (b7 c k::ks)).size≤1+((b7 c k).size+aR ks):=Yz
  have hp:=k.size_pos
  have U:aR (if k.dc=true then ij c ks else [])≤aR (ij c ks):=by
   split
   ·exact bU _
   ·simp[aR]
  have h3:1*aR ks≤k.size*aR ks:=dM _ hp
  have h4:aR ks*k.size=k.size*aR ks:=kY _ _
  rw[D5]
  simp only[aR,dy,Nat.mul_add] at*
  omega
theorem YA {c:Int}: ∀e:Ex,(∀n,e.wf n=true→(b7 c e).size≤e.size*e.size):=ind fun o l ks ih n hw=>by
 obtain ⟨h1,U⟩:=gf hw
 have hk: ∀k∈ks,(b7 c k).size≤k.size*k.size:=fun k hk=>ih k hk n (U k hk)
 have h3:1*1≤(Ex.node o l ks).size*(Ex.node o l ks).size:=Nat.mul_le_mul (size_pos _) (size_pos _)
 rw[wU]
 split
 ·split
  ·exact h3
  ·exact h3
 split
 ·have:=OZ hk
  simp only[size,dy,Nat.mul_add] at*
  omega
 split
 ·next _ _ ho=>
  subst ho
  have hl:ks.length=1:=by rcases eH h1 with h|⟨_,h|h|h|h|h|h|h⟩<;>omega
  obtain ⟨k,rfl⟩:=oJ.1 hl
  have:=hk k (by simp)
  have hp:=k.size_pos
  simp only[cr,fl,Ak,size,aR,dy,Nat.mul_add,Nat.add_zero] at*
  omega
 split
 ·have h4:=O0 hk
  have h5:(oneOf 4 (ij c ks)).size≤1+aR (ij c ks):=Yz
  show _≤(1+aR ks)*(1+aR ks)
  omega
 ·exact h3
section
variable {n c:Int}
theorem alA {o l:Int} {ks:List Ex} (ho:o=4∨o=6∨o=8):aV (b7 c (.node o l ks))=dJ o 0 (ks.map fun k=>aV (b7 c k)):=by
 rw[wU,ai (by omega),ah ho,mo,List.map_map]
 rfl
theorem alB {l:Int} {k:Ex}:aV (b7 c (.node 7 l [k]))=dJ 5 0 [aV (b7 c k),aV (.node 7 l [k])]:=by
 rw[wU,ai (by omega),ai (by omega),ah rfl,mo]
 rfl
def IU (c:Int) (k:Ex) (ks:List Ex):Ex:=if (aV (b7 c k)).op=1 then aV (b7 c k) else dJ 5 0 (aV (b7 c k)::ks.map aV)
theorem alC {k:Ex} {ks:List Ex} (hk:k.wf n=true) (bq: ∀x∈ks,x.wf n=true):IU c k ks=aV (oneOf 5 (b7 c k::ks)):=by
 have hg:=mq (n:=n) _ (uc (c:=c) k hk)
 unfold IU
 rw[alx]
 by_cases hn:ks=[]
 ·subst hn
  rw[ah rfl,fl,ai2 hg]
  split<;>rfl
 ·rw[ai hn,mo,cr]
  by_cases h1:(aV (b7 c k)).op=1
  ·rw[ah h1,tQ,ah,empty_eq hg h1]
   have F7: ∀x∈aV (b7 c k)::ks.map aV,Gd n x:=fun x hx=>by
    rcases dp.1 hx with rfl|hx
    ·exact hg
    ·obtain ⟨y,hy,rfl⟩:=eB.1 hx
     exact mq y (bq y hy)
   rw[Om F7]
   simp[h1]
  ·rw[ai h1]
def ud (c:Int):List Ex→List Ex
 | []=>[]
 | k::ks=>IU c k ks::(if k.dc=true then ud c ks else [])
theorem parts_eq: ∀{ks:List Ex},(∀x∈ks,x.wf n=true)→ud c ks=(ij c ks).map aV
 | [],_=>by rw[ij];rfl
 | k::ks,h=>by
  have ih:=parts_eq (ks:=ks) fun x hx=>h x (by simp[hx])
  rw[D5,cr,←alC (h k (by simp)) (fun x hx=>h x (by simp[hx]))]
  unfold ud
  refine congrArg _ ?_
  split
  ·exact ih
  ·rfl
theorem alD {l:Int} {ks:List Ex} (bD:ks≠[]) (hk: ∀x∈ks,x.wf n=true):aV (b7 c (.node 5 l ks))=dJ 4 0 (ud c ks):=by
 rw[wU,ai (by omega),ai (by omega),ai (by omega),ah rfl,parts_eq hk]
 have hw:=IT (c:=c) hk fun k fw=>uc k (hk k fw)
 have hn:=OY (c:=c) bD
 generalize ij c ks=L at*
 match L,hn with
 | [x],_=>exact (ai1 (mq x (hw x (by simp)))).symm
 | x::y::L,_=>
  show aV (.node 4 0 _)=_
  rw[mo]
end
end Go.AM
set_option maxRecDepth 100000
namespace Go.AM
open Go.Proofs
noncomputable def YB (C:ae) (ei:Int) (ej:Bool) (aj ar:Int) (ag:List V):Option (List V):=
 bif ej then
  some [.int .i64 aj,.int .i64 ar,.list aa ag]
 else
  (C vz [.int .i64 aj,.int .i64 ar,.list aa ag]).bind fun r1=>
  some [.int .i64 ((V.nth r1 0).toInt),.int .i64 ((V.nth (r1.drop 1) 0).toInt),.list aa ((V.nth ((r1.drop 1).drop 1) 0).toList)]
theorem alE {ei:Int} {ej:Bool} {aj ar:Int} {ag:List V} {r:Option (List V)} (h:YB CC ei ej aj ar ag=r):CC BM [.int .i64 ei,.bool ej,.int .i64 aj,.int .i64 ar,.list aa ag]=r:=
 aZ (key:=73) (L:=bX) (bs:=[]) (by kernel_rfl) aw (aX (by kernel_rfl) h)
noncomputable abbrev YC:Code:=cj Tryz.prog (av.aQ 63)
noncomputable def D6 (C:ae) (t21:List V) (t22 pC:Int) (pD:Bool) (eu dH:Int) (dj:List V) (lF lG su sw:Int) (sx:Bool) (cy kU:List V) (D7 t23:Int) (mw fQ:List V) {β:Type} (kn:(Int × Int × (List V) × (List V))→Option β) (kr:(Int × Int × Bool × (List V) × (List V))→Option β):Option β:=
 bif decide ((t23:Int)<t22) then
  (idx t21 t23).bind fun x1=>
  (C pb [.int .i64 pC,.bool pD,.int .i64 ((x1.cell 0).toInt),.int .i64 ((x1.cell 1).toInt),.list aa ((x1.cell 2).toList)]).bind fun r2=>
  bif (decide (0≤t23))&&(decide (t23<(mw.length:Int))) then
  (mw[(t23:Int).toNat]?).bind fun x3=>
  bif (decide (0≤t23))&&(decide (t23<(fQ.length:Int))) then
   (fQ[(t23:Int).toNat]?).bind fun x4=>
   bif (V.nth ((((((r2.drop 1).drop 1).drop 1).drop 1).drop 1).drop 1) 0).toBool then
   kn (IntKind.wrap .i64 (D7+1),IntKind.wrap .i64 (t23+1),mw.set ((t23:Int).toNat) (.agg [.int .i64 ((V.nth r2 0).toInt),.int .i64 ((V.nth (r2.drop 1) 0).toInt),.list aa ((V.nth ((r2.drop 1).drop 1) 0).toList)]),fQ.set ((t23:Int).toNat) (.agg [.int .i64 ((V.nth (((r2.drop 1).drop 1).drop 1) 0).toInt),.int .i64 ((V.nth ((((r2.drop 1).drop 1).drop 1).drop 1) 0).toInt),.list aa ((V.nth (((((r2.drop 1).drop 1).drop 1).drop 1).drop 1) 0).toList)]))
   else
   kn (D7,IntKind.wrap .i64 (t23+1),mw.set ((t23:Int).toNat) (.agg [.int .i64 ((V.nth r2 0).toInt),.int .i64 ((V.nth (r2.drop 1) 0).toInt),.list aa ((V.nth ((r2.drop 1).drop 1) 0).toList)]),fQ.set ((t23:Int).toNat) (.agg [.int .i64 ((V.nth (((r2.drop 1).drop 1).drop 1) 0).toInt),.int .i64 ((V.nth ((((r2.drop 1).drop 1).drop 1).drop 1) 0).toInt),.list aa ((V.nth (((((r2.drop 1).drop 1).drop 1).drop 1).drop 1) 0).toList)]))
  else none
  else none
 else
  kr (D7,t23,decide ((t23:Int)<t22),mw,fQ)
noncomputable def IV (C:ae) (t21:List V) (t22 pC:Int) (pD:Bool) (eu dH:Int) (dj:List V) (lF lG su sw:Int) (sx:Bool) (cy kU:List V):(Int × Int × (List V) × (List V))→Option ((Int × Int × (List V) × (List V)) ⊕ (Int × Int × Bool × (List V) × (List V))):=un fun D7=>un fun t23=>un fun mw fQ=>D6 C t21 t22 pC pD eu dH dj lF lG su sw sx cy kU D7 t23 mw fQ (fun y=>some (.inl y)) (fun r=>some (.inr r))
noncomputable def YD (C:ae):b8:=fun β n ds k=>
 bif Nat.beq n 65 then bM Ms [true,false,false,true,false,false,false,false,false,false,false,false,false,false,true,true,false,false] [[0,2,3,0,0,5,6,7,8,9,10,11,12,13,14,0,0,17,18]] (@D6 C) ds k else
 none
abbrev alF (C:ae) (b:bZ):Prop:=b6 Tryz.prog av C (YD C) 63 (cl Tryz.prog (av.aQ 63)) (av.sin 63).bc.length b
theorem alG (C:ae):alF C (.loop (ax [1,1,1,0,1,0,0] YC)):=
 bP Ms [true,false,false,true,false,false,false,false,false,false,false,false,false,false,true,true,false,false] [[0,2,3,0,0,5,6,7,8,9,10,11,12,13,14,0,0,17,18]] (@D6 C) (by kernel_rfl) (a9 (bs:=[]) (by kernel_rfl) aw) (fun ds=>by kernel_rfl) (fun i x=>by kernel_rfl) (fun i x β k=>by kernel_rfl) (fun β ds k=>by kernel_rfl)
noncomputable def YE (C:ae) (ei:Int) (ej:Bool) (aj ar:Int) (ag:List V):Option (List V):=
 bif (decide (0≤(ag.length:Int)))&&((decide ((ag.length:Int)≤(ag.length:Int)))&&(Nat.ble ((((ag.length:Int):Int).toNat)*40) cJ)) then
  bif (decide (0≤(ag.length:Int)))&&((decide ((ag.length:Int)≤(ag.length:Int)))&&(Nat.ble ((((ag.length:Int):Int).toNat)*40) cJ)) then
  (Loop (IV C ag (ag.length:Int) ei ej aj ar ag 0 0 0 0 false ([]:List V) ([]:List V)) (0,0,List.replicate (((ag.length:Int):Int).toNat) (V.agg [.int .i64 0,.int .i64 0,.list aa ([]:List V)]),List.replicate (((ag.length:Int):Int).toNat) (V.agg [.int .i64 0,.int .i64 0,.list aa ([]:List V)]))).bind (un fun (O1:Int)=>un fun (mY:Int)=>un fun (od:Bool)=>un fun (alH:List V) (alI:List V)=>
   (C kI [.int .i64 aj,.list aa alH]).bind fun dY=>
   (C kI [.int .i64 aj,.list aa alI]).bind fun ff=>
   bif (aj:Int)==4 then
    some [.int .i64 ((V.nth dY 0).toInt),.int .i64 ((V.nth (dY.drop 1) 0).toInt),.list aa ((V.nth ((dY.drop 1).drop 1) 0).toList),.int .i64 ((V.nth ff 0).toInt),.int .i64 ((V.nth (ff.drop 1) 0).toInt),.list aa ((V.nth ((ff.drop 1).drop 1) 0).toList),.bool (decide ((O1:Int)>0))]
   else
    bif (aj:Int)==6 then
    some [.int .i64 ((V.nth dY 0).toInt),.int .i64 ((V.nth (dY.drop 1) 0).toInt),.list aa ((V.nth ((dY.drop 1).drop 1) 0).toList),.int .i64 ((V.nth ff 0).toInt),.int .i64 ((V.nth (ff.drop 1) 0).toInt),.list aa ((V.nth ((ff.drop 1).drop 1) 0).toList),.bool ((O1:Int)==(ag.length:Int))]
    else
    bif (aj:Int)==8 then
     some [.int .i64 ((V.nth dY 0).toInt),.int .i64 ((V.nth (dY.drop 1) 0).toInt),.list aa ((V.nth ((dY.drop 1).drop 1) 0).toList),.int .i64 ((V.nth ff 0).toInt),.int .i64 ((V.nth (ff.drop 1) 0).toInt),.list aa ((V.nth ((ff.drop 1).drop 1) 0).toList),.bool ((O1:Int)==0)]
    else
     some [.int .i64 ((V.nth dY 0).toInt),.int .i64 ((V.nth (dY.drop 1) 0).toInt),.list aa ((V.nth ((dY.drop 1).drop 1) 0).toList),.int .i64 ((V.nth ff 0).toInt),.int .i64 ((V.nth (ff.drop 1) 0).toInt),.list aa ((V.nth ((ff.drop 1).drop 1) 0).toList),.bool false])
  else none
 else none
theorem alJ {ei:Int} {ej:Bool} {aj ar:Int} {ag:List V} {r:Option (List V)} (h:YE CC ei ej aj ar ag=r):CC yC [.int .i64 ei,.bool ej,.int .i64 aj,.int .i64 ar,.list aa ag]=r:=
 aZ (key:=63) (L:=YD CC) (bs:=[.loop (ax [1,1,1,0,1,0,0] YC)]) (by kernel_rfl) (br (alG CC) aw) (aX (by kernel_rfl) h)
noncomputable abbrev IW:Code:=cj Tryz.prog (av.aQ 64)
noncomputable def zU (C:ae) (t20:List V) (t21 pC:Int) (pD:Bool) (lF lG su sw:Int) (sx:Bool) (aS cy:List V) (ue:Bool) (t22:Int) (mw fQ:List V) {β:Type} (kn:(Bool × Int × (List V) × (List V))→Option β) (kr:(Bool × Int × Bool × (List V) × (List V))→Option β):Option β:=
 bif decide ((t22:Int)<t21) then
  (idx t20 t22).bind fun x1=>
  bif !ue then
  (C BM [.int .i64 pC,.bool pD,.int .i64 ((x1.cell 0).toInt),.int .i64 ((x1.cell 1).toInt),.list aa ((x1.cell 2).toList)]).bind fun r2=>
  bif (decide (0≤t22))&&(decide (t22<(fQ.length:Int))) then
   (fQ[(t22:Int).toNat]?).bind fun x3=>
   kn (ue,IntKind.wrap .i64 (t22+1),mw,fQ.set ((t22:Int).toNat) (.agg [.int .i64 ((V.nth r2 0).toInt),.int .i64 ((V.nth (r2.drop 1) 0).toInt),.list aa ((V.nth ((r2.drop 1).drop 1) 0).toList)]))
  else none
  else
  (C pb [.int .i64 pC,.bool pD,.int .i64 ((x1.cell 0).toInt),.int .i64 ((x1.cell 1).toInt),.list aa ((x1.cell 2).toList)]).bind fun r4=>
  bif Nat.ble ((mw.length+([.agg [.int .i64 ((V.nth r4 0).toInt),.int .i64 ((V.nth (r4.drop 1) 0).toInt),.list aa ((V.nth ((r4.drop 1).drop 1) 0).toList)]]:List V).length)*40) cJ then
   bif (decide (0≤t22))&&(decide (t22<(fQ.length:Int))) then
   (fQ[(t22:Int).toNat]?).bind fun x5=>
   kn ((V.nth ((((((r4.drop 1).drop 1).drop 1).drop 1).drop 1).drop 1) 0).toBool,IntKind.wrap .i64 (t22+1),mw++([.agg [.int .i64 ((V.nth r4 0).toInt),.int .i64 ((V.nth (r4.drop 1) 0).toInt),.list aa ((V.nth ((r4.drop 1).drop 1) 0).toList)]]:List V),fQ.set ((t22:Int).toNat) (.agg [.int .i64 ((V.nth (((r4.drop 1).drop 1).drop 1) 0).toInt),.int .i64 ((V.nth ((((r4.drop 1).drop 1).drop 1).drop 1) 0).toInt),.list aa ((V.nth (((((r4.drop 1).drop 1).drop 1).drop 1).drop 1) 0).toList)]))
   else none
  else none
 else
  kr (ue,t22,decide ((t22:Int)<t21),mw,fQ)
noncomputable def D8 (C:ae) (t20:List V) (t21 pC:Int) (pD:Bool) (lF lG su sw:Int) (sx:Bool) (aS cy:List V):(Bool × Int × (List V) × (List V))→Option ((Bool × Int × (List V) × (List V)) ⊕ (Bool × Int × Bool × (List V) × (List V))):=un fun ue=>un fun t22=>un fun mw fQ=>zU C t20 t21 pC pD lF lG su sw sx aS cy ue t22 mw fQ (fun y=>some (.inl y)) (fun r=>some (.inr r))
noncomputable def D9 (C:ae) (ue:Bool) (t55 lF lG su sw:Int) (sx:Bool) (fQ IX aS cy:List V) (t56:Int) (gL:List V) {β:Type} (kn:(Int × (List V))→Option β) (kr:(Int × Bool × (List V))→Option β):Option β:=
 bif decide ((t56:Int)<t55) then
  bif (decide (0≤t56))&&(decide (t56<(IX.length:Int))) then
  (IX[(t56:Int).toNat]?).bind fun ew=>
  bif (((ew.cell 0).toInt):Int)==1 then
   bif (decide (0≤t56))&&(decide (t56<(gL.length:Int))) then
   (gL[(t56:Int).toNat]?).bind fun r0=>
   kn (IntKind.wrap .i64 (t56+1),gL.set ((t56:Int).toNat) (.agg [.int .i64 ((ew.cell 0).toInt),.int .i64 ((ew.cell 1).toInt),.list aa ((ew.cell 2).toList)]))
   else none
  else
   bif (decide (0≤(IntKind.wrap .i64 (t56+1))))&&(decide ((IntKind.wrap .i64 (t56+1))≤(fQ.length:Int))) then
   bif Nat.ble ((([.agg [.int .i64 ((ew.cell 0).toInt),.int .i64 ((ew.cell 1).toInt),.list aa ((ew.cell 2).toList)]]:List V).length+((fQ.drop ((IntKind.wrap .i64 (t56+1):Int).toNat)).take (fQ.length-((IntKind.wrap .i64 (t56+1):Int).toNat))).length)*40) cJ then
    (C kI [.int .i64 5,.list aa (([.agg [.int .i64 ((ew.cell 0).toInt),.int .i64 ((ew.cell 1).toInt),.list aa ((ew.cell 2).toList)]]:List V)++((fQ.drop ((IntKind.wrap .i64 (t56+1):Int).toNat)).take (fQ.length-((IntKind.wrap .i64 (t56+1):Int).toNat))))]).bind fun iM=>
    bif (decide (0≤t56))&&(decide (t56<(gL.length:Int))) then
    (gL[(t56:Int).toNat]?).bind fun ml=>
    kn (IntKind.wrap .i64 (t56+1),gL.set ((t56:Int).toNat) (.agg [.int .i64 ((V.nth iM 0).toInt),.int .i64 ((V.nth (iM.drop 1) 0).toInt),.list aa ((V.nth ((iM.drop 1).drop 1) 0).toList)]))
    else none
   else none
   else none
  else none
 else
  kr (t56,decide ((t56:Int)<t55),gL)
noncomputable def IY (C:ae) (ue:Bool) (t55 lF lG su sw:Int) (sx:Bool) (fQ IX aS cy:List V):(Int × (List V))→Option ((Int × (List V)) ⊕ (Int × Bool × (List V))):=un fun t56 gL=>D9 C ue t55 lF lG su sw sx fQ IX aS cy t56 gL (fun y=>some (.inl y)) (fun r=>some (.inr r))
noncomputable def YF (C:ae):b8:=fun β n ds k=>
 bif Nat.beq n 81 then bM Mt [true,false,false,true,false,false,false,false,false,false,false,true,true,false,false] [[0,2,3,0,0,5,6,7,8,9,10,11,0,0,14,15]] (@zU C) ds k else
 bif Nat.beq n 225 then bM Mu [false,false,true,false,false,false,false,false,false,true,false,false,false] [[1,2,0,0,4,5,6,7,8,9,0,11,12,13]] (@D9 C) ds k else
 none
abbrev YG (C:ae) (b:bZ):Prop:=b6 Tryz.prog av C (YF C) 64 (cl Tryz.prog (av.aQ 64)) (av.sin 64).bc.length b
theorem alK (C:ae):YG C (.loop (ax [1,1,1,1,0,1,0,0] IW)):=
 bP Mt [true,false,false,true,false,false,false,false,false,false,false,true,true,false,false] [[0,2,3,0,0,5,6,7,8,9,10,11,0,0,14,15]] (@zU C) (by kernel_rfl) (a9 (bs:=[]) (by kernel_rfl) aw) (fun ds=>by kernel_rfl) (fun i x=>by kernel_rfl) (fun i x β k=>by kernel_rfl) (fun β ds k=>by kernel_rfl)
theorem alL (C:ae):YG C (.loop (ax [1,1,1,1,1,1,0,1,0,0] IW)):=
 bP Mu [false,false,true,false,false,false,false,false,false,true,false,false,false] [[1,2,0,0,4,5,6,7,8,9,0,11,12,13]] (@D9 C) (by kernel_rfl) (a9 (bs:=[]) (by kernel_rfl) aw) (fun ds=>by kernel_rfl) (fun i x=>by kernel_rfl) (fun i x β k=>by kernel_rfl) (fun β ds k=>by kernel_rfl)
noncomputable def YH (C:ae) (ei:Int) (ej:Bool) (aj ar:Int) (ag:List V):Option (List V):=
 bif (decide (0≤(ag.length:Int)))&&((decide ((ag.length:Int)≤(ag.length:Int)))&&(Nat.ble ((((ag.length:Int):Int).toNat)*40) cJ)) then
  (Loop (D8 C ag (ag.length:Int) ei ej 0 0 0 0 false ([]:List V) ([]:List V)) (true,0,([]:List V),List.replicate (((ag.length:Int):Int).toNat) (V.agg [.int .i64 0,.int .i64 0,.list aa ([]:List V)]))).bind (un fun (YI:Bool)=>un fun (od:Int)=>un fun (Cd:Bool)=>un fun (wW:List V) (YJ:List V)=>
   bif (decide (0≤(wW.length:Int)))&&((decide ((wW.length:Int)≤(wW.length:Int)))&&(Nat.ble ((((wW.length:Int):Int).toNat)*40) cJ)) then
   (Loop (IY C YI (wW.length:Int) 0 0 0 0 false YJ wW ([]:List V) ([]:List V)) (0,List.replicate (((wW.length:Int):Int).toNat) (V.agg [.int .i64 0,.int .i64 0,.list aa ([]:List V)]))).bind (un fun (yS:Int)=>un fun (T4:Bool) (alM:List V)=>
    (C kI [.int .i64 4,.list aa alM]).bind fun j8=>
    (C kI [.int .i64 5,.list aa YJ]).bind fun eV=>
    some [.int .i64 ((V.nth j8 0).toInt),.int .i64 ((V.nth (j8.drop 1) 0).toInt),.list aa ((V.nth ((j8.drop 1).drop 1) 0).toList),.int .i64 ((V.nth eV 0).toInt),.int .i64 ((V.nth (eV.drop 1) 0).toInt),.list aa ((V.nth ((eV.drop 1).drop 1) 0).toList),.bool YI])
   else none)
 else none
theorem alN {ei:Int} {ej:Bool} {aj ar:Int} {ag:List V} {r:Option (List V)} (h:YH CC ei ej aj ar ag=r):CC yD [.int .i64 ei,.bool ej,.int .i64 aj,.int .i64 ar,.list aa ag]=r:=
 aZ (key:=64) (L:=YF CC) (bs:=[.loop (ax [1,1,1,1,0,1,0,0] IW),.loop (ax [1,1,1,1,1,1,0,1,0,0] IW)]) (by kernel_rfl) (br (alK CC) (br (alL CC) aw)) (aX (by kernel_rfl) h)
noncomputable abbrev IZ:Code:=cj Tryz.prog (av.aQ 47)
noncomputable def I0 (C:ae) (t24:Bool) (eu dH:Int) (dj:List V) (lF lG su sw:Int) (sx:Bool) (alO O2 alP alQ:Int) (aS cy kU I1:List V) {β:Type} (kr:(Int × Int × (List V))→Option β):Option β:=
 bif t24 then
  kr (alP,alQ,I1)
 else
  kr (alO,O2,kU)
noncomputable def YK (C:ae):b8:=fun β n ds k=>
 bif Nat.beq n 399 then iH Mi [[2,3,4,5,6,7,8,9,0,0,14,15,0]] (@I0 C) ds k else
 none
abbrev alR (C:ae) (b:bZ):Prop:=b6 Tryz.prog av C (YK C) 47 (cl Tryz.prog (av.aQ 47)) (av.sin 47).bc.length b
theorem alS (C:ae):alR C (.cond 24 (ax [1,1,0,1,0,1,1,1,0,0,1,0] IZ) (ax [1,1,0,1,0,1,1,1,0,0,1,1] IZ)):=
 jn Mi [[2,3,4,5,6,7,8,9,0,0,14,15,0]] (@I0 C) (by kernel_rfl) (a9 (bs:=[]) (by kernel_rfl) aw) (a9 (bs:=[]) (by kernel_rfl) aw) (fun ds=>by kernel_rfl) (fun i β k=>by kernel_rfl) (fun β ds k=>by kernel_rfl)
noncomputable def YL (C:ae) (ei:Int) (ej:Bool) (aj ar:Int) (ag:List V):Option (List V):=
 bif (aj:Int)==2 then
  some [.int .i64 1,.int .i64 0,.list aa ([]:List V),.int .i64 2,.int .i64 0,.list aa ([]:List V),.bool true]
 else
  bif (aj:Int)==3 then
  I0 C ((ar:Int)==ei) aj ar ag 0 0 0 0 false 1 0 2 0 ([]:List V) ([]:List V) ([]:List V) ([]:List V) (un fun (O2:Int)=>un fun (alT:Int) (I4:List V)=>
   some [.int .i64 O2,.int .i64 alT,.list aa I4,.int .i64 3,.int .i64 ar,.list aa ([]:List V),.bool false])
  else
  bif (aj:Int)==4 then
   bif (aj:Int)==4 then
   (C yC [.int .i64 ei,.bool ej,.int .i64 aj,.int .i64 ar,.list aa ag]).bind fun r4=>
   some [.int .i64 ((V.nth r4 0).toInt),.int .i64 ((V.nth (r4.drop 1) 0).toInt),.list aa ((V.nth ((r4.drop 1).drop 1) 0).toList),.int .i64 ((V.nth (((r4.drop 1).drop 1).drop 1) 0).toInt),.int .i64 ((V.nth ((((r4.drop 1).drop 1).drop 1).drop 1) 0).toInt),.list aa ((V.nth (((((r4.drop 1).drop 1).drop 1).drop 1).drop 1) 0).toList),.bool ((V.nth ((((((r4.drop 1).drop 1).drop 1).drop 1).drop 1).drop 1) 0).toBool)]
   else
   bif (aj:Int)==7 then
    (ag[0]?).bind fun x5=>
    (C pb [.int .i64 ei,.bool ej,.int .i64 ((x5.cell 0).toInt),.int .i64 ((x5.cell 1).toInt),.list aa ((x5.cell 2).toList)]).bind fun r6=>
    (C kI [.int .i64 7,.list aa ([.agg [.int .i64 ((V.nth (((r6.drop 1).drop 1).drop 1) 0).toInt),.int .i64 ((V.nth ((((r6.drop 1).drop 1).drop 1).drop 1) 0).toInt),.list aa ((V.nth (((((r6.drop 1).drop 1).drop 1).drop 1).drop 1) 0).toList)]]:List V)]).bind fun r7=>
    (C kI [.int .i64 5,.list aa ([.agg [.int .i64 ((V.nth r6 0).toInt),.int .i64 ((V.nth (r6.drop 1) 0).toInt),.list aa ((V.nth ((r6.drop 1).drop 1) 0).toList)],.agg [.int .i64 ((V.nth r7 0).toInt),.int .i64 ((V.nth (r7.drop 1) 0).toInt),.list aa ((V.nth ((r7.drop 1).drop 1) 0).toList)]]:List V)]).bind fun r8=>
    some [.int .i64 ((V.nth r8 0).toInt),.int .i64 ((V.nth (r8.drop 1) 0).toInt),.list aa ((V.nth ((r8.drop 1).drop 1) 0).toList),.int .i64 ((V.nth r7 0).toInt),.int .i64 ((V.nth (r7.drop 1) 0).toInt),.list aa ((V.nth ((r7.drop 1).drop 1) 0).toList),.bool true]
   else
    bif (aj:Int)==5 then
    (C yD [.int .i64 ei,.bool ej,.int .i64 aj,.int .i64 ar,.list aa ag]).bind fun r9=>
    some [.int .i64 ((V.nth r9 0).toInt),.int .i64 ((V.nth (r9.drop 1) 0).toInt),.list aa ((V.nth ((r9.drop 1).drop 1) 0).toList),.int .i64 ((V.nth (((r9.drop 1).drop 1).drop 1) 0).toInt),.int .i64 ((V.nth ((((r9.drop 1).drop 1).drop 1).drop 1) 0).toInt),.list aa ((V.nth (((((r9.drop 1).drop 1).drop 1).drop 1).drop 1) 0).toList),.bool ((V.nth ((((((r9.drop 1).drop 1).drop 1).drop 1).drop 1).drop 1) 0).toBool)]
    else
    some [.int .i64 1,.int .i64 0,.list aa ([]:List V),.int .i64 1,.int .i64 0,.list aa ([]:List V),.bool false]
  else
   bif (aj:Int)==6 then
   bif (aj:Int)==6 then
    (C yC [.int .i64 ei,.bool ej,.int .i64 aj,.int .i64 ar,.list aa ag]).bind fun dY=>
    some [.int .i64 ((V.nth dY 0).toInt),.int .i64 ((V.nth (dY.drop 1) 0).toInt),.list aa ((V.nth ((dY.drop 1).drop 1) 0).toList),.int .i64 ((V.nth (((dY.drop 1).drop 1).drop 1) 0).toInt),.int .i64 ((V.nth ((((dY.drop 1).drop 1).drop 1).drop 1) 0).toInt),.list aa ((V.nth (((((dY.drop 1).drop 1).drop 1).drop 1).drop 1) 0).toList),.bool ((V.nth ((((((dY.drop 1).drop 1).drop 1).drop 1).drop 1).drop 1) 0).toBool)]
   else
    bif (aj:Int)==7 then
    (ag[0]?).bind fun ew=>
    (C pb [.int .i64 ei,.bool ej,.int .i64 ((ew.cell 0).toInt),.int .i64 ((ew.cell 1).toInt),.list aa ((ew.cell 2).toList)]).bind fun fg=>
    (C kI [.int .i64 7,.list aa ([.agg [.int .i64 ((V.nth (((fg.drop 1).drop 1).drop 1) 0).toInt),.int .i64 ((V.nth ((((fg.drop 1).drop 1).drop 1).drop 1) 0).toInt),.list aa ((V.nth (((((fg.drop 1).drop 1).drop 1).drop 1).drop 1) 0).toList)]]:List V)]).bind fun iM=>
    (C kI [.int .i64 5,.list aa ([.agg [.int .i64 ((V.nth fg 0).toInt),.int .i64 ((V.nth (fg.drop 1) 0).toInt),.list aa ((V.nth ((fg.drop 1).drop 1) 0).toList)],.agg [.int .i64 ((V.nth iM 0).toInt),.int .i64 ((V.nth (iM.drop 1) 0).toInt),.list aa ((V.nth ((iM.drop 1).drop 1) 0).toList)]]:List V)]).bind fun nc=>
    some [.int .i64 ((V.nth nc 0).toInt),.int .i64 ((V.nth (nc.drop 1) 0).toInt),.list aa ((V.nth ((nc.drop 1).drop 1) 0).toList),.int .i64 ((V.nth iM 0).toInt),.int .i64 ((V.nth (iM.drop 1) 0).toInt),.list aa ((V.nth ((iM.drop 1).drop 1) 0).toList),.bool true]
    else
    bif (aj:Int)==5 then
     (C yD [.int .i64 ei,.bool ej,.int .i64 aj,.int .i64 ar,.list aa ag]).bind fun ou=>
     some [.int .i64 ((V.nth ou 0).toInt),.int .i64 ((V.nth (ou.drop 1) 0).toInt),.list aa ((V.nth ((ou.drop 1).drop 1) 0).toList),.int .i64 ((V.nth (((ou.drop 1).drop 1).drop 1) 0).toInt),.int .i64 ((V.nth ((((ou.drop 1).drop 1).drop 1).drop 1) 0).toInt),.list aa ((V.nth (((((ou.drop 1).drop 1).drop 1).drop 1).drop 1) 0).toList),.bool ((V.nth ((((((ou.drop 1).drop 1).drop 1).drop 1).drop 1).drop 1) 0).toBool)]
    else
     some [.int .i64 1,.int .i64 0,.list aa ([]:List V),.int .i64 1,.int .i64 0,.list aa ([]:List V),.bool false]
   else
   bif (aj:Int)==8 then
    (C yC [.int .i64 ei,.bool ej,.int .i64 aj,.int .i64 ar,.list aa ag]).bind fun qH=>
    some [.int .i64 ((V.nth qH 0).toInt),.int .i64 ((V.nth (qH.drop 1) 0).toInt),.list aa ((V.nth ((qH.drop 1).drop 1) 0).toList),.int .i64 ((V.nth (((qH.drop 1).drop 1).drop 1) 0).toInt),.int .i64 ((V.nth ((((qH.drop 1).drop 1).drop 1).drop 1) 0).toInt),.list aa ((V.nth (((((qH.drop 1).drop 1).drop 1).drop 1).drop 1) 0).toList),.bool ((V.nth ((((((qH.drop 1).drop 1).drop 1).drop 1).drop 1).drop 1) 0).toBool)]
   else
    bif (aj:Int)==7 then
    (ag[0]?).bind fun po=>
    (C pb [.int .i64 ei,.bool ej,.int .i64 ((po.cell 0).toInt),.int .i64 ((po.cell 1).toInt),.list aa ((po.cell 2).toList)]).bind fun j8=>
    (C kI [.int .i64 7,.list aa ([.agg [.int .i64 ((V.nth (((j8.drop 1).drop 1).drop 1) 0).toInt),.int .i64 ((V.nth ((((j8.drop 1).drop 1).drop 1).drop 1) 0).toInt),.list aa ((V.nth (((((j8.drop 1).drop 1).drop 1).drop 1).drop 1) 0).toList)]]:List V)]).bind fun eV=>
    (C kI [.int .i64 5,.list aa ([.agg [.int .i64 ((V.nth j8 0).toInt),.int .i64 ((V.nth (j8.drop 1) 0).toInt),.list aa ((V.nth ((j8.drop 1).drop 1) 0).toList)],.agg [.int .i64 ((V.nth eV 0).toInt),.int .i64 ((V.nth (eV.drop 1) 0).toInt),.list aa ((V.nth ((eV.drop 1).drop 1) 0).toList)]]:List V)]).bind fun jG=>
    some [.int .i64 ((V.nth jG 0).toInt),.int .i64 ((V.nth (jG.drop 1) 0).toInt),.list aa ((V.nth ((jG.drop 1).drop 1) 0).toList),.int .i64 ((V.nth eV 0).toInt),.int .i64 ((V.nth (eV.drop 1) 0).toInt),.list aa ((V.nth ((eV.drop 1).drop 1) 0).toList),.bool true]
    else
    bif (aj:Int)==5 then
     (C yD [.int .i64 ei,.bool ej,.int .i64 aj,.int .i64 ar,.list aa ag]).bind fun pz=>
     some [.int .i64 ((V.nth pz 0).toInt),.int .i64 ((V.nth (pz.drop 1) 0).toInt),.list aa ((V.nth ((pz.drop 1).drop 1) 0).toList),.int .i64 ((V.nth (((pz.drop 1).drop 1).drop 1) 0).toInt),.int .i64 ((V.nth ((((pz.drop 1).drop 1).drop 1).drop 1) 0).toInt),.list aa ((V.nth (((((pz.drop 1).drop 1).drop 1).drop 1).drop 1) 0).toList),.bool ((V.nth ((((((pz.drop 1).drop 1).drop 1).drop 1).drop 1).drop 1) 0).toBool)]
    else
     some [.int .i64 1,.int .i64 0,.list aa ([]:List V),.int .i64 1,.int .i64 0,.list aa ([]:List V),.bool false]
theorem alU {ei:Int} {ej:Bool} {aj ar:Int} {ag:List V} {r:Option (List V)} (h:YL CC ei ej aj ar ag=r):CC pb [.int .i64 ei,.bool ej,.int .i64 aj,.int .i64 ar,.list aa ag]=r:=
 aZ (key:=47) (L:=YK CC) (bs:=[.cond 24 (ax [1,1,0,1,0,1,1,1,0,0,1,0] IZ) (ax [1,1,0,1,0,1,1,1,0,0,1,1] IZ)]) (by kernel_rfl) (br (alS CC) aw) (aX (by kernel_rfl) h)
end Go.AM
set_option maxRecDepth 100000
namespace Go.AM
open Go.Proofs Ex
def sy (c:Int) (e:Ex):List V:=bY (aV (b7 c e)) (bY (aV e) [.bool e.dc])
abbrev zE:V:= .agg [.int .i64 0,.int .i64 0,.list aa ([]:List V)]
theorem uf {α:Type} {A:List V} {n:Nat} {z:V} {i:Nat} (h:i=A.length) {K:V→Option α}:(bif (decide (0≤(i:Int)))&&(decide ((i:Int)<((A++List.replicate (n+1) z).length:Int))) then ((A++List.replicate (n+1) z)[((i:Int)).toNat]?).bind K else none)=K z:=by
 refine ub ?_
 rw[h,iq (bU _)]
 simp
theorem ug {A:List V} {n:Nat} {z v:V} {i:Nat} (h:i=A.length):(A++List.replicate (n+1) z).set i v=A++[v]++List.replicate n z:=by
 rw[List.replicate_succ,Ys _ _ _ _ h]
theorem alV (a:Ex):V.agg [.int .i64 a.op,.int .i64 a.letter,.list aa (a.kids.map enc)]=a.enc:=(eY a).symm
theorem O3 {c:Int} {e:Ex} (hw:e.wf 6=true):(aV (b7 c e)).size≤e.size*e.size:=
 kW (Dq _ (uc e hw)) (YA e 6 hw)
theorem I5 {a m:Nat} (h:a≤m):a*a≤m*m:=Nat.mul_le_mul h h
theorem YM {e:Ex} (hw:e.wf 6=true) (hs:e.size≤1000000):Gd 6 (aV e)∧(aV e).Ok∧(aV e).size≤e.size:=by
 have h1:=mq e hw
 have U:=Dq e hw
 exact ⟨h1,tR (by omega) _ h1.2 (by omega),U⟩
def nn (c:Int):List Ex→List Ex
 | []=>[]
 | k::ks=>aV (b7 c k)::(if k.dc=true then nn c ks else [])
def Ea (ss:List Ex):Nat→List Ex→List Ex
 | _,[]=>[]
 | i,d::ds=>(if d.op=1 then d else dJ 5 0 (d::ss.drop (i+1)))::Ea ss (i+1) ds
theorem YN {c:Int}: ∀(ks pre:List Ex),Ea ((pre++ks).map aV) pre.length (nn c ks)=ud c ks
 | [],pre=>rfl
 | k::ks,pre=>by
  have ih:=YN (c:=c) ks (pre++[k])
  have e1:((pre++k::ks).map aV).drop (pre.length+1)=ks.map aV:=by
   rw[gm,cr,show pre.length+1=(pre.map aV++[aV k]).length by simp,show pre.map aV++aV k::ks.map aV=(pre.map aV++[aV k])++ks.map aV by simp,List.drop_left]
  unfold nn ud Ea IU
  rw[e1]
  refine congrArg _ ?_
  split
  ·rw[←ih];simp
  ·rfl
theorem YO {c:Int}: ∀ks:List Ex,(nn c ks).length≤ks.length
 | []=>bU _
 | k::ks=>by
  have:=YO (c:=c) ks
  unfold nn
  split<;>simp<;>omega
theorem YP {c:Int}: ∀{ks:List Ex} {d:Ex},d∈nn c ks→∃k∈ks,d=aV (b7 c k)
 | k::ks,d,h=>by
  unfold nn at h
  rcases dp.1 h with rfl|h
  ·exact ⟨k,by simp,rfl⟩
  ·split at h
   ·obtain ⟨x,hx,e⟩:=YP h
    exact ⟨x,by simp[hx],e⟩
   ·cases h
theorem O4: ∀{ks:List Ex},(∀k∈ks,k.wf 6=true)→aR (ks.map aV)≤aR ks
 | [],_=>by simp[aR]
 | k::ks,h=>by
  have a:=Dq k (h k (by simp))
  have b:=O4 (ks:=ks) fun k hk=>h k (by simp[hk])
  simp only[cr,aR];omega
theorem O5 {ks:List Ex} {f:Ex→Ex} (h: ∀k∈ks,Gd 6 (f k)∧(f k).Ok):(∀k∈ks.map f,Gd 6 k)∧∀k∈ks.map f,k.Ok:=
 ⟨fun x hx=>by obtain ⟨k,hk,rfl⟩:=eB.1 hx;exact (h k hk).1,fun x hx=>by obtain ⟨k,hk,rfl⟩:=eB.1 hx;exact (h k hk).2⟩
theorem O6 {n:Nat} (h:n≤1000000):Nat.ble (n*40) cJ=true:=by rw[eb,n0];omega
theorem I6 {n:Nat} (h:n≤1000000):((decide (0≤(n:Int)))&&((decide ((n:Int)≤(n:Int)))&&(Nat.ble (((n:Int).toNat)*40) cJ)))=true:=alw (by omega) (by omega)
def lH (ks:List Ex):Nat:=(ks.filter Ex.dc).length
section
variable {c:Int} {nm:Bool} {ks:List Ex}
variable (hn:ks.length≤1000) (ih: ∀k∈ks,CC pb (.int .i64 c:: .bool nm::bY k [])=some (sy c k))
include hn ih
theorem alW {a b c1 c2 c3 c4:Int} {b1:Bool} {l1 l2 l3:List V}: ∀(aH pre:List Ex),ks=pre++aH→
  Loop (IV CC (ks.map enc) (ks.length:Int) c nm a b l1 c1 c2 c3 c4 b1 l2 l3) (((lH pre:Nat):Int),((pre.length:Nat):Int),(pre.map fun k=>aV (b7 c k)).map enc++List.replicate aH.length zE,(pre.map aV).map enc++List.replicate aH.length zE)
   = some (((lH ks:Nat):Int),(ks.length:Int),false,(ks.map fun k=>aV (b7 c k)).map enc,(ks.map aV).map enc):=by
 intro aH
 induction aH with
 | nil=>
  intro pre e
  rw[dz] at e
  subst e
  refine bj ?_
  simp only[IV,D6,un]
  rw[az,ai (by omega),ct (by omega)]
  simp
 | cons k aH gb=>
  intro pre e
  have cb:pre.length<ks.length:=by rw[e];simp
  have cC:idx (ks.map enc) (pre.length:Int)=some k.enc:=by rw[e];exact jD _ _ _
  refine (bW ?_).trans (gb (pre++[k]) (by simp[e]))
  simp only[IV,D6,un]
  refine bT (wS cb) (bs cC ?_)
  rw[bz,bA,bB]
  refine bs (ih k (by rw[e];simp)) ?_
  refine (uf (by simp)).trans ?_
  refine (uf (by simp)).trans ?_
  rw[Int.toNat_natCast]
  have hc:lH (pre++[k])=lH pre+(if k.dc=true then 1 else 0):=by
   unfold lH
   rw[nw,cz]
   cases hk:k.dc<;>simp[hk]
  have ln:lH pre≤pre.length:=uv _ _
  have xw:pre.length=((pre.map fun k=>aV (b7 c k)).map enc).length:=by simp
  have kh:pre.length=((pre.map aV).map enc).length:=by simp
  rw[List.length_cons,ug xw,ug kh]
  cases hk:k.dc with
  | true=>
   refine bT hk ?_
   rw[pB (by omega),pB (by omega),hc,hk]
   simp only[cU,gm,cr,fl,cz,List.length_cons,List.length_nil]
   rw[eY (aV (b7 c k)),eY (aV k)]
   rfl
  | false=>
   refine bF hk ?_
   rw[pB (by omega),hc,hk]
   simp only[ai Bool.false_ne_true,gm,cr,fl,cz,List.length_cons,List.length_nil]
   rw[eY (aV (b7 c k)),eY (aV k)]
   rfl
theorem alX {c1 c2 c3 c4:Int} {b1:Bool} {l1 l2:List V} (hs: ∀k∈ks,CC BM (.int .i64 c:: .bool nm::bY k [])=some (iO (aV k))): ∀(aH pre B:List Ex) (b:Bool),ks=pre++aH→B.length≤pre.length→
  Loop (D8 CC (ks.map enc) (ks.length:Int) c nm c1 c2 c3 c4 b1 l1 l2) (b,((pre.length:Nat):Int),B.map enc,(pre.map aV).map enc++List.replicate aH.length zE)
   = some (b&&aH.all Ex.dc,(ks.length:Int),false,(B++(if b=true then nn c aH else [])).map enc,(ks.map aV).map enc):=by
 intro aH
 induction aH with
 | nil=>
  intro pre B b e hB
  rw[dz] at e
  subst e
  refine bj ?_
  simp only[D8,zU,un]
  rw[az,ai (by omega),ct (by omega)]
  simp[nn]
 | cons k aH gb=>
  intro pre B b e hB
  have cb:pre.length<ks.length:=by rw[e];simp
  have cC:idx (ks.map enc) (pre.length:Int)=some k.enc:=by rw[e];exact jD _ _ _
  have kh:pre.length=((pre.map aV).map enc).length:=by simp
  cases b with
  | false=>
   refine (bW ?_).trans (gb (pre++[k]) B false (by simp[e]) (by simp;omega))
   simp only[D8,zU,un]
   refine bT (wS cb) (bs cC (bT rfl ?_))
   rw[bz,bA,bB]
   refine bs (hs k (by rw[e];simp)) ?_
   refine (uf (by simp)).trans ?_
   rw[Int.toNat_natCast,List.length_cons,ug kh,pB (by omega)]
   simp only[gm,cr,fl,cz,List.length_cons,List.length_nil]
   rw[eY (aV k)]
   rfl
  | true=>
   refine ((bW ?_).trans (gb (pre++[k]) (B++[aV (b7 c k)]) k.dc (by simp[e]) (by simp;omega))).trans ?_
   ·simp only[D8,zU,un]
    refine bT (wS cb) (bs cC (bF rfl ?_))
    rw[bz,bA,bB]
    refine bs (ih k (by rw[e];simp)) ?_
    refine bT (O6 (by simp;omega)) ?_
    refine (uf (by simp)).trans ?_
    rw[Int.toNat_natCast,List.length_cons,ug kh,pB (by omega)]
    simp only[gm,cr,fl,cz,List.length_cons,List.length_nil]
    rw[eY (aV k),eY (aV (b7 c k))]
    rfl
   ·simp only[ka,List.all_cons,cU]
    rw[show nn c (k::aH)=aV (b7 c k)::(if k.dc=true then nn c aH else []) from rfl,cv]
    rfl
end
theorem alY {ss D:List Ex} {b b1:Bool} {c1 c2 c3 c4:Int} {l1 l2:List V} (hD:D.length≤ss.length) (hss:ss.length≤1000) (hd: ∀d∈D,Gd 6 d∧d.Ok∧d.size≤500000) (hsg: ∀k∈ss,Gd 6 k∧k.Ok) (bd:aR ss≤500000): ∀(aH pre P:List Ex),D=pre++aH→P.length=pre.length→
  Loop (IY CC b (D.length:Int) c1 c2 c3 c4 b1 (ss.map enc) (D.map enc) l1 l2) (((pre.length:Nat):Int),P.map enc++List.replicate aH.length zE)
   = some ((D.length:Int),false,(P++Ea ss pre.length aH).map enc):=by
 intro aH
 induction aH with
 | nil=>
  intro pre P e hP
  rw[dz] at e
  subst e
  refine bj ?_
  simp only[IY,D9,un]
  rw[az,ai (by omega),ct (by omega)]
  simp[Ea]
 | cons d aH gb=>
  intro pre P e hP
  have cb:pre.length<D.length:=by rw[e];simp
  have hm:d∈D:=by rw[e];simp
  have cC:(D.map enc)[pre.length]? =some d.enc:=by rw[e];simp
  have kh:pre.length=(P.map enc).length:=by simp[hP]
  refine ((bW ?_).trans (gb (pre++[d]) (P++[if d.op=1 then d else dJ 5 0 (d::ss.drop (pre.length+1))]) (by simp[e]) (by simp[hP]))).trans ?_
  ·simp only[IY,D9,un]
   refine bT (wS cb) ?_
   refine (ub cC).trans ?_
   rw[bz,bA,bB,dC]
   by_cases h1:d.op=1
   ·rw[ah h1,ah h1]
    refine (uf kh).trans ?_
    rw[Int.toNat_natCast,List.length_cons,ug kh,pB (by omega)]
    simp only[gm,cr,fl,cz,List.length_cons,List.length_nil]
    rw[eY d]
   ·rw[ai h1,ai h1,pB (by omega),Int.toNat_natCast,bw]
    refine bT (xd.2 ⟨eC (by omega),eC (by omega)⟩) ?_
    have ht:((ss.map enc).drop (pre.length+1)).take (ss.length-(pre.length+1))=(ss.drop (pre.length+1)).map enc:=by
     rw[←List.map_drop,List.take_of_length_le (by simp)]
    rw[ht]
    refine bT (O6 (by simp;omega)) ?_
    have hg: ∀k∈d::ss.drop (pre.length+1),Gd 6 k∧k.Ok:=fun k hk=>by
     rcases dp.1 hk with rfl|hk
     ·exact ⟨(hd _ hm).1,(hd _ hm).2.1⟩
     ·exact hsg k (List.mem_of_mem_drop hk)
    have hz:aR (d::ss.drop (pre.length+1))≤1000000:=by
     have h1:=(hd d hm).2.2
     have U:=Il (ss.take (pre.length+1)) (ss.drop (pre.length+1))
     rw[EK] at U
     simp only[aR];omega
    rw[OX,←gm]
    refine bs (sr (o:=5) (fun k hk=>(hg k hk).1) (fun k hk=>(hg k hk).2) hz (by omega)) ?_
    refine (uf kh).trans ?_
    rw[Int.toNat_natCast,List.length_cons,ug kh]
    simp only[gm,cr,fl,cz,List.length_cons,List.length_nil]
    rw[eY (dJ 5 0 (d::ss.drop (pre.length+1)))]
    rfl
  ·rw[cz,cv]
   rfl
theorem YQ: ∀ks:List Ex,om ks=ks.all Ex.dc
 | []=>rfl
 | k::ks=>by simp[om,YQ ks]
theorem YR: ∀ks:List Ex,lD ks=decide ((lH ks:Int)>0)
 | []=>by simp[lD,lH]
 | k::ks=>by
  have:=YR ks
  unfold lH at*
  cases hk:k.dc
  ·simp[lD,hk,this]
  ·simp[lD,hk]
theorem YS: ∀ks:List Ex,om ks=((lH ks:Int)==(ks.length:Int))
 | []=>by simp[om,lH]
 | k::ks=>by
  have h:=YS ks
  have hl:lH ks≤ks.length:=uv _ _
  unfold lH at*
  rw[om,h,nu]
  cases hk:k.dc
  ·simp[hk];omega
  ·simp[hk]
theorem alZ {c:Int} {nm:Bool}: ∀e:Ex,e.wf 6=true→e.size≤400→(nm=true→Gd 6 e)→CC pb (.int .i64 c:: .bool nm::bY e [])=some (sy c e):=
 ind fun o l ks ih hw hs jK=>by
  obtain ⟨h1,U⟩:=gf hw
  have hl:=qB ks
  have YT:aR ks≤399:=by simp only[size] at hs;omega
  have I7: ∀k∈ks,k.size≤399:=fun k hk=>kW (Dg hk) YT
  have lk: ∀k∈ks,CC pb (.int .i64 c:: .bool nm::bY k [])=some (sy c k):=fun k hk=>ih k hk (U k hk) (by have:=I7 k hk;omega) fun h=>(jK h).kids k hk
  have hsm: ∀k∈ks,CC BM (.int .i64 c:: .bool nm::bY k [])=some (iO (aV k)):=fun k hk=>by
   refine alE ?_
   unfold YB
   cases nm with
   | true=>refine bT rfl ?_;rw[WH k ((jK rfl).kids k hk)];rfl
   | false=>
    refine bF rfl ?_
    have:=I7 k hk
    exact bs (Yt (n:=6) (by omega) k (U k hk) (by omega)) rfl
  have dX: ∀k∈ks,(aV (b7 c k)).size≤160000:=fun k hk=>by
   have a:=O3 (c:=c) (U k hk)
   have b:=I5 (I7 k hk)
   omega
  have Eb: ∀k∈ks,Gd 6 (aV (b7 c k))∧(aV (b7 c k)).Ok:=fun k hk=>by
   have a:=mq _ (uc (c:=c) k (U k hk))
   have b:=dX k hk
   exact ⟨a,tR (by omega) _ a.2 (by omega)⟩
  have I8: ∀k∈ks,Gd 6 (aV k)∧(aV k).Ok:=fun k hk=>by
   have a:=YM (U k hk) (by have:=I7 k hk;omega)
   exact ⟨a.1,a.2.1⟩
  have hnz:=O4 U
  have hbz:aR (ks.map fun k=>aV (b7 c k))≤160000:=by
   have a:=OZ (f:=fun k=>aV (b7 c k)) fun k hk=>O3 (c:=c) (U k hk)
   have b:=I5 YT
   omega
  have O7:(o=4∨o=6∨o=8)→CC yC (.int .i64 c:: .bool nm::bY (.node o l ks) [])=some (sy c (.node o l ks)):=fun ho=>by
   obtain ⟨a1,a2⟩:=O5 Eb
   obtain ⟨b1,b2⟩:=O5 I8
   have jR:l=0:=by rcases eH h1 with h|h<;>omega
   refine alJ ?_
   unfold YE
   simp only[Ex.op,Ex.kids,Ex.letter,bw]
   refine bT (I6 (by omega)) (bT (I6 (by omega)) ?_)
   have O8:=alW (ks:=ks) (nm:=nm) (c:=c) (by omega) lk (a:=o) (b:=l) (c1:=0) (c2:=0) (c3:=0) (c4:=0) (b1:=false) (l1:=ks.map enc) (l2:=[]) (l3:=[]) ks [] rfl
   rw[Int.toNat_natCast]
   refine bs O8 ?_
   unfold sy
   rw[alA ho,mo,jR]
   rcases ho with rfl|rfl|rfl
   ·refine bs (sr a1 a2 (by omega) (.inl rfl)) ?_
    refine bs (sr b1 b2 (by omega) (.inl rfl)) ?_
    refine bT rfl ?_
    rw[←YR]
    rfl
   ·refine bs (sr a1 a2 (by omega) (.inr (.inr rfl))) ?_
    refine bs (sr b1 b2 (by omega) (.inr (.inr rfl))) ?_
    refine bF rfl (bT rfl ?_)
    rw[←YS]
    rfl
   ·obtain ⟨k,rfl⟩:=oJ.1 (show ks.length=1 by rcases eH h1 with h|h<;>omega)
    refine bs (IS (Eb k (by simp)).1 (.inr rfl)) ?_
    refine bs (IS (I8 k (by simp)).1 (.inr rfl)) ?_
    refine bF rfl (bF rfl (bT rfl ?_))
    refine congrArg some ?_
    have:(((lH [k]:Nat):Int)==0)=(Ex.node 8 0 [k]).dc:=by
     simp only[Ex.dc,lH]
     cases hk:k.dc<;>simp[hk,lD]
    rw[this]
    rfl
  have al0:o=5→CC yD (.int .i64 c:: .bool nm::bY (.node o l ks) [])=some (sy c (.node o l ks)):=fun ho=>by
   subst ho
   have bD:ks≠[]:=by rintro rfl;rcases eH h1 with h|h<;>simp at h<;>omega
   have jR:l=0:=by rcases eH h1 with h|h<;>omega
   obtain ⟨b1,b2⟩:=O5 I8
   have hD:=YO (c:=c) ks
   refine alN ?_
   unfold YH
   simp only[Ex.op,Ex.kids,Ex.letter,bw]
   refine bT (I6 (by omega)) ?_
   rw[Int.toNat_natCast]
   have O8:=alX (ks:=ks) (nm:=nm) (c:=c) (by omega) lk (c1:=0) (c2:=0) (c3:=0) (c4:=0) (b1:=false) (l1:=[]) (l2:=[]) hsm ks [] [] true rfl (bU _)
   refine bs O8 ?_
   simp only[un,List.nil_append,cU,ka,bw]
   refine bT (I6 (by omega)) ?_
   rw[Int.toNat_natCast]
   have cb:=alY (ss:=ks.map aV) (D:=nn c ks) (b:=ks.all Ex.dc) (c1:=0) (c2:=0) (c3:=0) (c4:=0) (b1:=false) (l1:=[]) (l2:=[]) (by simp;omega) (by simp;omega) (fun d hd=>by
    obtain ⟨k,hk,rfl⟩:=YP hd
    have:=dX k hk
    exact ⟨(Eb k hk).1,(Eb k hk).2,by omega⟩) (fun k hk=>⟨b1 k hk,b2 k hk⟩) (by omega) (nn c ks) [] [] rfl rfl
   have he:=YN (c:=c) ks []
   rw[List.nil_append] at he
   rw[List.length_nil] at cb he
   rw[he] at cb
   refine bs cb ?_
   simp only[un,List.nil_append]
   have xB:=parts_eq (c:=c) U
   have YU:=IT (c:=c) U fun k hk=>uc k (U k hk)
   have hcz:aR (ij c ks)≤160000:=by
    have a:=O0 (c:=c) (ks:=ks) fun k hk=>YA k 6 (U k hk)
    have b:=I5 (show 1+aR ks≤400 by omega)
    omega
   have hpz:aR (ud c ks)≤160000:=by rw[xB];have:=O4 YU;omega
   have YV: ∀k∈ud c ks,Gd 6 k∧k.Ok:=fun k hk=>by
    have hz:=Dg hk
    rw[xB] at hk
    obtain ⟨x,hx,rfl⟩:=eB.1 hk
    have a:=mq x (YU x hx)
    exact ⟨a,tR (by omega) _ a.2 (by omega)⟩
   refine bs (sr (fun k hk=>(YV k hk).1) (fun k hk=>(YV k hk).2) (by omega) (.inl rfl)) ?_
   refine bs (sr b1 b2 (by omega) (.inr (.inl rfl))) ?_
   unfold sy
   rw[alD bD U,mo,jR,←YQ]
   rfl
  refine alU ?_
  unfold YL I0
  simp only[Ex.op,Ex.kids,Ex.letter]
  rcases eH h1 with ⟨rfl,h⟩|⟨rfl,⟨rfl,h⟩|⟨rfl,h⟩|⟨rfl,h⟩|⟨rfl,h⟩|⟨rfl,h⟩|⟨rfl,h⟩|⟨rfl,h⟩⟩
  ·obtain rfl:=qR.1 (show ks.length=0 by omega)
   refine bF rfl (bT rfl ?_)
   unfold sy
   rw[wU,ah rfl,mo,j5 (by omega)]
   rw[dC]
   by_cases yc:l=c
   ·rw[ah yc,ah yc];rfl
   ·rw[ai yc,ai yc];rfl
  ·obtain rfl:=qR.1 (show ks.length=0 by omega)
   rfl
  ·obtain rfl:=qR.1 (show ks.length=0 by omega)
   rfl
  ·exact bF rfl (bF rfl (bT rfl (bT rfl (bs (O7 (.inl rfl)) rfl))))
  ·refine bF rfl (bF rfl (bF rfl (bF rfl (bF rfl (bF rfl (bT rfl ?_))))))
   exact bs (al0 rfl) rfl
  ·exact bF rfl (bF rfl (bF rfl (bT rfl (bT rfl (bs (O7 (.inr (.inl rfl))) rfl)))))
  ·obtain ⟨k,rfl⟩:=oJ.1 (show ks.length=1 by omega)
   refine bF rfl (bF rfl (bF rfl (bF rfl (bF rfl (bT rfl ?_)))))
   refine bs (a:=k.enc) rfl ?_
   rw[bz,bA,bB]
   refine bs (lk k (by simp)) ?_
   have hk:=I8 k (by simp)
   have hb:=Eb k (by simp)
   have hj:=IS hk.1 (o:=7) (.inl rfl)
   rw[cr,fl,eY] at hj
   refine bs hj ?_
   have rA:dJ 7 0 [aV k]=aV (.node 7 0 [k]):=by rw[mo];rfl
   have O9:=YM hw (by omega)
   have TO:=dX k (by simp)
   have gu:=sr (n:=6) (ks:=[aV (b7 c k),aV (.node 7 0 [k])]) (o:=5) (fun x hx=>by
    rcases dp.1 hx with rfl|hx
    ·exact hb.1
    ·rw[ez.1 hx];exact O9.1) (fun x hx=>by
    rcases dp.1 hx with rfl|hx
    ·exact hb.2
    ·rw[ez.1 hx];exact O9.2.1) (by have:=O9.2.2;simp only[aR];omega) (by omega)
   rw[cr,cr,fl,eY (aV (b7 c k)),eY (aV (.node 7 0 [k])),←rA] at gu
   refine bs gu ?_
   unfold sy
   rw[alB,←rA]
   rfl
  ·exact bF rfl (bF rfl (bF rfl (bF rfl (bT rfl (bs (O7 (.inr (.inr rfl))) rfl)))))
end Go.AM
