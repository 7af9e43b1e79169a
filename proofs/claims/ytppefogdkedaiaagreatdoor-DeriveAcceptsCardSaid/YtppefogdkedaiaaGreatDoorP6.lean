/-
  Functions of the program, lifted to plain data.
-/
import Derived.Test.YtppefogdkedaiaaGreatDoorP5
set_option linter.unusedVariables false
set_option linter.unusedSimpArgs false
set_option maxRecDepth 100000
namespace Go.AM
open Go.Proofs
noncomputable abbrev qJ:Code:=cg Tryz.prog (au.aP 100)
noncomputable def DC (C:ae) (a j:Int) (ak:List V) (i:Int) {β:Type} (kn:Int→Option β) (kr:(Int × Bool)→Option β):Option β:=
 bif decide ((i:Int)≤j) then
  bif (decide (0≤i))&&(decide (i<(ak.length:Int))) then
  (ak[(i:Int).toNat]?).bind fun x5=>
  bif (decide (0≤a))&&(decide (a<(ak.length:Int))) then
   (ak[(a:Int).toNat]?).bind fun x6=>
   (C bp [.int .i64 ((x5.cell 0).toInt),.int .i64 ((x5.cell 1).toInt),.list aa ((x5.cell 2).toList),.int .i64 ((x6.cell 0).toInt),.int .i64 ((x6.cell 1).toInt),.list aa ((x6.cell 2).toList)]).bind fun r7=>
   bif decide ((((V.nth r7 0).toInt):Int)<0) then
   kn (IntKind.wrap .i64 (i+1))
   else
   kr (i,decide ((((V.nth r7 0).toInt):Int)<0))
  else none
  else none
 else
  kr (i,false)
noncomputable def DD (C:ae) (a j:Int) (ak:List V):(Int)→Option ((Int) ⊕ (Int × Bool)):=fun i=>DC C a j ak i (fun y=>some (.inl y)) (fun r=>some (.inr r))
noncomputable def zH (C:ae) (a i:Int) (ak:List V) (j:Int) {β:Type} (kn:Int→Option β) (kr:(Int × Bool)→Option β):Option β:=
 bif decide ((i:Int)≤j) then
  bif (decide (0≤j))&&(decide (j<(ak.length:Int))) then
  (ak[(j:Int).toNat]?).bind fun im=>
  bif (decide (0≤a))&&(decide (a<(ak.length:Int))) then
   (ak[(a:Int).toNat]?).bind fun et=>
   (C bp [.int .i64 ((im.cell 0).toInt),.int .i64 ((im.cell 1).toInt),.list aa ((im.cell 2).toList),.int .i64 ((et.cell 0).toInt),.int .i64 ((et.cell 1).toInt),.list aa ((et.cell 2).toList)]).bind fun eU=>
   bif !(decide ((((V.nth eU 0).toInt):Int)<0)) then
   kn (IntKind.wrap .i64 (j-1))
   else
   kr (j,!(decide ((((V.nth eU 0).toInt):Int)<0)))
  else none
  else none
 else
  kr (j,false)
noncomputable def zI (C:ae) (a i:Int) (ak:List V):(Int)→Option ((Int) ⊕ (Int × Bool)):=fun j=>zH C a i ak j (fun y=>some (.inl y)) (fun r=>some (.inr r))
noncomputable def DE (C:ae) (a j:Int) (ak:List V) (i:Int) {β:Type} (kn:Int→Option β) (kr:(Int × Bool)→Option β):Option β:=
 bif decide ((i:Int)≤j) then
  bif (decide (0≤i))&&(decide (i<(ak.length:Int))) then
  (ak[(i:Int).toNat]?).bind fun iO=>
  bif (decide (0≤a))&&(decide (a<(ak.length:Int))) then
   (ak[(a:Int).toNat]?).bind fun tO=>
   (C bp [.int .i64 ((iO.cell 0).toInt),.int .i64 ((iO.cell 1).toInt),.list aa ((iO.cell 2).toList),.int .i64 ((tO.cell 0).toInt),.int .i64 ((tO.cell 1).toInt),.list aa ((tO.cell 2).toList)]).bind fun XG=>
   bif decide ((((V.nth XG 0).toInt):Int)<0) then
   kn (IntKind.wrap .i64 (i+1))
   else
   kr (i,decide ((((V.nth XG 0).toInt):Int)<0))
  else none
  else none
 else
  kr (i,false)
noncomputable def DF (C:ae) (a j:Int) (ak:List V):(Int)→Option ((Int) ⊕ (Int × Bool)):=fun i=>DE C a j ak i (fun y=>some (.inl y)) (fun r=>some (.inr r))
noncomputable def zJ (C:ae) (a i:Int) (ak:List V) (j:Int) {β:Type} (kn:Int→Option β) (kr:(Int × Bool)→Option β):Option β:=
 bif decide ((i:Int)≤j) then
  bif (decide (0≤j))&&(decide (j<(ak.length:Int))) then
  (ak[(j:Int).toNat]?).bind fun wI=>
  bif (decide (0≤a))&&(decide (a<(ak.length:Int))) then
   (ak[(a:Int).toNat]?).bind fun wJ=>
   (C bp [.int .i64 ((wI.cell 0).toInt),.int .i64 ((wI.cell 1).toInt),.list aa ((wI.cell 2).toList),.int .i64 ((wJ.cell 0).toInt),.int .i64 ((wJ.cell 1).toInt),.list aa ((wJ.cell 2).toList)]).bind fun ID=>
   bif !(decide ((((V.nth ID 0).toInt):Int)<0)) then
   kn (IntKind.wrap .i64 (j-1))
   else
   kr (j,!(decide ((((V.nth ID 0).toInt):Int)<0)))
  else none
  else none
 else
  kr (j,false)
noncomputable def zK (C:ae) (a i:Int) (ak:List V):(Int)→Option ((Int) ⊕ (Int × Bool)):=fun j=>zJ C a i ak j (fun y=>some (.inl y)) (fun r=>some (.inr r))
noncomputable def DG (C:ae) (a i j:Int) (ak:List V) {β:Type} (kn:(Int × Int × (List V))→Option β) (kr:(Int × Int × Bool × (List V))→Option β):Option β:=
 (Loop (DF C a j ak) i).bind (un fun (mA:Int) (Uq:Bool)=>
  (Loop (zK C a mA ak) j).bind (un fun (pD:Int) (aep:Bool)=>
   bif decide ((mA:Int)>pD) then
    kr (mA,pD,decide ((mA:Int)>pD),ak)
   else
    bif (decide (0≤pD))&&(decide (pD<(ak.length:Int))) then
    (ak[(pD:Int).toNat]?).bind fun sA=>
    bif (decide (0≤mA))&&(decide (mA<(ak.length:Int))) then
     (ak[(mA:Int).toNat]?).bind fun OZ=>
     bif (decide (0≤mA))&&(decide (mA<(ak.length:Int))) then
     (ak[(mA:Int).toNat]?).bind fun x35=>
     bif (decide (0≤pD))&&(decide (pD<((ak.set ((mA:Int).toNat) (.agg [.int .i64 ((sA.cell 0).toInt),.int .i64 ((sA.cell 1).toInt),.list aa ((sA.cell 2).toList)])).length:Int))) then
      ((ak.set ((mA:Int).toNat) (.agg [.int .i64 ((sA.cell 0).toInt),.int .i64 ((sA.cell 1).toInt),.list aa ((sA.cell 2).toList)]))[(pD:Int).toNat]?).bind fun x36=>
      kn (IntKind.wrap .i64 (mA+1),IntKind.wrap .i64 (pD-1),(ak.set ((mA:Int).toNat) (.agg [.int .i64 ((sA.cell 0).toInt),.int .i64 ((sA.cell 1).toInt),.list aa ((sA.cell 2).toList)])).set ((pD:Int).toNat) (.agg [.int .i64 ((OZ.cell 0).toInt),.int .i64 ((OZ.cell 1).toInt),.list aa ((OZ.cell 2).toList)]))
     else none
     else none
    else none
    else none))
noncomputable def zL (C:ae) (a:Int):(Int × Int × (List V))→Option ((Int × Int × (List V)) ⊕ (Int × Int × Bool × (List V))):=un fun i=>un fun j ak=>DG C a i j ak (fun y=>some (.inl y)) (fun r=>some (.inr r))
noncomputable def XH (C:ae):bZ:=fun β n ds k=>
 bif Nat.beq n 49 then bK Nl [false,true,false,false] [[1,0,3,0,4]] (@DC C) ds k else
 bif Nat.beq n 81 then bK Nn [false,false,true,false] [[1,2,0,0,4]] (@zH C) ds k else
 bif Nat.beq n 209 then bK No [false,true,false,false] [[1,0,3,0,4]] (@DE C) ds k else
 bif Nat.beq n 241 then bK Np [false,false,true,false] [[1,2,0,0,4]] (@zJ C) ds k else
 bif Nat.beq n 210 then bK Nq [false,true,true,true] [[1,0,0,0,0]] (@DG C) ds k else
 none
abbrev DH (C:ae) (b:bX):Prop:=bY Tryz.prog au C (XH C) 100 (cj Tryz.prog (au.aP 100)) (au.sin 100).ba.length b
theorem aj5 (C:ae):DH C (.loop (aw [1,1,1,0,0,0] qJ)):=
 bN Nl [false,true,false,false] [[1,0,3,0,4]] (@DC C) (by kernel_rfl) (a8 (bs:=[]) (by kernel_rfl) ax) (fun ds=>by kernel_rfl) (fun i x=>by kernel_rfl) (fun i x β k=>by kernel_rfl) (fun β ds k=>by kernel_rfl)
theorem aj6 (C:ae):DH C (.loop (aw [1,1,1,1,0,0,0] qJ)):=
 bN Nn [false,false,true,false] [[1,2,0,0,4]] (@zH C) (by kernel_rfl) (a8 (bs:=[]) (by kernel_rfl) ax) (fun ds=>by kernel_rfl) (fun i x=>by kernel_rfl) (fun i x β k=>by kernel_rfl) (fun β ds k=>by kernel_rfl)
theorem aj7 (C:ae):DH C (.loop (aw [1,1,1,1,1,1,1,1,1,0,0,0,0,0,0,0] qJ)):=
 bN No [false,true,false,false] [[1,0,3,0,4]] (@DE C) (by kernel_rfl) (a8 (bs:=[]) (by kernel_rfl) ax) (fun ds=>by kernel_rfl) (fun i x=>by kernel_rfl) (fun i x β k=>by kernel_rfl) (fun β ds k=>by kernel_rfl)
theorem aj8 (C:ae):DH C (.loop (aw [1,1,1,1,1,1,1,1,1,0,0,0,0,1,0,0,0] qJ)):=
 bN Np [false,false,true,false] [[1,2,0,0,4]] (@zJ C) (by kernel_rfl) (a8 (bs:=[]) (by kernel_rfl) ax) (fun ds=>by kernel_rfl) (fun i x=>by kernel_rfl) (fun i x β k=>by kernel_rfl) (fun β ds k=>by kernel_rfl)
theorem aj9 (C:ae):DH C (.loop (aw [1,1,1,1,1,1,1,1,1,0,0,0] qJ)):=
 bN Nq [false,true,true,true] [[1,0,0,0,0]] (@DG C) (by kernel_rfl) (a8 (bs:=[.loop (aw [1,1,1,1,1,1,1,1,1,0,0,0,0,0,0,0] qJ),.loop (aw [1,1,1,1,1,1,1,1,1,0,0,0,0,1,0,0,0] qJ)]) (by kernel_rfl) (bq (aj7 C) (bq (aj8 C) ax))) (fun ds=>by kernel_rfl) (fun i x=>by kernel_rfl) (fun i x β k=>by kernel_rfl) (fun β ds k=>by kernel_rfl)
noncomputable def XI (C:ae) (a b' pivot:Int) (ak:List V):Option (List V):=
 bif (decide (0≤pivot))&&(decide (pivot<(ak.length:Int))) then
  (ak[(pivot:Int).toNat]?).bind fun x1=>
  bif (decide (0≤a))&&(decide (a<(ak.length:Int))) then
  (ak[(a:Int).toNat]?).bind fun x2=>
  bif (decide (0≤a))&&(decide (a<(ak.length:Int))) then
   (ak[(a:Int).toNat]?).bind fun x3=>
   bif (decide (0≤pivot))&&(decide (pivot<((ak.set ((a:Int).toNat) (.agg [.int .i64 ((x1.cell 0).toInt),.int .i64 ((x1.cell 1).toInt),.list aa ((x1.cell 2).toList)])).length:Int))) then
   ((ak.set ((a:Int).toNat) (.agg [.int .i64 ((x1.cell 0).toInt),.int .i64 ((x1.cell 1).toInt),.list aa ((x1.cell 2).toList)]))[(pivot:Int).toNat]?).bind fun x4=>
   (Loop (DD C a (IntKind.wrap .i64 (b'-1)) ((ak.set ((a:Int).toNat) (.agg [.int .i64 ((x1.cell 0).toInt),.int .i64 ((x1.cell 1).toInt),.list aa ((x1.cell 2).toList)])).set ((pivot:Int).toNat) (.agg [.int .i64 ((x2.cell 0).toInt),.int .i64 ((x2.cell 1).toInt),.list aa ((x2.cell 2).toList)]))) (IntKind.wrap .i64 (a+1))).bind (un fun (fj:Int) (oj:Bool)=>
    (Loop (zI C a fj ((ak.set ((a:Int).toNat) (.agg [.int .i64 ((x1.cell 0).toInt),.int .i64 ((x1.cell 1).toInt),.list aa ((x1.cell 2).toList)])).set ((pivot:Int).toNat) (.agg [.int .i64 ((x2.cell 0).toInt),.int .i64 ((x2.cell 1).toInt),.list aa ((x2.cell 2).toList)]))) (IntKind.wrap .i64 (b'-1))).bind (un fun (eF:Int) (Ci:Bool)=>
     bif decide ((fj:Int)>eF) then
      bif (decide (0≤a))&&(decide (a<(((ak.set ((a:Int).toNat) (.agg [.int .i64 ((x1.cell 0).toInt),.int .i64 ((x1.cell 1).toInt),.list aa ((x1.cell 2).toList)])).set ((pivot:Int).toNat) (.agg [.int .i64 ((x2.cell 0).toInt),.int .i64 ((x2.cell 1).toInt),.list aa ((x2.cell 2).toList)])).length:Int))) then
      (((ak.set ((a:Int).toNat) (.agg [.int .i64 ((x1.cell 0).toInt),.int .i64 ((x1.cell 1).toInt),.list aa ((x1.cell 2).toList)])).set ((pivot:Int).toNat) (.agg [.int .i64 ((x2.cell 0).toInt),.int .i64 ((x2.cell 1).toInt),.list aa ((x2.cell 2).toList)]))[(a:Int).toNat]?).bind fun fB=>
      bif (decide (0≤eF))&&(decide (eF<(((ak.set ((a:Int).toNat) (.agg [.int .i64 ((x1.cell 0).toInt),.int .i64 ((x1.cell 1).toInt),.list aa ((x1.cell 2).toList)])).set ((pivot:Int).toNat) (.agg [.int .i64 ((x2.cell 0).toInt),.int .i64 ((x2.cell 1).toInt),.list aa ((x2.cell 2).toList)])).length:Int))) then
       (((ak.set ((a:Int).toNat) (.agg [.int .i64 ((x1.cell 0).toInt),.int .i64 ((x1.cell 1).toInt),.list aa ((x1.cell 2).toList)])).set ((pivot:Int).toNat) (.agg [.int .i64 ((x2.cell 0).toInt),.int .i64 ((x2.cell 1).toInt),.list aa ((x2.cell 2).toList)]))[(eF:Int).toNat]?).bind fun gf=>
       bif (decide (0≤eF))&&(decide (eF<(((ak.set ((a:Int).toNat) (.agg [.int .i64 ((x1.cell 0).toInt),.int .i64 ((x1.cell 1).toInt),.list aa ((x1.cell 2).toList)])).set ((pivot:Int).toNat) (.agg [.int .i64 ((x2.cell 0).toInt),.int .i64 ((x2.cell 1).toInt),.list aa ((x2.cell 2).toList)])).length:Int))) then
       (((ak.set ((a:Int).toNat) (.agg [.int .i64 ((x1.cell 0).toInt),.int .i64 ((x1.cell 1).toInt),.list aa ((x1.cell 2).toList)])).set ((pivot:Int).toNat) (.agg [.int .i64 ((x2.cell 0).toInt),.int .i64 ((x2.cell 1).toInt),.list aa ((x2.cell 2).toList)]))[(eF:Int).toNat]?).bind fun py=>
       bif (decide (0≤a))&&(decide (a<((((ak.set ((a:Int).toNat) (.agg [.int .i64 ((x1.cell 0).toInt),.int .i64 ((x1.cell 1).toInt),.list aa ((x1.cell 2).toList)])).set ((pivot:Int).toNat) (.agg [.int .i64 ((x2.cell 0).toInt),.int .i64 ((x2.cell 1).toInt),.list aa ((x2.cell 2).toList)])).set ((eF:Int).toNat) (.agg [.int .i64 ((fB.cell 0).toInt),.int .i64 ((fB.cell 1).toInt),.list aa ((fB.cell 2).toList)])).length:Int))) then
        ((((ak.set ((a:Int).toNat) (.agg [.int .i64 ((x1.cell 0).toInt),.int .i64 ((x1.cell 1).toInt),.list aa ((x1.cell 2).toList)])).set ((pivot:Int).toNat) (.agg [.int .i64 ((x2.cell 0).toInt),.int .i64 ((x2.cell 1).toInt),.list aa ((x2.cell 2).toList)])).set ((eF:Int).toNat) (.agg [.int .i64 ((fB.cell 0).toInt),.int .i64 ((fB.cell 1).toInt),.list aa ((fB.cell 2).toList)]))[(a:Int).toNat]?).bind fun wh=>
        some [.int .i64 eF,.bool true,.list aa ((((ak.set ((a:Int).toNat) (.agg [.int .i64 ((x1.cell 0).toInt),.int .i64 ((x1.cell 1).toInt),.list aa ((x1.cell 2).toList)])).set ((pivot:Int).toNat) (.agg [.int .i64 ((x2.cell 0).toInt),.int .i64 ((x2.cell 1).toInt),.list aa ((x2.cell 2).toList)])).set ((eF:Int).toNat) (.agg [.int .i64 ((fB.cell 0).toInt),.int .i64 ((fB.cell 1).toInt),.list aa ((fB.cell 2).toList)])).set ((a:Int).toNat) (.agg [.int .i64 ((gf.cell 0).toInt),.int .i64 ((gf.cell 1).toInt),.list aa ((gf.cell 2).toList)]))]
       else none
       else none
      else none
      else none
     else
      bif (decide (0≤eF))&&(decide (eF<(((ak.set ((a:Int).toNat) (.agg [.int .i64 ((x1.cell 0).toInt),.int .i64 ((x1.cell 1).toInt),.list aa ((x1.cell 2).toList)])).set ((pivot:Int).toNat) (.agg [.int .i64 ((x2.cell 0).toInt),.int .i64 ((x2.cell 1).toInt),.list aa ((x2.cell 2).toList)])).length:Int))) then
      (((ak.set ((a:Int).toNat) (.agg [.int .i64 ((x1.cell 0).toInt),.int .i64 ((x1.cell 1).toInt),.list aa ((x1.cell 2).toList)])).set ((pivot:Int).toNat) (.agg [.int .i64 ((x2.cell 0).toInt),.int .i64 ((x2.cell 1).toInt),.list aa ((x2.cell 2).toList)]))[(eF:Int).toNat]?).bind fun oo=>
      bif (decide (0≤fj))&&(decide (fj<(((ak.set ((a:Int).toNat) (.agg [.int .i64 ((x1.cell 0).toInt),.int .i64 ((x1.cell 1).toInt),.list aa ((x1.cell 2).toList)])).set ((pivot:Int).toNat) (.agg [.int .i64 ((x2.cell 0).toInt),.int .i64 ((x2.cell 1).toInt),.list aa ((x2.cell 2).toList)])).length:Int))) then
       (((ak.set ((a:Int).toNat) (.agg [.int .i64 ((x1.cell 0).toInt),.int .i64 ((x1.cell 1).toInt),.list aa ((x1.cell 2).toList)])).set ((pivot:Int).toNat) (.agg [.int .i64 ((x2.cell 0).toInt),.int .i64 ((x2.cell 1).toInt),.list aa ((x2.cell 2).toList)]))[(fj:Int).toNat]?).bind fun sh=>
       bif (decide (0≤fj))&&(decide (fj<(((ak.set ((a:Int).toNat) (.agg [.int .i64 ((x1.cell 0).toInt),.int .i64 ((x1.cell 1).toInt),.list aa ((x1.cell 2).toList)])).set ((pivot:Int).toNat) (.agg [.int .i64 ((x2.cell 0).toInt),.int .i64 ((x2.cell 1).toInt),.list aa ((x2.cell 2).toList)])).length:Int))) then
       (((ak.set ((a:Int).toNat) (.agg [.int .i64 ((x1.cell 0).toInt),.int .i64 ((x1.cell 1).toInt),.list aa ((x1.cell 2).toList)])).set ((pivot:Int).toNat) (.agg [.int .i64 ((x2.cell 0).toInt),.int .i64 ((x2.cell 1).toInt),.list aa ((x2.cell 2).toList)]))[(fj:Int).toNat]?).bind fun zf=>
       bif (decide (0≤eF))&&(decide (eF<((((ak.set ((a:Int).toNat) (.agg [.int .i64 ((x1.cell 0).toInt),.int .i64 ((x1.cell 1).toInt),.list aa ((x1.cell 2).toList)])).set ((pivot:Int).toNat) (.agg [.int .i64 ((x2.cell 0).toInt),.int .i64 ((x2.cell 1).toInt),.list aa ((x2.cell 2).toList)])).set ((fj:Int).toNat) (.agg [.int .i64 ((oo.cell 0).toInt),.int .i64 ((oo.cell 1).toInt),.list aa ((oo.cell 2).toList)])).length:Int))) then
        ((((ak.set ((a:Int).toNat) (.agg [.int .i64 ((x1.cell 0).toInt),.int .i64 ((x1.cell 1).toInt),.list aa ((x1.cell 2).toList)])).set ((pivot:Int).toNat) (.agg [.int .i64 ((x2.cell 0).toInt),.int .i64 ((x2.cell 1).toInt),.list aa ((x2.cell 2).toList)])).set ((fj:Int).toNat) (.agg [.int .i64 ((oo.cell 0).toInt),.int .i64 ((oo.cell 1).toInt),.list aa ((oo.cell 2).toList)]))[(eF:Int).toNat]?).bind fun VK=>
        (Loop (zL C a) (IntKind.wrap .i64 (fj+1),IntKind.wrap .i64 (eF-1),(((ak.set ((a:Int).toNat) (.agg [.int .i64 ((x1.cell 0).toInt),.int .i64 ((x1.cell 1).toInt),.list aa ((x1.cell 2).toList)])).set ((pivot:Int).toNat) (.agg [.int .i64 ((x2.cell 0).toInt),.int .i64 ((x2.cell 1).toInt),.list aa ((x2.cell 2).toList)])).set ((fj:Int).toNat) (.agg [.int .i64 ((oo.cell 0).toInt),.int .i64 ((oo.cell 1).toInt),.list aa ((oo.cell 2).toList)])).set ((eF:Int).toNat) (.agg [.int .i64 ((sh.cell 0).toInt),.int .i64 ((sh.cell 1).toInt),.list aa ((sh.cell 2).toList)]))).bind (un fun (aeY:Int)=>un fun (qK:Int)=>un fun (Uw:Bool) (kg:List V)=>
         bif (decide (0≤a))&&(decide (a<(kg.length:Int))) then
         (kg[(a:Int).toNat]?).bind fun np=>
         bif (decide (0≤qK))&&(decide (qK<(kg.length:Int))) then
          (kg[(qK:Int).toNat]?).bind fun wK=>
          bif (decide (0≤qK))&&(decide (qK<(kg.length:Int))) then
          (kg[(qK:Int).toNat]?).bind fun x43=>
          bif (decide (0≤a))&&(decide (a<((kg.set ((qK:Int).toNat) (.agg [.int .i64 ((np.cell 0).toInt),.int .i64 ((np.cell 1).toInt),.list aa ((np.cell 2).toList)])).length:Int))) then
           ((kg.set ((qK:Int).toNat) (.agg [.int .i64 ((np.cell 0).toInt),.int .i64 ((np.cell 1).toInt),.list aa ((np.cell 2).toList)]))[(a:Int).toNat]?).bind fun x44=>
           some [.int .i64 qK,.bool false,.list aa ((kg.set ((qK:Int).toNat) (.agg [.int .i64 ((np.cell 0).toInt),.int .i64 ((np.cell 1).toInt),.list aa ((np.cell 2).toList)])).set ((a:Int).toNat) (.agg [.int .i64 ((wK.cell 0).toInt),.int .i64 ((wK.cell 1).toInt),.list aa ((wK.cell 2).toList)]))]
          else none
          else none
         else none
         else none)
       else none
       else none
      else none
      else none))
   else none
  else none
  else none
 else none
theorem aka {a b' pivot:Int} {ak:List V} {r:Option (List V)} (h:XI CC a b' pivot ak=r):CC oc [.int .i64 a,.int .i64 b',.int .i64 pivot,.list aa ak]=r:=
 aY (key:=100) (L:=XH CC) (bs:=[.loop (aw [1,1,1,0,0,0] qJ),.loop (aw [1,1,1,1,0,0,0] qJ),.loop (aw [1,1,1,1,1,1,1,1,1,0,0,0] qJ)]) (by kernel_rfl) (bq (aj5 CC) (bq (aj6 CC) (bq (aj9 CC) ax))) (aX (by kernel_rfl) h)
noncomputable abbrev zM:Code:=cg Tryz.prog (au.aP 99)
noncomputable def DI (C:ae) (a j:Int) (ak:List V) (i:Int) {β:Type} (kn:Int→Option β) (kr:(Int × Bool)→Option β):Option β:=
 bif decide ((i:Int)≤j) then
  bif (decide (0≤a))&&(decide (a<(ak.length:Int))) then
  (ak[(a:Int).toNat]?).bind fun x5=>
  bif (decide (0≤i))&&(decide (i<(ak.length:Int))) then
   (ak[(i:Int).toNat]?).bind fun x6=>
   (C bp [.int .i64 ((x5.cell 0).toInt),.int .i64 ((x5.cell 1).toInt),.list aa ((x5.cell 2).toList),.int .i64 ((x6.cell 0).toInt),.int .i64 ((x6.cell 1).toInt),.list aa ((x6.cell 2).toList)]).bind fun r7=>
   bif !(decide ((((V.nth r7 0).toInt):Int)<0)) then
   kn (IntKind.wrap .i64 (i+1))
   else
   kr (i,!(decide ((((V.nth r7 0).toInt):Int)<0)))
  else none
  else none
 else
  kr (i,false)
noncomputable def DJ (C:ae) (a j:Int) (ak:List V):(Int)→Option ((Int) ⊕ (Int × Bool)):=fun i=>DI C a j ak i (fun y=>some (.inl y)) (fun r=>some (.inr r))
noncomputable def zN (C:ae) (a i:Int) (ak:List V) (j:Int) {β:Type} (kn:Int→Option β) (kr:(Int × Bool)→Option β):Option β:=
 bif decide ((i:Int)≤j) then
  bif (decide (0≤a))&&(decide (a<(ak.length:Int))) then
  (ak[(a:Int).toNat]?).bind fun im=>
  bif (decide (0≤j))&&(decide (j<(ak.length:Int))) then
   (ak[(j:Int).toNat]?).bind fun et=>
   (C bp [.int .i64 ((im.cell 0).toInt),.int .i64 ((im.cell 1).toInt),.list aa ((im.cell 2).toList),.int .i64 ((et.cell 0).toInt),.int .i64 ((et.cell 1).toInt),.list aa ((et.cell 2).toList)]).bind fun eU=>
   bif decide ((((V.nth eU 0).toInt):Int)<0) then
   kn (IntKind.wrap .i64 (j-1))
   else
   kr (j,decide ((((V.nth eU 0).toInt):Int)<0))
  else none
  else none
 else
  kr (j,false)
noncomputable def zO (C:ae) (a i:Int) (ak:List V):(Int)→Option ((Int) ⊕ (Int × Bool)):=fun j=>zN C a i ak j (fun y=>some (.inl y)) (fun r=>some (.inr r))
noncomputable def DK (C:ae) (a i j:Int) (ak:List V) {β:Type} (kn:(Int × Int × (List V))→Option β) (kr:(Int × Int × Bool × (List V))→Option β):Option β:=
 (Loop (DJ C a j ak) i).bind (un fun (fj:Int) (oj:Bool)=>
  (Loop (zO C a fj ak) j).bind (un fun (eF:Int) (Ci:Bool)=>
   bif decide ((fj:Int)>eF) then
    kr (fj,eF,decide ((fj:Int)>eF),ak)
   else
    bif (decide (0≤eF))&&(decide (eF<(ak.length:Int))) then
    (ak[(eF:Int).toNat]?).bind fun fB=>
    bif (decide (0≤fj))&&(decide (fj<(ak.length:Int))) then
     (ak[(fj:Int).toNat]?).bind fun gf=>
     bif (decide (0≤fj))&&(decide (fj<(ak.length:Int))) then
     (ak[(fj:Int).toNat]?).bind fun py=>
     bif (decide (0≤eF))&&(decide (eF<((ak.set ((fj:Int).toNat) (.agg [.int .i64 ((fB.cell 0).toInt),.int .i64 ((fB.cell 1).toInt),.list aa ((fB.cell 2).toList)])).length:Int))) then
      ((ak.set ((fj:Int).toNat) (.agg [.int .i64 ((fB.cell 0).toInt),.int .i64 ((fB.cell 1).toInt),.list aa ((fB.cell 2).toList)]))[(eF:Int).toNat]?).bind fun wh=>
      kn (IntKind.wrap .i64 (fj+1),IntKind.wrap .i64 (eF-1),(ak.set ((fj:Int).toNat) (.agg [.int .i64 ((fB.cell 0).toInt),.int .i64 ((fB.cell 1).toInt),.list aa ((fB.cell 2).toList)])).set ((eF:Int).toNat) (.agg [.int .i64 ((gf.cell 0).toInt),.int .i64 ((gf.cell 1).toInt),.list aa ((gf.cell 2).toList)]))
     else none
     else none
    else none
    else none))
noncomputable def zP (C:ae) (a:Int):(Int × Int × (List V))→Option ((Int × Int × (List V)) ⊕ (Int × Int × Bool × (List V))):=un fun i=>un fun j ak=>DK C a i j ak (fun y=>some (.inl y)) (fun r=>some (.inr r))
noncomputable def XJ (C:ae):bZ:=fun β n ds k=>
 bif Nat.beq n 49 then bK Ni [false,true,false,false] [[1,0,3,0,4]] (@DI C) ds k else
 bif Nat.beq n 81 then bK Nj [false,false,true,false] [[1,2,0,0,4]] (@zN C) ds k else
 bif Nat.beq n 50 then bK Nk [false,true,true,true] [[1,0,0,0,0]] (@DK C) ds k else
 none
abbrev O0 (C:ae) (b:bX):Prop:=bY Tryz.prog au C (XJ C) 99 (cj Tryz.prog (au.aP 99)) (au.sin 99).ba.length b
theorem akb (C:ae):O0 C (.loop (aw [1,1,1,0,0,0,0,0,0,0] zM)):=
 bN Ni [false,true,false,false] [[1,0,3,0,4]] (@DI C) (by kernel_rfl) (a8 (bs:=[]) (by kernel_rfl) ax) (fun ds=>by kernel_rfl) (fun i x=>by kernel_rfl) (fun i x β k=>by kernel_rfl) (fun β ds k=>by kernel_rfl)
theorem akc (C:ae):O0 C (.loop (aw [1,1,1,0,0,0,0,1,0,0,0] zM)):=
 bN Nj [false,false,true,false] [[1,2,0,0,4]] (@zN C) (by kernel_rfl) (a8 (bs:=[]) (by kernel_rfl) ax) (fun ds=>by kernel_rfl) (fun i x=>by kernel_rfl) (fun i x β k=>by kernel_rfl) (fun β ds k=>by kernel_rfl)
theorem akd (C:ae):O0 C (.loop (aw [1,1,1,0,0,0] zM)):=
 bN Nk [false,true,true,true] [[1,0,0,0,0]] (@DK C) (by kernel_rfl) (a8 (bs:=[.loop (aw [1,1,1,0,0,0,0,0,0,0] zM),.loop (aw [1,1,1,0,0,0,0,1,0,0,0] zM)]) (by kernel_rfl) (bq (akb C) (bq (akc C) ax))) (fun ds=>by kernel_rfl) (fun i x=>by kernel_rfl) (fun i x β k=>by kernel_rfl) (fun β ds k=>by kernel_rfl)
noncomputable def XK (C:ae) (a b' pivot:Int) (ak:List V):Option (List V):=
 bif (decide (0≤pivot))&&(decide (pivot<(ak.length:Int))) then
  (ak[(pivot:Int).toNat]?).bind fun x1=>
  bif (decide (0≤a))&&(decide (a<(ak.length:Int))) then
  (ak[(a:Int).toNat]?).bind fun x2=>
  bif (decide (0≤a))&&(decide (a<(ak.length:Int))) then
   (ak[(a:Int).toNat]?).bind fun x3=>
   bif (decide (0≤pivot))&&(decide (pivot<((ak.set ((a:Int).toNat) (.agg [.int .i64 ((x1.cell 0).toInt),.int .i64 ((x1.cell 1).toInt),.list aa ((x1.cell 2).toList)])).length:Int))) then
   ((ak.set ((a:Int).toNat) (.agg [.int .i64 ((x1.cell 0).toInt),.int .i64 ((x1.cell 1).toInt),.list aa ((x1.cell 2).toList)]))[(pivot:Int).toNat]?).bind fun x4=>
   (Loop (zP C a) (IntKind.wrap .i64 (a+1),IntKind.wrap .i64 (b'-1),(ak.set ((a:Int).toNat) (.agg [.int .i64 ((x1.cell 0).toInt),.int .i64 ((x1.cell 1).toInt),.list aa ((x1.cell 2).toList)])).set ((pivot:Int).toNat) (.agg [.int .i64 ((x2.cell 0).toInt),.int .i64 ((x2.cell 1).toInt),.list aa ((x2.cell 2).toList)]))).bind (un fun (ake:Int)=>un fun (apr:Int)=>un fun (NR:Bool) (akf:List V)=>
    some [.int .i64 ake,.list aa akf])
   else none
  else none
  else none
 else none
theorem akg {a b' pivot:Int} {ak:List V} {r:Option (List V)} (h:XK CC a b' pivot ak=r):CC vG [.int .i64 a,.int .i64 b',.int .i64 pivot,.list aa ak]=r:=
 aY (key:=99) (L:=XJ CC) (bs:=[.loop (aw [1,1,1,0,0,0] zM)]) (by kernel_rfl) (bq (akd CC) ax) (aX (by kernel_rfl) h)
noncomputable abbrev oy:Code:=cg Tryz.prog (au.aP 98)
noncomputable def DL (C:ae) (a b' j:Int) (ak:List V) (i:Int) {β:Type} (kn:Int→Option β) (kr:(Int × Bool)→Option β):Option β:=
 bif decide ((i:Int)<b') then
  bif (decide (0≤i))&&(decide (i<(ak.length:Int))) then
  (ak[(i:Int).toNat]?).bind fun x1=>
  bif (decide (0≤(IntKind.wrap .i64 (i-1))))&&(decide ((IntKind.wrap .i64 (i-1))<(ak.length:Int))) then
   (ak[(IntKind.wrap .i64 (i-1):Int).toNat]?).bind fun x2=>
   (C bp [.int .i64 ((x1.cell 0).toInt),.int .i64 ((x1.cell 1).toInt),.list aa ((x1.cell 2).toList),.int .i64 ((x2.cell 0).toInt),.int .i64 ((x2.cell 1).toInt),.list aa ((x2.cell 2).toList)]).bind fun r3=>
   bif !(decide ((((V.nth r3 0).toInt):Int)<0)) then
   kn (IntKind.wrap .i64 (i+1))
   else
   kr (i,!(decide ((((V.nth r3 0).toInt):Int)<0)))
  else none
  else none
 else
  kr (i,false)
noncomputable def DM (C:ae) (a b' j:Int) (ak:List V):(Int)→Option ((Int) ⊕ (Int × Bool)):=fun i=>DL C a b' j ak i (fun y=>some (.inl y)) (fun r=>some (.inr r))
noncomputable def DN (C:ae) (a b' i j j':Int) (ak:List V) {β:Type} (kn:(Int × (List V))→Option β) (kr:(Int × (List V))→Option β):Option β:=
 bif decide ((j':Int)≥1) then
  bif (decide (0≤j'))&&(decide (j'<(ak.length:Int))) then
  (ak[(j':Int).toNat]?).bind fun im=>
  bif (decide (0≤(IntKind.wrap .i64 (j'-1))))&&(decide ((IntKind.wrap .i64 (j'-1))<(ak.length:Int))) then
   (ak[(IntKind.wrap .i64 (j'-1):Int).toNat]?).bind fun et=>
   (C bp [.int .i64 ((im.cell 0).toInt),.int .i64 ((im.cell 1).toInt),.list aa ((im.cell 2).toList),.int .i64 ((et.cell 0).toInt),.int .i64 ((et.cell 1).toInt),.list aa ((et.cell 2).toList)]).bind fun eU=>
   bif !(decide ((((V.nth eU 0).toInt):Int)<0)) then
   kr (j',ak)
   else
   bif (decide (0≤(IntKind.wrap .i64 (j'-1))))&&(decide ((IntKind.wrap .i64 (j'-1))<(ak.length:Int))) then
    (ak[(IntKind.wrap .i64 (j'-1):Int).toNat]?).bind fun iN=>
    bif (decide (0≤j'))&&(decide (j'<(ak.length:Int))) then
    (ak[(j':Int).toNat]?).bind fun mw=>
    bif (decide (0≤j'))&&(decide (j'<(ak.length:Int))) then
     (ak[(j':Int).toNat]?).bind fun fB=>
     bif (decide (0≤(IntKind.wrap .i64 (j'-1))))&&(decide ((IntKind.wrap .i64 (j'-1))<((ak.set ((j':Int).toNat) (.agg [.int .i64 ((iN.cell 0).toInt),.int .i64 ((iN.cell 1).toInt),.list aa ((iN.cell 2).toList)])).length:Int))) then
     ((ak.set ((j':Int).toNat) (.agg [.int .i64 ((iN.cell 0).toInt),.int .i64 ((iN.cell 1).toInt),.list aa ((iN.cell 2).toList)]))[(IntKind.wrap .i64 (j'-1):Int).toNat]?).bind fun gf=>
     kn (IntKind.wrap .i64 (j'-1),(ak.set ((j':Int).toNat) (.agg [.int .i64 ((iN.cell 0).toInt),.int .i64 ((iN.cell 1).toInt),.list aa ((iN.cell 2).toList)])).set ((IntKind.wrap .i64 (j'-1):Int).toNat) (.agg [.int .i64 ((mw.cell 0).toInt),.int .i64 ((mw.cell 1).toInt),.list aa ((mw.cell 2).toList)]))
     else none
    else none
    else none
   else none
  else none
  else none
 else
  kr (j',ak)
noncomputable def DO (C:ae) (a b' i j:Int):(Int × (List V))→Option ((Int × (List V)) ⊕ (Int × (List V))):=un fun j' ak=>DN C a b' i j j' ak (fun y=>some (.inl y)) (fun r=>some (.inr r))
noncomputable def IE (C:ae) (a b' i j:Int) (t65:Bool) (ak:List V) {β:Type} (kr:(List V)→Option β):Option β:=
 bif t65 then
  (Loop (DO C a b' i j) (IntKind.wrap .i64 (i-1),ak)).bind (un fun (aps:Int) (akh:List V)=>
   kr akh)
 else
  kr ak
noncomputable def DP (C:ae) (a b' i j j':Int) (ak:List V) {β:Type} (kn:(Int × (List V))→Option β) (kr:(Int × (List V))→Option β):Option β:=
 bif decide ((j':Int)<b') then
  bif (decide (0≤j'))&&(decide (j'<(ak.length:Int))) then
  (ak[(j':Int).toNat]?).bind fun sh=>
  bif (decide (0≤(IntKind.wrap .i64 (j'-1))))&&(decide ((IntKind.wrap .i64 (j'-1))<(ak.length:Int))) then
   (ak[(IntKind.wrap .i64 (j'-1):Int).toNat]?).bind fun zf=>
   (C bp [.int .i64 ((sh.cell 0).toInt),.int .i64 ((sh.cell 1).toInt),.list aa ((sh.cell 2).toList),.int .i64 ((zf.cell 0).toInt),.int .i64 ((zf.cell 1).toInt),.list aa ((zf.cell 2).toList)]).bind fun kX=>
   bif !(decide ((((V.nth kX 0).toInt):Int)<0)) then
   kr (j',ak)
   else
   bif (decide (0≤(IntKind.wrap .i64 (j'-1))))&&(decide ((IntKind.wrap .i64 (j'-1))<(ak.length:Int))) then
    (ak[(IntKind.wrap .i64 (j'-1):Int).toNat]?).bind fun iO=>
    bif (decide (0≤j'))&&(decide (j'<(ak.length:Int))) then
    (ak[(j':Int).toNat]?).bind fun tO=>
    bif (decide (0≤j'))&&(decide (j'<(ak.length:Int))) then
     (ak[(j':Int).toNat]?).bind fun x25=>
     bif (decide (0≤(IntKind.wrap .i64 (j'-1))))&&(decide ((IntKind.wrap .i64 (j'-1))<((ak.set ((j':Int).toNat) (.agg [.int .i64 ((iO.cell 0).toInt),.int .i64 ((iO.cell 1).toInt),.list aa ((iO.cell 2).toList)])).length:Int))) then
     ((ak.set ((j':Int).toNat) (.agg [.int .i64 ((iO.cell 0).toInt),.int .i64 ((iO.cell 1).toInt),.list aa ((iO.cell 2).toList)]))[(IntKind.wrap .i64 (j'-1):Int).toNat]?).bind fun x26=>
     kn (IntKind.wrap .i64 (j'+1),(ak.set ((j':Int).toNat) (.agg [.int .i64 ((iO.cell 0).toInt),.int .i64 ((iO.cell 1).toInt),.list aa ((iO.cell 2).toList)])).set ((IntKind.wrap .i64 (j'-1):Int).toNat) (.agg [.int .i64 ((tO.cell 0).toInt),.int .i64 ((tO.cell 1).toInt),.list aa ((tO.cell 2).toList)]))
     else none
    else none
    else none
   else none
  else none
  else none
 else
  kr (j',ak)
noncomputable def DQ (C:ae) (a b' i j:Int):(Int × (List V))→Option ((Int × (List V)) ⊕ (Int × (List V))):=un fun j' ak=>DP C a b' i j j' ak (fun y=>some (.inl y)) (fun r=>some (.inr r))
noncomputable def DR (C:ae) (a b' i j:Int) (ak:List V) {β:Type} (kn:(Int × Int × (List V))→Option β) (kr:((Bool × (List V)) ⊕ (Int × Int × Bool × (List V)))→Option β):Option β:=
 bif decide ((j:Int)<5) then
  (Loop (DM C a b' j ak) i).bind (un fun (fh:Int) (ik:Bool)=>
   bif (fh:Int)==b' then
   kr (.inl (true,ak))
   else
   bif decide (((IntKind.wrap .i64 (b'-a)):Int)<50) then
    kr (.inl (false,ak))
   else
    bif (decide (0≤(IntKind.wrap .i64 (fh-1))))&&(decide ((IntKind.wrap .i64 (fh-1))<(ak.length:Int))) then
    (ak[(IntKind.wrap .i64 (fh-1):Int).toNat]?).bind fun x6=>
    bif (decide (0≤fh))&&(decide (fh<(ak.length:Int))) then
     (ak[(fh:Int).toNat]?).bind fun x7=>
     bif (decide (0≤fh))&&(decide (fh<(ak.length:Int))) then
     (ak[(fh:Int).toNat]?).bind fun x8=>
     bif (decide (0≤(IntKind.wrap .i64 (fh-1))))&&(decide ((IntKind.wrap .i64 (fh-1))<((ak.set ((fh:Int).toNat) (.agg [.int .i64 ((x6.cell 0).toInt),.int .i64 ((x6.cell 1).toInt),.list aa ((x6.cell 2).toList)])).length:Int))) then
      ((ak.set ((fh:Int).toNat) (.agg [.int .i64 ((x6.cell 0).toInt),.int .i64 ((x6.cell 1).toInt),.list aa ((x6.cell 2).toList)]))[(IntKind.wrap .i64 (fh-1):Int).toNat]?).bind fun x9=>
      IE C a b' fh j (decide (((IntKind.wrap .i64 (fh-a)):Int)≥2)) ((ak.set ((fh:Int).toNat) (.agg [.int .i64 ((x6.cell 0).toInt),.int .i64 ((x6.cell 1).toInt),.list aa ((x6.cell 2).toList)])).set ((IntKind.wrap .i64 (fh-1):Int).toNat) (.agg [.int .i64 ((x7.cell 0).toInt),.int .i64 ((x7.cell 1).toInt),.list aa ((x7.cell 2).toList)])) (fun (XL:List V)=>
       bif decide (((IntKind.wrap .i64 (b'-fh)):Int)≥2) then
       (Loop (DQ C a b' fh j) (IntKind.wrap .i64 (fh+1),XL)).bind (un fun (apt:Int) (aki:List V)=>
        kn (fh,IntKind.wrap .i64 (j+1),aki))
       else
       kn (fh,IntKind.wrap .i64 (j+1),XL))
     else none
     else none
    else none
    else none)
 else
  kr (.inr (i,j,decide ((j:Int)<5),ak))
noncomputable def tZ (C:ae) (a b':Int):(Int × Int × (List V))→Option ((Int × Int × (List V)) ⊕ ((Bool × (List V)) ⊕ (Int × Int × Bool × (List V)))):=un fun i=>un fun j ak=>DR C a b' i j ak (fun y=>some (.inl y)) (fun r=>some (.inr r))
noncomputable def XM (C:ae):bZ:=fun β n ds k=>
 bif Nat.beq n 81 then bK Nc [false,false,true,false,false] [[1,2,0,4,0,5]] (@DL C) ds k else
 bif Nat.beq n 225 then bK Nd [false,false,false,false,true,true] [[1,2,3,4,0,0]] (@DN C) ds k else
 bif Nat.beq n 1055 then iM Nf [[1,2,3,4,0]] (@IE C) ds k else
 bif Nat.beq n 321 then bK Ng [false,false,false,false,true,true] [[1,2,3,4,0,0]] (@DP C) ds k else
 bif Nat.beq n 49 then bK Nh [false,false,true,true,true] [[0,0],[1,2,0,0,0,0]] (@DR C) ds k else
 none
abbrev DS (C:ae) (b:bX):Prop:=bY Tryz.prog au C (XM C) 98 (cj Tryz.prog (au.aP 98)) (au.sin 98).ba.length b
theorem akj (C:ae):DS C (.loop (aw [1,1,0,1,0,0,1,0,0,0,0,0] oy)):=
 bN Nc [false,false,true,false,false] [[1,2,0,4,0,5]] (@DL C) (by kernel_rfl) (a8 (bs:=[]) (by kernel_rfl) ax) (fun ds=>by kernel_rfl) (fun i x=>by kernel_rfl) (fun i x β k=>by kernel_rfl) (fun β ds k=>by kernel_rfl)
theorem akk (C:ae):DS C (.loop (aw [1,1,0,1,0,0,1,0,0,1,1,1,1,0,1,0,1,0,0] oy)):=
 bN Nd [false,false,false,false,true,true] [[1,2,3,4,0,0]] (@DN C) (by kernel_rfl) (a8 (bs:=[]) (by kernel_rfl) ax) (fun ds=>by kernel_rfl) (fun i x=>by kernel_rfl) (fun i x β k=>by kernel_rfl) (fun β ds k=>by kernel_rfl)
theorem akl (C:ae):DS C (.cond 65 (aw [1,1,0,1,0,0,1,0,0,1,1,1,1,0,1,0] oy) (aw [1,1,0,1,0,0,1,0,0,1,1,1,1,0,1,1] oy)):=
 jq Nf [[1,2,3,4,0]] (@IE C) (by kernel_rfl) (a8 (bs:=[.loop (aw [1,1,0,1,0,0,1,0,0,1,1,1,1,0,1,0,1,0,0] oy)]) (by kernel_rfl) (bq (akk C) ax)) (a8 (bs:=[]) (by kernel_rfl) ax) (fun ds=>by kernel_rfl) (fun i β k=>by kernel_rfl) (fun β ds k=>by kernel_rfl)
theorem akm (C:ae):DS C (.loop (aw [1,1,0,1,0,0,1,0,0,1,1,1,1,1,1,0,1,0,0] oy)):=
 bN Ng [false,false,false,false,true,true] [[1,2,3,4,0,0]] (@DP C) (by kernel_rfl) (a8 (bs:=[]) (by kernel_rfl) ax) (fun ds=>by kernel_rfl) (fun i x=>by kernel_rfl) (fun i x β k=>by kernel_rfl) (fun β ds k=>by kernel_rfl)
theorem akn (C:ae):DS C (.loop (aw [1,1,0,1,0,0] oy)):=
 bN Nh [false,false,true,true,true] [[0,0],[1,2,0,0,0,0]] (@DR C) (by kernel_rfl) (a8 (bs:=[.loop (aw [1,1,0,1,0,0,1,0,0,0,0,0] oy),.cond 65 (aw [1,1,0,1,0,0,1,0,0,1,1,1,1,0,1,0] oy) (aw [1,1,0,1,0,0,1,0,0,1,1,1,1,0,1,1] oy),.loop (aw [1,1,0,1,0,0,1,0,0,1,1,1,1,1,1,0,1,0,0] oy)]) (by kernel_rfl) (bq (akj C) (bq (akl C) (bq (akm C) ax)))) (fun ds=>by kernel_rfl) (fun i x=>by kernel_rfl) (fun i x β k=>by kernel_rfl) (fun β ds k=>by kernel_rfl)
noncomputable def XN (C:ae) (a b':Int) (ak:List V):Option (List V):=
 (Loop (tZ C a b') (IntKind.wrap .i64 (a+1),0,ak)).bind (cu (un fun (Ur:Bool) (ako:List V)=>
  some [.bool Ur,.list aa ako]) (un fun (apu:Int)=>un fun (apv:Int)=>un fun (Ut:Bool) (akp:List V)=>
  some [.bool false,.list aa akp]))
theorem akq {a b':Int} {ak:List V} {r:Option (List V)} (h:XN CC a b' ak=r):CC Hl [.int .i64 a,.int .i64 b',.list aa ak]=r:=
 aY (key:=98) (L:=XM CC) (bs:=[.loop (aw [1,1,0,1,0,0] oy)]) (by kernel_rfl) (bq (akn CC) ax) (aX (by kernel_rfl) h)
end Go.AM
set_option maxRecDepth 100000
set_option maxHeartbeats 4000000
namespace Go.AM.SX
open Go.Proofs Go.Sort
theorem zQ (p:XE→Bool) (d:Array XE) (j i:Nat):scanUp p d j i=if i≤j then (if p d[i]! =true then scanUp p d j (i+1) else i) else i:=by
 conv=>lhs;rw[scanUp]
 by_cases h:i≤j
 ·rw[ag h];simp only[h,oM,km]
 ·rw[ah h,ah (by simp[h])]
theorem O1 (p:XE→Bool) (d:Array XE) (i j:Nat):scanDown p d i (j+1)=if i≤j+1 then (if p d[j+1]! =true then scanDown p d i j else j+1) else j+1:=by
 conv=>lhs;rw[scanDown]
 by_cases h:i≤j+1
 ·rw[ag h];simp only[h,oM,km]
 ·rw[ah h,ah (by simp[h])]
theorem IF (d:Array XE) (b i:Nat):scanSorted aA d b i=if i<b then (if b8 d[i]! d[i-1]! <0 then i else scanSorted aA d b (i+1)) else i:=by
 conv=>lhs;rw[scanSorted]
 by_cases h:i<b
 ·rw[ag h];simp only[h,oM,km,sy]
  by_cases U:b8 d[i]! d[i-1]! <0
  ·rw[ah (qZ U),ag U]
  ·rw[ag U,ah U]
 ·rw[ah h,ah (by simp[h])]
theorem XO (j:Nat) (d:Array XE):shiftDown aA (j+1) d=if b8 d[j+1]! d[j]! <0 then shiftDown aA j (swp d (j+1) j) else d:=by
 conv=>lhs;rw[shiftDown]
 simp only[sy]
 by_cases U:b8 d[j+1]! d[j]! <0
 ·rw[ah (qZ U),ag U]
 ·rw[ag U,ah U]
theorem IG (b j:Nat) (d:Array XE):shiftUp aA b j d=if j<b then (if b8 d[j]! d[j-1]! <0 then shiftUp aA b (j+1) (swp d j (j-1)) else d) else d:=by
 conv=>lhs;rw[shiftUp]
 simp only[sy]
 by_cases h:j<b
 ·rw[ag h,ag h]
  by_cases U:b8 d[j]! d[j-1]! <0
  ·rw[ah (qZ U),ag U]
  ·rw[ag U,ah U]
 ·rw[ah h,ah h]
theorem akr {a:Nat}: ∀(n i j:Nat) (d:Array XE),j+1-i≤n→(partLoop aA a i j d).2.size=d.size∧(partLoop aA a i j d).1≤j:=by
 intro n
 induction n with
 | zero=>
  intro i j d hn
  have h1:=scanUp_ge (fun x=>aA x d[a]!) d j i
  have U:=scanDown_le (fun x=> !aA x d[a]!) d (scanUp (fun x=>aA x d[a]!) d j i) j
  rw[partLoop_eq,ag (by omega)]
  exact ⟨rfl,U⟩
 | succ n ih=>
  intro i j d hn
  rw[partLoop_eq]
  have h1:=scanUp_ge (fun x=>aA x d[a]!) d j i
  have U:=scanDown_le (fun x=> !aA x d[a]!) d (scanUp (fun x=>aA x d[a]!) d j i) j
  split
  ·exact ⟨rfl,U⟩
  ·obtain ⟨h3,h4⟩:=ih (scanUp (fun x=>aA x d[a]!) d j i+1) (scanDown (fun x=> !aA x d[a]!) d (scanUp (fun x=>aA x d[a]!) d j i) j-1) (swp d (scanUp (fun x=>aA x d[a]!) d j i) (scanDown (fun x=> !aA x d[a]!) d (scanUp (fun x=>aA x d[a]!) d j i) j)) (by omega)
   exact ⟨by rw[h3,size_swp],by omega⟩
theorem kY {β:Type} {d:Array XE} {i:Nat} {x y:Option β} (h:i<d.size):(bif (decide (0≤(i:Int)))&&(decide ((i:Int)<((eA d).length:Int))) then x else y)=x:=by
 rw[gi,ct,az,ag (by omega),az,ag (by omega)]
theorem IH {β:Type} {d:Array XE} {i k:Nat} {v:V} {x y:Option β} (h:i<d.size):(bif (decide (0≤(i:Int)))&&(decide ((i:Int)<(((eA d).set k v).length:Int))) then x else y)=x:=by
 rw[ny,gi,ct,az,ag (by omega),az,ag (by omega)]
theorem kZ {β:Type} {d:Array XE} {i:Nat} {f:V→Option β} (h:i<d.size):((eA d)[(i:Int).toNat]?).bind f=f (d[i]!).enc:=by
 rw[Int.toNat_natCast,gk h];rfl
theorem II {β:Type} {d:Array XE} {i k:Nat} {v:V} {x:Option β} (h:i<d.size):(((eA d).set k v)[(i:Int).toNat]?).bind (fun _=>x)=x:=by
 rw[Int.toNat_natCast,bH (by rw[ny,gi];exact h)];rfl
theorem sB {β:Type} {d:Array XE} {i:Nat} {f:V→Option β} (h:i<d.size):((eA d)[i]?).bind f=f (d[i]!).enc:=by
 rw[gk h];rfl
theorem O2 {β:Type} {d:Array XE} {i k:Nat} {v:V} {x:Option β} (h:i<d.size):(((eA d).set k v)[i]?).bind (fun _=>x)=x:=by
 rw[bH (by rw[ny,gi];exact h)];rfl
theorem aks {a j:Nat} {d:Array XE} (ha:a<d.size) (hj:j<d.size) (hs:d.size<1152921504606846976): ∀(n i:Nat),j+1-i=n→i≤d.size→
  ∃t,Loop (DD CC a j (eA d)) (i:Int)=some (((scanUp (fun x=>aA x d[a]!) d j i:Nat):Int),t):=by
 intro n
 induction n with
 | zero=>
  intro i hn hi
  rw[zQ,ah (by omega)]
  exact ⟨false,bj (by simp (disch:=omega) only[DD,DC,az,ah])⟩
 | succ n ih=>
  intro i hn hi
  obtain ⟨t,h⟩:=ih (i+1) (by omega) (by omega)
  rw[zQ,ag (by omega)]
  have e:DD CC a j (eA d) (i:Int)=if b8 d[i]! d[a]! <0 then some (.inl ((i+1:Nat):Int)) else some (.inr ((i:Int),decide (b8 d[i]! d[a]! <0))):=by
   simp (disch:=omega) only[DD,DC,az,ct,gd,ag,ah,wrap64,dV,gl,Int.toNat_natCast,Option.bind_some,gi,gk,XE.bz,XE.bA,XE.bB,XE.re,gj,iR,gX,gS,V.aC,V.toInt_int,cond_true,cond_false]
  simp only[tY]
  by_cases U:b8 d[i]! d[a]! <0
  ·rw[ag U] at e
   rw[ag U]
   exact ⟨t,(bW e).trans h⟩
  ·rw[ah U] at e
   rw[ah U]
   exact ⟨_,bj e⟩
theorem XP {a j:Nat} {d:Array XE} (ha:a<d.size) (hj:j<d.size) (hs:d.size<1152921504606846976): ∀(n i:Nat),j+1-i=n→i≤d.size→
  ∃t,Loop (DF CC a j (eA d)) (i:Int)=some (((scanUp (fun x=>aA x d[a]!) d j i:Nat):Int),t):=by
 intro n
 induction n with
 | zero=>
  intro i hn hi
  rw[zQ,ah (by omega)]
  exact ⟨false,bj (by simp (disch:=omega) only[DF,DE,az,ah])⟩
 | succ n ih=>
  intro i hn hi
  obtain ⟨t,h⟩:=ih (i+1) (by omega) (by omega)
  rw[zQ,ag (by omega)]
  have e:DF CC a j (eA d) (i:Int)=if b8 d[i]! d[a]! <0 then some (.inl ((i+1:Nat):Int)) else some (.inr ((i:Int),decide (b8 d[i]! d[a]! <0))):=by
   simp (disch:=omega) only[DF,DE,az,ct,gd,ag,ah,wrap64,dV,gl,Int.toNat_natCast,Option.bind_some,gi,gk,XE.bz,XE.bA,XE.bB,XE.re,gj,iR,gX,gS,V.aC,V.toInt_int,cond_true,cond_false]
  simp only[tY]
  by_cases U:b8 d[i]! d[a]! <0
  ·rw[ag U] at e
   rw[ag U]
   exact ⟨t,(bW e).trans h⟩
  ·rw[ah U] at e
   rw[ah U]
   exact ⟨_,bj e⟩
theorem XQ {a i:Nat} {d:Array XE} (ha:a<d.size) (hi:1≤i) (hs:d.size<1152921504606846976): ∀(j:Nat),j<d.size→
  ∃t,Loop (zI CC a i (eA d)) (j:Int)=some (((scanDown (fun x=> !aA x d[a]!) d i j:Nat):Int),t)
 | 0,hj=>⟨false,bj (by simp (disch:=omega) only[zI,zH,az,ah];rfl)⟩
 | j+1,hj=>by
  obtain ⟨t,h⟩:=XQ ha hi hs j (by omega)
  rw[O1]
  by_cases h1:i≤j+1
  ·rw[ag h1]
   have e:zI CC a i (eA d) ((j+1:Nat):Int)=if b8 d[j+1]! d[a]! <0 then some (.inr (((j+1:Nat):Int),!decide (b8 d[j+1]! d[a]! <0))) else some (.inl (j:Int)):=by
    simp (disch:=omega) only[zI,zH,az,ct,gd,ag,ah,wrap64,dV,gl,Int.toNat_natCast,Option.bind_some,gi,gk,XE.bz,XE.bA,XE.bB,XE.re,gj,iR,gX,gS,V.aC,V.toInt_int,cond_true,cond_false,wG]
   simp only[sy]
   by_cases U:b8 d[j+1]! d[a]! <0
   ·rw[ag U] at e
    rw[ah (qZ U)]
    exact ⟨_,bj e⟩
   ·rw[ah U] at e
    rw[ag U]
    exact ⟨t,(bW e).trans h⟩
  ·rw[ah h1]
   exact ⟨false,bj (by simp (disch:=omega) only[zI,zH,az,ah])⟩
theorem pr {a i:Nat} {d:Array XE} (ha:a<d.size) (hi:1≤i) (hs:d.size<1152921504606846976): ∀(j:Nat),j<d.size→
  ∃t,Loop (zK CC a i (eA d)) (j:Int)=some (((scanDown (fun x=> !aA x d[a]!) d i j:Nat):Int),t)
 | 0,hj=>⟨false,bj (by simp (disch:=omega) only[zK,zJ,az,ah];rfl)⟩
 | j+1,hj=>by
  obtain ⟨t,h⟩:=pr ha hi hs j (by omega)
  rw[O1]
  by_cases h1:i≤j+1
  ·rw[ag h1]
   have e:zK CC a i (eA d) ((j+1:Nat):Int)=if b8 d[j+1]! d[a]! <0 then some (.inr (((j+1:Nat):Int),!decide (b8 d[j+1]! d[a]! <0))) else some (.inl (j:Int)):=by
    simp (disch:=omega) only[zK,zJ,az,ct,gd,ag,ah,wrap64,dV,gl,Int.toNat_natCast,Option.bind_some,gi,gk,XE.bz,XE.bA,XE.bB,XE.re,gj,iR,gX,gS,V.aC,V.toInt_int,cond_true,cond_false,wG]
   simp only[sy]
   by_cases U:b8 d[j+1]! d[a]! <0
   ·rw[ag U] at e
    rw[ah (qZ U)]
    exact ⟨_,bj e⟩
   ·rw[ah U] at e
    rw[ag U]
    exact ⟨t,(bW e).trans h⟩
  ·rw[ah h1]
   exact ⟨false,bj (by simp (disch:=omega) only[zK,zJ,az,ah])⟩
theorem XR {a j:Nat} {d:Array XE} (ha:a<d.size) (hj:j<d.size) (hs:d.size<1152921504606846976): ∀(n i:Nat),j+1-i=n→i≤d.size→
  ∃t,Loop (DJ CC a j (eA d)) (i:Int)=some (((scanUp (fun x=> !aA d[a]! x) d j i:Nat):Int),t):=by
 intro n
 induction n with
 | zero=>
  intro i hn hi
  rw[zQ,ah (by omega)]
  exact ⟨false,bj (by simp (disch:=omega) only[DJ,DI,az,ah])⟩
 | succ n ih=>
  intro i hn hi
  obtain ⟨t,h⟩:=ih (i+1) (by omega) (by omega)
  rw[zQ,ag (by omega)]
  have e:DJ CC a j (eA d) (i:Int)=if b8 d[a]! d[i]! <0 then some (.inr ((i:Int),!decide (b8 d[a]! d[i]! <0))) else some (.inl ((i+1:Nat):Int)):=by
   simp (disch:=omega) only[DJ,DI,az,ct,gd,ag,ah,wrap64,dV,gl,Int.toNat_natCast,Option.bind_some,gi,gk,XE.bz,XE.bA,XE.bB,XE.re,gj,iR,gX,gS,V.aC,V.toInt_int,cond_true,cond_false]
  simp only[sy]
  by_cases U:b8 d[a]! d[i]! <0
  ·rw[ag U] at e
   rw[ah (qZ U)]
   exact ⟨_,bj e⟩
  ·rw[ah U] at e
   rw[ag U]
   exact ⟨t,(bW e).trans h⟩
theorem O3 {a i:Nat} {d:Array XE} (ha:a<d.size) (hi:1≤i) (hs:d.size<1152921504606846976): ∀(j:Nat),j<d.size→
  ∃t,Loop (zO CC a i (eA d)) (j:Int)=some (((scanDown (fun x=>aA d[a]! x) d i j:Nat):Int),t)
 | 0,hj=>⟨false,bj (by simp (disch:=omega) only[zO,zN,az,ah];rfl)⟩
 | j+1,hj=>by
  obtain ⟨t,h⟩:=O3 ha hi hs j (by omega)
  rw[O1]
  by_cases h1:i≤j+1
  ·rw[ag h1]
   have e:zO CC a i (eA d) ((j+1:Nat):Int)=if b8 d[a]! d[j+1]! <0 then some (.inl (j:Int)) else some (.inr (((j+1:Nat):Int),decide (b8 d[a]! d[j+1]! <0))):=by
    simp (disch:=omega) only[zO,zN,az,ct,gd,ag,ah,wrap64,dV,gl,Int.toNat_natCast,Option.bind_some,gi,gk,XE.bz,XE.bA,XE.bB,XE.re,gj,iR,gX,gS,V.aC,V.toInt_int,cond_true,cond_false,wG]
   simp only[tY]
   by_cases U:b8 d[a]! d[j+1]! <0
   ·rw[ag U] at e
    rw[ag U]
    exact ⟨t,(bW e).trans h⟩
   ·rw[ah U] at e
    rw[ah U]
    exact ⟨_,bj e⟩
  ·rw[ah h1]
   exact ⟨false,bj (by simp (disch:=omega) only[zO,zN,az,ah])⟩
theorem akt {a:Nat}: ∀(n i j:Nat) (d:Array XE),j+1-i≤n→1≤i→i≤d.size→a<d.size→j<d.size→d.size<1152921504606846976→
  ∃x z,Loop (zL CC a) ((i:Int),(j:Int),eA d)=some (x,(((partLoop aA a i j d).1:Nat):Int),z,eA (partLoop aA a i j d).2):=by
 intro n
 induction n with
 | zero=>
  intro i j d hn h1 U ha hj hs
  obtain ⟨t3,e3⟩:=XP (a:=a) ha hj hs _ i rfl U
  have g1:=scanUp_ge (fun x=>aA x d[a]!) d j i
  have g2:=scanDown_le (fun x=> !aA x d[a]!) d (scanUp (fun x=>aA x d[a]!) d j i) j
  obtain ⟨t4,e4⟩:=pr (a:=a) (i:=scanUp (fun x=>aA x d[a]!) d j i) ha (by omega) hs j hj
  rw[partLoop_eq,ag (by omega)]
  refine ⟨((scanUp (fun x=>aA x d[a]!) d j i:Nat):Int),true,bj ?_⟩
  simp only[zL,DG,un]
  rw[e3]
  simp only[Option.bind_some,un]
  rw[e4]
  simp (disch:=omega) only[Option.bind_some,un,ou,cond_true]
 | succ n ih=>
  intro i j d hn h1 U ha hj hs
  obtain ⟨t3,e3⟩:=XP (a:=a) ha hj hs _ i rfl U
  have g1:=scanUp_ge (fun x=>aA x d[a]!) d j i
  have g2:=scanDown_le (fun x=> !aA x d[a]!) d (scanUp (fun x=>aA x d[a]!) d j i) j
  obtain ⟨t4,e4⟩:=pr (a:=a) (i:=scanUp (fun x=>aA x d[a]!) d j i) ha (by omega) hs j hj
  rw[partLoop_eq]
  have f:zL CC a ((i:Int),(j:Int),eA d)=zL CC a ((i:Int),(j:Int),eA d):=rfl
  conv at f=>rhs;simp only[zL,DG,un];rw[e3];simp only[Option.bind_some,un];rw[e4];simp only[Option.bind_some,un]
  generalize ia:scanUp (fun x=>aA x d[a]!) d j i=i2 at*
  generalize gv:scanDown (fun x=> !aA x d[a]!) d i2 j=j2 at*
  by_cases h:i2>j2
  ·rw[ag h]
   refine ⟨(i2:Int),true,bj (f.trans ?_)⟩
   simp (disch:=omega) only[Option.bind_some,ou,cond_true]
  ·rw[ah h]
   obtain ⟨x,z,e⟩:=ih (i2+1) (j2-1) (swp d i2 j2) (by omega) (by omega) (by rw[size_swp];omega) (by rw[size_swp];omega) (by rw[size_swp];omega) (by rw[size_swp];omega)
   refine ⟨x,z,(bW (f.trans ?_)).trans e⟩
   simp (disch:=omega) only[az,ct,gd,ag,ah,wrap64,dV,gl,Int.toNat_natCast,Option.bind_some,gi,gk,XE.bz,XE.bA,XE.bB,XE.re,gj,iR,gX,gS,V.aC,V.toInt_int,cond_true,cond_false,kW]
   rfl
theorem aku (d:Array XE) (a b pivot:Nat):partition aA d a b pivot=
  if scanUp (fun x=>aA x (swp d a pivot)[a]!) (swp d a pivot) (b-1) (a+1)>scanDown (fun x=> !aA x (swp d a pivot)[a]!) (swp d a pivot) (scanUp (fun x=>aA x (swp d a pivot)[a]!) (swp d a pivot) (b-1) (a+1)) (b-1) then
   (scanDown (fun x=> !aA x (swp d a pivot)[a]!) (swp d a pivot) (scanUp (fun x=>aA x (swp d a pivot)[a]!) (swp d a pivot) (b-1) (a+1)) (b-1),true,swp (swp d a pivot) (scanDown (fun x=> !aA x (swp d a pivot)[a]!) (swp d a pivot) (scanUp (fun x=>aA x (swp d a pivot)[a]!) (swp d a pivot) (b-1) (a+1)) (b-1)) a)
  else
   ((partLoop aA a (scanUp (fun x=>aA x (swp d a pivot)[a]!) (swp d a pivot) (b-1) (a+1)+1) (scanDown (fun x=> !aA x (swp d a pivot)[a]!) (swp d a pivot) (scanUp (fun x=>aA x (swp d a pivot)[a]!) (swp d a pivot) (b-1) (a+1)) (b-1)-1) (swp (swp d a pivot) (scanUp (fun x=>aA x (swp d a pivot)[a]!) (swp d a pivot) (b-1) (a+1)) (scanDown (fun x=> !aA x (swp d a pivot)[a]!) (swp d a pivot) (scanUp (fun x=>aA x (swp d a pivot)[a]!) (swp d a pivot) (b-1) (a+1)) (b-1)))).1,false,
    swp (partLoop aA a (scanUp (fun x=>aA x (swp d a pivot)[a]!) (swp d a pivot) (b-1) (a+1)+1) (scanDown (fun x=> !aA x (swp d a pivot)[a]!) (swp d a pivot) (scanUp (fun x=>aA x (swp d a pivot)[a]!) (swp d a pivot) (b-1) (a+1)) (b-1)-1) (swp (swp d a pivot) (scanUp (fun x=>aA x (swp d a pivot)[a]!) (swp d a pivot) (b-1) (a+1)) (scanDown (fun x=> !aA x (swp d a pivot)[a]!) (swp d a pivot) (scanUp (fun x=>aA x (swp d a pivot)[a]!) (swp d a pivot) (b-1) (a+1)) (b-1)))).2
    (partLoop aA a (scanUp (fun x=>aA x (swp d a pivot)[a]!) (swp d a pivot) (b-1) (a+1)+1) (scanDown (fun x=> !aA x (swp d a pivot)[a]!) (swp d a pivot) (scanUp (fun x=>aA x (swp d a pivot)[a]!) (swp d a pivot) (b-1) (a+1)) (b-1)-1) (swp (swp d a pivot) (scanUp (fun x=>aA x (swp d a pivot)[a]!) (swp d a pivot) (b-1) (a+1)) (scanDown (fun x=> !aA x (swp d a pivot)[a]!) (swp d a pivot) (scanUp (fun x=>aA x (swp d a pivot)[a]!) (swp d a pivot) (b-1) (a+1)) (b-1)))).1 a):=rfl
theorem zR (d:Array XE) (i j:Nat):eA ((d.setIfInBounds i d[j]!).setIfInBounds j d[i]!)=eA (swp d i j):=rfl
theorem akv {a b pivot:Nat} {d:Array XE} (hp:pivot<b) (fu:a<b) (hb:b≤d.size) (hs:d.size<1152921504606846976):
  CC oc [.int .i64 (a:Int),.int .i64 (b:Int),.int .i64 (pivot:Int),.list aa (eA d)]=
   some [.int .i64 ((partition aA d a b pivot).1:Int),.bool (partition aA d a b pivot).2.1,.list aa (eA (partition aA d a b pivot).2.2)]:=by
 refine aka ?_
 unfold XI
 have z1:(swp d a pivot).size=d.size:=size_swp ..
 obtain ⟨t1,e1⟩:=aks (a:=a) (j:=b-1) (d:=swp d a pivot) (by omega) (by omega) (by omega) _ (a+1) rfl (by omega)
 have g1:=scanUp_ge (fun x=>aA x (swp d a pivot)[a]!) (swp d a pivot) (b-1) (a+1)
 have g2:=scanDown_le (fun x=> !aA x (swp d a pivot)[a]!) (swp d a pivot) (scanUp (fun x=>aA x (swp d a pivot)[a]!) (swp d a pivot) (b-1) (a+1)) (b-1)
 obtain ⟨t2,e2⟩:=XQ (a:=a) (i:=scanUp (fun x=>aA x (swp d a pivot)[a]!) (swp d a pivot) (b-1) (a+1)) (d:=swp d a pivot) (by omega) (by omega) (by omega) (b-1) (by omega)
 have e0:=aku d a b pivot
 rw[kY (i:=pivot) (by omega),kZ (by omega),kY (i:=a) (by omega),kZ (by omega),kY (i:=a) (by omega),kZ (by omega),IH (i:=pivot) (by omega),II (by omega)]
 simp only[XE.bz,XE.bA,XE.bB,XE.re,Int.toNat_natCast,gj,zR]
 simp (disch:=omega) only[kW,dV,wrap64]
 rw[e1]
 simp only[Option.bind_some,un]
 rw[e2]
 simp only[Option.bind_some,un]
 generalize ia:scanUp (fun x=>aA x (swp d a pivot)[a]!) (swp d a pivot) (b-1) (a+1)=i2 at*
 generalize gv:scanDown (fun x=> !aA x (swp d a pivot)[a]!) (swp d a pivot) i2 (b-1)=j2 at*
 generalize swp d a pivot=d1 at*
 by_cases h:i2>j2
 ·rw[ag h] at e0
  rw[e0,az,ag (by omega)]
  rw[kY (i:=a) (by omega)];(first|rw[kZ (by omega)]|rw[sB (by omega)]);rw[kY (i:=j2) (by omega)];(first|rw[kZ (by omega)]|rw[sB (by omega)]);rw[kY (i:=j2) (by omega)];(first|rw[kZ (by omega)]|rw[sB (by omega)]);rw[IH (i:=a) (by omega)];(first|rw[II (by omega)]|rw[O2 (by omega)])
  simp only[XE.bz,XE.bA,XE.bB,XE.re,Int.toNat_natCast,gj,zR]
 ·rw[ah h] at e0
  rw[e0,az,ah (by omega)]
  have z2:(swp d1 i2 j2).size=d1.size:=size_swp ..
  obtain ⟨x,z,e5⟩:=akt (a:=a) _ (i2+1) (j2-1) (swp d1 i2 j2) (bV _) (by omega) (by omega) (by omega) (by omega) (by omega)
  obtain ⟨q1,q2⟩:=akr (a:=a) _ (i2+1) (j2-1) (swp d1 i2 j2) (bV _)
  rw[kY (i:=j2) (by omega)];(first|rw[kZ (by omega)]|rw[sB (by omega)]);rw[kY (i:=i2) (by omega)];(first|rw[kZ (by omega)]|rw[sB (by omega)]);rw[kY (i:=i2) (by omega)];(first|rw[kZ (by omega)]|rw[sB (by omega)]);rw[IH (i:=j2) (by omega)];(first|rw[II (by omega)]|rw[O2 (by omega)])
  simp only[XE.bz,XE.bA,XE.bB,XE.re,Int.toNat_natCast,gj,zR]
  simp (disch:=omega) only[kW,dV,wrap64]
  rw[e5]
  generalize partLoop aA a (i2+1) (j2-1) (swp d1 i2 j2)=r at*
  simp only[Option.bind_some,un]
  rw[kY (i:=a) (by omega)];(first|rw[kZ (by omega)]|rw[sB (by omega)]);rw[kY (i:=r.1) (by omega)];(first|rw[kZ (by omega)]|rw[sB (by omega)]);rw[kY (i:=r.1) (by omega)];(first|rw[kZ (by omega)]|rw[sB (by omega)]);rw[IH (i:=a) (by omega)];(first|rw[II (by omega)]|rw[O2 (by omega)])
  simp only[XE.bz,XE.bA,XE.bB,XE.re,Int.toNat_natCast,gj,zR]
theorem akw {a:Nat}: ∀(n i j:Nat) (d:Array XE),j+1-i≤n→1≤i→i≤d.size→a<d.size→j<d.size→d.size<1152921504606846976→
  ∃x z,Loop (zP CC a) ((i:Int),(j:Int),eA d)=some ((((partEqLoop aA a i j d).1:Nat):Int),x,z,eA (partEqLoop aA a i j d).2):=by
 intro n
 induction n with
 | zero=>
  intro i j d hn h1 U ha hj hs
  obtain ⟨t3,e3⟩:=XR (a:=a) ha hj hs _ i rfl U
  have g1:=scanUp_ge (fun x=> !aA d[a]! x) d j i
  have g2:=scanDown_le (fun x=>aA d[a]! x) d (scanUp (fun x=> !aA d[a]! x) d j i) j
  obtain ⟨t4,e4⟩:=O3 (a:=a) (i:=scanUp (fun x=> !aA d[a]! x) d j i) ha (by omega) hs j hj
  rw[partEqLoop_eq,ag (by omega)]
  refine ⟨((scanDown (fun x=>aA d[a]! x) d (scanUp (fun x=> !aA d[a]! x) d j i) j:Nat):Int),true,bj ?_⟩
  simp only[zP,DK,un]
  rw[e3]
  simp only[Option.bind_some,un]
  rw[e4]
  simp (disch:=omega) only[Option.bind_some,un,ou,cond_true]
 | succ n ih=>
  intro i j d hn h1 U ha hj hs
  obtain ⟨t3,e3⟩:=XR (a:=a) ha hj hs _ i rfl U
  have g1:=scanUp_ge (fun x=> !aA d[a]! x) d j i
  have g2:=scanDown_le (fun x=>aA d[a]! x) d (scanUp (fun x=> !aA d[a]! x) d j i) j
  obtain ⟨t4,e4⟩:=O3 (a:=a) (i:=scanUp (fun x=> !aA d[a]! x) d j i) ha (by omega) hs j hj
  rw[partEqLoop_eq]
  have f:zP CC a ((i:Int),(j:Int),eA d)=zP CC a ((i:Int),(j:Int),eA d):=rfl
  conv at f=>rhs;simp only[zP,DK,un];rw[e3];simp only[Option.bind_some,un];rw[e4];simp only[Option.bind_some,un]
  generalize ia:scanUp (fun x=> !aA d[a]! x) d j i=i2 at*
  generalize gv:scanDown (fun x=>aA d[a]! x) d i2 j=j2 at*
  by_cases h:i2>j2
  ·rw[ag h]
   refine ⟨(j2:Int),true,bj (f.trans ?_)⟩
   simp (disch:=omega) only[Option.bind_some,ou,cond_true]
  ·rw[ah h]
   obtain ⟨x,z,e⟩:=ih (i2+1) (j2-1) (swp d i2 j2) (by omega) (by omega) (by rw[size_swp];omega) (by rw[size_swp];omega) (by rw[size_swp];omega) (by rw[size_swp];omega)
   refine ⟨x,z,(bW (f.trans ?_)).trans e⟩
   simp (disch:=omega) only[az,ct,gd,ag,ah,wrap64,dV,gl,Int.toNat_natCast,Option.bind_some,gi,gk,XE.bz,XE.bA,XE.bB,XE.re,gj,iR,gX,gS,V.aC,V.toInt_int,cond_true,cond_false,kW]
   rfl
theorem akx {a b pivot:Nat} {d:Array XE} (hp:pivot<b) (fu:a<b) (hb:b≤d.size) (hs:d.size<1152921504606846976):
  CC vG [.int .i64 (a:Int),.int .i64 (b:Int),.int .i64 (pivot:Int),.list aa (eA d)]=
   some [.int .i64 ((partitionEqual aA d a b pivot).1:Int),.list aa (eA (partitionEqual aA d a b pivot).2)]:=by
 refine akg ?_
 unfold XK
 have z1:(swp d a pivot).size=d.size:=size_swp ..
 obtain ⟨x,z,e⟩:=akw (a:=a) _ (a+1) (b-1) (swp d a pivot) (bV _) (by omega) (by omega) (by omega) (by omega) (by omega)
 simp (disch:=omega) only[az,ct,ag,gi,gk,Int.toNat_natCast,Option.bind_some,XE.bz,XE.bA,XE.bB,XE.re,gj,iR,gX,kW,dV,wrap64,zR]
 rw[e]
 rfl
theorem aky {a b j:Nat} {d:Array XE} (hb:b≤d.size) (hs:d.size<1152921504606846976): ∀(n i:Nat),b-i=n→1≤i→i≤b→
  ∃t,Loop (DM CC a b j (eA d)) (i:Int)=some (((scanSorted aA d b i:Nat):Int),t):=by
 intro n
 induction n with
 | zero=>
  intro i hn h1 hi
  rw[IF,ah (by omega)]
  exact ⟨false,bj (by simp (disch:=omega) only[DM,DL,az,ah])⟩
 | succ n ih=>
  intro i hn h1 hi
  obtain ⟨t,h⟩:=ih (i+1) (by omega) (by omega) (by omega)
  rw[IF,ag (by omega)]
  have e:DM CC a b j (eA d) (i:Int)=if b8 d[i]! d[i-1]! <0 then some (.inr ((i:Int),!decide (b8 d[i]! d[i-1]! <0))) else some (.inl ((i+1:Nat):Int)):=by
   simp (disch:=omega) only[DM,DL,kW,az,ct,gd,ag,ah,wrap64,dV,gl,Int.toNat_natCast,Option.bind_some,gi,gk,XE.bz,XE.bA,XE.bB,XE.re,gj,iR,gX,gS,V.aC,V.toInt_int,cond_true,cond_false]
  by_cases U:b8 d[i]! d[i-1]! <0
  ·rw[ag U] at e⊢
   exact ⟨_,bj e⟩
  ·rw[ah U] at e⊢
   exact ⟨t,(bW e).trans h⟩
theorem XS: ∀(j:Nat) (d:Array XE),(shiftDown aA j d).size=d.size
 | 0,_=>rfl
 | j+1,d=>by
  rw[XO]
  split
  ·rw[XS j,size_swp]
  ·rfl
theorem akz {b:Nat}: ∀(n j:Nat) (d:Array XE),b-j=n→(shiftUp aA b j d).size=d.size:=by
 intro n
 induction n with
 | zero=>intro j d h;rw[IG,ah (by omega)]
 | succ n ih=>
  intro j d h
  rw[IG,ag (by omega)]
  split
  ·rw[ih _ _ (by omega),size_swp]
  ·rfl
theorem XT {a b i k:Nat}: ∀(j:Nat) (d:Array XE),j<d.size→d.size<1152921504606846976→
  ∃t,Loop (DO CC a b i k) ((j:Int),eA d)=some (t,eA (shiftDown aA j d))
 | 0,d,hj,hs=>⟨(0:Nat),bj (by
   simp (disch:=omega) only[DO,DN,un,az,ah]
   rfl)⟩
 | j+1,d,hj,hs=>by
  obtain ⟨t,ih⟩:=XT (a:=a) (b:=b) (i:=i) (k:=k) j (swp d (j+1) j) (by rw[size_swp];omega) (by rw[size_swp];omega)
  rw[XO]
  have e:DO CC a b i k (((j+1:Nat):Int),eA d)=if b8 d[j+1]! d[j]! <0 then some (.inl ((j:Int),eA (swp d (j+1) j))) else some (.inr (((j+1:Nat):Int),eA d)):=by
   simp (disch:=omega) only[DO,DN,un,az,ct,gd,ag,ah,wrap64,dV,gl,Int.toNat_natCast,Option.bind_some,gi,gk,XE.bz,XE.bA,XE.bB,XE.re,gj,iR,gX,gS,V.aC,V.toInt_int,cond_true,cond_false,wG]
   rfl
  by_cases U:b8 d[j+1]! d[j]! <0
  ·rw[ag U] at e⊢
   exact ⟨t,(bW e).trans ih⟩
  ·rw[ah U] at e⊢
   exact ⟨_,bj e⟩
theorem akA {a b i k:Nat}: ∀(n j:Nat) (d:Array XE),b-j=n→1≤j→j≤b→b≤d.size→d.size<1152921504606846976→
  ∃t,Loop (DQ CC a b i k) ((j:Int),eA d)=some (t,eA (shiftUp aA b j d)):=by
 intro n
 induction n with
 | zero=>
  intro j d hn h1 hj hb hs
  rw[IG,ah (by omega)]
  exact ⟨(j:Int),bj (by
   simp (disch:=omega) only[DQ,DP,un,az,ah])⟩
 | succ n ih=>
  intro j d hn h1 hj hb hs
  obtain ⟨t,h⟩:=ih (j+1) (swp d j (j-1)) (by omega) (by omega) (by omega) (by rw[size_swp];omega) (by rw[size_swp];omega)
  rw[IG,ag (by omega)]
  have e:DQ CC a b i k ((j:Int),eA d)=if b8 d[j]! d[j-1]! <0 then some (.inl (((j+1:Nat):Int),eA (swp d j (j-1)))) else some (.inr ((j:Int),eA d)):=by
   simp (disch:=omega) only[DQ,DP,un,kW,az,ct,gd,ag,ah,wrap64,dV,gl,Int.toNat_natCast,Option.bind_some,gi,gk,XE.bz,XE.bA,XE.bB,XE.re,gj,iR,gX,gS,V.aC,V.toInt_int,cond_true,cond_false]
   rfl
  by_cases U:b8 d[j]! d[j-1]! <0
  ·rw[ag U] at e⊢
   exact ⟨t,(bW e).trans h⟩
  ·rw[ah U] at e⊢
   exact ⟨_,bj e⟩
theorem akB {d:Array XE} {b:Nat}: ∀(n i:Nat),b-i=n→i≤b→i≤scanSorted aA d b i∧scanSorted aA d b i≤b:=by
 intro n
 induction n with
 | zero=>intro i hn hi;rw[IF,ah (by omega)];omega
 | succ n ih=>
  intro i hn hi
  rw[IF,ag (by omega)]
  obtain ⟨h1,U⟩:=ih (i+1) (by omega) (by omega)
  split<;>omega
theorem akC {a b:Nat}: ∀(s i:Nat) (d:Array XE),s≤5→a<i→i≤b→b≤d.size→d.size<1152921504606846976→
  (Loop (tZ CC a b) ((i:Int),((5-s:Nat):Int),eA d)=some (.inl ((partialIns aA a b s i d).2,eA (partialIns aA a b s i d).1)))∨
  (∃x y z,(partialIns aA a b s i d).2=false∧Loop (tZ CC a b) ((i:Int),((5-s:Nat):Int),eA d)=some (.inr (x,y,z,eA (partialIns aA a b s i d).1))):=by
 intro s
 induction s with
 | zero=>
  intro i d hs5 hi O4 hb hs
  refine .inr ⟨(i:Int),((5:Nat):Int),false,rfl,bj ?_⟩
  simp (disch:=omega) only[tZ,DR,un,tW,cond_false]
  rfl
 | succ s ih=>
  intro i d hs5 hi O4 hb hs
  obtain ⟨t1,e1⟩:=aky (a:=a) (j:=5-(s+1)) hb hs _ i rfl (by omega) O4
  obtain ⟨q1,q2⟩:=akB (d:=d) _ i rfl O4
  rw[partialIns_succ]
  have f:tZ CC a b ((i:Int),((5-(s+1):Nat):Int),eA d)=tZ CC a b ((i:Int),((5-(s+1):Nat):Int),eA d):=rfl
  conv at f=>rhs;simp only[tZ,DR,un];rw[az,ag (by omega),e1];simp only[Option.bind_some,un]
  generalize scanSorted aA d b i=k at*
  by_cases h1:k=b
  ·rw[ag h1]
   left
   refine bj (f.trans ?_)
   rw[dD,ag (by omega)]
  ·rw[ah h1]
   by_cases U:b-a<50
   ·rw[ag U]
    left
    refine bj (f.trans ?_)
    rw[dD,ah (by omega),wrap64 (by omega) (by omega),az,ag (by omega)]
   ·rw[ah U]
    have z1:(swp d k (k-1)).size=d.size:=size_swp ..
    have z2:(fixDown aA a k (swp d k (k-1))).size=d.size:=by
     unfold fixDown
     split
     ·rw[XS,z1]
     ·exact z1
    have z3:(fixUp aA b k (fixDown aA a k (swp d k (k-1)))).size=d.size:=by
     unfold fixUp
     split
     ·rw[akz _ _ _ rfl,z2]
     ·exact z2
    obtain ⟨t2,e2⟩:=XT (a:=a) (b:=b) (i:=k) (k:=5-(s+1)) (k-1) (swp d k (k-1)) (by omega) (by omega)
    obtain ⟨t4,e4⟩:=akA (a:=a) (b:=b) (i:=k) (k:=5-(s+1)) _ (k+1) (fixDown aA a k (swp d k (k-1))) rfl (by omega) (by omega) (by omega) (by omega)
    have e5:tZ CC a b ((i:Int),((5-(s+1):Nat):Int),eA d)=some (.inl ((k:Int),((5-s:Nat):Int),eA (fixUp aA b k (fixDown aA a k (swp d k (k-1)))))):=by
     refine f.trans ?_
     rw[dD,ah (by omega),wrap64 (by omega) (by omega),az,ah (by omega)]
     simp (disch:=omega) only[az,ct,ag,gi,gk,Int.toNat_natCast,Option.bind_some,XE.bz,XE.bA,XE.bB,XE.re,gj,iR,gX,kW,dV,nk,wrap64,zR,IE]
     rw[show 5-(s+1)+1=5-s by omega]
     unfold fixDown at e4⊢
     unfold fixUp
     have c1:(((k-a:Nat):Int)≥2)=(k-a≥2):=propext (by omega)
     have c2:(((b-k:Nat):Int)≥2)=(b-k≥2):=propext (by omega)
     simp only[c1,c2]
     by_cases g1:k-a≥2
     ·by_cases g2:b-k≥2
      ·simp only[g1,g2,cU,e2,Option.bind_some,un] at e4⊢
       rw[e4]
       rfl
      ·simp only[g1,g2,cU,fS,e2,Option.bind_some,un]
     ·by_cases g2:b-k≥2
      ·simp only[g1,g2,cU,fS] at e4⊢
       rw[e4]
       rfl
      ·exact absurd (show b-k≥2 by omega) g2
    rw[bW e5]
    exact ih k _ (by omega) (by omega) (by omega) (by omega) (by omega)
theorem XU {a b:Nat} {d:Array XE} (fu:a<b) (hb:b≤d.size) (hs:d.size<1152921504606846976):
  CC Hl [.int .i64 (a:Int),.int .i64 (b:Int),.list aa (eA d)]=
   some [.bool (partialInsertionSort aA d a b).2,.list aa (eA (partialInsertionSort aA d a b).1)]:=by
 refine akq ?_
 unfold XN
 simp (disch:=omega) only[dV,wrap64]
 rcases akC (a:=a) (b:=b) 5 (a+1) d (bV _) (by omega) (by omega) hb hs with h|⟨x,y,z,h0,h⟩
 ·rw[show ((5-5:Nat):Int)=0 from rfl] at h
  rw[h]
  rfl
 ·rw[show ((5-5:Nat):Int)=0 from rfl] at h
  rw[h]
  unfold partialInsertionSort
  rw[h0]
  rfl
end Go.AM.SX
set_option maxRecDepth 100000
namespace Go.AM
open Go.Proofs
noncomputable abbrev ua:Code:=cg Tryz.prog (au.aP 96)
noncomputable def DT (C:ae) (data:List V) (i j k':Int) (t36:Bool) (iq:Int) {β:Type} (kr:(Int × Int × Int × Int)→Option β):Option β:=
 bif t36 then
  (C yM [.list aa data,.int .i64 i,.int .i64 iq]).bind fun r1=>
  (C yM [.list aa data,.int .i64 j,.int .i64 ((V.nth (r1.drop 1) 0).toInt)]).bind fun r2=>
  (C yM [.list aa data,.int .i64 k',.int .i64 ((V.nth (r2.drop 1) 0).toInt)]).bind fun r3=>
  kr ((V.nth r1 0).toInt,(V.nth r2 0).toInt,(V.nth r3 0).toInt,(V.nth (r3.drop 1) 0).toInt)
 else
  kr (i,j,k',iq)
noncomputable def DU (C:ae) (data:List V) (l i j k':Int) (t34:Bool) (iq:Int) {β:Type} (kr:(Int × Int)→Option β):Option β:=
 bif t34 then
  DT C data i j k' (decide ((l:Int)≥50)) iq (un fun (fh:Int)=>un fun (j_5:Int)=>un fun (k_6:Int) (akD:Int)=>
   (C B1 [.list aa data,.int .i64 fh,.int .i64 j_5,.int .i64 k_6,.int .i64 akD]).bind fun r8=>
   kr ((V.nth r8 0).toInt,(V.nth (r8.drop 1) 0).toInt))
 else
  kr (j,iq)
noncomputable def XV (C:ae):bZ:=fun β n ds k=>
 bif Nat.beq n 591 then iM M9 [[1,0,0,0,0]] (@DT C) ds k else
 bif Nat.beq n 559 then iM Na [[0,0]] (@DU C) ds k else
 none
abbrev XW (C:ae) (b:bX):Prop:=bY Tryz.prog au C (XV C) 96 (cj Tryz.prog (au.aP 96)) (au.sin 96).ba.length b
theorem akE (C:ae):XW C (.cond 36 (aw [1,1,1,1,1,1,0,1,0,0,1,0] ua) (aw [1,1,1,1,1,1,0,1,0,0,1,1] ua)):=
 jq M9 [[1,0,0,0,0]] (@DT C) (by kernel_rfl) (a8 (bs:=[]) (by kernel_rfl) ax) (a8 (bs:=[]) (by kernel_rfl) ax) (fun ds=>by kernel_rfl) (fun i β k=>by kernel_rfl) (fun β ds k=>by kernel_rfl)
theorem akF (C:ae):XW C (.cond 34 (aw [1,1,1,1,1,1,0,1,0] ua) (aw [1,1,1,1,1,1,0,1,1] ua)):=
 jq Na [[0,0]] (@DU C) (by kernel_rfl) (a8 (bs:=[.cond 36 (aw [1,1,1,1,1,1,0,1,0,0,1,0] ua) (aw [1,1,1,1,1,1,0,1,0,0,1,1] ua)]) (by kernel_rfl) (bq (akE C) ax)) (a8 (bs:=[]) (by kernel_rfl) ax) (fun ds=>by kernel_rfl) (fun i β k=>by kernel_rfl) (fun β ds k=>by kernel_rfl)
noncomputable def O5 (C:ae) (data:List V) (a b':Int):Option (List V):=
 DU C data (IntKind.wrap .i64 (b'-a)) (IntKind.wrap .i64 (a+(IntKind.wrap .i64 (1*(IntKind.wrap .i64 (Int.tdiv (IntKind.wrap .i64 (b'-a)) 4)))))) (IntKind.wrap .i64 (a+(IntKind.wrap .i64 (2*(IntKind.wrap .i64 (Int.tdiv (IntKind.wrap .i64 (b'-a)) 4)))))) (IntKind.wrap .i64 (a+(IntKind.wrap .i64 (3*(IntKind.wrap .i64 (Int.tdiv (IntKind.wrap .i64 (b'-a)) 4)))))) (decide (((IntKind.wrap .i64 (b'-a)):Int)≥8)) 0 (un fun (O6:Int) (XX:Int)=>
  bif (XX:Int)==0 then
   some [.int .i64 O6,.int .i64 1]
  else
   bif (XX:Int)==12 then
   some [.int .i64 O6,.int .i64 2]
   else
   some [.int .i64 O6,.int .i64 0])
theorem XY {data:List V} {a b':Int} {r:Option (List V)} (h:O5 CC data a b'=r):CC BY [.list aa data,.int .i64 a,.int .i64 b']=r:=
 aY (key:=96) (L:=XV CC) (bs:=[.cond 34 (aw [1,1,1,1,1,1,0,1,0] ua) (aw [1,1,1,1,1,1,0,1,1] ua)]) (by kernel_rfl) (bq (akF CC) ax) (aX (by kernel_rfl) h)
noncomputable def XZ (C:ae) (data:List V) (a b' c iq:Int):Option (List V):=
 (C yN [.list aa data,.int .i64 a,.int .i64 b',.int .i64 iq]).bind fun r1=>
 (C yN [.list aa data,.int .i64 ((V.nth (r1.drop 1) 0).toInt),.int .i64 c,.int .i64 ((V.nth (r1.drop 2) 0).toInt)]).bind fun r2=>
 (C yN [.list aa data,.int .i64 ((V.nth r1 0).toInt),.int .i64 ((V.nth r2 0).toInt),.int .i64 ((V.nth (r2.drop 2) 0).toInt)]).bind fun r3=>
 some [.int .i64 ((V.nth (r3.drop 1) 0).toInt),.int .i64 ((V.nth (r3.drop 2) 0).toInt)]
theorem akG {data:List V} {a b' c iq:Int} {r:Option (List V)} (h:XZ CC data a b' c iq=r):CC B1 [.list aa data,.int .i64 a,.int .i64 b',.int .i64 c,.int .i64 iq]=r:=
 aY (key:=108) (L:=b6) (bs:=[]) (by kernel_rfl) ax (aX (by kernel_rfl) h)
noncomputable def O7 (C:ae) (data:List V) (a b' iq:Int):Option (List V):=
 (idx data b').bind fun x1=>
 (idx data a).bind fun x2=>
 (C bp [.int .i64 ((x1.cell 0).toInt),.int .i64 ((x1.cell 1).toInt),.list aa ((x1.cell 2).toList),.int .i64 ((x2.cell 0).toInt),.int .i64 ((x2.cell 1).toInt),.list aa ((x2.cell 2).toList)]).bind fun r3=>
 bif decide ((((V.nth r3 0).toInt):Int)<0) then
  some [.int .i64 b',.int .i64 a,.int .i64 (IntKind.wrap .i64 (iq+1))]
 else
  some [.int .i64 a,.int .i64 b',.int .i64 iq]
theorem X0 {data:List V} {a b' iq:Int} {r:Option (List V)} (h:O7 CC data a b' iq=r):CC yN [.list aa data,.int .i64 a,.int .i64 b',.int .i64 iq]=r:=
 aY (key:=109) (L:=b6) (bs:=[]) (by kernel_rfl) ax (aX (by kernel_rfl) h)
noncomputable def X1 (C:ae) (data:List V) (a iq:Int):Option (List V):=
 (C B1 [.list aa data,.int .i64 (IntKind.wrap .i64 (a-1)),.int .i64 a,.int .i64 (IntKind.wrap .i64 (a+1)),.int .i64 iq]).bind fun r1=>
 some [.int .i64 ((V.nth r1 0).toInt),.int .i64 ((V.nth (r1.drop 1) 0).toInt)]
theorem akH {data:List V} {a iq:Int} {r:Option (List V)} (h:X1 CC data a iq=r):CC yM [.list aa data,.int .i64 a,.int .i64 iq]=r:=
 aY (key:=107) (L:=b6) (bs:=[]) (by kernel_rfl) ax (aX (by kernel_rfl) h)
noncomputable abbrev zS:Code:=cg Tryz.prog (au.aP 95)
noncomputable def IJ (C:ae) (a length zT kh other:Int) (t45:Bool) (ak:List V) (DV:Int) {β:Type} (kr:(Int)→Option β):Option β:=
 bif t45 then
  kr (IntKind.wrap .i64 (other-length))
 else
  kr other
noncomputable def DW (C:ae) (a length zT kh:Int) (ak:List V) (DV:Int) {β:Type} (kn:(Int × (List V) × Int)→Option β) (kr:(Int × Bool × (List V) × Int)→Option β):Option β:=
 bif decide ((kh:Int)≤(IntKind.wrap .i64 ((IntKind.wrap .i64 (a+(IntKind.wrap .i64 (2*(IntKind.wrap .i64 (Int.tdiv length 4))))))+1))) then
  (C Ho [.int .u64 DV]).bind fun r2=>
  IJ C a length zT kh (IntKind.wrap .i64 (IntKind.wrap .u64 ((BitVec.ofInt (IntKind.bits .u64) ((V.nth r2 0).toInt)&&&BitVec.ofInt (IntKind.bits .u64) (IntKind.wrap .u64 (zT-1))).toNat))) (decide (((IntKind.wrap .i64 (IntKind.wrap .u64 ((BitVec.ofInt (IntKind.bits .u64) ((V.nth r2 0).toInt)&&&BitVec.ofInt (IntKind.bits .u64) (IntKind.wrap .u64 (zT-1))).toNat))):Int)≥length)) ak ((V.nth (r2.drop 1) 0).toInt) (fun (wL:Int)=>
   bif (decide (0≤(IntKind.wrap .i64 (a+wL))))&&(decide ((IntKind.wrap .i64 (a+wL))<(ak.length:Int))) then
   (ak[(IntKind.wrap .i64 (a+wL):Int).toNat]?).bind fun x4=>
   bif (decide (0≤kh))&&(decide (kh<(ak.length:Int))) then
    (ak[(kh:Int).toNat]?).bind fun x5=>
    bif (decide (0≤kh))&&(decide (kh<(ak.length:Int))) then
    (ak[(kh:Int).toNat]?).bind fun x6=>
    bif (decide (0≤(IntKind.wrap .i64 (a+wL))))&&(decide ((IntKind.wrap .i64 (a+wL))<((ak.set ((kh:Int).toNat) (.agg [.int .i64 ((x4.cell 0).toInt),.int .i64 ((x4.cell 1).toInt),.list aa ((x4.cell 2).toList)])).length:Int))) then
     ((ak.set ((kh:Int).toNat) (.agg [.int .i64 ((x4.cell 0).toInt),.int .i64 ((x4.cell 1).toInt),.list aa ((x4.cell 2).toList)]))[(IntKind.wrap .i64 (a+wL):Int).toNat]?).bind fun x7=>
     kn (IntKind.wrap .i64 (kh+1),(ak.set ((kh:Int).toNat) (.agg [.int .i64 ((x4.cell 0).toInt),.int .i64 ((x4.cell 1).toInt),.list aa ((x4.cell 2).toList)])).set ((IntKind.wrap .i64 (a+wL):Int).toNat) (.agg [.int .i64 ((x5.cell 0).toInt),.int .i64 ((x5.cell 1).toInt),.list aa ((x5.cell 2).toList)]),(V.nth (r2.drop 1) 0).toInt)
    else none
    else none
   else none
   else none)
 else
  kr (kh,decide ((kh:Int)≤(IntKind.wrap .i64 ((IntKind.wrap .i64 (a+(IntKind.wrap .i64 (2*(IntKind.wrap .i64 (Int.tdiv length 4))))))+1))),ak,DV)
noncomputable def IK (C:ae) (a length zT:Int):(Int × (List V) × Int)→Option ((Int × (List V) × Int) ⊕ (Int × Bool × (List V) × Int)):=un fun kh=>un fun ak DV=>DW C a length zT kh ak DV (fun y=>some (.inl y)) (fun r=>some (.inr r))
noncomputable def X2 (C:ae):bZ:=fun β n ds k=>
 bif Nat.beq n 735 then iM M7 [[1,2,3,4,0,7,8]] (@IJ C) ds k else
 bif Nat.beq n 81 then bK M8 [false,false,false,true,true,true] [[1,2,3,0,0,0,0]] (@DW C) ds k else
 none
abbrev X3 (C:ae) (b:bX):Prop:=bY Tryz.prog au C (X2 C) 95 (cj Tryz.prog (au.aP 95)) (au.sin 95).ba.length b
theorem akI (C:ae):X3 C (.cond 45 (aw [1,1,0,1,1,1,0,0,1,0,0,1,0,1,0] zS) (aw [1,1,0,1,1,1,0,0,1,0,0,1,0,1,1] zS)):=
 jq M7 [[1,2,3,4,0,7,8]] (@IJ C) (by kernel_rfl) (a8 (bs:=[]) (by kernel_rfl) ax) (a8 (bs:=[]) (by kernel_rfl) ax) (fun ds=>by kernel_rfl) (fun i β k=>by kernel_rfl) (fun β ds k=>by kernel_rfl)
theorem akJ (C:ae):X3 C (.loop (aw [1,1,0,1,1,1,0,0] zS)):=
 bN M8 [false,false,false,true,true,true] [[1,2,3,0,0,0,0]] (@DW C) (by kernel_rfl) (a8 (bs:=[.cond 45 (aw [1,1,0,1,1,1,0,0,1,0,0,1,0,1,0] zS) (aw [1,1,0,1,1,1,0,0,1,0,0,1,0,1,1] zS)]) (by kernel_rfl) (bq (akI C) ax)) (fun ds=>by kernel_rfl) (fun i x=>by kernel_rfl) (fun i x β k=>by kernel_rfl) (fun β ds k=>by kernel_rfl)
noncomputable def X4 (C:ae) (a b':Int) (ak:List V):Option (List V):=
 bif decide (((IntKind.wrap .i64 (b'-a)):Int)≥8) then
  (C Hn [.int .i64 (IntKind.wrap .i64 (b'-a))]).bind fun r1=>
  (Loop (IK C a (IntKind.wrap .i64 (b'-a)) ((V.nth r1 0).toInt)) (IntKind.wrap .i64 ((IntKind.wrap .i64 (a+(IntKind.wrap .i64 (2*(IntKind.wrap .i64 (Int.tdiv (IntKind.wrap .i64 (b'-a)) 4))))))-1),ak,IntKind.wrap .u64 (IntKind.wrap .i64 (b'-a)))).bind (un fun (apw:Int)=>un fun (oj:Bool)=>un fun (pB:List V) (apx:Int)=>
   some [.list aa pB])
 else
  some [.list aa ak]
theorem akK {a b':Int} {ak:List V} {r:Option (List V)} (h:X4 CC a b' ak=r):CC Hj [.int .i64 a,.int .i64 b',.list aa ak]=r:=
 aY (key:=95) (L:=X2 CC) (bs:=[.loop (aw [1,1,0,1,1,1,0,0] zS)]) (by kernel_rfl) (bq (akJ CC) ax) (aX (by kernel_rfl) h)
noncomputable def X5 (C:ae) (jw:Int):Option (List V):=
 some [.int .u64 (IntKind.wrap .u64 ((BitVec.ofInt (IntKind.bits .u64) (IntKind.wrap .u64 ((BitVec.ofInt (IntKind.bits .u64) (IntKind.wrap .u64 ((BitVec.ofInt (IntKind.bits .u64) jw ^^^ BitVec.ofInt (IntKind.bits .u64) (IntKind.wrap .u64 (jw*2^(min (13:Int).toNat (IntKind.bits .u64))))).toNat)) ^^^ BitVec.ofInt (IntKind.bits .u64) (Int.fdiv (IntKind.wrap .u64 ((BitVec.ofInt (IntKind.bits .u64) jw ^^^ BitVec.ofInt (IntKind.bits .u64) (IntKind.wrap .u64 (jw*2^(min (13:Int).toNat (IntKind.bits .u64))))).toNat)) (2^(min (7:Int).toNat (IntKind.bits .u64))))).toNat)) ^^^ BitVec.ofInt (IntKind.bits .u64) (IntKind.wrap .u64 ((IntKind.wrap .u64 ((BitVec.ofInt (IntKind.bits .u64) (IntKind.wrap .u64 ((BitVec.ofInt (IntKind.bits .u64) jw ^^^ BitVec.ofInt (IntKind.bits .u64) (IntKind.wrap .u64 (jw*2^(min (13:Int).toNat (IntKind.bits .u64))))).toNat)) ^^^ BitVec.ofInt (IntKind.bits .u64) (Int.fdiv (IntKind.wrap .u64 ((BitVec.ofInt (IntKind.bits .u64) jw ^^^ BitVec.ofInt (IntKind.bits .u64) (IntKind.wrap .u64 (jw*2^(min (13:Int).toNat (IntKind.bits .u64))))).toNat)) (2^(min (7:Int).toNat (IntKind.bits .u64))))).toNat))*2^(min (17:Int).toNat (IntKind.bits .u64))))).toNat)),.int .u64 (IntKind.wrap .u64 ((BitVec.ofInt (IntKind.bits .u64) (IntKind.wrap .u64 ((BitVec.ofInt (IntKind.bits .u64) (IntKind.wrap .u64 ((BitVec.ofInt (IntKind.bits .u64) jw ^^^ BitVec.ofInt (IntKind.bits .u64) (IntKind.wrap .u64 (jw*2^(min (13:Int).toNat (IntKind.bits .u64))))).toNat)) ^^^ BitVec.ofInt (IntKind.bits .u64) (Int.fdiv (IntKind.wrap .u64 ((BitVec.ofInt (IntKind.bits .u64) jw ^^^ BitVec.ofInt (IntKind.bits .u64) (IntKind.wrap .u64 (jw*2^(min (13:Int).toNat (IntKind.bits .u64))))).toNat)) (2^(min (7:Int).toNat (IntKind.bits .u64))))).toNat)) ^^^ BitVec.ofInt (IntKind.bits .u64) (IntKind.wrap .u64 ((IntKind.wrap .u64 ((BitVec.ofInt (IntKind.bits .u64) (IntKind.wrap .u64 ((BitVec.ofInt (IntKind.bits .u64) jw ^^^ BitVec.ofInt (IntKind.bits .u64) (IntKind.wrap .u64 (jw*2^(min (13:Int).toNat (IntKind.bits .u64))))).toNat)) ^^^ BitVec.ofInt (IntKind.bits .u64) (Int.fdiv (IntKind.wrap .u64 ((BitVec.ofInt (IntKind.bits .u64) jw ^^^ BitVec.ofInt (IntKind.bits .u64) (IntKind.wrap .u64 (jw*2^(min (13:Int).toNat (IntKind.bits .u64))))).toNat)) (2^(min (7:Int).toNat (IntKind.bits .u64))))).toNat))*2^(min (17:Int).toNat (IntKind.bits .u64))))).toNat))]
theorem akL {jw:Int} {r:Option (List V)} (h:X5 CC jw=r):CC Ho [.int .u64 jw]=r:=
 aY (key:=106) (L:=b6) (bs:=[]) (by kernel_rfl) ax (aX (by kernel_rfl) h)
noncomputable def X6 (C:ae) (length:Int):Option (List V):=
 (C BV [.int .u64 (IntKind.wrap .u64 length)]).bind fun r1=>
 bif decide (0≤((V.nth r1 0).toInt)) then
  some [.int .u64 (IntKind.wrap .u64 (1*2^(min ((V.nth r1 0).toInt).toNat (IntKind.bits .u64))))]
 else none
theorem akM {length:Int} {r:Option (List V)} (h:X6 CC length=r):CC Hn [.int .i64 length]=r:=
 aY (key:=105) (L:=b6) (bs:=[]) (by kernel_rfl) ax (aX (by kernel_rfl) h)
noncomputable def X7 (C:ae) (x:Int):Option (List V):=
 (C Hm [.int .u64 x]).bind fun r1=>
 some [.int .i64 ((V.nth r1 0).toInt)]
theorem akN {x:Int} {r:Option (List V)} (h:X7 CC x=r):CC BV [.int .u64 x]=r:=
 aY (key:=90) (L:=b6) (bs:=[]) (by kernel_rfl) ax (aX (by kernel_rfl) h)
noncomputable abbrev ub:Code:=cg Tryz.prog (au.aP 102)
noncomputable def wM (C:ae) (x n:Int) (t4:Bool) {β:Type} (kr:(Int × Int)→Option β):Option β:=
 bif t4 then
  kr (Int.fdiv x (2^(min (32:Int).toNat (IntKind.bits .u64))),32)
 else
  kr (x,n)
noncomputable def wO (C:ae) (x n:Int) (t8:Bool) {β:Type} (kr:(Int × Int)→Option β):Option β:=
 bif t8 then
  kr (Int.fdiv x (2^(min (16:Int).toNat (IntKind.bits .u64))),IntKind.wrap .i64 (n+16))
 else
  kr (x,n)
noncomputable def X8 (C:ae):bZ:=fun β n ds k=>
 bif Nat.beq n 79 then iM Nr [[0,0]] (@wM C) ds k else
 bif Nat.beq n 143 then iM Ns [[0,0]] (@wO C) ds k else
 none
abbrev X9 (C:ae) (b:bX):Prop:=bY Tryz.prog au C (X8 C) 102 (cj Tryz.prog (au.aP 102)) (au.sin 102).ba.length b
theorem akO (C:ae):X9 C (.cond 4 (aw [1,0,1,0] ub) (aw [1,0,1,1] ub)):=
 jq Nr [[0,0]] (@wM C) (by kernel_rfl) (a8 (bs:=[]) (by kernel_rfl) ax) (a8 (bs:=[]) (by kernel_rfl) ax) (fun ds=>by kernel_rfl) (fun i β k=>by kernel_rfl) (fun β ds k=>by kernel_rfl)
theorem akP (C:ae):X9 C (.cond 8 (aw [1,1,0,1,0] ub) (aw [1,1,0,1,1] ub)):=
 jq Ns [[0,0]] (@wO C) (by kernel_rfl) (a8 (bs:=[]) (by kernel_rfl) ax) (a8 (bs:=[]) (by kernel_rfl) ax) (fun ds=>by kernel_rfl) (fun i β k=>by kernel_rfl) (fun β ds k=>by kernel_rfl)
noncomputable def akQ (C:ae) (x:Int):Option (List V):=
 wM C x 0 (decide ((x:Int)≥4294967296)) (un fun (uc:Int) (DX:Int)=>
  wO C uc DX (decide ((uc:Int)≥65536)) (un fun (DY:Int) (Ya:Int)=>
   bif decide ((DY:Int)≥256) then
    (bif decide (0≤(IntKind.wrap .u8 (Int.fdiv DY (2^(min (8:Int).toNat (IntKind.bits .u64)))))) then (([0,1,2,2,3,3,3,3,4,4,4,4,4,4,4,4,5,5,5,5,5,5,5,5,5,5,5,5,5,5,5,5,6,6,6,6,6,6,6,6,6,6,6,6,6,6,6,6,6,6,6,6,6,6,6,6,6,6,6,6,6,6,6,6,7,7,7,7,7,7,7,7,7,7,7,7,7,7,7,7,7,7,7,7,7,7,7,7,7,7,7,7,7,7,7,7,7,7,7,7,7,7,7,7,7,7,7,7,7,7,7,7,7,7,7,7,7,7,7,7,7,7,7,7,7,7,7,7,8,8,8,8,8,8,8,8,8,8,8,8,8,8,8,8,8,8,8,8,8,8,8,8,8,8,8,8,8,8,8,8,8,8,8,8,8,8,8,8,8,8,8,8,8,8,8,8,8,8,8,8,8,8,8,8,8,8,8,8,8,8,8,8,8,8,8,8,8,8,8,8,8,8,8,8,8,8,8,8,8,8,8,8,8,8,8,8,8,8,8,8,8,8,8,8,8,8,8,8,8,8,8,8,8,8,8,8,8,8,8,8,8,8,8,8,8,8,8,8,8,8,8,8,8,8,8,8]:List UInt8)[(IntKind.wrap .u8 (Int.fdiv DY (2^(min (8:Int).toNat (IntKind.bits .u64)))):Int).toNat]?).map fun b=>V.int .u8 b.toNat else none).bind fun x5=>
    some [.int .i64 (IntKind.wrap .i64 ((IntKind.wrap .i64 (Ya+8))+(IntKind.wrap .i64 x5.toInt)))]
   else
    (bif decide (0≤(IntKind.wrap .u8 DY)) then (([0,1,2,2,3,3,3,3,4,4,4,4,4,4,4,4,5,5,5,5,5,5,5,5,5,5,5,5,5,5,5,5,6,6,6,6,6,6,6,6,6,6,6,6,6,6,6,6,6,6,6,6,6,6,6,6,6,6,6,6,6,6,6,6,7,7,7,7,7,7,7,7,7,7,7,7,7,7,7,7,7,7,7,7,7,7,7,7,7,7,7,7,7,7,7,7,7,7,7,7,7,7,7,7,7,7,7,7,7,7,7,7,7,7,7,7,7,7,7,7,7,7,7,7,7,7,7,7,8,8,8,8,8,8,8,8,8,8,8,8,8,8,8,8,8,8,8,8,8,8,8,8,8,8,8,8,8,8,8,8,8,8,8,8,8,8,8,8,8,8,8,8,8,8,8,8,8,8,8,8,8,8,8,8,8,8,8,8,8,8,8,8,8,8,8,8,8,8,8,8,8,8,8,8,8,8,8,8,8,8,8,8,8,8,8,8,8,8,8,8,8,8,8,8,8,8,8,8,8,8,8,8,8,8,8,8,8,8,8,8,8,8,8,8,8,8,8,8,8,8,8,8,8,8,8,8]:List UInt8)[(IntKind.wrap .u8 DY:Int).toNat]?).map fun b=>V.int .u8 b.toNat else none).bind fun x6=>
    some [.int .i64 (IntKind.wrap .i64 (Ya+(IntKind.wrap .i64 x6.toInt)))]))
theorem Yb {x:Int} {r:Option (List V)} (h:akQ CC x=r):CC Hm [.int .u64 x]=r:=
 aY (key:=102) (L:=X8 CC) (bs:=[.cond 4 (aw [1,0,1,0] ub) (aw [1,0,1,1] ub),.cond 8 (aw [1,1,0,1,0] ub) (aw [1,1,0,1,1] ub)]) (by kernel_rfl) (bq (akO CC) (bq (akP CC) ax)) (aX (by kernel_rfl) h)
noncomputable abbrev mB:Code:=cg Tryz.prog (au.aP 89)
noncomputable def zU (C:ae) (a b' jL:Int) (eX fk:Bool) (length:Int) (t39:Bool) (ak:List V) {β:Type} (kr:(Int × (List V))→Option β):Option β:=
 bif t39 then
  (C Hj [.int .i64 a,.int .i64 b',.list aa ak]).bind fun r3=>
  kr (IntKind.wrap .i64 (jL-1),(V.nth r3 0).toList)
 else
  kr (jL,ak)
noncomputable def zV (C:ae) (a b' jL:Int) (eX fk:Bool) (length pivot hint:Int) (t56:Bool) (ak:List V) {β:Type} (kr:(Int × Int × (List V))→Option β):Option β:=
 bif t56 then
  (C Hk [.int .i64 a,.int .i64 b',.list aa ak]).bind fun r7=>
  kr (IntKind.wrap .i64 ((IntKind.wrap .i64 (b'-1))-(IntKind.wrap .i64 (pivot-a))),1,(V.nth r7 0).toList)
 else
  kr (pivot,hint,ak)
noncomputable def nq (C:ae) (a b' jL:Int) (eX fk:Bool) (length pivot:Int) (t75:Bool) (ak:List V) {β:Type} (kr:((Bool × (List V)) ⊕ (List V))→Option β):Option β:=
 bif t75 then
  (C Hl [.int .i64 a,.int .i64 b',.list aa ak]).bind fun eT=>
  bif (V.nth eT 0).toBool then
  kr (.inl ((V.nth eT 0).toBool,(V.nth (eT.drop 1) 0).toList))
  else
  kr (.inr ((V.nth (eT.drop 1) 0).toList))
 else
  kr (.inr ak)
noncomputable def qL (C:ae) (a b' jL:Int) (eX fk:Bool) (ak:List V) {β:Type} (kn:(Int × Int × Int × Bool × Bool × (List V))→Option β) (kr:(List V)→Option β):Option β:=
 bif decide (((IntKind.wrap .i64 (b'-a)):Int)≤12) then
  (C BW [.int .i64 a,.int .i64 b',.list aa ak]).bind fun r1=>
  kr ((V.nth r1 0).toList)
 else
  bif (jL:Int)==0 then
  (C BX [.int .i64 a,.int .i64 b',.list aa ak]).bind fun r2=>
  kr ((V.nth r2 0).toList)
  else
  zU C a b' jL eX fk (IntKind.wrap .i64 (b'-a)) (!eX) ak (un fun (cN:Int) (DZ:List V)=>
   (C BY [.list aa DZ,.int .i64 a,.int .i64 b']).bind fun r6=>
   zV C a b' cN eX fk (IntKind.wrap .i64 (b'-a)) ((V.nth r6 0).toInt) ((V.nth (r6.drop 1) 0).toInt) ((((V.nth (r6.drop 1) 0).toInt):Int)==2) DZ (un fun (dW:Int)=>un fun (O8:Int) (pB:List V)=>
    bif eX then
     bif fk then
     nq C a b' cN eX fk (IntKind.wrap .i64 (b'-a)) dW ((O8:Int)==1) pB (cu (un fun (Ch:Bool) (OX:List V)=>
      kr OX) (fun (wP:List V)=>
      bif decide ((a:Int)>0) then
       bif (decide (0≤(IntKind.wrap .i64 (a-1))))&&(decide ((IntKind.wrap .i64 (a-1))<(wP.length:Int))) then
       (wP[(IntKind.wrap .i64 (a-1):Int).toNat]?).bind fun fB=>
       bif (decide (0≤dW))&&(decide (dW<(wP.length:Int))) then
        (wP[(dW:Int).toNat]?).bind fun gf=>
        (C bp [.int .i64 ((fB.cell 0).toInt),.int .i64 ((fB.cell 1).toInt),.list aa ((fB.cell 2).toList),.int .i64 ((gf.cell 0).toInt),.int .i64 ((gf.cell 1).toInt),.list aa ((gf.cell 2).toList)]).bind fun eu=>
        bif !(decide ((((V.nth eu 0).toInt):Int)<0)) then
        (C vG [.int .i64 a,.int .i64 b',.int .i64 dW,.list aa wP]).bind fun ki=>
        kn ((V.nth ki 0).toInt,b',cN,eX,fk,(V.nth (ki.drop 1) 0).toList)
        else
        (C oc [.int .i64 a,.int .i64 b',.int .i64 dW,.list aa wP]).bind fun eV=>
        bif decide (((IntKind.wrap .i64 (((V.nth eV 0).toInt)-a)):Int)<(IntKind.wrap .i64 (b'-((V.nth eV 0).toInt)))) then
         (C gK [.int .i64 a,.int .i64 ((V.nth eV 0).toInt),.int .i64 cN,.list aa ((V.nth (eV.drop 2) 0).toList)]).bind fun jM=>
         kn (IntKind.wrap .i64 (((V.nth eV 0).toInt)+1),b',cN,decide (((IntKind.wrap .i64 (((V.nth eV 0).toInt)-a)):Int)≥(IntKind.wrap .i64 (Int.tdiv (IntKind.wrap .i64 (b'-a)) 8))),(V.nth (eV.drop 1) 0).toBool,(V.nth jM 0).toList)
        else
         (C gK [.int .i64 (IntKind.wrap .i64 (((V.nth eV 0).toInt)+1)),.int .i64 b',.int .i64 cN,.list aa ((V.nth (eV.drop 2) 0).toList)]).bind fun pE=>
         kn (a,(V.nth eV 0).toInt,cN,decide (((IntKind.wrap .i64 (b'-((V.nth eV 0).toInt))):Int)≥(IntKind.wrap .i64 (Int.tdiv (IntKind.wrap .i64 (b'-a)) 8))),(V.nth (eV.drop 1) 0).toBool,(V.nth pE 0).toList)
       else none
       else none
      else
       (C oc [.int .i64 a,.int .i64 b',.int .i64 dW,.list aa wP]).bind fun kX=>
       bif decide (((IntKind.wrap .i64 (((V.nth kX 0).toInt)-a)):Int)<(IntKind.wrap .i64 (b'-((V.nth kX 0).toInt)))) then
       (C gK [.int .i64 a,.int .i64 ((V.nth kX 0).toInt),.int .i64 cN,.list aa ((V.nth (kX.drop 2) 0).toList)]).bind fun r23=>
       kn (IntKind.wrap .i64 (((V.nth kX 0).toInt)+1),b',cN,decide (((IntKind.wrap .i64 (((V.nth kX 0).toInt)-a)):Int)≥(IntKind.wrap .i64 (Int.tdiv (IntKind.wrap .i64 (b'-a)) 8))),(V.nth (kX.drop 1) 0).toBool,(V.nth r23 0).toList)
       else
       (C gK [.int .i64 (IntKind.wrap .i64 (((V.nth kX 0).toInt)+1)),.int .i64 b',.int .i64 cN,.list aa ((V.nth (kX.drop 2) 0).toList)]).bind fun Oy=>
       kn (a,(V.nth kX 0).toInt,cN,decide (((IntKind.wrap .i64 (b'-((V.nth kX 0).toInt))):Int)≥(IntKind.wrap .i64 (Int.tdiv (IntKind.wrap .i64 (b'-a)) 8))),(V.nth (kX.drop 1) 0).toBool,(V.nth Oy 0).toList)))
     else
     nq C a b' cN eX fk (IntKind.wrap .i64 (b'-a)) dW false pB (cu (un fun (Up:Bool) (akR:List V)=>
      kr akR) (fun (sx:List V)=>
      bif decide ((a:Int)>0) then
       bif (decide (0≤(IntKind.wrap .i64 (a-1))))&&(decide ((IntKind.wrap .i64 (a-1))<(sx.length:Int))) then
       (sx[(IntKind.wrap .i64 (a-1):Int).toNat]?).bind fun wI=>
       bif (decide (0≤dW))&&(decide (dW<(sx.length:Int))) then
        (sx[(dW:Int).toNat]?).bind fun wJ=>
        (C bp [.int .i64 ((wI.cell 0).toInt),.int .i64 ((wI.cell 1).toInt),.list aa ((wI.cell 2).toList),.int .i64 ((wJ.cell 0).toInt),.int .i64 ((wJ.cell 1).toInt),.list aa ((wJ.cell 2).toList)]).bind fun ID=>
        bif !(decide ((((V.nth ID 0).toInt):Int)<0)) then
        (C vG [.int .i64 a,.int .i64 b',.int .i64 dW,.list aa sx]).bind fun Yc=>
        kn ((V.nth Yc 0).toInt,b',cN,eX,fk,(V.nth (Yc.drop 1) 0).toList)
        else
        (C oc [.int .i64 a,.int .i64 b',.int .i64 dW,.list aa sx]).bind fun oz=>
        bif decide (((IntKind.wrap .i64 (((V.nth oz 0).toInt)-a)):Int)<(IntKind.wrap .i64 (b'-((V.nth oz 0).toInt)))) then
         (C gK [.int .i64 a,.int .i64 ((V.nth oz 0).toInt),.int .i64 cN,.list aa ((V.nth (oz.drop 2) 0).toList)]).bind fun r33=>
         kn (IntKind.wrap .i64 (((V.nth oz 0).toInt)+1),b',cN,decide (((IntKind.wrap .i64 (((V.nth oz 0).toInt)-a)):Int)≥(IntKind.wrap .i64 (Int.tdiv (IntKind.wrap .i64 (b'-a)) 8))),(V.nth (oz.drop 1) 0).toBool,(V.nth r33 0).toList)
        else
         (C gK [.int .i64 (IntKind.wrap .i64 (((V.nth oz 0).toInt)+1)),.int .i64 b',.int .i64 cN,.list aa ((V.nth (oz.drop 2) 0).toList)]).bind fun r34=>
         kn (a,(V.nth oz 0).toInt,cN,decide (((IntKind.wrap .i64 (b'-((V.nth oz 0).toInt))):Int)≥(IntKind.wrap .i64 (Int.tdiv (IntKind.wrap .i64 (b'-a)) 8))),(V.nth (oz.drop 1) 0).toBool,(V.nth r34 0).toList)
       else none
       else none
      else
       (C oc [.int .i64 a,.int .i64 b',.int .i64 dW,.list aa sx]).bind fun oA=>
       bif decide (((IntKind.wrap .i64 (((V.nth oA 0).toInt)-a)):Int)<(IntKind.wrap .i64 (b'-((V.nth oA 0).toInt)))) then
       (C gK [.int .i64 a,.int .i64 ((V.nth oA 0).toInt),.int .i64 cN,.list aa ((V.nth (oA.drop 2) 0).toList)]).bind fun r36=>
       kn (IntKind.wrap .i64 (((V.nth oA 0).toInt)+1),b',cN,decide (((IntKind.wrap .i64 (((V.nth oA 0).toInt)-a)):Int)≥(IntKind.wrap .i64 (Int.tdiv (IntKind.wrap .i64 (b'-a)) 8))),(V.nth (oA.drop 1) 0).toBool,(V.nth r36 0).toList)
       else
       (C gK [.int .i64 (IntKind.wrap .i64 (((V.nth oA 0).toInt)+1)),.int .i64 b',.int .i64 cN,.list aa ((V.nth (oA.drop 2) 0).toList)]).bind fun r37=>
       kn (a,(V.nth oA 0).toInt,cN,decide (((IntKind.wrap .i64 (b'-((V.nth oA 0).toInt))):Int)≥(IntKind.wrap .i64 (Int.tdiv (IntKind.wrap .i64 (b'-a)) 8))),(V.nth (oA.drop 1) 0).toBool,(V.nth r37 0).toList)))
    else
     nq C a b' cN eX fk (IntKind.wrap .i64 (b'-a)) dW false pB (cu (un fun (Uv:Bool) (akS:List V)=>
      kr akS) (fun (kg:List V)=>
      bif decide ((a:Int)>0) then
      bif (decide (0≤(IntKind.wrap .i64 (a-1))))&&(decide ((IntKind.wrap .i64 (a-1))<(kg.length:Int))) then
       (kg[(IntKind.wrap .i64 (a-1):Int).toNat]?).bind fun np=>
       bif (decide (0≤dW))&&(decide (dW<(kg.length:Int))) then
       (kg[(dW:Int).toNat]?).bind fun wK=>
       (C bp [.int .i64 ((np.cell 0).toInt),.int .i64 ((np.cell 1).toInt),.list aa ((np.cell 2).toList),.int .i64 ((wK.cell 0).toInt),.int .i64 ((wK.cell 1).toInt),.list aa ((wK.cell 2).toList)]).bind fun r43=>
       bif !(decide ((((V.nth r43 0).toInt):Int)<0)) then
        (C vG [.int .i64 a,.int .i64 b',.int .i64 dW,.list aa kg]).bind fun Yd=>
        kn ((V.nth Yd 0).toInt,b',cN,eX,fk,(V.nth (Yd.drop 1) 0).toList)
       else
        (C oc [.int .i64 a,.int .i64 b',.int .i64 dW,.list aa kg]).bind fun oB=>
        bif decide (((IntKind.wrap .i64 (((V.nth oB 0).toInt)-a)):Int)<(IntKind.wrap .i64 (b'-((V.nth oB 0).toInt)))) then
        (C gK [.int .i64 a,.int .i64 ((V.nth oB 0).toInt),.int .i64 cN,.list aa ((V.nth (oB.drop 2) 0).toList)]).bind fun r46=>
        kn (IntKind.wrap .i64 (((V.nth oB 0).toInt)+1),b',cN,decide (((IntKind.wrap .i64 (((V.nth oB 0).toInt)-a)):Int)≥(IntKind.wrap .i64 (Int.tdiv (IntKind.wrap .i64 (b'-a)) 8))),(V.nth (oB.drop 1) 0).toBool,(V.nth r46 0).toList)
        else
        (C gK [.int .i64 (IntKind.wrap .i64 (((V.nth oB 0).toInt)+1)),.int .i64 b',.int .i64 cN,.list aa ((V.nth (oB.drop 2) 0).toList)]).bind fun r47=>
        kn (a,(V.nth oB 0).toInt,cN,decide (((IntKind.wrap .i64 (b'-((V.nth oB 0).toInt))):Int)≥(IntKind.wrap .i64 (Int.tdiv (IntKind.wrap .i64 (b'-a)) 8))),(V.nth (oB.drop 1) 0).toBool,(V.nth r47 0).toList)
       else none
      else none
      else
      (C oc [.int .i64 a,.int .i64 b',.int .i64 dW,.list aa kg]).bind fun oC=>
      bif decide (((IntKind.wrap .i64 (((V.nth oC 0).toInt)-a)):Int)<(IntKind.wrap .i64 (b'-((V.nth oC 0).toInt)))) then
       (C gK [.int .i64 a,.int .i64 ((V.nth oC 0).toInt),.int .i64 cN,.list aa ((V.nth (oC.drop 2) 0).toList)]).bind fun r49=>
       kn (IntKind.wrap .i64 (((V.nth oC 0).toInt)+1),b',cN,decide (((IntKind.wrap .i64 (((V.nth oC 0).toInt)-a)):Int)≥(IntKind.wrap .i64 (Int.tdiv (IntKind.wrap .i64 (b'-a)) 8))),(V.nth (oC.drop 1) 0).toBool,(V.nth r49 0).toList)
      else
       (C gK [.int .i64 (IntKind.wrap .i64 (((V.nth oC 0).toInt)+1)),.int .i64 b',.int .i64 cN,.list aa ((V.nth (oC.drop 2) 0).toList)]).bind fun r50=>
       kn (a,(V.nth oC 0).toInt,cN,decide (((IntKind.wrap .i64 (b'-((V.nth oC 0).toInt))):Int)≥(IntKind.wrap .i64 (Int.tdiv (IntKind.wrap .i64 (b'-a)) 8))),(V.nth (oC.drop 1) 0).toBool,(V.nth r50 0).toList)))))
noncomputable def Ye (C:ae):(Int × Int × Int × Bool × Bool × (List V))→Option ((Int × Int × Int × Bool × Bool × (List V)) ⊕ (List V)):=un fun a=>un fun b'=>un fun jL=>un fun eX=>un fun fk ak=>qL C a b' jL eX fk ak (fun y=>some (.inl y)) (fun r=>some (.inr r))
noncomputable def Yf (C:ae):bZ:=fun β n ds k=>
 bif Nat.beq n 639 then iM MX [[1,2,0,4,5,6,0]] (@zU C) ds k else
 bif Nat.beq n 911 then iM MY [[1,2,3,4,5,6,0,0,0]] (@zV C) ds k else
 bif Nat.beq n 1215 then iM MZ [[1,2,3,4,5,6,7,0,0],[1,2,3,4,5,6,7,0]] (@nq C) ds k else
 bif Nat.beq n 33 then bK M0 [true,true,true,true,true,true] [[0]] (@qL C) ds k else
 none
abbrev IL (C:ae) (b:bX):Prop:=bY Tryz.prog au C (Yf C) 89 (cj Tryz.prog (au.aP 89)) (au.sin 89).ba.length b
theorem akT (C:ae):IL C (.cond 39 (aw [1,1,0,0,0,1,1,1,0,1,0] mB) (aw [1,1,0,0,0,1,1,1,0,1,1] mB)):=
 jq MX [[1,2,0,4,5,6,0]] (@zU C) (by kernel_rfl) (a8 (bs:=[]) (by kernel_rfl) ax) (a8 (bs:=[]) (by kernel_rfl) ax) (fun ds=>by kernel_rfl) (fun i β k=>by kernel_rfl) (fun β ds k=>by kernel_rfl)
theorem akU (C:ae):IL C (.cond 56 (aw [1,1,0,0,0,1,1,1,1,1,0,1,0] mB) (aw [1,1,0,0,0,1,1,1,1,1,0,1,1] mB)):=
 jq MY [[1,2,3,4,5,6,0,0,0]] (@zV C) (by kernel_rfl) (a8 (bs:=[]) (by kernel_rfl) ax) (a8 (bs:=[]) (by kernel_rfl) ax) (fun ds=>by kernel_rfl) (fun i β k=>by kernel_rfl) (fun β ds k=>by kernel_rfl)
theorem akV (C:ae):IL C (.cond 75 (aw [1,1,0,0,0,1,1,1,1,1,1,0,1,0] mB) (aw [1,1,0,0,0,1,1,1,1,1,1,0,1,1] mB)):=
 jq MZ [[1,2,3,4,5,6,7,0,0],[1,2,3,4,5,6,7,0]] (@nq C) (by kernel_rfl) (a8 (bs:=[]) (by kernel_rfl) ax) (a8 (bs:=[]) (by kernel_rfl) ax) (fun ds=>by kernel_rfl) (fun i β k=>by kernel_rfl) (fun β ds k=>by kernel_rfl)
theorem akW (C:ae):IL C (.loop (aw [1,1,0,0] mB)):=
 bN M0 [true,true,true,true,true,true] [[0]] (@qL C) (by kernel_rfl) (a8 (bs:=[.cond 39 (aw [1,1,0,0,0,1,1,1,0,1,0] mB) (aw [1,1,0,0,0,1,1,1,0,1,1] mB),.cond 56 (aw [1,1,0,0,0,1,1,1,1,1,0,1,0] mB) (aw [1,1,0,0,0,1,1,1,1,1,0,1,1] mB),.cond 75 (aw [1,1,0,0,0,1,1,1,1,1,1,0,1,0] mB) (aw [1,1,0,0,0,1,1,1,1,1,1,0,1,1] mB)]) (by kernel_rfl) (bq (akT C) (bq (akU C) (bq (akV C) ax)))) (fun ds=>by kernel_rfl) (fun i x=>by kernel_rfl) (fun i x β k=>by kernel_rfl) (fun β ds k=>by kernel_rfl)
noncomputable def Yg (C:ae) (a b' jL:Int) (ak:List V):Option (List V):=
 (Loop (Ye C) (a,b',jL,true,true,ak)).bind (fun (akX:List V)=>
  some [.list aa akX])
theorem akY {a b' jL:Int} {ak:List V} {r:Option (List V)} (h:Yg CC a b' jL ak=r):CC gK [.int .i64 a,.int .i64 b',.int .i64 jL,.list aa ak]=r:=
 aY (key:=89) (L:=Yf CC) (bs:=[.loop (aw [1,1,0,0] mB)]) (by kernel_rfl) (bq (akW CC) ax) (aX (by kernel_rfl) h)
noncomputable def Yh (C:ae) (xs:List V):Option (List V):=
 (C BV [.int .u64 (IntKind.wrap .u64 (xs.length:Int))]).bind fun r1=>
 (C gK [.int .i64 0,.int .i64 (xs.length:Int),.int .i64 ((V.nth r1 0).toInt),.list aa xs]).bind fun r2=>
 some [.list aa ((V.nth r2 0).toList)]
theorem akZ {xs:List V} {r:Option (List V)} (h:Yh CC xs=r):CC BU [.list aa xs]=r:=
 aY (key:=84) (L:=b6) (bs:=[]) (by kernel_rfl) ax (aX (by kernel_rfl) h)
end Go.AM
set_option maxRecDepth 100000
set_option maxHeartbeats 4000000
namespace Go.AM.SX
open Go.Proofs Go.Sort
theorem ak0 (a b:XE):b8 a b<0↔a.lt b:=Iff.rfl
theorem Yi (a b:XE):(aA a b=true)=(a.lt b):=by rw[tY];rfl
theorem IM (a b:XE):(aA a b=false)= ¬(a.lt b):=by rw[←Yi];simp
theorem zW:SWO aA where
 irrefl x:=by rw[IM];exact XE.lt_irrefl x
 trans x y z:=by simp only[Yi];exact XE.lt_trans
 ntrans x y z:=by simp only[IM];exact XE.ajJ
def IN:List UInt8:=([0,1,2,2,3,3,3,3,4,4,4,4,4,4,4,4,5,5,5,5,5,5,5,5,5,5,5,5,5,5,5,5,6,6,6,6,6,6,6,6,6,6,6,6,6,6,6,6,6,6,6,6,6,6,6,6,6,6,6,6,6,6,6,6,7,7,7,7,7,7,7,7,7,7,7,7,7,7,7,7,7,7,7,7,7,7,7,7,7,7,7,7,7,7,7,7,7,7,7,7,7,7,7,7,7,7,7,7,7,7,7,7,7,7,7,7,7,7,7,7,7,7,7,7,7,7,7,7,8,8,8,8,8,8,8,8,8,8,8,8,8,8,8,8,8,8,8,8,8,8,8,8,8,8,8,8,8,8,8,8,8,8,8,8,8,8,8,8,8,8,8,8,8,8,8,8,8,8,8,8,8,8,8,8,8,8,8,8,8,8,8,8,8,8,8,8,8,8,8,8,8,8,8,8,8,8,8,8,8,8,8,8,8,8,8,8,8,8,8,8,8,8,8,8,8,8,8,8,8,8,8,8,8,8,8,8,8,8,8,8,8,8,8,8,8,8,8,8,8,8,8,8,8,8,8,8]:List UInt8)
theorem ak1:(List.range 256).all (fun y=>match IN[y]? with|some b=>decide (b.toNat≤8)&&(Nat.beq y 0||(decide (1≤b.toNat)&&decide (2^(b.toNat-1)≤y)))|none=>false)=true:=by decide+kernel
theorem Yj {y:Nat} (h:y<256): ∃b,IN[y]? =some b∧b.toNat≤8∧(0<y→1≤b.toNat∧2^(b.toNat-1)≤y):=by
 have:=fm.1 ak1 y (Am.2 h)
 cases hb:IN[y]? with
 | none=>rw[hb] at this;cases this
 | some b=>
  rw[hb] at this
  simp only[aO,Aq,dX] at this
  refine ⟨b,rfl,this.1,fun hy=> ?_⟩
  rcases this.2 with U|U
  ·have:=Ah U;omega
  ·exact U
theorem O9 {y t k:Nat} (h:2^(t-1)≤y/2^k) (ht:1≤t):2^(t+k-1)≤y:=by
 have e:t+k-1=(t-1)+k:=by omega
 rw[e,Nat.pow_add]
 exact lg (dL _ h) (Nat.div_mul_le_self _ _)
noncomputable def zX (y n:Int):Option (List V):=
(bif decide ((y:Int)≥256) then
    (bif decide (0≤(IntKind.wrap .u8 (Int.fdiv y (2^(min (8:Int).toNat (IntKind.bits .u64)))))) then (([0,1,2,2,3,3,3,3,4,4,4,4,4,4,4,4,5,5,5,5,5,5,5,5,5,5,5,5,5,5,5,5,6,6,6,6,6,6,6,6,6,6,6,6,6,6,6,6,6,6,6,6,6,6,6,6,6,6,6,6,6,6,6,6,7,7,7,7,7,7,7,7,7,7,7,7,7,7,7,7,7,7,7,7,7,7,7,7,7,7,7,7,7,7,7,7,7,7,7,7,7,7,7,7,7,7,7,7,7,7,7,7,7,7,7,7,7,7,7,7,7,7,7,7,7,7,7,7,8,8,8,8,8,8,8,8,8,8,8,8,8,8,8,8,8,8,8,8,8,8,8,8,8,8,8,8,8,8,8,8,8,8,8,8,8,8,8,8,8,8,8,8,8,8,8,8,8,8,8,8,8,8,8,8,8,8,8,8,8,8,8,8,8,8,8,8,8,8,8,8,8,8,8,8,8,8,8,8,8,8,8,8,8,8,8,8,8,8,8,8,8,8,8,8,8,8,8,8,8,8,8,8,8,8,8,8,8,8,8,8,8,8,8,8,8,8,8,8,8,8,8,8,8,8,8,8]:List UInt8)[(IntKind.wrap .u8 (Int.fdiv y (2^(min (8:Int).toNat (IntKind.bits .u64)))):Int).toNat]?).map fun b=>V.int .u8 b.toNat else none).bind fun x5=>
    some [V.int .i64 (IntKind.wrap .i64 ((IntKind.wrap .i64 (n+8))+(IntKind.wrap .i64 x5.toInt)))]
   else
    (bif decide (0≤(IntKind.wrap .u8 y)) then (([0,1,2,2,3,3,3,3,4,4,4,4,4,4,4,4,5,5,5,5,5,5,5,5,5,5,5,5,5,5,5,5,6,6,6,6,6,6,6,6,6,6,6,6,6,6,6,6,6,6,6,6,6,6,6,6,6,6,6,6,6,6,6,6,7,7,7,7,7,7,7,7,7,7,7,7,7,7,7,7,7,7,7,7,7,7,7,7,7,7,7,7,7,7,7,7,7,7,7,7,7,7,7,7,7,7,7,7,7,7,7,7,7,7,7,7,7,7,7,7,7,7,7,7,7,7,7,7,8,8,8,8,8,8,8,8,8,8,8,8,8,8,8,8,8,8,8,8,8,8,8,8,8,8,8,8,8,8,8,8,8,8,8,8,8,8,8,8,8,8,8,8,8,8,8,8,8,8,8,8,8,8,8,8,8,8,8,8,8,8,8,8,8,8,8,8,8,8,8,8,8,8,8,8,8,8,8,8,8,8,8,8,8,8,8,8,8,8,8,8,8,8,8,8,8,8,8,8,8,8,8,8,8,8,8,8,8,8,8,8,8,8,8,8,8,8,8,8,8,8,8,8,8,8,8,8]:List UInt8)[(IntKind.wrap .u8 y:Int).toNat]?).map fun b=>V.int .u8 b.toNat else none).bind fun x6=>
    some [V.int .i64 (IntKind.wrap .i64 (n+(IntKind.wrap .i64 x6.toInt)))])
theorem ak2 {x:Nat} (h:x<2^64): ∃L:Nat,CC Hm [.int .u64 (x:Int)]=some [.int .i64 (L:Int)]∧L≤64∧(0<x→1≤L∧2^(L-1)≤x):=by
 have last: ∀y n:Nat,y<65536→n≤48→∃t:Nat,
   zX (y:Int) (n:Int)=some [V.int .i64 ((n+t:Nat):Int)]∧t≤16∧(0<y→1≤t∧2^(t-1)≤y):=by
  intro y n hy hn
  unfold zX
  rw[show ([0,1,2,2,3,3,3,3,4,4,4,4,4,4,4,4,5,5,5,5,5,5,5,5,5,5,5,5,5,5,5,5,6,6,6,6,6,6,6,6,6,6,6,6,6,6,6,6,6,6,6,6,6,6,6,6,6,6,6,6,6,6,6,6,7,7,7,7,7,7,7,7,7,7,7,7,7,7,7,7,7,7,7,7,7,7,7,7,7,7,7,7,7,7,7,7,7,7,7,7,7,7,7,7,7,7,7,7,7,7,7,7,7,7,7,7,7,7,7,7,7,7,7,7,7,7,7,7,8,8,8,8,8,8,8,8,8,8,8,8,8,8,8,8,8,8,8,8,8,8,8,8,8,8,8,8,8,8,8,8,8,8,8,8,8,8,8,8,8,8,8,8,8,8,8,8,8,8,8,8,8,8,8,8,8,8,8,8,8,8,8,8,8,8,8,8,8,8,8,8,8,8,8,8,8,8,8,8,8,8,8,8,8,8,8,8,8,8,8,8,8,8,8,8,8,8,8,8,8,8,8,8,8,8,8,8,8,8,8,8,8,8,8,8,8,8,8,8,8,8,8,8,8,8,8,8]:List UInt8)=IN from rfl]
  by_cases h1:y≥256
  ·have e:Int.fdiv (y:Int) (2^(min (8:Int).toNat (IntKind.bits .u64)))=((y/2^8:Nat):Int):=yV (m:=8) (by omega)
   obtain ⟨b,hb,b1,b2⟩:=Yj (y:=y/2^8) (by omega)
   refine ⟨b.toNat+8,?_,by omega,fun _=> ?_⟩
   ·rw[e,az,ag (by omega),yl (by omega) (by omega),az,ag (by omega),Int.toNat_natCast,hb]
    simp only[Option.map_some,Option.bind_some,V.toInt_int]
    simp (disch:=omega) only[wrap64]
    congr 3
    omega
   ·obtain ⟨b3,b4⟩:=b2 (by omega)
    exact ⟨by omega,O9 b4 b3⟩
  ·obtain ⟨b,hb,b1,b2⟩:=Yj (y:=y) (by omega)
   refine ⟨b.toNat,?_,by omega,b2⟩
   rw[az,ah (by omega),yl (by omega) (by omega),az,ag (by omega),Int.toNat_natCast,hb]
   simp (disch:=omega) only[Option.map_some,Option.bind_some,V.toInt_int,wrap64]
   congr 3
 have mid: ∀y n:Nat,y<4294967296→n≤32→∃t:Nat,∀F:Int→Int→Option (List V),
   (∀y n:Nat,y<65536→n≤48→∃t:Nat,F (y:Int) (n:Int)=some [V.int .i64 ((n+t:Nat):Int)]∧t≤16∧(0<y→1≤t∧2^(t-1)≤y))→
   ∃t:Nat,wO CC (y:Int) (n:Int) (decide (((y:Int):Int)≥65536)) (un F)=some [V.int .i64 ((n+t:Nat):Int)]∧t≤32∧(0<y→1≤t∧2^(t-1)≤y):=by
  intro y n hy hn
  refine ⟨0,fun F hF=> ?_⟩
  unfold wO
  by_cases h1:y≥65536
  ·have e:Int.fdiv (y:Int) (2^(min (16:Int).toNat (IntKind.bits .u64)))=((y/2^16:Nat):Int):=yV (m:=16) (by omega)
   rw[az,ag (by omega),e,wrap64 (by omega) (by omega)]
   obtain ⟨t,U,h3,h4⟩:=hF (y/2^16) (n+16) (by omega) (by omega)
   refine ⟨t+16,?_,by omega,fun _=> ?_⟩
   ·rw[show ((n:Int)+16)=((n+16:Nat):Int) by omega]
    simp only[un]
    rw[U]
    congr 3
    omega
   ·obtain ⟨b3,b4⟩:=h4 (by omega)
    exact ⟨by omega,O9 b4 b3⟩
  ·rw[az,ah (by omega)]
   obtain ⟨t,U,h3,h4⟩:=hF y n (by omega) (by omega)
   exact ⟨t,U,by omega,h4⟩
 by_cases h1:x≥4294967296
 ·have e:Int.fdiv (x:Int) (2^(min (32:Int).toNat (IntKind.bits .u64)))=((x/2^32:Nat):Int):=yV (m:=32) (by omega)
  obtain ⟨_,hm⟩:=mid (x/2^32) 32 (by omega) (by omega)
  obtain ⟨t,U,h3,h4⟩:=hm zX last
  refine ⟨32+t,Yb ?_,by omega,fun _=> ?_⟩
  ·show wM CC (x:Int) 0 (decide (((x:Int):Int)≥4294967296)) (un fun (uc:Int) (DX:Int)=>wO CC uc DX (decide ((uc:Int)≥65536)) (un zX))=_
   unfold wM
   rw[az,ag (by omega),e]
   exact U
  ·obtain ⟨b3,b4⟩:=h4 (by omega)
   rw[Nat.add_comm 32 t]
   exact ⟨by omega,O9 b4 b3⟩
 ·obtain ⟨_,hm⟩:=mid x 0 (by omega) (by omega)
  obtain ⟨t,U,h3,h4⟩:=hm zX last
  refine ⟨t,Yb ?_,by omega,h4⟩
  show wM CC (x:Int) 0 (decide (((x:Int):Int)≥4294967296)) (un fun (uc:Int) (DX:Int)=>wO CC uc DX (decide ((uc:Int)≥65536)) (un zX))=_
  unfold wM
  rw[az,ah (by omega)]
  rw[gV] at U
  exact U
theorem Yk {x:Nat} (h:x<2^64): ∃L:Nat,CC BV [.int .u64 (x:Int)]=some [.int .i64 (L:Int)]∧L≤64∧(0<x→1≤L∧2^(L-1)≤x):=by
 obtain ⟨L,h1,U⟩:=ak2 h
 refine ⟨L,akN ?_,U⟩
 unfold X7
 rw[h1]
 rfl
theorem ak3 {x:Nat} (h0:0<x) (h:x<1152921504606846976): ∃M:Nat,CC Hn [.int .i64 (x:Int)]=some [.int .u64 (M:Int)]∧1≤M∧M≤2*x:=by
 obtain ⟨L,h1,U,h3⟩:=Yk (x:=x) (by omega)
 obtain ⟨h4,h5⟩:=h3 h0
 have e:2^L=2*2^(L-1):=by
  obtain ⟨k,rfl⟩: ∃k,L=k+1:=⟨L-1,by omega⟩
  rw[Nat.pow_succ];simp only[xc];omega
 have hL:L<64:=by
  by_cases hx:L<64
  ·exact hx
  ·have:2^63≤2^(L-1):=Nat.pow_le_pow_right (by omega) (by omega)
   omega
 refine ⟨2^L,akM ?_,ux (by simp),by omega⟩
 unfold X6
 rw[tD (A:=x) (by omega),h1]
 simp only[Option.bind_some,V.aC,V.toInt_int]
 rw[az,ag (by omega),Int.toNat_natCast,NQ hL]
theorem ak4 (r:Int): ∃R:Nat,CC Ho [.int .u64 r]=some [.int .u64 (R:Int),.int .u64 (R:Int)]∧R<2^64:=by
 have h: ∀n:Int,∃R:Nat,IntKind.wrap .u64 n=(R:Int)∧R<2^64:=fun n=>⟨(IntKind.wrap .u64 n).toNat,by rw[wrap_u64];omega,by rw[wrap_u64];omega⟩
 obtain ⟨R,h1,U⟩:=h _
 exact ⟨R,akL (by unfold X5;rw[h1]),U⟩
theorem IP {d:Array XE} {i:Nat} (h:i<d.size):idx (eA d) (i:Int)=some (d[i]!).enc:=by rw[n0,gk h]
theorem Pb {d:Array XE} {a b:Nat} {s:Int} (ha:a<d.size) (hb:b<d.size): ∃(x y:Nat) (s':Int),CC yN [.list aa (eA d),.int .i64 (a:Int),.int .i64 (b:Int),.int .i64 s]=some [.int .i64 (x:Int),.int .i64 (y:Int),.int .i64 s']∧(x=a∧y=b∨x=b∧y=a):=by
 by_cases h:b8 d[b]! d[a]! <0
 ·refine ⟨b,a,_,X0 (by unfold O7;rw[IP hb,IP ha];simp only[Option.bind_some,XE.bz,XE.bA,XE.bB,gS,V.aC,V.toInt_int];rw[az,ag h]),.inr ⟨rfl,rfl⟩⟩
 ·refine ⟨a,b,_,X0 (by unfold O7;rw[IP hb,IP ha];simp only[Option.bind_some,XE.bz,XE.bA,XE.bB,gS,V.aC,V.toInt_int];rw[az,ah h]),.inl ⟨rfl,rfl⟩⟩
theorem Pc {d:Array XE} {a b c:Nat} {s:Int} (ha:a<d.size) (hb:b<d.size) (hc:c<d.size): ∃(m:Nat) (s':Int),CC B1 [.list aa (eA d),.int .i64 (a:Int),.int .i64 (b:Int),.int .i64 (c:Int),.int .i64 s]=some [.int .i64 (m:Int),.int .i64 s']∧(m=a∨m=b∨m=c):=by
 obtain ⟨x1,y1,s1,e1,o1⟩:=Pb (s:=s) ha hb
 obtain ⟨x2,y2,s2,e2,o2⟩:=Pb (d:=d) (a:=y1) (b:=c) (s:=s1) (by omega) hc
 obtain ⟨x3,y3,s3,e3,o3⟩:=Pb (d:=d) (a:=x1) (b:=x2) (s:=s2) (by omega) (by omega)
 refine ⟨y3,s3,akG ?_,by omega⟩
 unfold XZ
 rw[e1]
 simp only[Option.bind_some,V.aC,V.rZ,V.toInt_int,ek,dK]
 rw[e2]
 simp only[Option.bind_some,V.aC,V.rZ,V.toInt_int,ek,dK]
 rw[e3]
 rfl
theorem Pd {d:Array XE} {a:Nat} {s:Int} (h1:1≤a) (ha:a+1<d.size) (hs:d.size<1152921504606846976): ∃(m:Nat) (s':Int),CC yM [.list aa (eA d),.int .i64 (a:Int),.int .i64 s]=some [.int .i64 (m:Int),.int .i64 s']∧a≤m+1∧m≤a+1:=by
 obtain ⟨m,s',e,o⟩:=Pc (d:=d) (a:=a-1) (b:=a) (c:=a+1) (s:=s) (by omega) (by omega) (by omega)
 refine ⟨m,s',akH ?_,by omega,by omega⟩
 unfold X1
 simp (disch:=omega) only[kW,dV,wrap64]
 rw[e]
 rfl
theorem Pe (n:Nat):Int.tdiv (n:Int) 4=((n/4:Nat):Int):=by
 have:=divC n 4
 exact this
theorem mulC (k n:Nat):((k:Nat):Int)*(n:Int)=((k*n:Nat):Int):=(Int.natCast_mul k n).symm
theorem ak5 {d:Array XE} {a b:Nat} (fu:a+12<b) (hb:b≤d.size) (hs:d.size<1152921504606846976): ∃(p:Nat) (h:Int),CC BY [.list aa (eA d),.int .i64 (a:Int),.int .i64 (b:Int)]=some [.int .i64 (p:Int),.int .i64 h]∧a≤p∧p<b:=by
 have fin: ∀(p:Nat) (s:Int),∃h:Int,(bif (s:Int)==0 then some [V.int .i64 (p:Int),V.int .i64 1] else bif (s:Int)==12 then some [V.int .i64 (p:Int),V.int .i64 2] else some [V.int .i64 (p:Int),V.int .i64 0])=some [V.int .i64 (p:Int),V.int .i64 h]:=by
  intro p s
  rw[dD]
  split
  ·exact ⟨1,rfl⟩
  ·rw[dD]
   split
   ·exact ⟨2,rfl⟩
   ·exact ⟨0,rfl⟩
 have e1:IntKind.wrap .i64 ((b:Int)-(a:Int))=((b-a:Nat):Int):=by rw[nk (by omega),wrap64 (by omega) (by omega)]
 have e2:IntKind.wrap .i64 (Int.tdiv ((b-a:Nat):Int) 4)=(((b-a)/4:Nat):Int):=by rw[Pe,wrap64 (by omega) (by omega)]
 have e3: ∀k:Nat,k≤3→IntKind.wrap .i64 ((a:Int)+IntKind.wrap .i64 ((k:Int)*(((b-a)/4:Nat):Int)))=((a+k*((b-a)/4):Nat):Int):=by
  intro k hk
  have fy:k*((b-a)/4)≤3*((b-a)/4):=dL _ hk
  simp (disch:=omega) only[mulC,wrap64,gl]
 have Pf:=e3 1 (by omega)
 have ud:=e3 2 (by omega)
 have Pg:=e3 3 (by omega)
 rw[show ((1:Nat):Int)=1 from rfl] at Pf
 rw[show ((2:Nat):Int)=2 from rfl] at ud
 rw[show ((3:Nat):Int)=3 from rfl] at Pg
 by_cases h50:b-a≥50
 ·obtain ⟨m1,s1,q1,r1⟩:=Pd (d:=d) (a:=a+1*((b-a)/4)) (s:=0) (by omega) (by omega) hs
  obtain ⟨m2,s2,q2,r2⟩:=Pd (d:=d) (a:=a+2*((b-a)/4)) (s:=s1) (by omega) (by omega) hs
  obtain ⟨m3,s3,q3,r3⟩:=Pd (d:=d) (a:=a+3*((b-a)/4)) (s:=s2) (by omega) (by omega) hs
  obtain ⟨m,s,q,r⟩:=Pc (d:=d) (a:=m1) (b:=m2) (c:=m3) (s:=s3) (by omega) (by omega) (by omega)
  obtain ⟨h,hf⟩:=fin m s
  refine ⟨m,h,XY ?_,by omega,by omega⟩
  unfold O5 DU DT
  rw[e1,e2,Pf,ud,Pg,ou (by omega),cond_true,ou (by omega),cond_true,q1]
  simp only[Option.bind_some,V.aC,V.rZ,V.toInt_int,ek,dK]
  rw[q2]
  simp only[Option.bind_some,V.aC,V.rZ,V.toInt_int,ek,dK]
  rw[q3]
  simp only[Option.bind_some,V.aC,V.rZ,V.toInt_int,ek,dK,un]
  rw[q]
  exact hf
 ·obtain ⟨m,s,q,r⟩:=Pc (d:=d) (a:=a+1*((b-a)/4)) (b:=a+2*((b-a)/4)) (c:=a+3*((b-a)/4)) (s:=0) (by omega) (by omega) (by omega)
  obtain ⟨h,hf⟩:=fin m s
  refine ⟨m,h,XY ?_,by omega,by omega⟩
  unfold O5 DU DT
  rw[e1,e2,Pf,ud,Pg,ou (by omega),cond_true,tW (by omega),cond_false]
  simp only[un]
  rw[q]
  exact hf
theorem ak6 {a b M:Nat} (hM1:1≤M) (hM:M≤2*(b-a)) (h8:8≤b-a) (hB:b<1152921504606846976): ∀(n i:Nat) (d:Array XE) (r:Int),a+2*((b-a)/4)+2-i=n→a≤i→b≤d.size→d.size<1152921504606846976→
  ∃x y z R,Loop (IK CC a (b-a:Nat) M) ((i:Int),eA d,r)=some (x,y,eA R,z)∧PermIn a b d R:=by
 have e2:IntKind.wrap .i64 (Int.tdiv ((b-a:Nat):Int) 4)=(((b-a)/4:Nat):Int):=by rw[Pe,wrap64 (by omega) (by omega)]
 have ud:IntKind.wrap .i64 ((a:Int)+IntKind.wrap .i64 (2*(((b-a)/4:Nat):Int)))=((a+2*((b-a)/4):Nat):Int):=by
  have:=mulC 2 ((b-a)/4)
  rw[show ((2:Nat):Int)=2 from rfl] at this
  rw[this]
  simp (disch:=omega) only[wrap64,gl]
 intro n
 induction n with
 | zero=>
  intro i d r hn hi hb hs
  refine ⟨(i:Int),false,r,d,bj ?_,permIn_refl _ _ _⟩
  simp only[IK,DW,un]
  rw[e2,ud,dV,wrap64 (by omega) (by omega),tW (by omega),cond_false]
 | succ n ih=>
  intro i d r hn hi hb hs
  obtain ⟨R1,q1,q2⟩:=ak4 r
  obtain ⟨o,ho,lY⟩: ∃o:Nat,(o=if R1&&&(M-1)≥b-a then (R1&&&(M-1))-(b-a) else R1&&&(M-1))∧o<b-a:=by
   refine ⟨_,rfl,?_⟩
   have:R1&&&(M-1)≤M-1:=Nat.and_le_right
   split<;>omega
  have hand:R1&&&(M-1)≤M-1:=Nat.and_le_right
  have hP:=swp_permIn (α:=XE) d a b i (a+o) hi (by omega) (by omega) (by omega) hb
  obtain ⟨x,y,z,R,e,hR⟩:=ih (i+1) (swp d i (a+o)) (R1:Int) (by omega) (by omega) (by rw[size_swp];exact hb) (by rw[size_swp];exact hs)
  refine ⟨x,y,z,R,(bW ?_).trans e,permIn_trans _ _ _ a b hP hR⟩
  simp only[IK,DW,un]
  rw[e2,ud,dV,wrap64 (x:=((a+2*((b-a)/4)+1:Nat):Int)) (by omega) (by omega),ou (by omega),cond_true,q1]
  simp only[Option.bind_some,V.aC,V.rZ,V.toInt_int,ek,dK]
  have e5:IntKind.wrap .u64 ((M:Int)-1)=((M-1:Nat):Int):=by rw[kW hM1,tD (by omega)]
  rw[e5,u64_and q2 (by omega),wrap64 (x:=((R1&&&(M-1):Nat):Int)) (by omega) (by omega)]
  have fin: ∀k:Int,k=(o:Int)→(bif (decide (0≤(IntKind.wrap .i64 ((a:Int)+k))))&&(decide ((IntKind.wrap .i64 ((a:Int)+k))<((eA d).length:Int))) then
   ((eA d)[(IntKind.wrap .i64 ((a:Int)+k):Int).toNat]?).bind fun x4=>
   bif (decide (0≤(i:Int)))&&(decide ((i:Int)<((eA d).length:Int))) then
    ((eA d)[((i:Int):Int).toNat]?).bind fun x5=>
    bif (decide (0≤(i:Int)))&&(decide ((i:Int)<((eA d).length:Int))) then
    ((eA d)[((i:Int):Int).toNat]?).bind fun x6=>
    bif (decide (0≤(IntKind.wrap .i64 ((a:Int)+k))))&&(decide ((IntKind.wrap .i64 ((a:Int)+k))<(((eA d).set (((i:Int):Int).toNat) (.agg [.int .i64 ((x4.cell 0).toInt),.int .i64 ((x4.cell 1).toInt),.list aa ((x4.cell 2).toList)])).length:Int))) then
     (((eA d).set (((i:Int):Int).toNat) (.agg [.int .i64 ((x4.cell 0).toInt),.int .i64 ((x4.cell 1).toInt),.list aa ((x4.cell 2).toList)]))[(IntKind.wrap .i64 ((a:Int)+k):Int).toNat]?).bind fun x7=>
     some (.inl (IntKind.wrap .i64 ((i:Int)+1),((eA d).set (((i:Int):Int).toNat) (.agg [.int .i64 ((x4.cell 0).toInt),.int .i64 ((x4.cell 1).toInt),.list aa ((x4.cell 2).toList)])).set ((IntKind.wrap .i64 ((a:Int)+k):Int).toNat) (.agg [.int .i64 ((x5.cell 0).toInt),.int .i64 ((x5.cell 1).toInt),.list aa ((x5.cell 2).toList)]),(R1:Int)))
    else none
    else none
   else none
   else none:Option ((Int × List V × Int) ⊕ (Int × Bool × List V × Int)))=some (.inl (((i+1:Nat):Int),eA (swp d i (a+o)),(R1:Int))):=by
   intro k hk
   subst hk
   simp (disch:=omega) only[az,ct,gd,ag,ah,wrap64,dV,gl,Int.toNat_natCast,Option.bind_some,gi,gk,XE.bz,XE.bA,XE.bB,XE.re,gj,iR,gX,gS,V.aC,V.toInt_int,cond_true,cond_false]
   rfl
  unfold IJ
  by_cases h:R1&&&(M-1)≥b-a
  ·rw[ag h] at ho
   rw[ou (by omega),cond_true]
   exact fin _ (by rw[nk (by omega),wrap64 (by omega) (by omega)];omega)
  ·rw[ah h] at ho
   rw[tW (by omega),cond_false]
   exact fin _ (by omega)
theorem ak7 {a b:Nat} {d:Array XE} (fu:a+12<b) (hb:b≤d.size) (hs:d.size<1152921504606846976): ∃R,CC Hj [.int .i64 (a:Int),.int .i64 (b:Int),.list aa (eA d)]=some [.list aa (eA R)]∧PermIn a b d R:=by
 obtain ⟨M,q1,q2,q3⟩:=ak3 (x:=b-a) (by omega) (by omega)
 have e1:IntKind.wrap .i64 ((b:Int)-(a:Int))=((b-a:Nat):Int):=by rw[nk (by omega),wrap64 (by omega) (by omega)]
 have e2:IntKind.wrap .i64 (Int.tdiv ((b-a:Nat):Int) 4)=(((b-a)/4:Nat):Int):=by rw[Pe,wrap64 (by omega) (by omega)]
 have ud:IntKind.wrap .i64 ((a:Int)+IntKind.wrap .i64 (2*(((b-a)/4:Nat):Int)))=((a+2*((b-a)/4):Nat):Int):=by
  have:=mulC 2 ((b-a)/4)
  rw[show ((2:Nat):Int)=2 from rfl] at this
  rw[this]
  simp (disch:=omega) only[wrap64,gl]
 obtain ⟨x,y,z,R,e,hR⟩:=ak6 (a:=a) (b:=b) (M:=M) q2 q3 (by omega) (by omega) _ (a+2*((b-a)/4)-1) d (IntKind.wrap .u64 ((b-a:Nat):Int)) rfl (by omega) hb hs
 refine ⟨R,akK ?_,hR⟩
 unfold X4
 rw[e1,az,ag (by omega),q1]
 simp only[Option.bind_some,V.aC,V.toInt_int]
 rw[e2,ud,kW (by omega),wrap64 (x:=((a+2*((b-a)/4)-1:Nat):Int)) (by omega) (by omega),e]
 rfl
noncomputable def ue (C:ae) (a b':Int) (eX fk:Bool) (cN dW:Int) (nn:List V) {β:Type} (kn:(Int × Int × Int × Bool × Bool × (List V))→Option β):Option β:=
      bif decide ((a:Int)>0) then
       bif (decide (0≤(IntKind.wrap .i64 (a-1))))&&(decide ((IntKind.wrap .i64 (a-1))<(nn.length:Int))) then
       (nn[(IntKind.wrap .i64 (a-1):Int).toNat]?).bind fun iN=>
       bif (decide (0≤dW))&&(decide (dW<(nn.length:Int))) then
        (nn[(dW:Int).toNat]?).bind fun mw=>
        (C bp [.int .i64 ((iN.cell 0).toInt),.int .i64 ((iN.cell 1).toInt),.list aa ((iN.cell 2).toList),.int .i64 ((mw.cell 0).toInt),.int .i64 ((mw.cell 1).toInt),.list aa ((mw.cell 2).toList)]).bind fun ox=>
        bif !(decide ((((V.nth ox 0).toInt):Int)<0)) then
        (C vG [.int .i64 a,.int .i64 b',.int .i64 dW,.list aa nn]).bind fun qM=>
        kn ((V.nth qM 0).toInt,b',cN,eX,fk,(V.nth (qM.drop 1) 0).toList)
        else
        (C oc [.int .i64 a,.int .i64 b',.int .i64 dW,.list aa nn]).bind fun eu=>
        bif decide (((IntKind.wrap .i64 (((V.nth eu 0).toInt)-a)):Int)<(IntKind.wrap .i64 (b'-((V.nth eu 0).toInt)))) then
         (C gK [.int .i64 a,.int .i64 ((V.nth eu 0).toInt),.int .i64 cN,.list aa ((V.nth (eu.drop 2) 0).toList)]).bind fun ki=>
         kn (IntKind.wrap .i64 (((V.nth eu 0).toInt)+1),b',cN,decide (((IntKind.wrap .i64 (((V.nth eu 0).toInt)-a)):Int)≥(IntKind.wrap .i64 (Int.tdiv (IntKind.wrap .i64 (b'-a)) 8))),(V.nth (eu.drop 1) 0).toBool,(V.nth ki 0).toList)
        else
         (C gK [.int .i64 (IntKind.wrap .i64 (((V.nth eu 0).toInt)+1)),.int .i64 b',.int .i64 cN,.list aa ((V.nth (eu.drop 2) 0).toList)]).bind fun eV=>
         kn (a,(V.nth eu 0).toInt,cN,decide (((IntKind.wrap .i64 (b'-((V.nth eu 0).toInt))):Int)≥(IntKind.wrap .i64 (Int.tdiv (IntKind.wrap .i64 (b'-a)) 8))),(V.nth (eu.drop 1) 0).toBool,(V.nth eV 0).toList)
       else none
       else none
      else
       (C oc [.int .i64 a,.int .i64 b',.int .i64 dW,.list aa nn]).bind fun jM=>
       bif decide (((IntKind.wrap .i64 (((V.nth jM 0).toInt)-a)):Int)<(IntKind.wrap .i64 (b'-((V.nth jM 0).toInt)))) then
       (C gK [.int .i64 a,.int .i64 ((V.nth jM 0).toInt),.int .i64 cN,.list aa ((V.nth (jM.drop 2) 0).toList)]).bind fun pE=>
       kn (IntKind.wrap .i64 (((V.nth jM 0).toInt)+1),b',cN,decide (((IntKind.wrap .i64 (((V.nth jM 0).toInt)-a)):Int)≥(IntKind.wrap .i64 (Int.tdiv (IntKind.wrap .i64 (b'-a)) 8))),(V.nth (jM.drop 1) 0).toBool,(V.nth pE 0).toList)
       else
       (C gK [.int .i64 (IntKind.wrap .i64 (((V.nth jM 0).toInt)+1)),.int .i64 b',.int .i64 cN,.list aa ((V.nth (jM.drop 2) 0).toList)]).bind fun kX=>
       kn (a,(V.nth jM 0).toInt,cN,decide (((IntKind.wrap .i64 (b'-((V.nth jM 0).toInt))):Int)≥(IntKind.wrap .i64 (Int.tdiv (IntKind.wrap .i64 (b'-a)) 8))),(V.nth (jM.drop 1) 0).toBool,(V.nth kX 0).toList)
theorem IQ (C:ae) (a b' jL:Int) (eX fk:Bool) (ak:List V) {β:Type} (kn:(Int × Int × Int × Bool × Bool × (List V))→Option β) (kr:(List V)→Option β):
  qL C a b' jL eX fk ak kn kr=
 bif decide (((IntKind.wrap .i64 (b'-a)):Int)≤12) then
  (C BW [.int .i64 a,.int .i64 b',.list aa ak]).bind fun r1=>
  kr ((V.nth r1 0).toList)
 else
  bif (jL:Int)==0 then
  (C BX [.int .i64 a,.int .i64 b',.list aa ak]).bind fun r2=>
  kr ((V.nth r2 0).toList)
  else
  zU C a b' jL eX fk (IntKind.wrap .i64 (b'-a)) (!eX) ak (un fun (cN:Int) (DZ:List V)=>
   (C BY [.list aa DZ,.int .i64 a,.int .i64 b']).bind fun r6=>
   zV C a b' cN eX fk (IntKind.wrap .i64 (b'-a)) ((V.nth r6 0).toInt) ((V.nth (r6.drop 1) 0).toInt) ((((V.nth (r6.drop 1) 0).toInt):Int)==2) DZ (un fun (dW:Int)=>un fun (O8:Int) (pB:List V)=>
    bif eX then
     bif fk then
     nq C a b' cN eX fk (IntKind.wrap .i64 (b'-a)) dW ((O8:Int)==1) pB (cu (un fun (Uo:Bool) (Ph:List V)=>
      kr Ph) (fun (nn:List V)=>ue C a b' eX fk cN dW nn kn))
     else
     nq C a b' cN eX fk (IntKind.wrap .i64 (b'-a)) dW false pB (cu (un fun (Uu:Bool) (ak8:List V)=>
      kr ak8) (fun (ak9:List V)=>ue C a b' eX fk cN dW ak9 kn))
    else
     nq C a b' cN eX fk (IntKind.wrap .i64 (b'-a)) dW false pB (cu (un fun (aeu:Bool) (ala:List V)=>
      kr ala) (fun (alb:List V)=>ue C a b' eX fk cN dW alb kn)))):=rfl
section
variable {a b:Nat} {lim:Int} {wb wp:Bool}
theorem alc {d:Array XE} (fu:a+12<b) (hb:b≤d.size) (hs:d.size<1152921504606846976) (len:Int) (t:Bool): ∃(l1:Int) (d1:Array XE),PermIn a b d d1∧∀(β:Type) (kr:(Int × List V)→Option β),zU CC a b lim wb wp len t (eA d) kr=kr (l1,eA d1):=by
 cases t with
 | true=>
  obtain ⟨R,e,hR⟩:=ak7 fu hb hs
  refine ⟨IntKind.wrap .i64 (lim-1),R,hR,fun β kr=> ?_⟩
  unfold zU
  rw[cond_true,e]
  rfl
 | false=>exact ⟨lim,d,permIn_refl _ _ _,fun β kr=>rfl⟩
theorem ald {d:Array XE} (fu:a+12<b) (hb:b≤d.size) (hs:d.size<1152921504606846976) (len h:Int) (t:Bool) {p:Nat} (h1:a≤p) (U:p<b): ∃(p2:Nat) (U:Int) (d1:Array XE),a≤p2∧p2<b∧PermIn a b d d1∧∀(β:Type) (kr:(Int × Int × List V)→Option β),zV CC a b lim wb wp len p h t (eA d) kr=kr ((p2:Int),U,eA d1):=by
 cases t with
 | true=>
  refine ⟨b-1-(p-a),1,reverseRange d a b,by omega,by omega,reverseRange_holds d a b (by omega) hb,fun β kr=> ?_⟩
  unfold zV
  rw[cond_true,aj4 (by omega) hb hs]
  simp (disch:=omega) only[Option.bind_some,V.aC,V.bS,kW,nk,wrap64]
 | false=>exact ⟨p,h,d,h1,U,permIn_refl _ _ _,fun β kr=>rfl⟩
theorem ale {d:Array XE} (fu:a+12<b) (hb:b≤d.size) (hs:d.size<1152921504606846976) (hB:Below aA a b d) (len p:Int) (t:Bool): ∃d1:Array XE,PermIn a b d d1∧
  ((∀(β:Type) (kr:((Bool × List V) ⊕ List V)→Option β),nq CC a b lim wb wp len p t (eA d) kr=kr (.inr (eA d1)))∨
  (SortedIn aA a b d1∧∀(β:Type) (kr:((Bool × List V) ⊕ List V)→Option β),nq CC a b lim wb wp len p t (eA d) kr=kr (.inl (true,eA d1)))):=by
 cases t with
 | true=>
  have hp:=partialInsertionSort_holds (lt:=aA) zW d a b (by omega) hb hB
  refine ⟨_,hp.1,?_⟩
  cases h:(partialInsertionSort aA d a b).2 with
  | true=>
   refine .inr ⟨hp.2 h,fun β kr=> ?_⟩
   unfold nq
   rw[cond_true,XU (by omega) hb hs,h]
   rfl
  | false=>
   refine .inl fun β kr=> ?_
   unfold nq
   rw[cond_true,XU (by omega) hb hs,h]
   rfl
 | false=>exact ⟨d,permIn_refl _ _ _,.inl fun β kr=>rfl⟩
end
def IS (a b:Nat) (d:Array XE):Prop:= ∀(lim:Int) (wb wp:Bool),∃R,Loop (Ye CC) ((a:Int),(b:Int),lim,wb,wp,eA d)=some (eA R)∧PermIn a b d R∧SortedIn aA a b R
theorem IS.call {a b:Nat} {d:Array XE} (h:IS a b d) (lim:Int): ∃R,CC gK [.int .i64 (a:Int),.int .i64 (b:Int),.int .i64 lim,.list aa (eA d)]=some [.list aa (eA R)]∧PermIn a b d R∧SortedIn aA a b R:=by
 obtain ⟨R,e,h1,U⟩:=h lim true true
 refine ⟨R,akY ?_,h1,U⟩
 unfold Yg
 rw[e]
 rfl
theorem alf {a b p:Nat} {d:Array XE} (fu:a+12<b) (hb:b≤d.size) (hs:d.size<1152921504606846976) (hB:Below aA a b d) (h1:a≤p) (U:p<b)
  (ih: ∀(a2 b2:Nat) (d2:Array XE),b2-a2<b-a→a2≤b2→b2≤d2.size→d2.size<1152921504606846976→Below aA a2 b2 d2→IS a2 b2 d2) (wb wp:Bool) (lim:Int):
  ∃(a2 b2:Nat) (wQ wR:Bool) (d2:Array XE),b2-a2<b-a∧a2≤b2∧b2≤d2.size∧d2.size<1152921504606846976∧Below aA a2 b2 d2∧
   (∀R,PermIn a2 b2 d2 R→SortedIn aA a2 b2 R→PermIn a b d R∧SortedIn aA a b R)∧
   ∀(β:Type) (kn:(Int × Int × Int × Bool × Bool × (List V))→Option β),ue CC a b wb wp lim p (eA d) kn=kn ((a2:Int),(b2:Int),lim,wQ,wR,eA d2):=by
 have part: ∃(a2 b2:Nat) (wQ wR:Bool) (d2:Array XE),b2-a2<b-a∧a2≤b2∧b2≤d2.size∧d2.size<1152921504606846976∧Below aA a2 b2 d2∧
   (∀R,PermIn a2 b2 d2 R→SortedIn aA a2 b2 R→PermIn a b d R∧SortedIn aA a b R)∧
   ∀(β:Type) (kn:(Int × Int × Int × Bool × Bool × (List V))→Option β),
    ((CC oc [.int .i64 (a:Int),.int .i64 (b:Int),.int .i64 (p:Int),.list aa (eA d)]).bind fun eu=>
        bif decide (((IntKind.wrap .i64 (((V.nth eu 0).toInt)-(a:Int))):Int)<(IntKind.wrap .i64 ((b:Int)-((V.nth eu 0).toInt)))) then
         (CC gK [.int .i64 (a:Int),.int .i64 ((V.nth eu 0).toInt),.int .i64 lim,.list aa ((V.nth (eu.drop 2) 0).toList)]).bind fun ki=>
         kn (IntKind.wrap .i64 (((V.nth eu 0).toInt)+1),(b:Int),lim,decide (((IntKind.wrap .i64 (((V.nth eu 0).toInt)-(a:Int))):Int)≥(IntKind.wrap .i64 (Int.tdiv (IntKind.wrap .i64 ((b:Int)-(a:Int))) 8))),(V.nth (eu.drop 1) 0).toBool,(V.nth ki 0).toList)
        else
         (CC gK [.int .i64 (IntKind.wrap .i64 (((V.nth eu 0).toInt)+1)),.int .i64 (b:Int),.int .i64 lim,.list aa ((V.nth (eu.drop 2) 0).toList)]).bind fun eV=>
         kn ((a:Int),(V.nth eu 0).toInt,lim,decide (((IntKind.wrap .i64 ((b:Int)-((V.nth eu 0).toInt))):Int)≥(IntKind.wrap .i64 (Int.tdiv (IntKind.wrap .i64 ((b:Int)-(a:Int))) 8))),(V.nth (eu.drop 1) 0).toBool,(V.nth eV 0).toList))=kn ((a2:Int),(b2:Int),lim,wQ,wR,eA d2):=by
  obtain ⟨mid,ap,d4,hx⟩: ∃mid ap d4,partition aA d a b p=(mid,ap,d4):=⟨_,_,_,rfl⟩
  obtain ⟨g1,g2,pF,hBa,hBr,alg,alh⟩:=round_part zW (partition_holds aA) h1 U hb hB hx
  have hc:=akv (a:=a) (b:=b) (pivot:=p) (d:=d) U (by omega) hb hs
  rw[hx] at hc
  by_cases hl:mid-a<b-mid
  ·obtain ⟨L,e,l1,l2⟩:=(ih a mid d4 (by omega) g1 (by rw[pF];omega) (by rw[pF];exact hs) hBa).call lim
   obtain ⟨Pj,D0⟩:=alg _ l1 l2
   refine ⟨mid+1,b,decide (((IntKind.wrap .i64 ((mid:Int)-(a:Int))):Int)≥(IntKind.wrap .i64 (Int.tdiv (IntKind.wrap .i64 ((b:Int)-(a:Int))) 8))),ap,L,by omega,by omega,by rw[l1.1,pF];exact hb,by rw[l1.1,pF];exact hs,Pj,D0,fun β kn=> ?_⟩
   ·rw[hc]
    simp only[Option.bind_some,V.aC,V.rZ,V.toInt_int,V.cQ,V.bS,ek,dK]
    rw[az,ag (by rw[nk g1,nk (by omega),wrap64 (by omega) (by omega),wrap64 (by omega) (by omega)];omega),e]
    simp only[Option.bind_some,V.aC,V.bS]
    rw[dV,wrap64 (x:=((mid+1:Nat):Int)) (by omega) (by omega)]
  ·obtain ⟨L,e,l1,l2⟩:=(ih (mid+1) b d4 (by omega) (by omega) (by rw[pF];exact hb) (by rw[pF];exact hs) hBr).call lim
   obtain ⟨Pj,D0⟩:=alh _ l1 l2
   refine ⟨a,mid,decide (((IntKind.wrap .i64 ((b:Int)-(mid:Int))):Int)≥(IntKind.wrap .i64 (Int.tdiv (IntKind.wrap .i64 ((b:Int)-(a:Int))) 8))),ap,L,by omega,by omega,by rw[l1.1,pF];omega,by rw[l1.1,pF];exact hs,Pj,D0,fun β kn=> ?_⟩
   ·rw[hc]
    simp only[Option.bind_some,V.aC,V.rZ,V.toInt_int,V.cQ,V.bS,ek,dK]
    rw[az,ah (by rw[nk g1,nk (by omega),wrap64 (by omega) (by omega),wrap64 (by omega) (by omega)];omega),dV,wrap64 (x:=((mid+1:Nat):Int)) (by omega) (by omega),e]
    simp only[Option.bind_some,V.aC,V.bS]
 by_cases ha:0<a
 ·by_cases hc:b8 d[a-1]! d[p]! <0
  ·obtain ⟨a2,b2,wQ,wR,d2,q1,q2,q3,q4,q5,q6,q7⟩:=part
   refine ⟨a2,b2,wQ,wR,d2,q1,q2,q3,q4,q5,q6,fun β kn=> ?_⟩
   rw[←q7 β kn]
   unfold ue
   rw[az,ag (by omega),kW ha,wrap64 (by omega) (by omega),kY (i:=a-1) (by omega),kZ (by omega),kY (i:=p) (by omega),kZ (by omega)]
   simp only[XE.bz,XE.bA,XE.bB,gS,Option.bind_some,V.aC,V.toInt_int]
   rw[gd,az,ag hc]
  ·obtain ⟨mid,d4,hx⟩: ∃mid d4,partitionEqual aA d a b p=(mid,d4):=⟨_,_,rfl⟩
   obtain ⟨g1,J9,pF,hB4,D0⟩:=round_eq zW (partitionEqual_holds aA) ha h1 U hb hB (by rw[IM,←propext (ak0 _ _)];exact hc) hx
   have he:=akx (a:=a) (b:=b) (pivot:=p) (d:=d) U (by omega) hb hs
   rw[hx] at he
   refine ⟨mid,b,wb,wp,d4,by omega,J9,by rw[pF];exact hb,by rw[pF];exact hs,hB4,D0,fun β kn=> ?_⟩
   unfold ue
   rw[az,ag (by omega),kW ha,wrap64 (by omega) (by omega),kY (i:=a-1) (by omega),kZ (by omega),kY (i:=p) (by omega),kZ (by omega)]
   simp only[XE.bz,XE.bA,XE.bB,gS,Option.bind_some,V.aC,V.toInt_int]
   rw[gd,az,ah hc,he]
   rfl
 ·obtain ⟨a2,b2,wQ,wR,d2,q1,q2,q3,q4,q5,q6,q7⟩:=part
  refine ⟨a2,b2,wQ,wR,d2,q1,q2,q3,q4,q5,q6,fun β kn=> ?_⟩
  rw[←q7 β kn]
  unfold ue
  rw[az,ah (by omega)]
theorem ali: ∀(n a b:Nat) (d:Array XE),b-a≤n→a≤b→b≤d.size→d.size<1152921504606846976→Below aA a b d→IS a b d:=by
 intro n
 induction n with
 | zero=>
  intro a b d hn fu hb hs hB lim wb wp
  have hi:=insertionSort_holds (lt:=aA) zW d a b fu hb
  refine ⟨_,bj ?_,hi⟩
  show qL CC a b lim wb wp (eA d) (fun y=>some (Sum.inl y)) (fun r=>some (Sum.inr r))=_
  rw[IQ,az,ag (by rw[nk fu,wrap64 (by omega) (by omega)];omega),XB hb hs (by omega)]
  rfl
 | succ n ih=>
  intro a b d hn fu hb hs hB lim wb wp
  by_cases Wk:b-a≤12
  ·have hi:=insertionSort_holds (lt:=aA) zW d a b fu hb
   refine ⟨_,bj ?_,hi⟩
   show qL CC a b lim wb wp (eA d) (fun y=>some (Sum.inl y)) (fun r=>some (Sum.inr r))=_
   rw[IQ,az,ag (by rw[nk fu,wrap64 (by omega) (by omega)];omega),XB hb hs (by omega)]
   rfl
  ·have D1:a+12<b:=by omega
   have tn: ¬(((IntKind.wrap .i64 ((b:Int)-(a:Int))):Int)≤12):=by rw[nk fu,wrap64 (by omega) (by omega)];omega
   by_cases h0:lim=0
   ·have hi:=heapSort_holds (lt:=aA) zW d a b fu hb
    refine ⟨_,bj ?_,hi⟩
    show qL CC a b lim wb wp (eA d) (fun y=>some (Sum.inl y)) (fun r=>some (Sum.inr r))=_
    rw[IQ,az,ah tn,dD,ag h0,aj2 (by omega) hb hs]
    rfl
   ·obtain ⟨l1,d1,s1,k1⟩:=alc (lim:=lim) (wb:=wb) (wp:=wp) D1 hb hs (IntKind.wrap .i64 ((b:Int)-(a:Int))) (!wb)
    have b1:b≤d1.size:=by rw[s1.1];exact hb
    have z1:d1.size<1152921504606846976:=by rw[s1.1];exact hs
    obtain ⟨p,h,c1,p1,p2⟩:=ak5 D1 b1 z1
    obtain ⟨q,U,d2,q1,q2,s2,k2⟩:=ald (lim:=l1) (wb:=wb) (wp:=wp) D1 b1 z1 (IntKind.wrap .i64 ((b:Int)-(a:Int))) h (h==2) p1 p2
    have b2:b≤d2.size:=by rw[s2.1];exact b1
    have z2:d2.size<1152921504606846976:=by rw[s2.1];exact z1
    have B2:Below aA a b d2:=(hB.perm hb s1).perm b1 s2
    obtain ⟨t,ht⟩: ∃t:Bool,t=(bif wb then (bif wp then (U==1) else false) else false):=⟨_,rfl⟩
    obtain ⟨d3,s3,k3⟩:=ale (lim:=l1) (wb:=wb) (wp:=wp) D1 b2 z2 B2 (IntKind.wrap .i64 ((b:Int)-(a:Int))) (q:Int) t
    have b3:b≤d3.size:=by rw[s3.1];exact b2
    have z3:d3.size<1152921504606846976:=by rw[s3.1];exact z2
    have B3:Below aA a b d3:=B2.perm b2 s3
    have P3:PermIn a b d d3:=permIn_trans _ _ _ a b (permIn_trans _ _ _ a b s1 s2) s3
    have step: ∀(β:Type) (kn:(Int × Int × Int × Bool × Bool × (List V))→Option β) (kr:(List V)→Option β),qL CC a b lim wb wp (eA d) kn kr=
      nq CC a b l1 wb wp (IntKind.wrap .i64 ((b:Int)-(a:Int))) (q:Int) t (eA d2) (cu (un fun (Uo:Bool) (Ph:List V)=>kr Ph) (fun (nn:List V)=>ue CC a b wb wp l1 q nn kn)):=by
     intro β kn kr
     rw[IQ,az,ah tn,dD,ah h0,k1]
     simp only[un]
     rw[c1]
     simp only[Option.bind_some,V.aC,V.rZ,V.toInt_int,ek,dK]
     rw[k2]
     simp only[un]
     rw[ht]
     cases wb
     ·rfl
     ·cases wp
      ·rfl
      ·rfl
    rcases k3 with k3|⟨k3s,k3⟩
    ·obtain ⟨a4,b4,wb4,wp4,d4,r1,r2,r3,r4,r5,r6,r7⟩:=alf D1 b3 z3 B3 q1 q2 (fun a2 b2 d2 aQ h1 U h3 h4=>ih a2 b2 d2 (by omega) h1 U h3 h4) wb wp l1
     obtain ⟨R,e,e1,e2⟩:=ih a4 b4 d4 (by omega) r2 r3 r4 r5 l1 wb4 wp4
     obtain ⟨f1,f2⟩:=r6 R e1 e2
     refine ⟨R,(bW ?_).trans e,permIn_trans _ _ _ a b P3 f1,f2⟩
     show qL CC a b lim wb wp (eA d) (fun y=>some (Sum.inl y)) (fun r=>some (Sum.inr r))=_
     rw[step,k3]
     exact r7 _ (fun y=>some (Sum.inl y))
    ·refine ⟨d3,bj ?_,P3,k3s⟩
     show qL CC a b lim wb wp (eA d) (fun y=>some (Sum.inl y)) (fun r=>some (Sum.inr r))=_
     rw[step,k3]
     rfl
theorem alj (l:List XE) (hs:l.length<1152921504606846976): ∃R:List XE,CC BU [.list aa (l.map XE.enc)]=some [.list aa (R.map XE.enc)]∧R.Perm l∧R.Pairwise (fun x y=> ¬y.lt x):=by
 obtain ⟨L,e1,_⟩:=Yk (x:=l.length) (by omega)
 obtain ⟨R,e2,h1,U⟩:=(ali _ 0 l.toArray.size l.toArray (bV _) (lf _) (bV _) (by simpa using hs) (.inl rfl)).call (L:Int)
 have bd:R.size=l.length:=by rw[h1.1];simp
 refine ⟨R.toList,akZ ?_,?_,?_⟩
 ·unfold Yh
  rw[bt,tD (A:=l.length) (by omega),e1]
  simp only[Option.bind_some,V.aC,V.toInt_int]
  have e3:eA l.toArray=l.map XE.enc:=by simp[qI]
  rw[e3,show ((l.toArray.size:Nat):Int)=(l.length:Int) by simp,show ((0:Nat):Int)=0 from rfl] at e2
  rw[e2]
  rfl
 ·have h3:=h1.2.2
  rw[show l.toArray.size=R.size from h1.1.symm,Array.extract_size,h1.1,Array.extract_size] at h3
  exact h3
 ·rw[EM]
  intro i j hi hj va
  have h3:=U i j (lf _) va (by simpa[←bd] using hj)
  rw[IM] at h3
  have ef:i<R.size:=by simpa using hi
  have gb:j<R.size:=by simpa using hj
  rw[getElem!_pos R i ef,getElem!_pos R j gb] at h3
  simpa using h3
end Go.AM.SX
set_option maxRecDepth 100000
namespace Go.AM
open Go.Proofs
noncomputable abbrev IT:Code:=cg Tryz.prog (au.aP 86)
noncomputable def zY (C:ae) (D2 wS:Nat) (k' k9:Int) (ss:List V) {β:Type} (kn:(Int × Int × (List V))→Option β) (kr:(Int × Int × Bool × (List V))→Option β):Option β:=
 bif decide ((k9:Int)<(wS:Int)) then
  bif (decide (0≤k9))&&(decide (k9<(wS:Int))) then
  (ss[D2+((k9:Int).toNat)]?).bind fun x4=>
  bif (decide (0≤(IntKind.wrap .i64 (k9-1))))&&(decide ((IntKind.wrap .i64 (k9-1))<(wS:Int))) then
   (ss[D2+((IntKind.wrap .i64 (k9-1):Int).toNat)]?).bind fun x5=>
   (C qq [.int .i64 ((x4.cell 0).toInt),.int .i64 ((x4.cell 1).toInt),.list aa ((x4.cell 2).toList),.int .i64 ((x5.cell 0).toInt),.int .i64 ((x5.cell 1).toInt),.list aa ((x5.cell 2).toList)]).bind fun r6=>
   bif !((V.nth r6 0).toBool) then
   bif (decide (0≤k9))&&(decide (k9<(wS:Int))) then
    (ss[D2+((k9:Int).toNat)]?).bind fun x7=>
    bif (decide (0≤k'))&&(decide (k'<(ss.length:Int))) then
    (ss[(k':Int).toNat]?).bind fun x8=>
    kn (IntKind.wrap .i64 (k'+1),IntKind.wrap .i64 (k9+1),ss.set ((k':Int).toNat) (.agg [.int .i64 ((x7.cell 0).toInt),.int .i64 ((x7.cell 1).toInt),.list aa ((x7.cell 2).toList)]))
    else none
   else none
   else
   kn (k',IntKind.wrap .i64 (k9+1),ss)
  else none
  else none
 else
  kr (k',k9,decide ((k9:Int)<(wS:Int)),ss)
noncomputable def wU (C:ae) (D2 wS:Nat):(Int × Int × (List V))→Option ((Int × Int × (List V)) ⊕ (Int × Int × Bool × (List V))):=un fun k'=>un fun k9 ss=>zY C D2 wS k' k9 ss (fun y=>some (.inl y)) (fun r=>some (.inr r))
noncomputable def zZ (C:ae) (ss:List V) (k':Int) {β:Type} (kn:Int→Option β) (kr:((List V) ⊕ (Int × Bool))→Option β):Option β:=
 bif decide ((k':Int)<(ss.length:Int)) then
  bif (decide (0≤k'))&&(decide (k'<(ss.length:Int))) then
  (ss[(k':Int).toNat]?).bind fun x1=>
  bif (decide (0≤(IntKind.wrap .i64 (k'-1))))&&(decide ((IntKind.wrap .i64 (k'-1))<(ss.length:Int))) then
   (ss[(IntKind.wrap .i64 (k'-1):Int).toNat]?).bind fun x2=>
   (C qq [.int .i64 ((x1.cell 0).toInt),.int .i64 ((x1.cell 1).toInt),.list aa ((x1.cell 2).toList),.int .i64 ((x2.cell 0).toInt),.int .i64 ((x2.cell 1).toInt),.list aa ((x2.cell 2).toList)]).bind fun r3=>
   bif (V.nth r3 0).toBool then
   bif (decide (0≤k'))&&(decide (k'≤(ss.length:Int))) then
    (Loop (wU C ((k':Int).toNat) (ss.length-((k':Int).toNat))) (k',1,ss)).bind (un fun (nr:Int)=>un fun (apy:Int)=>un fun (tE:Bool) (sC:List V)=>
     bif (decide (0≤nr))&&(decide (nr≤(sC.length:Int))) then
     bif (decide (0≤nr))&&(decide (nr≤((sC.take ((nr:Int).toNat)++(List.replicate (sC.length-((nr:Int).toNat)) (V.agg [.int .i64 0,.int .i64 0,.list aa ([]:List V)])++sC.drop (((nr:Int).toNat)+(sC.length-((nr:Int).toNat))))).length:Int))) then
      kr (.inl ((sC.take ((nr:Int).toNat)++(List.replicate (sC.length-((nr:Int).toNat)) (V.agg [.int .i64 0,.int .i64 0,.list aa ([]:List V)])++sC.drop (((nr:Int).toNat)+(sC.length-((nr:Int).toNat))))).take ((nr:Int).toNat)))
     else none
     else none)
   else none
   else
   kn (IntKind.wrap .i64 (k'+1))
  else none
  else none
 else
  kr (.inr (k',decide ((k':Int)<(ss.length:Int))))
noncomputable def wW (C:ae) (ss:List V):(Int)→Option ((Int) ⊕ ((List V) ⊕ (Int × Bool))):=fun k'=>zZ C ss k' (fun y=>some (.inl y)) (fun r=>some (.inr r))
noncomputable def Yl (C:ae):bZ:=fun β n ds k=>
 bif Nat.beq n 145 then bK MV [true,false,false,true,true] [[0,2,3,0,0,0]] (@zY C) ds k else
 bif Nat.beq n 65 then bK MW [true,false] [[0],[0,0,2]] (@zZ C) ds k else
 none
abbrev Ym (C:ae) (b:bX):Prop:=bY Tryz.prog au C (Yl C) 86 (cj Tryz.prog (au.aP 86)) (au.sin 86).ba.length b
theorem alk (C:ae):Ym C (.loop (aw [1,1,0,1,0,0,1,0,0,1,0,1,0,1,0,0] IT)):=
 bN MV [true,false,false,true,true] [[0,2,3,0,0,0]] (@zY C) (by kernel_rfl) (a8 (bs:=[]) (by kernel_rfl) ax) (fun ds=>by kernel_rfl) (fun i x=>by kernel_rfl) (fun i x β k=>by kernel_rfl) (fun β ds k=>by kernel_rfl)
theorem alm (C:ae):Ym C (.loop (aw [1,1,0,1,0,0] IT)):=
 bN MW [true,false] [[0],[0,0,2]] (@zZ C) (by kernel_rfl) (a8 (bs:=[.loop (aw [1,1,0,1,0,0,1,0,0,1,0,1,0,1,0,0] IT)]) (by kernel_rfl) (bq (alk C) ax)) (fun ds=>by kernel_rfl) (fun i x=>by kernel_rfl) (fun i x β k=>by kernel_rfl) (fun β ds k=>by kernel_rfl)
noncomputable def IU (C:ae) (ss:List V):Option (List V):=
 bif decide (((ss.length:Int):Int)<2) then
  some [V.bool true,.list aa ss]
 else
  (Loop (wW C ss) 1).bind (cu (fun (aln:List V)=>
   some [V.bool false,.list aa aln]) (un fun (apz:Int) (yZ:Bool)=>
   some [V.bool true,.list aa ss]))
theorem Pk {ss:List V} {r:Option (List V)} (h:IU CC ss=r):CC Hh [.list aa ss]=r:=
 aY (key:=86) (L:=Yl CC) (bs:=[.loop (aw [1,1,0,1,0,0] IT)]) (by kernel_rfl) (bq (alm CC) ax) (aX (by kernel_rfl) h)
noncomputable def Yn (C:ae) (gQ:List V):Option (List V):=
 (C BU [.list aa gQ]).bind fun r1=>
 (C Hh [.list aa ((V.nth r1 0).toList)]).bind fun r2=>
 bif (V.nth r2 0).toBool then
  some [V.bool true,.list aa ((V.nth (r2.drop 1) 0).toList)]
 else
  some [V.bool false,.list aa ((V.nth (r2.drop 1) 0).toList)]
theorem alo {gQ:List V} {r:Option (List V)} (h:Yn CC gQ=r):CC vF [.list aa gQ]=r:=
 aY (key:=78) (L:=b6) (bs:=[]) (by kernel_rfl) ax (aX (by kernel_rfl) h)
noncomputable def Yo (C:ae) (qB qC:Int) (sn:List V) (qD qE:Int) (sq:List V):Option (List V):=
 (C bp [.int .i64 qB,.int .i64 qC,.list aa sn,.int .i64 qD,.int .i64 qE,.list aa sq]).bind fun r1=>
 some [.bool ((((V.nth r1 0).toInt):Int)==0)]
theorem alp {qB qC:Int} {sn:List V} {qD qE:Int} {sq:List V} {r:Option (List V)} (h:Yo CC qB qC sn qD qE sq=r):CC qq [.int .i64 qB,.int .i64 qC,.list aa sn,.int .i64 qD,.int .i64 qE,.list aa sq]=r:=
 aY (key:=87) (L:=b6) (bs:=[]) (by kernel_rfl) ax (aX (by kernel_rfl) h)
end Go.AM
set_option maxRecDepth 100000
namespace Go.AM
open Go.Proofs Ex
def oD (prev:Ex):List Ex→List Ex
 | []=>[]
 | x::l=>if cmp x prev=0 then oD x l else x::oD x l
def jx:List Ex→List Ex
 | []=>[]
 | x::l=>x::oD x l
theorem Yp: ∀(m:List Ex) (prev x:Ex),oD prev (m++[x])=oD prev m++(if cmp x ((prev::m).getD m.length bm)=0 then [] else [x])
 | [],prev,x=>by simp only[List.nil_append,oD,List.length_nil,Av]
 | y::m,prev,x=>by
  have ih:=Yp m y x
  simp only[List.cons_append,oD,List.length_cons,List.getD_cons_succ]
  split
  ·exact ih
  ·rw[ih];rfl
theorem Yq {l:List Ex} {p:Nat} (h1:1≤p) (U:p<l.length):jx (l.take (p+1))=jx (l.take p)++(if cmp (l.getD p bm) (l.getD (p-1) bm)=0 then [] else [l.getD p bm]):=by
 match l,p,h1,U with
 | y::l,p+1,_,U=>
  simp only[List.length_cons] at U
  rw[List.take_succ_cons,List.take_succ_cons,jx,jx,lL (by omega),Yp]
  simp only[List.getD_cons_succ,fT,xc]
  rw[show min p l.length=p by omega]
  have:(y::l.take p).getD p bm=(y::l).getD p bm:=by
   match p with
   | 0=>rfl
   | q+1=>simp only[List.getD_cons_succ];rw[gW,gW,ff (by omega)]
  rw[this];rfl
theorem Yr: ∀(m:List Ex) (prev:Ex),(prev::m).Pairwise (fun x y=> ¬y.lx x)→kb (prev::oD prev m)∧∀x,x∈prev::oD prev m↔x∈prev::m
 | [],prev,_=>⟨by simp[oD],by simp[oD]⟩
 | y::m,prev,h=>by
  have h1:=uv.1 h
  obtain ⟨i1,i2⟩:=Yr m y h1.2
  rw[oD]
  by_cases hc:cmp y prev=0
  ·rw[ag hc]
   have:=wo _ _ hc
   subst this
   refine ⟨i1,fun x=> ?_⟩
   rw[i2 x];simp
  ·rw[ah hc]
   have aQ:prev.lx y:=by
    by_cases U:prev.lx y
    ·exact U
    ·exact absurd (Ex.WK U (h1.1 y (by simp))) fun e=>hc (by rw[e];exact Dj _)
   refine ⟨uv.2 ⟨fun x hx=> ?_,i1⟩,fun x=> ?_⟩
   ·rcases dx.1 hx with rfl|hx
    ·exact aQ
    ·exact Ex.OE aQ ((uv.1 i1).1 x hx)
   ·rw[dx,i2 x,←dx]
theorem alq {l:List Ex} (h:l.Pairwise (fun x y=> ¬y.lx x)):kb (jx l)∧∀x,x∈jx l↔x∈l:=by
 match l,h with
 | [],_=>exact ⟨List.Pairwise.nil,fun _=>Iff.rfl⟩
 | y::l,h=>exact Yr l y h
theorem Ys (a:Ex) (ha:a.Ok) (b:Ex) (hb:b.Ok):CC qq (b9 a (b9 b []))=some [.bool (decide (cmp a b=0))]:=by
 refine alp ?_
 unfold Yo
 refine (congrArg (fun o=>Option.bind o _) (WC a ha b hb)).trans ?_
 simp only[Option.bind_some,V.aC,V.toInt_int]
 rw[Ic]
section
variable {l:List Ex} (hn:l.length≤1000000) (ay: ∀k∈l,k.Ok)
include hn ay
theorem alr {k:Nat}: ∀(d k2 i:Nat) (ss:List Ex),k+k2+d=l.length→1≤k2→i+1≤k+k2→ss.length=l.length→ss.take i=jx (l.take (k+k2))→ss.drop (k+k2-1)=l.drop (k+k2-1)→
  ∃t u fi,Loop (wU CC k (l.length-k)) ((i:Int),(k2:Int),ss.map enc)=some (((jx l).length:Int),u,t,List.map enc fi)∧fi.take (jx l).length=jx l∧fi.length=l.length:=by
 intro d
 induction d with
 | zero=>
  intro k2 i ss hj fy hi hl ht hd
  have e0:l.take (k+k2)=l:=List.take_of_length_le (by omega)
  rw[e0] at ht
  have ia:i=(jx l).length:=by rw[←ht,fT];omega
  refine ⟨false,(k2:Int),ss,bj ?_,by rw[←ia];exact ht,hl⟩
  simp only[wU,zY,un,bt,az]
  rw[ah (by omega),cl (by omega),ia]
 | succ d ih=>
  intro k2 i ss hj fy hi hl ht hd
  have hp:k+k2<l.length:=by omega
  have je:ss.drop (k+k2)=l.drop (k+k2):=by
   have h:=congrArg (List.drop 1) hd
   rw[pL,pL] at h
   rwa [show k+k2-1+1=k+k2 by omega] at h
  have g1:=Du hl je hp
  have g0:=Du hl hd (show k+k2-1<l.length by omega)
  have x1:(ss.map enc)[k+k2]? =some (l.getD (k+k2) bm).enc:=by rw[pA (by omega),g1]
  have x0:(ss.map enc)[k+(k2-1)]? =some (l.getD (k+k2-1) bm).enc:=by rw[show k+(k2-1)=k+k2-1 by omega,pA (by omega),g0]
  have w1:IntKind.wrap .i64 ((k2:Int)-1)=((k2-1:Nat):Int):=by rw[wrap64 (by omega) (by omega)];omega
  have t1:((k2:Nat):Int)<((l.length-k:Nat):Int):=by omega
  have t2:(0:Int)≤((k2:Nat):Int):=by omega
  have t3:(0:Int)≤((k2-1:Nat):Int):=by omega
  have t4:((k2-1:Nat):Int)<((l.length-k:Nat):Int):=by omega
  have t5:((i:Nat):Int)<(ss.length:Int):=by omega
  have t6:(0:Int)≤((i:Nat):Int):=by omega
  have cC: ∃y,(ss.map enc)[i]? =some y:=⟨_,pA (by omega)⟩
  obtain ⟨y,hy⟩:=cC
  have co:=Ys (l.getD (k+k2) bm) (Ij ay hp) (l.getD (k+k2-1) bm) (Ij ay (by omega))
  have cs:=Yq (l:=l) (p:=k+k2) (by omega) hp
  by_cases he:cmp (l.getD (k+k2) bm) (l.getD (k+k2-1) bm)=0
  ·have bM:wU CC k (l.length-k) ((i:Int),(k2:Int),ss.map enc)=some (.inl ((i:Int),((k2+1:Nat):Int),ss.map enc)):=by
    simp only[wU,zY,un,bt,az,ct,w1,t1,t2,t3,t4,cU,Int.toNat_natCast,x1,x0,Option.bind_some,bz,bA,bB]
    refine (congrArg (fun o=>Option.bind o _) co).trans ?_
    simp only[Option.bind_some,V.aC,V.cQ]
    rw[eK he,qX,cond_false,wrap64 (by omega) (by omega)]
    rfl
   rw[bW bM]
   refine ih (k2+1) i ss (by omega) (by omega) (by omega) hl ?_ (by rw[show k+(k2+1)-1=k+k2 by omega];exact je)
   rw[show k+(k2+1)=k+k2+1 by omega,cs,ag he,dy,ht]
  ·have bM:wU CC k (l.length-k) ((i:Int),(k2:Int),ss.map enc)=some (.inl (((i+1:Nat):Int),((k2+1:Nat):Int),(ss.set i (l.getD (k+k2) bm)).map enc)):=by
    simp only[wU,zY,un,bt,az,ct,w1,t1,t2,t3,t4,t5,t6,cU,Int.toNat_natCast,x1,x0,hy,Option.bind_some,bz,bA,bB]
    refine (congrArg (fun o=>Option.bind o _) co).trans ?_
    simp only[Option.bind_some,V.aC,V.cQ]
    rw[cl he,uw,cond_true,wrap64 (by omega) (by omega),wrap64 (by omega) (by omega),←eY,Aw]
    rfl
   rw[bW bM]
   refine ih (k2+1) (i+1) (ss.set i (l.getD (k+k2) bm)) (by omega) (by omega) (by omega) (by simpa using hl) ?_ ?_
   ·rw[lL (by rw[ny];omega),ES (bV i),ht,show k+(k2+1)=k+k2+1 by omega,cs,ah he]
    simp[show i<ss.length by omega]
   ·rw[show k+(k2+1)-1=k+k2 by omega,ET (by omega),je]
theorem als: ∀(d p:Nat),p+d=l.length→1≤p→jx (l.take p)=l.take p→
  (jx l=l∧∃t,Loop (wW CC (l.map enc)) (p:Int)=some (.inr t))∨Loop (wW CC (l.map enc)) (p:Int)=some (.inl ((jx l).map enc)):=by
 intro d
 induction d with
 | zero=>
  intro p hp h1 hc
  obtain rfl:p=l.length:=by omega
  rw[qV] at hc
  refine .inl ⟨hc,((l.length:Int),false),bj ?_⟩
  simp only[wW,zZ,bt,az]
  rw[ah (by omega),cl (by omega)]
 | succ d ih=>
  intro p hp h1 hc
  have cb:p<l.length:=by omega
  have cs:=Yq (l:=l) h1 cb
  have co:=Ys (l.getD p bm) (Ij ay cb) (l.getD (p-1) bm) (Ij ay (by omega))
  have x1:(l.map enc)[p]? =some (l.getD p bm).enc:=pA cb
  have x0:(l.map enc)[p-1]? =some (l.getD (p-1) bm).enc:=pA (by omega)
  have w1:IntKind.wrap .i64 ((p:Int)-1)=((p-1:Nat):Int):=by rw[wrap64 (by omega) (by omega)];omega
  have t1:((p:Nat):Int)<(l.length:Int):=by omega
  have t2:(0:Int)≤((p:Nat):Int):=by omega
  have t3:(0:Int)≤((p-1:Nat):Int):=by omega
  have t4:((p-1:Nat):Int)<(l.length:Int):=by omega
  have t5:((p:Nat):Int)≤(l.length:Int):=by omega
  by_cases he:cmp (l.getD p bm) (l.getD (p-1) bm)=0
  ·refine .inr (bj ?_)
   obtain ⟨t,u,fi,e1,e2,e3⟩:=alr hn ay (k:=p) (l.length-(p+1)) 1 p l (by omega) (by omega) (by omega) rfl (by rw[cs,ag he,dy,hc]) rfl
   have hm:(jx l).length≤fi.length:=by
    have:=congrArg List.length e2
    rw[fT] at this
    omega
   have m1:(0:Int)≤(((jx l).length:Nat):Int):=by omega
   have m2:(((jx l).length:Nat):Int)≤((fi.map enc).length:Int):=by rw[bt];omega
   simp only[wW,zZ,bt,az,ct,w1,t1,t2,t3,t4,t5,cU,Int.toNat_natCast,x1,x0,Option.bind_some,bz,bA,bB]
   refine (congrArg (fun o=>Option.bind o _) co).trans ?_
   simp only[Option.bind_some,V.aC,V.cQ]
   rw[eK he,cond_true]
   refine (congrArg (fun o=>Option.bind o _) e1).trans ?_
   simp only[Option.bind_some,un,ct,az,Int.toNat_natCast]
   rw[ag m1,ag m2,ag m1,ag (by simp only[cB,fT,uu,ur,bt];omega),Ix _ _ _ hm,e2]
  ·have bM:wW CC (l.map enc) (p:Int)=some (.inl ((p+1:Nat):Int)):=by
    simp only[wW,zZ,bt,az,ct,w1,t1,t2,t3,t4,cU,Int.toNat_natCast,x1,x0,Option.bind_some,bz,bA,bB]
    refine (congrArg (fun o=>Option.bind o _) co).trans ?_
    simp only[Option.bind_some,V.aC,V.cQ]
    rw[cl he,cond_false,wrap64 (by omega) (by omega)]
    rfl
   rw[bW bM]
   exact ih (p+1) (by omega) (by omega) (by rw[cs,ah he,hc,←lL cb])
theorem alu: ∃b,CC Hh [.list aa (l.map enc)]=some [.bool b,.list aa ((jx l).map enc)]:=by
 by_cases U:l.length<2
 ·refine ⟨true,Pk ?_⟩
  unfold IU
  rw[bt,az,ag (by omega)]
  match l,U with
  | [],_=>rfl
  | [k],_=>rfl
 ·rcases als hn ay (l.length-1) 1 (by omega) (by omega) (by
   match l,U with
   | k::l,_=>rfl) with ⟨h3,t,h4⟩|h4
  ·refine ⟨true,Pk ?_⟩
   unfold IU
   rw[bt,az,ah (by omega)]
   refine (congrArg (fun o=>Option.bind o _) h4).trans ?_
   rw[h3];rfl
  ·refine ⟨false,Pk ?_⟩
   unfold IU
   rw[bt,az,ah (by omega)]
   refine (congrArg (fun o=>Option.bind o _) h4).trans ?_
   rfl
theorem alv: ∃R:List Ex,CC BU [.list aa (l.map enc)]=some [.list aa (R.map enc)]∧R.Perm l∧R.Pairwise (fun x y=> ¬y.lx x):=by
 have hx: ∃L:List SX.XE,L.map SX.XE.e=l:=by
  clear hn
  induction l with
  | nil=>exact ⟨[],rfl⟩
  | cons k l ih=>
   obtain ⟨L,hL⟩:=ih fun k hk=>ay k (by simp[hk])
   exact ⟨⟨k,ay k (by simp)⟩::L,by rw[cr,hL]⟩
 obtain ⟨L,rfl⟩:=hx
 have he: ∀L:List SX.XE,L.map SX.XE.enc=(L.map SX.XE.e).map enc:=fun L=>by rw[List.map_map];rfl
 obtain ⟨R,e1,h1,U⟩:=SX.alj L (by rw[bt] at hn;omega)
 refine ⟨R.map SX.XE.e,?_,h1.map _,List.pairwise_map.2 U⟩
 rw[←he,←he];exact e1
theorem Yt: ∃b,CC vF [.list aa (l.map enc)]=some [.bool b,.list aa ((l.foldl gh []).map enc)]:=by
 obtain ⟨R,e1,h1,U⟩:=alv hn ay
 obtain ⟨b,e2⟩:=alu (l:=R) (by rw[h1.length_eq];exact hn) fun k hk=>ay k (h1.mem_iff.1 hk)
 obtain ⟨c1,c2⟩:=alq U
 have hc:jx R=l.foldl gh []:=OF c1 Is fun x=>by rw[c2,qH,h1.mem_iff]
 rw[hc] at e2
 refine ⟨b,alo ?_⟩
 unfold Yn
 refine (congrArg (fun o=>Option.bind o _) e1).trans ?_
 simp only[Option.bind_some,V.aC,V.bS]
 refine (congrArg (fun o=>Option.bind o _) e2).trans ?_
 cases b<;>rfl
end
end Go.AM
set_option maxRecDepth 100000
namespace Go.AM
open Go.Proofs
noncomputable def Yu (C:ae) (kids:List V):Option (List V):=
 (C L4 [.list aa kids]).bind fun r1=>
 bif (V.nth r1 0).toBool then
  (C tw []).bind fun r2=>
  some [.int .i64 ((V.nth r2 0).toInt),.int .i64 ((V.nth (r2.drop 1) 0).toInt),.list aa ((V.nth (r2.drop 2) 0).toList)]
 else
  (C yK [.int .i64 4,.list aa kids]).bind fun r3=>
  (C Hr [.list aa ((V.nth r3 0).toList)]).bind fun r4=>
  bif (V.nth r4 0).toBool then
  (C vF [.list aa ((V.nth (r4.drop 1) 0).toList)]).bind fun r5=>
  bif (V.nth r5 0).toBool then
   (C qp []).bind fun r6=>
   (C m7 [.int .i64 4,.list aa ((V.nth (r5.drop 1) 0).toList),.int .i64 ((V.nth r6 0).toInt),.int .i64 ((V.nth (r6.drop 1) 0).toInt),.list aa ((V.nth (r6.drop 2) 0).toList)]).bind fun r7=>
   some [.int .i64 ((V.nth r7 0).toInt),.int .i64 ((V.nth (r7.drop 1) 0).toInt),.list aa ((V.nth ((r7.drop 1).drop 1) 0).toList)]
  else
   (C qp []).bind fun r8=>
   (C m7 [.int .i64 4,.list aa ((V.nth (r5.drop 1) 0).toList),.int .i64 ((V.nth r8 0).toInt),.int .i64 ((V.nth (r8.drop 1) 0).toInt),.list aa ((V.nth (r8.drop 2) 0).toList)]).bind fun r9=>
   some [.int .i64 ((V.nth r9 0).toInt),.int .i64 ((V.nth (r9.drop 1) 0).toInt),.list aa ((V.nth ((r9.drop 1).drop 1) 0).toList)]
  else
  (C vF [.list aa ((V.nth (r4.drop 1) 0).toList)]).bind fun eb=>
  bif (V.nth eb 0).toBool then
   (C qp []).bind fun eT=>
   (C m7 [.int .i64 4,.list aa ((V.nth (eb.drop 1) 0).toList),.int .i64 ((V.nth eT 0).toInt),.int .i64 ((V.nth (eT.drop 1) 0).toInt),.list aa ((V.nth (eT.drop 2) 0).toList)]).bind fun eU=>
   some [.int .i64 ((V.nth eU 0).toInt),.int .i64 ((V.nth (eU.drop 1) 0).toInt),.list aa ((V.nth ((eU.drop 1).drop 1) 0).toList)]
  else
   (C qp []).bind fun gP=>
   (C m7 [.int .i64 4,.list aa ((V.nth (eb.drop 1) 0).toList),.int .i64 ((V.nth gP 0).toInt),.int .i64 ((V.nth (gP.drop 1) 0).toInt),.list aa ((V.nth (gP.drop 2) 0).toList)]).bind fun lK=>
   some [.int .i64 ((V.nth lK 0).toInt),.int .i64 ((V.nth (lK.drop 1) 0).toInt),.list aa ((V.nth ((lK.drop 1).drop 1) 0).toList)]
theorem alw {kids:List V} {r:Option (List V)} (h:Yu CC kids=r):CC Hc [.list aa kids]=r:=
 aY (key:=65) (L:=b6) (bs:=[]) (by kernel_rfl) ax (aX (by kernel_rfl) h)
noncomputable def Yv (C:ae) (kids:List V):Option (List V):=
 (C tu [.list aa kids]).bind fun r1=>
 bif (V.nth r1 0).toBool then
  (C qp []).bind fun r2=>
  some [.int .i64 ((V.nth r2 0).toInt),.int .i64 ((V.nth (r2.drop 1) 0).toInt),.list aa ((V.nth (r2.drop 2) 0).toList)]
 else
  (C yK [.int .i64 5,.list aa kids]).bind fun r3=>
  (C Hp [.list aa ((V.nth r3 0).toList)]).bind fun r4=>
  bif (V.nth r4 0).toBool then
  (C vE []).bind fun r5=>
  (C m7 [.int .i64 5,.list aa ((V.nth (r4.drop 1) 0).toList),.int .i64 ((V.nth r5 0).toInt),.int .i64 ((V.nth (r5.drop 1) 0).toInt),.list aa ((V.nth (r5.drop 2) 0).toList)]).bind fun r6=>
  some [.int .i64 ((V.nth r6 0).toInt),.int .i64 ((V.nth (r6.drop 1) 0).toInt),.list aa ((V.nth ((r6.drop 1).drop 1) 0).toList)]
  else
  (C vE []).bind fun r7=>
  (C m7 [.int .i64 5,.list aa ((V.nth (r4.drop 1) 0).toList),.int .i64 ((V.nth r7 0).toInt),.int .i64 ((V.nth (r7.drop 1) 0).toInt),.list aa ((V.nth (r7.drop 2) 0).toList)]).bind fun r8=>
  some [.int .i64 ((V.nth r8 0).toInt),.int .i64 ((V.nth (r8.drop 1) 0).toInt),.list aa ((V.nth ((r8.drop 1).drop 1) 0).toList)]
theorem alx {kids:List V} {r:Option (List V)} (h:Yv CC kids=r):CC Hd [.list aa kids]=r:=
 aY (key:=66) (L:=b6) (bs:=[]) (by kernel_rfl) ax (aX (by kernel_rfl) h)
noncomputable def Yw (C:ae) (kids:List V):Option (List V):=
 (C tu [.list aa kids]).bind fun r1=>
 bif (V.nth r1 0).toBool then
  (C qp []).bind fun r2=>
  some [.int .i64 ((V.nth r2 0).toInt),.int .i64 ((V.nth (r2.drop 1) 0).toInt),.list aa ((V.nth (r2.drop 2) 0).toList)]
 else
  (C yK [.int .i64 6,.list aa kids]).bind fun r3=>
  (C yJ [.list aa ((V.nth r3 0).toList)]).bind fun r4=>
  bif (V.nth r4 0).toBool then
  (C vF [.list aa ((V.nth (r4.drop 1) 0).toList)]).bind fun r5=>
  bif (V.nth r5 0).toBool then
   (C tw []).bind fun r6=>
   (C m7 [.int .i64 6,.list aa ((V.nth (r5.drop 1) 0).toList),.int .i64 ((V.nth r6 0).toInt),.int .i64 ((V.nth (r6.drop 1) 0).toInt),.list aa ((V.nth (r6.drop 2) 0).toList)]).bind fun r7=>
   some [.int .i64 ((V.nth r7 0).toInt),.int .i64 ((V.nth (r7.drop 1) 0).toInt),.list aa ((V.nth ((r7.drop 1).drop 1) 0).toList)]
  else
   (C tw []).bind fun r8=>
   (C m7 [.int .i64 6,.list aa ((V.nth (r5.drop 1) 0).toList),.int .i64 ((V.nth r8 0).toInt),.int .i64 ((V.nth (r8.drop 1) 0).toInt),.list aa ((V.nth (r8.drop 2) 0).toList)]).bind fun r9=>
   some [.int .i64 ((V.nth r9 0).toInt),.int .i64 ((V.nth (r9.drop 1) 0).toInt),.list aa ((V.nth ((r9.drop 1).drop 1) 0).toList)]
  else
  (C vF [.list aa ((V.nth (r4.drop 1) 0).toList)]).bind fun eb=>
  bif (V.nth eb 0).toBool then
   (C tw []).bind fun eT=>
   (C m7 [.int .i64 6,.list aa ((V.nth (eb.drop 1) 0).toList),.int .i64 ((V.nth eT 0).toInt),.int .i64 ((V.nth (eT.drop 1) 0).toInt),.list aa ((V.nth (eT.drop 2) 0).toList)]).bind fun eU=>
   some [.int .i64 ((V.nth eU 0).toInt),.int .i64 ((V.nth (eU.drop 1) 0).toInt),.list aa ((V.nth ((eU.drop 1).drop 1) 0).toList)]
  else
   (C tw []).bind fun gP=>
   (C m7 [.int .i64 6,.list aa ((V.nth (eb.drop 1) 0).toList),.int .i64 ((V.nth gP 0).toInt),.int .i64 ((V.nth (gP.drop 1) 0).toInt),.list aa ((V.nth (gP.drop 2) 0).toList)]).bind fun lK=>
   some [.int .i64 ((V.nth lK 0).toInt),.int .i64 ((V.nth (lK.drop 1) 0).toInt),.list aa ((V.nth ((lK.drop 1).drop 1) 0).toList)]
theorem aly {kids:List V} {r:Option (List V)} (h:Yw CC kids=r):CC He [.list aa kids]=r:=
 aY (key:=67) (L:=b6) (bs:=[]) (by kernel_rfl) ax (aX (by kernel_rfl) h)
noncomputable def Pl (C:ae) (op:Int) (kids:List V):Option (List V):=
 bif (op:Int)==4 then
  (C Hc [.list aa kids]).bind fun r1=>
  some [.int .i64 ((V.nth r1 0).toInt),.int .i64 ((V.nth (r1.drop 1) 0).toInt),.list aa ((V.nth ((r1.drop 1).drop 1) 0).toList)]
 else
  bif (op:Int)==5 then
  (C Hd [.list aa kids]).bind fun r2=>
  some [.int .i64 ((V.nth r2 0).toInt),.int .i64 ((V.nth (r2.drop 1) 0).toInt),.list aa ((V.nth ((r2.drop 1).drop 1) 0).toList)]
  else
  bif (op:Int)==6 then
   (C He [.list aa kids]).bind fun r3=>
   some [.int .i64 ((V.nth r3 0).toInt),.int .i64 ((V.nth (r3.drop 1) 0).toInt),.list aa ((V.nth ((r3.drop 1).drop 1) 0).toList)]
  else
   bif ((kids.length:Int):Int) != 1 then
   some [.int .i64 0,.int .i64 0,.list aa ([]:List V)]
   else
   (kids[0]?).bind fun x4=>
   bif (op:Int)==8 then
    bif (((x4.cell 0).toInt):Int)==8 then
    bif ((((x4.cell 2).toList).length:Int):Int)==1 then
     (((x4.cell 2).toList)[0]?).bind fun x5=>
     some [.int .i64 ((x5.cell 0).toInt),.int .i64 ((x5.cell 1).toInt),.list aa ((x5.cell 2).toList)]
    else
     some [.int .i64 8,.int .i64 0,.list aa ([.agg [.int .i64 ((x4.cell 0).toInt),.int .i64 ((x4.cell 1).toInt),.list aa ((x4.cell 2).toList)]]:List V)]
    else
    some [.int .i64 8,.int .i64 0,.list aa ([.agg [.int .i64 ((x4.cell 0).toInt),.int .i64 ((x4.cell 1).toInt),.list aa ((x4.cell 2).toList)]]:List V)]
   else
    bif (op:Int)==7 then
    bif (((x4.cell 0).toInt):Int)==1 then
     (C vE []).bind fun r6=>
     some [.int .i64 ((V.nth r6 0).toInt),.int .i64 ((V.nth (r6.drop 1) 0).toInt),.list aa ((V.nth (r6.drop 2) 0).toList)]
    else
     bif (((x4.cell 0).toInt):Int)==2 then
     (C vE []).bind fun r7=>
     some [.int .i64 ((V.nth r7 0).toInt),.int .i64 ((V.nth (r7.drop 1) 0).toInt),.list aa ((V.nth (r7.drop 2) 0).toList)]
     else
     bif (((x4.cell 0).toInt):Int)==7 then
      some [.int .i64 ((x4.cell 0).toInt),.int .i64 ((x4.cell 1).toInt),.list aa ((x4.cell 2).toList)]
     else
      (C lG [.int .i64 ((x4.cell 0).toInt),.int .i64 ((x4.cell 1).toInt),.list aa ((x4.cell 2).toList)]).bind fun r8=>
      bif (V.nth r8 0).toBool then
      some [.int .i64 ((x4.cell 0).toInt),.int .i64 ((x4.cell 1).toInt),.list aa ((x4.cell 2).toList)]
      else
      some [.int .i64 7,.int .i64 0,.list aa ([.agg [.int .i64 ((x4.cell 0).toInt),.int .i64 ((x4.cell 1).toInt),.list aa ((x4.cell 2).toList)]]:List V)]
    else
    some [.int .i64 0,.int .i64 0,.list aa ([]:List V)]
theorem Yx {op:Int} {kids:List V} {r:Option (List V)} (h:Pl CC op kids=r):CC kQ [.int .i64 op,.list aa kids]=r:=
 aY (key:=49) (L:=b6) (bs:=[]) (by kernel_rfl) ax (aX (by kernel_rfl) h)
noncomputable abbrev Yy:Code:=cg Tryz.prog (au.aP 37)
noncomputable def D3 (C:ae) (t20:List V) (t21 fg eD:Int) (dS:List V) (lI mu:Int) (av:List V) (t22:Int) (z0:List V) {β:Type} (kn:(Int × (List V))→Option β) (kr:(Int × Bool × (List V))→Option β):Option β:=
 bif decide ((t22:Int)<t21) then
  (idx t20 t22).bind fun x1=>
  (C vC [.int .i64 ((x1.cell 0).toInt),.int .i64 ((x1.cell 1).toInt),.list aa ((x1.cell 2).toList)]).bind fun r2=>
  bif (decide (0≤t22))&&(decide (t22<(z0.length:Int))) then
  (z0[(t22:Int).toNat]?).bind fun x3=>
  kn (IntKind.wrap .i64 (t22+1),z0.set ((t22:Int).toNat) (.agg [.int .i64 ((V.nth r2 0).toInt),.int .i64 ((V.nth (r2.drop 1) 0).toInt),.list aa ((V.nth ((r2.drop 1).drop 1) 0).toList)]))
  else none
 else
  kr (t22,decide ((t22:Int)<t21),z0)
noncomputable def IV (C:ae) (t20:List V) (t21 fg eD:Int) (dS:List V) (lI mu:Int) (av:List V):(Int × (List V))→Option ((Int × (List V)) ⊕ (Int × Bool × (List V))):=un fun t22 z0=>D3 C t20 t21 fg eD dS lI mu av t22 z0 (fun y=>some (.inl y)) (fun r=>some (.inr r))
noncomputable def Yz (C:ae):bZ:=fun β n ds k=>
 bif Nat.beq n 81 then bK Mu [false,false,true,false,false,false,false,false,true,false] [[1,2,0,0,4,5,6,7,8,0,10]] (@D3 C) ds k else
 none
abbrev alz (C:ae) (b:bX):Prop:=bY Tryz.prog au C (Yz C) 37 (cj Tryz.prog (au.aP 37)) (au.sin 37).ba.length b
theorem alA (C:ae):alz C (.loop (aw [1,1,1,0,1,0,0] Yy)):=
 bN Mu [false,false,true,false,false,false,false,false,true,false] [[1,2,0,0,4,5,6,7,8,0,10]] (@D3 C) (by kernel_rfl) (a8 (bs:=[]) (by kernel_rfl) ax) (fun ds=>by kernel_rfl) (fun i x=>by kernel_rfl) (fun i x β k=>by kernel_rfl) (fun β ds k=>by kernel_rfl)
noncomputable def YA (C:ae) (aj ar:Int) (ai:List V):Option (List V):=
 bif ((ai.length:Int):Int)==0 then
  some [.int .i64 aj,.int .i64 ar,.list aa ([]:List V)]
 else
  bif (decide (0≤(ai.length:Int)))&&((decide ((ai.length:Int)≤(ai.length:Int)))&&(Nat.ble ((((ai.length:Int):Int).toNat)*40) cI)) then
  (Loop (IV C ai (ai.length:Int) aj ar ai 0 0 ([]:List V)) (0,List.replicate (((ai.length:Int):Int).toNat) (V.agg [.int .i64 0,.int .i64 0,.list aa ([]:List V)]))).bind (un fun (mn:Int)=>un fun (ik:Bool) (alB:List V)=>
   (C kQ [.int .i64 aj,.list aa alB]).bind fun r7=>
   some [.int .i64 ((V.nth r7 0).toInt),.int .i64 ((V.nth (r7.drop 1) 0).toInt),.list aa ((V.nth ((r7.drop 1).drop 1) 0).toList)])
  else none
theorem alC {aj ar:Int} {ai:List V} {r:Option (List V)} (h:YA CC aj ar ai=r):CC vC [.int .i64 aj,.int .i64 ar,.list aa ai]=r:=
 aY (key:=37) (L:=Yz CC) (bs:=[.loop (aw [1,1,1,0,1,0,0] Yy)]) (by kernel_rfl) (bq (alA CC) ax) (aX (by kernel_rfl) h)
noncomputable def YB (C:ae) (aj ar:Int) (ai:List V):Option (List V):=
 (C yC [.int .i64 aj,.int .i64 ar,.list aa ai]).bind fun r1=>
 bif !((V.nth r1 0).toBool) then
  some [.int .i64 0,.int .i64 0,.list aa ([]:List V)]
 else
  (C vC [.int .i64 aj,.int .i64 ar,.list aa ai]).bind fun r2=>
  some [.int .i64 ((V.nth r2 0).toInt),.int .i64 ((V.nth (r2.drop 1) 0).toInt),.list aa ((V.nth ((r2.drop 1).drop 1) 0).toList)]
theorem alD {aj ar:Int} {ai:List V} {r:Option (List V)} (h:YB CC aj ar ai=r):CC G2 [.int .i64 aj,.int .i64 ar,.list aa ai]=r:=
 aY (key:=22) (L:=b6) (bs:=[]) (by kernel_rfl) ax (aX (by kernel_rfl) h)
end Go.AM
set_option maxRecDepth 100000
namespace Go.AM
open Go.Proofs Ex
theorem wX:CC qp []=some (iQ ec):=aiQ rfl
theorem IW:CC vE []=some (iQ jv):=aiS rfl
theorem D4:CC tw []=some (iQ gR):=by
 refine aiT ?_
 unfold WI
 refine bs wX ?_
 simp[iQ,ec,gR,Ex.op,Ex.letter,Ex.kids,eY]
theorem YC (o:Int) (l:List Ex):(l.filter fun k=> !(decide (k.op=o)))=l.filter fun k=>decide (k.op≠o):=by
 congr 1;funext k;simp
theorem YD {ks:List Ex} (hlen:ks.length≤1000000):CC tu [.list aa (ks.map enc)]=some [.bool (ks.any fun k=>decide (k.op=1))]:=ajx hlen
theorem alE {ks:List Ex} (hn:ks.length≤1000000): ∃b,CC Hr [.list aa (ks.map enc)]=some [.bool b,.list aa ((ks.filter (fun k=>decide (k.op≠1))).map enc)]:=by
 rw[←YC];exact ajz hn
theorem alF {ks:List Ex} (hn:ks.length≤1000000): ∃b,CC Hp [.list aa (ks.map enc)]=some [.bool b,.list aa ((ks.filter (fun k=>decide (k.op≠2))).map enc)]:=by
 rw[←YC];exact ajD hn
theorem YE {o:Int} {ks:List Ex} (h: ∀k∈ks,k.Ok): ∀k∈bG o ks,k.Ok:=fun x hx=>by
 obtain ⟨k,h1,U|U⟩:=jK.1 hx
 ·have:=h k h1
  obtain ⟨o2,l2,my⟩:=k
  exact this.og x U.2
 ·rw[U.2];exact h k h1
theorem alG {n:Int} {ks:List Ex} (hk: ∀k∈ks,Gd n k) (hs:aS ks≤1000000):CC Hd [.list aa (ks.map enc)]=some (iQ (dI 5 0 ks)):=by
 have hl:=qG ks
 have a1:=zp 5 ks
 have a2:=qG (bG 5 ks)
 refine alx ?_
 unfold Yv
 rw[tV,OM hk]
 refine bs (YD (by omega)) ?_
 cases hu:ks.any fun k=>decide (k.op=1) with
 | true=>
  refine bT rfl ?_
  refine bs wX ?_
  rfl
 | false=>
  refine bF rfl ?_
  refine bs (OD (by omega) (by omega)) ?_
  obtain ⟨b,e⟩:=alF (ks:=bG 5 ks) (by omega)
  refine bs e ?_
  cases b
  ·exact bF rfl (bs IW (bs (qF (z:=jv)) rfl))
  ·exact bT rfl (bs IW (bs (qF (z:=jv)) rfl))
section
variable {n:Int} {ks:List Ex} (hk: ∀k∈ks,Gd n k) (ay: ∀k∈ks,k.Ok) (hs:aS ks≤1000000)
include hk ay hs
theorem alH:CC Hc [.list aa (ks.map enc)]=some (iQ (dI 4 0 ks)):=by
 have hl:=qG ks
 have a1:=zp 4 ks
 have a2:=qG (bG 4 ks)
 refine alw ?_
 unfold Yu
 rw[wv,WV hk]
 refine bs (ajF (by omega)) ?_
 cases hu:ks.any univ with
 | true=>
  refine bT rfl ?_
  refine bs D4 ?_
  rfl
 | false=>
  refine bF rfl ?_
  refine bs (OD (by omega) (by omega)) ?_
  obtain ⟨b,e⟩:=alE (ks:=bG 4 ks) (by omega)
  refine bs e ?_
  obtain ⟨b2,e2⟩:=Yt (l:=(bG 4 ks).filter fun k=>decide (k.op≠1)) (by have:=uy (fun k:Ex=>decide (k.op≠1)) (bG 4 ks);omega) fun k h=>YE ay k (kq.1 h).1
  cases b
  ·refine bF rfl ?_
   refine bs e2 ?_
   cases b2
   ·exact bF rfl (bs wX (bs (qF (z:=ec)) rfl))
   ·exact bT rfl (bs wX (bs (qF (z:=ec)) rfl))
  ·refine bT rfl ?_
   refine bs e2 ?_
   cases b2
   ·exact bF rfl (bs wX (bs (qF (z:=ec)) rfl))
   ·exact bT rfl (bs wX (bs (qF (z:=ec)) rfl))
theorem alI:CC He [.list aa (ks.map enc)]=some (iQ (dI 6 0 ks)):=by
 have hl:=qG ks
 have a1:=zp 6 ks
 have a2:=qG (bG 6 ks)
 refine aly ?_
 unfold Yw
 rw[zq,ai4 hk]
 refine bs (YD (by omega)) ?_
 cases hu:ks.any fun k=>decide (k.op=1) with
 | true=>
  refine bT rfl ?_
  refine bs wX ?_
  rfl
 | false=>
  refine bF rfl ?_
  refine bs (OD (by omega) (by omega)) ?_
  obtain ⟨b,e⟩:=ajH (ks:=bG 6 ks) (by omega)
  refine bs e ?_
  obtain ⟨b2,e2⟩:=Yt (l:=(bG 6 ks).filter fun k=> !(univ k)) (by have:=uy (fun k:Ex=> !(univ k)) (bG 6 ks);omega) fun k h=>YE ay k (kq.1 h).1
  cases b
  ·refine bF rfl ?_
   refine bs e2 ?_
   cases b2
   ·exact bF rfl (bs D4 (bs (qF (z:=gR)) rfl))
   ·exact bT rfl (bs D4 (bs (qF (z:=gR)) rfl))
  ·refine bT rfl ?_
   refine bs e2 ?_
   cases b2
   ·exact bF rfl (bs D4 (bs (qF (z:=gR)) rfl))
   ·exact bT rfl (bs D4 (bs (qF (z:=gR)) rfl))
theorem sD {o:Int} (ho:o=4∨o=5∨o=6):CC kQ [.int .i64 o,.list aa (ks.map enc)]=some (iQ (dI o 0 ks)):=by
 refine Yx ?_
 unfold Pl
 rcases ho with rfl|rfl|rfl
 ·exact bT rfl (bs (alH hk ay hs) rfl)
 ·exact bF rfl (bT rfl (bs (alG hk hs) rfl))
 ·exact bF rfl (bF rfl (bT rfl (bs (alI hk ay hs) rfl)))
end
theorem Pm (k:Ex):[V.agg [.int .i64 k.op,.int .i64 k.letter,.list aa (k.kids.map enc)]]=[k].map enc:=by rw[←eY];rfl
theorem IX {n o:Int} {k:Ex} (hk:Gd n k) (ho:o=7∨o=8):CC kQ [.int .i64 o,.list aa ([k].map enc)]=some (iQ (dI o 0 [k])):=by
 refine Yx ?_
 unfold Pl
 rcases ho with rfl|rfl
 ·refine bF rfl (bF rfl (bF rfl (bF rfl (bs (a:=k.enc) rfl (bF rfl (bT rfl ?_))))))
  rw[zr,bz,bA,bB,dD,dD,dD]
  by_cases h1:k.op=1
  ·rw[ag h1,ag (.inl h1)];exact bs IW rfl
  ·rw[ah h1]
   by_cases U:k.op=2
   ·rw[ag U,ag (.inr U)];exact bs IW rfl
   ·rw[ah U,ah (show¬(k.op=1∨k.op=2) by omega)]
    by_cases h7:k.op=7
    ·rw[ag h7,ag (.inl h7)];rfl
    ·rw[ah h7]
     refine bs (Dt k) ?_
     cases hu:univ k with
     | true=>rw[ag (.inr rfl)];exact bT rfl rfl
     | false=>
      rw[ah (by rintro (h|h);exact h7 h;cases h)]
      refine bF rfl ?_
      rw[Pm];rfl
 ·refine bF rfl (bF rfl (bF rfl (bF rfl (bs (a:=k.enc) rfl (bT rfl ?_)))))
  rw[zt,bz,bA,bB,dD]
  by_cases h8:k.op=8
  ·rw[ag h8,ag h8]
   have hs:=eE hk.shape
   obtain ⟨o2,l2,my⟩:=k
   simp only[Ex.op,Ex.kids,Ex.letter] at*
   match my,(show (my.length:Int)=1 by omega) with
   | [x],_=>
    refine bT (by simp) (bs (a:=x.enc) rfl ?_)
    rw[bz,bA,bB];rfl
  ·rw[ah h8,ah h8,Pm];rfl
theorem YF {α:Type} (a:List α) (x y:α) (b:List α) {i:Nat} (h:i=a.length):(a++x::b).set i y=(a++[y])++b:=by
 subst h;simp[List.set_append_right]
theorem alJ {ks:List Ex} {a b c d:Int} {l1 l2:List V} (hn:ks.length≤1000000) (ih: ∀k∈ks,CC vC (b9 k [])=some (iQ (aZ k))):
  ∀(aJ pre:List Ex),ks=pre++aJ→∃t,Loop (IV CC (ks.map enc) ((ks.map enc).length:Int) a b l1 c d l2) (((pre.length:Nat):Int),(pre.map aZ).map enc++List.replicate aJ.length (V.agg [.int .i64 0,.int .i64 0,.list aa ([]:List V)]))=some (((ks.map enc).length:Int),t,(ks.map aZ).map enc):=by
 intro aJ
 induction aJ with
 | nil=>
  intro pre e
  rw[dy] at e
  subst e
  refine ⟨false,bj ?_⟩
  simp only[IV,D3,un,bt]
  rw[az,ah (by omega),cl (by omega)]
  simp
 | cons k aJ gN=>
  intro pre e
  have cb:pre.length<ks.length:=by rw[e];simp
  have cC:idx (ks.map enc) (pre.length:Int)=some k.enc:=by rw[e];exact jJ _ _ _
  obtain ⟨t,ht⟩:=gN (pre++[k]) (by simp[e])
  refine ⟨t,(bW ?_).trans ht⟩
  simp only[IV,D3,un,bt]
  rw[az,ag (by omega),cC]
  simp only[Option.bind_some,bz,bA,bB]
  refine bs (ih k (by rw[e];simp)) ?_
  refine bT (by simp only[aO,dX,cB,bt,uu,List.length_cons];omega) ?_
  refine bs (a:=V.agg [.int .i64 0,.int .i64 0,.list aa ([]:List V)]) ?_ ?_
  ·rw[Int.toNat_natCast,iU (by simp)]
   simp
  ·rw[wrap64 (by omega) (by omega),Int.toNat_natCast,List.length_cons,List.replicate_succ,YF _ _ _ _ (by simp)]
   show some (Sum.inl _)=some (Sum.inl _)
   refine congrArg (fun x=>some (Sum.inl x)) (Prod.ext ?_ ?_)
   ·simp
   ·simp only[gn,cr,fp]
    rw[eY (aZ k)];rfl
theorem YG {n:Int} (hn:n≤6): ∀e:Ex,e.wf n=true→e.size≤1000000→CC vC (b9 e [])=some (iQ (aZ e)):=
 ind fun o l ks ih hw hs=>by
  obtain ⟨h1,U⟩:=gg hw
  have hl:=qG ks
  simp only[size] at hs
  have h3:=eE h1
  refine alC ?_
  unfold YA
  simp only[Ex.op,Ex.kids,Ex.letter,bt,dD]
  rw[mz]
  by_cases h0:ks=[]
  ·subst h0
   rw[ag (by simp),kf (by simp only[List.length_nil] at h3;omega)]
   rfl
  ·have hp:0<ks.length:=Au.2 h0
   rw[ah (by omega)]
   refine bT (by simp only[aO,dX,ej,oe,Int.toNat_natCast];omega) ?_
   obtain ⟨t,ht⟩:=alJ (a:=o) (b:=l) (c:=0) (d:=0) (l1:=ks.map enc) (l2:=[]) (ks:=ks) (by omega) (fun k hk=>ih k hk (U k hk) (by have:=Df hk;omega)) ks [] rfl
   rw[bt] at ht
   refine bs ht ?_
   have hg: ∀k∈ks.map aZ,Gd n k:=fun x hx=>by
    obtain ⟨k,hk,rfl⟩:=ey.1 hx
    exact nj k (U k hk)
   have hz:aS (ks.map aZ)≤aS ks:=by
    clear ht h3 h1 hw ih hp h0 hl hs hg
    induction ks with
    | nil=>simp[aS]
    | cons k ks ih=>have a:=Dq k (U k (by simp));have b:=ih fun k hk=>U k (by simp[hk]);simp only[cr,aS];omega
   have ay: ∀k∈ks.map aZ,k.Ok:=fun k hk=>wz hn k (hg k hk).2 (by have:=Df hk;omega)
   rcases (show (o=4∨o=5∨o=6)∨(o=7∨o=8) by omega) with ho|ho
   ·obtain rfl:l=0:=by omega
    exact bs (sD hg ay (by omega) ho) rfl
   ·obtain rfl:l=0:=by omega
    have h5:ks.length=1:=by omega
    match ks,h5 with
    | [k],_=>exact bs (IX (hg (aZ k) (by simp)) ho) rfl
theorem alK (e:Ex) (h:e.Ok):CC G2 (b9 e [])=some (iQ (if e.val 6=0 then aZ e else bm)):=by
 refine alD ?_
 unfold YB
 refine bs (Oq e h) ?_
 by_cases hv:e.val 6=0
 ·have:=sm hv
  rw[ag hv]
  refine bF (by simp[hv]) ?_
  exact bs (YG (by omega) e this.2.2 (by omega)) rfl
 ·rw[ah hv]
  refine bT (by simp[hv]) ?_
  rfl
end Go.AM
set_option maxRecDepth 100000
namespace Go.AM
open Go.Proofs
def tab {α:Type} (n:Nat) (g:Nat→α):List α:=(List.range n).map g
section
variable {α β:Type} {n i:Nat} {g h:Nat→α}
@[simp] theorem apA:(tab n g).length=n:=by simp[tab]
end
section
variable {γ:Type} {n i:Nat} {g:Nat→V}
theorem uf {es:List V} {v:V} (hi:es[i]? =some v) {K:V→Option γ}:(bif (decide (0≤(i:Int)))&&(decide ((i:Int)<(es.length:Int))) then (es[((i:Int)).toNat]?).bind K else none)=K v:=by
 have hl:i<es.length:=by
  rcases pJ i es.length with h|h
  ·exact h
  ·rw[qU h] at hi;cases hi
 rw[Int.toNat_natCast,hi,xg.2 ⟨eK (by omega),eK (by omega)⟩]
 rfl
end
theorem cap {a b m:Nat} (h:a+b≤10000000) (hm:m≤1000):Nat.ble ((a+b)*m) cI=true:=by
 rw[ej,oe]
 have:=Nat.mul_le_mul h hm
 omega
theorem alL {n m:Nat} (h:n≤10000000) (hm:m≤1000):((decide (0≤(n:Int)))&&((decide ((n:Int)≤(n:Int)))&&(Nat.ble (((n:Int).toNat)*m) cI)))=true:=by
 have U:=Nat.mul_le_mul h hm
 rw[Int.toNat_natCast]
 refine xg.2 ⟨eK (by omega),xg.2 ⟨eK (by omega),?_⟩⟩
 rw[ej,oe]
 omega
theorem nt {i:Nat} (h:i≤1000000000):IntKind.wrap .i64 ((i:Int)+1)=((i+1:Nat):Int):=by rw[wrap64 (by omega) (by omega)];omega
theorem ug {i n:Nat} (h:i<n):decide ((i:Int)<(n:Int))=true:=eK (by omega)
section
variable {X R:Type} {step:X→Option (X ⊕ R)}
theorem YH (n:Nat) (s:Nat→X) (r:R) (h: ∀i,i<n→step (s i)=some (.inl (s (i+1)))) (he:step (s n)=some (.inr r)):Loop step (s 0)=some r:=adq s n h he
end
end Go.AM
set_option maxRecDepth 100000
namespace Go.AM
open Go.Proofs Ex
def oneOf (o:Int):List Ex→Ex
 | [k]=>k
 | l=> .node o 0 l
mutual
def b7 (c:Int):Ex→Ex
 | .node o l ks=>
  if o=3 then (if l=c then jv else ec)
  else if o=4∨o=6∨o=8 then .node o 0 (z5 c ks)
  else if o=7 then .node 5 0 [(z5 c ks).getD 0 bm,.node o l ks]
  else if o=5 then oneOf 4 (iu c ks)
  else ec
def z5 (c:Int):List Ex→List Ex
 | []=>[]
 | k::ks=>b7 c k::z5 c ks
def iu (c:Int):List Ex→List Ex
 | []=>[]
 | k::ks=>oneOf 5 (b7 c k::ks)::(if k.cP=true then iu c ks else [])
end
theorem YI {c:Int}: ∀ks,z5 c ks=ks.map (b7 c)
 | []=>by simp only[z5,fp]
 | k::ks=>by simp only[z5,cr,YI ks]
theorem wY {c o l:Int} {ks:List Ex}:b7 c (.node o l ks)=if o=3 then (if l=c then jv else ec) else if o=4∨o=6∨o=8 then .node o 0 (ks.map (b7 c)) else if o=7 then .node 5 0 [(ks.map (b7 c)).getD 0 bm,.node o l ks] else if o=5 then oneOf 4 (iu c ks) else ec:=by
 rw[b7,YI]
theorem D5 {c:Int} {k:Ex} {ks:List Ex}:iu c (k::ks)=oneOf 5 (b7 c k::ks)::(if k.cP=true then iu c ks else []):=by rw[iu]
theorem alM {o:Int} {k:Ex} {l:List Ex}:oneOf o (k::l)=if l=[] then k else .node o 0 (k::l):=by
 cases l with
 | nil=>rfl
 | cons x l=>rw[ah (by simp)];rfl
theorem YJ {n:Int}:ec.wf n=true:=wu (by simp[dz]) (by simp)
theorem alN {n:Int}:jv.wf n=true:=wu (by simp[dz]) (by simp)
theorem alO {n o l len:Int} (h:dz o l len n=true) (ho:o=4∨o=6∨o=8):dz o 0 len n=true:=by
 rcases eE h with h|⟨rfl,h⟩
 ·omega
 ·assumption
theorem YK {n:Int} {o:Int} (ho:o=4∨o=5) {len:Int} (h:2≤len):dz o 0 len n=true:=by
 unfold dz
 rcases ho with rfl|rfl<;>simp[h]
theorem YL {n:Int} {o:Int} (ho:o=4∨o=5) {l:List Ex} (hl:l≠[]) (h: ∀k∈l,k.wf n=true):(oneOf o l).wf n=true:=by
 match l,hl with
 | [k],_=>exact h k (by simp)
 | k::k2::l,_=>exact wu (YK ho (by simp only[List.length_cons];omega)) h
theorem Pn {c:Int} {ks:List Ex} (h:ks≠[]):iu c ks≠[]:=by
 cases ks with
 | nil=>exact absurd rfl h
 | cons k ks=>rw[D5];simp
theorem IY {n c:Int}: ∀{ks:List Ex},(∀k∈ks,k.wf n=true)→(∀k∈ks,(b7 c k).wf n=true)→∀x∈iu c ks,x.wf n=true
 | [],_,_,x,hx=>by rw[iu] at hx;cases hx
 | k::ks,h1,U,x,hx=>by
  rw[D5] at hx
  rcases dx.1 hx with rfl|hx
  ·refine YL (.inr rfl) (by simp) fun y hy=> ?_
   rcases dx.1 hy with rfl|hy
   ·exact U k (by simp)
   ·exact h1 y (by simp[hy])
  ·split at hx
   ·exact IY (fun y hy=>h1 y (by simp[hy])) (fun y hy=>U y (by simp[hy])) x hx
   ·cases hx
theorem uh {n c:Int}: ∀e:Ex,e.wf n=true→(b7 c e).wf n=true:=ind fun o l ks ih hw=>by
 obtain ⟨h1,U⟩:=gg hw
 have hk: ∀k∈ks,(b7 c k).wf n=true:=fun k hk=>ih k hk (U k hk)
 rw[wY]
 split
 ·split
  ·exact alN
  ·exact YJ
 split
 ·next _ ho=>
  refine wu (by rw[bt];exact alO h1 ho) fun x hx=> ?_
  obtain ⟨k,fy,rfl⟩:=ey.1 hx
  exact hk k fy
 split
 ·next _ _ ho=>
  subst ho
  have hl:ks.length=1:=by rcases eE h1 with h|⟨_,h|h|h|h|h|h|h⟩<;>omega
  obtain ⟨k,rfl⟩:=oP.1 hl
  refine wu (YK (.inr rfl) (by simp)) fun x hx=> ?_
  rcases dx.1 hx with rfl|hx
  ·exact hk k (by simp)
  ·rw[ew.1 hx];exact hw
 split
 ·next _ _ _ ho=>
  subst ho
  have hl:2≤ks.length:=by rcases eE h1 with h|⟨_,h|h|h|h|h|h|h⟩<;>omega
  exact YL (.inl rfl) (Pn (by intro h;rw[h] at hl;simp at hl)) (IY U hk)
 ·exact YJ
theorem YM {o:Int} {l:List Ex}:(oneOf o l).size≤1+aS l:=by
 match l with
 | []=>simp[oneOf,size,aS]
 | [k]=>simp[oneOf,aS]
 | k::k2::l=>simp[oneOf,size]
theorem Po {f:Ex→Ex}: ∀{ks:List Ex},(∀k∈ks,(f k).size≤k.size*k.size)→aS (ks.map f)≤aS ks*aS ks
 | [],_=>by simp[aS]
 | k::ks,h=>by
  have ih:=Po (f:=f) (ks:=ks) fun x hx=>h x (by simp[hx])
  have hk:=h k (by simp)
  simp only[cr,aS,dA,Nat.mul_add]
  omega
theorem Pp {c:Int}: ∀{ks:List Ex},(∀k∈ks,(b7 c k).size≤k.size*k.size)→1+aS (iu c ks)≤(1+aS ks)*(1+aS ks)
 | [],_=>by rw[iu];simp[aS]
 | k::ks,h=>by
  have ih:=Pp (c:=c) (ks:=ks) fun x hx=>h x (by simp[hx])
  have hk:=h k (by simp)
  have h1:(oneOf 5 (b7 c k::ks)).size≤1+((b7 c k).size+aS ks):=YM
  have hp:=k.size_pos
  have U:aS (if k.cP=true then iu c ks else [])≤aS (iu c ks):=by
   split
   ·exact bV _
   ·simp[aS]
  have h3:1*aS ks≤k.size*aS ks:=dL _ hp
  have h4:aS ks*k.size=k.size*aS ks:=lj _ _
  rw[D5]
  simp only[aS,dA,Nat.mul_add] at*
  omega
theorem YN {c:Int}: ∀e:Ex,(∀n,e.wf n=true→(b7 c e).size≤e.size*e.size):=ind fun o l ks ih n hw=>by
 obtain ⟨h1,U⟩:=gg hw
 have hk: ∀k∈ks,(b7 c k).size≤k.size*k.size:=fun k hk=>ih k hk n (U k hk)
 have h3:1*1≤(Ex.node o l ks).size*(Ex.node o l ks).size:=Nat.mul_le_mul (size_pos _) (size_pos _)
 rw[wY]
 split
 ·split
  ·exact h3
  ·exact h3
 split
 ·have:=Po hk
  simp only[size,dA,Nat.mul_add] at*
  omega
 split
 ·next _ _ ho=>
  subst ho
  have hl:ks.length=1:=by rcases eE h1 with h|⟨_,h|h|h|h|h|h|h⟩<;>omega
  obtain ⟨k,rfl⟩:=oP.1 hl
  have:=hk k (by simp)
  have hp:=k.size_pos
  simp only[cr,fp,Av,size,aS,dA,Nat.mul_add,Nat.add_zero] at*
  omega
 split
 ·have h4:=Pp hk
  have h5:(oneOf 4 (iu c ks)).size≤1+aS (iu c ks):=YM
  show _≤(1+aS ks)*(1+aS ks)
  omega
 ·exact h3
section
variable {n c:Int}
theorem alP {o l:Int} {ks:List Ex} (ho:o=4∨o=6∨o=8):aZ (b7 c (.node o l ks))=dI o 0 (ks.map fun k=>aZ (b7 c k)):=by
 rw[wY,ah (by omega),ag ho,mz,List.map_map]
 rfl
theorem alQ {l:Int} {k:Ex}:aZ (b7 c (.node 7 l [k]))=dI 5 0 [aZ (b7 c k),aZ (.node 7 l [k])]:=by
 rw[wY,ah (by omega),ah (by omega),ag rfl,mz]
 rfl
def IZ (c:Int) (k:Ex) (ks:List Ex):Ex:=if (aZ (b7 c k)).op=1 then aZ (b7 c k) else dI 5 0 (aZ (b7 c k)::ks.map aZ)
theorem alR {k:Ex} {ks:List Ex} (hk:k.wf n=true) (br: ∀x∈ks,x.wf n=true):IZ c k ks=aZ (oneOf 5 (b7 c k::ks)):=by
 have hg:=nj (n:=n) _ (uh (c:=c) k hk)
 unfold IZ
 rw[alM]
 by_cases hn:ks=[]
 ·subst hn
  rw[ag rfl,fp,ajg hg]
  split<;>rfl
 ·rw[ah hn,mz,cr]
  by_cases h1:(aZ (b7 c k)).op=1
  ·rw[ag h1,tV,ag,empty_eq hg h1]
   have F7: ∀x∈aZ (b7 c k)::ks.map aZ,Gd n x:=fun x hx=>by
    rcases dx.1 hx with rfl|hx
    ·exact hg
    ·obtain ⟨y,hy,rfl⟩:=ey.1 hx
     exact nj y (br y hy)
   rw[OM F7]
   simp[h1]
  ·rw[ah h1]
def ui (c:Int):List Ex→List Ex
 | []=>[]
 | k::ks=>IZ c k ks::(if k.cP=true then ui c ks else [])
theorem parts_eq: ∀{ks:List Ex},(∀x∈ks,x.wf n=true)→ui c ks=(iu c ks).map aZ
 | [],_=>by rw[iu];rfl
 | k::ks,h=>by
  have ih:=parts_eq (ks:=ks) fun x hx=>h x (by simp[hx])
  rw[D5,cr,←alR (h k (by simp)) (fun x hx=>h x (by simp[hx]))]
  unfold ui
  refine congrArg _ ?_
  split
  ·exact ih
  ·rfl
theorem alS {l:Int} {ks:List Ex} (bD:ks≠[]) (hk: ∀x∈ks,x.wf n=true):aZ (b7 c (.node 5 l ks))=dI 4 0 (ui c ks):=by
 rw[wY,ah (by omega),ah (by omega),ah (by omega),ag rfl,parts_eq hk]
 have hw:=IY (c:=c) hk fun k fy=>uh k (hk k fy)
 have hn:=Pn (c:=c) bD
 generalize iu c ks=L at*
 match L,hn with
 | [x],_=>exact (ajf (nj x (hw x (by simp)))).symm
 | x::y::L,_=>
  show aZ (.node 4 0 _)=_
  rw[mz]
end
end Go.AM
set_option maxRecDepth 100000
namespace Go.AM
open Go.Proofs
noncomputable def YO (C:ae) (df:Int) (c9:Bool) (aj ar:Int) (ai:List V):Option (List V):=
 bif c9 then
  some [.int .i64 aj,.int .i64 ar,.list aa ai]
 else
  (C vC [.int .i64 aj,.int .i64 ar,.list aa ai]).bind fun r1=>
  some [.int .i64 ((V.nth r1 0).toInt),.int .i64 ((V.nth (r1.drop 1) 0).toInt),.list aa ((V.nth ((r1.drop 1).drop 1) 0).toList)]
theorem alT {df:Int} {c9:Bool} {aj ar:Int} {ai:List V} {r:Option (List V)} (h:YO CC df c9 aj ar ai=r):CC BT [.int .i64 df,.bool c9,.int .i64 aj,.int .i64 ar,.list aa ai]=r:=
 aY (key:=73) (L:=b6) (bs:=[]) (by kernel_rfl) ax (aX (by kernel_rfl) h)
noncomputable abbrev YP:Code:=cg Tryz.prog (au.aP 63)
noncomputable def D6 (C:ae) (t21:List V) (t22 gT:Int) (iv:Bool) (fg eD:Int) (dS:List V) (oE oF sE sF:Int) (sG:Bool) (cz la:List V) (D7 t23:Int) (mC fR:List V) {β:Type} (kn:(Int × Int × (List V) × (List V))→Option β) (kr:(Int × Int × Bool × (List V) × (List V))→Option β):Option β:=
 bif decide ((t23:Int)<t22) then
  (idx t21 t23).bind fun x1=>
  (C ph [.int .i64 gT,.bool iv,.int .i64 ((x1.cell 0).toInt),.int .i64 ((x1.cell 1).toInt),.list aa ((x1.cell 2).toList)]).bind fun r2=>
  bif (decide (0≤t23))&&(decide (t23<(mC.length:Int))) then
  (mC[(t23:Int).toNat]?).bind fun x3=>
  bif (decide (0≤t23))&&(decide (t23<(fR.length:Int))) then
   (fR[(t23:Int).toNat]?).bind fun x4=>
   bif (V.nth ((((((r2.drop 1).drop 1).drop 1).drop 1).drop 1).drop 1) 0).toBool then
   kn (IntKind.wrap .i64 (D7+1),IntKind.wrap .i64 (t23+1),mC.set ((t23:Int).toNat) (.agg [.int .i64 ((V.nth r2 0).toInt),.int .i64 ((V.nth (r2.drop 1) 0).toInt),.list aa ((V.nth ((r2.drop 1).drop 1) 0).toList)]),fR.set ((t23:Int).toNat) (.agg [.int .i64 ((V.nth (((r2.drop 1).drop 1).drop 1) 0).toInt),.int .i64 ((V.nth ((((r2.drop 1).drop 1).drop 1).drop 1) 0).toInt),.list aa ((V.nth (((((r2.drop 1).drop 1).drop 1).drop 1).drop 1) 0).toList)]))
   else
   kn (D7,IntKind.wrap .i64 (t23+1),mC.set ((t23:Int).toNat) (.agg [.int .i64 ((V.nth r2 0).toInt),.int .i64 ((V.nth (r2.drop 1) 0).toInt),.list aa ((V.nth ((r2.drop 1).drop 1) 0).toList)]),fR.set ((t23:Int).toNat) (.agg [.int .i64 ((V.nth (((r2.drop 1).drop 1).drop 1) 0).toInt),.int .i64 ((V.nth ((((r2.drop 1).drop 1).drop 1).drop 1) 0).toInt),.list aa ((V.nth (((((r2.drop 1).drop 1).drop 1).drop 1).drop 1) 0).toList)]))
  else none
  else none
 else
  kr (D7,t23,decide ((t23:Int)<t22),mC,fR)
noncomputable def I0 (C:ae) (t21:List V) (t22 gT:Int) (iv:Bool) (fg eD:Int) (dS:List V) (oE oF sE sF:Int) (sG:Bool) (cz la:List V):(Int × Int × (List V) × (List V))→Option ((Int × Int × (List V) × (List V)) ⊕ (Int × Int × Bool × (List V) × (List V))):=un fun D7=>un fun t23=>un fun mC fR=>D6 C t21 t22 gT iv fg eD dS oE oF sE sF sG cz la D7 t23 mC fR (fun y=>some (.inl y)) (fun r=>some (.inr r))
noncomputable def YQ (C:ae):bZ:=fun β n ds k=>
 bif Nat.beq n 65 then bK MN [true,false,false,true,false,false,false,false,false,false,false,false,false,false,true,true,false,false] [[0,2,3,0,0,5,6,7,8,9,10,11,12,13,14,0,0,17,18]] (@D6 C) ds k else
 none
abbrev alU (C:ae) (b:bX):Prop:=bY Tryz.prog au C (YQ C) 63 (cj Tryz.prog (au.aP 63)) (au.sin 63).ba.length b
theorem alV (C:ae):alU C (.loop (aw [1,1,1,0,1,0,0] YP)):=
 bN MN [true,false,false,true,false,false,false,false,false,false,false,false,false,false,true,true,false,false] [[0,2,3,0,0,5,6,7,8,9,10,11,12,13,14,0,0,17,18]] (@D6 C) (by kernel_rfl) (a8 (bs:=[]) (by kernel_rfl) ax) (fun ds=>by kernel_rfl) (fun i x=>by kernel_rfl) (fun i x β k=>by kernel_rfl) (fun β ds k=>by kernel_rfl)
noncomputable def YR (C:ae) (df:Int) (c9:Bool) (aj ar:Int) (ai:List V):Option (List V):=
 bif (decide (0≤(ai.length:Int)))&&((decide ((ai.length:Int)≤(ai.length:Int)))&&(Nat.ble ((((ai.length:Int):Int).toNat)*40) cI)) then
  bif (decide (0≤(ai.length:Int)))&&((decide ((ai.length:Int)≤(ai.length:Int)))&&(Nat.ble ((((ai.length:Int):Int).toNat)*40) cI)) then
  (Loop (I0 C ai (ai.length:Int) df c9 aj ar ai 0 0 0 0 false ([]:List V) ([]:List V)) (0,0,List.replicate (((ai.length:Int):Int).toNat) (V.agg [.int .i64 0,.int .i64 0,.list aa ([]:List V)]),List.replicate (((ai.length:Int):Int).toNat) (V.agg [.int .i64 0,.int .i64 0,.list aa ([]:List V)]))).bind (un fun (Pq:Int)=>un fun (ml:Int)=>un fun (nc:Bool)=>un fun (alW:List V) (alX:List V)=>
   (C kQ [.int .i64 aj,.list aa alW]).bind fun eb=>
   (C kQ [.int .i64 aj,.list aa alX]).bind fun eT=>
   bif (aj:Int)==4 then
    some [.int .i64 ((V.nth eb 0).toInt),.int .i64 ((V.nth (eb.drop 1) 0).toInt),.list aa ((V.nth ((eb.drop 1).drop 1) 0).toList),.int .i64 ((V.nth eT 0).toInt),.int .i64 ((V.nth (eT.drop 1) 0).toInt),.list aa ((V.nth ((eT.drop 1).drop 1) 0).toList),.bool (decide ((Pq:Int)>0))]
   else
    bif (aj:Int)==6 then
    some [.int .i64 ((V.nth eb 0).toInt),.int .i64 ((V.nth (eb.drop 1) 0).toInt),.list aa ((V.nth ((eb.drop 1).drop 1) 0).toList),.int .i64 ((V.nth eT 0).toInt),.int .i64 ((V.nth (eT.drop 1) 0).toInt),.list aa ((V.nth ((eT.drop 1).drop 1) 0).toList),.bool ((Pq:Int)==(ai.length:Int))]
    else
    bif (aj:Int)==8 then
     some [.int .i64 ((V.nth eb 0).toInt),.int .i64 ((V.nth (eb.drop 1) 0).toInt),.list aa ((V.nth ((eb.drop 1).drop 1) 0).toList),.int .i64 ((V.nth eT 0).toInt),.int .i64 ((V.nth (eT.drop 1) 0).toInt),.list aa ((V.nth ((eT.drop 1).drop 1) 0).toList),.bool ((Pq:Int)==0)]
    else
     some [.int .i64 ((V.nth eb 0).toInt),.int .i64 ((V.nth (eb.drop 1) 0).toInt),.list aa ((V.nth ((eb.drop 1).drop 1) 0).toList),.int .i64 ((V.nth eT 0).toInt),.int .i64 ((V.nth (eT.drop 1) 0).toInt),.list aa ((V.nth ((eT.drop 1).drop 1) 0).toList),.bool false])
  else none
 else none
theorem alY {df:Int} {c9:Bool} {aj ar:Int} {ai:List V} {r:Option (List V)} (h:YR CC df c9 aj ar ai=r):CC yH [.int .i64 df,.bool c9,.int .i64 aj,.int .i64 ar,.list aa ai]=r:=
 aY (key:=63) (L:=YQ CC) (bs:=[.loop (aw [1,1,1,0,1,0,0] YP)]) (by kernel_rfl) (bq (alV CC) ax) (aX (by kernel_rfl) h)
noncomputable abbrev I1:Code:=cg Tryz.prog (au.aP 64)
noncomputable def z6 (C:ae) (t20:List V) (t21 gT:Int) (iv:Bool) (oE oF sE sF:Int) (sG:Bool) (aT cz:List V) (uj:Bool) (t22:Int) (mC fR:List V) {β:Type} (kn:(Bool × Int × (List V) × (List V))→Option β) (kr:(Bool × Int × Bool × (List V) × (List V))→Option β):Option β:=
 bif decide ((t22:Int)<t21) then
  (idx t20 t22).bind fun x1=>
  bif !uj then
  (C BT [.int .i64 gT,.bool iv,.int .i64 ((x1.cell 0).toInt),.int .i64 ((x1.cell 1).toInt),.list aa ((x1.cell 2).toList)]).bind fun r2=>
  bif (decide (0≤t22))&&(decide (t22<(fR.length:Int))) then
   (fR[(t22:Int).toNat]?).bind fun x3=>
   kn (uj,IntKind.wrap .i64 (t22+1),mC,fR.set ((t22:Int).toNat) (.agg [.int .i64 ((V.nth r2 0).toInt),.int .i64 ((V.nth (r2.drop 1) 0).toInt),.list aa ((V.nth ((r2.drop 1).drop 1) 0).toList)]))
  else none
  else
  (C ph [.int .i64 gT,.bool iv,.int .i64 ((x1.cell 0).toInt),.int .i64 ((x1.cell 1).toInt),.list aa ((x1.cell 2).toList)]).bind fun r4=>
  bif Nat.ble ((mC.length+([.agg [.int .i64 ((V.nth r4 0).toInt),.int .i64 ((V.nth (r4.drop 1) 0).toInt),.list aa ((V.nth ((r4.drop 1).drop 1) 0).toList)]]:List V).length)*40) cI then
   bif (decide (0≤t22))&&(decide (t22<(fR.length:Int))) then
   (fR[(t22:Int).toNat]?).bind fun x5=>
   kn ((V.nth ((((((r4.drop 1).drop 1).drop 1).drop 1).drop 1).drop 1) 0).toBool,IntKind.wrap .i64 (t22+1),mC++([.agg [.int .i64 ((V.nth r4 0).toInt),.int .i64 ((V.nth (r4.drop 1) 0).toInt),.list aa ((V.nth ((r4.drop 1).drop 1) 0).toList)]]:List V),fR.set ((t22:Int).toNat) (.agg [.int .i64 ((V.nth (((r4.drop 1).drop 1).drop 1) 0).toInt),.int .i64 ((V.nth ((((r4.drop 1).drop 1).drop 1).drop 1) 0).toInt),.list aa ((V.nth (((((r4.drop 1).drop 1).drop 1).drop 1).drop 1) 0).toList)]))
   else none
  else none
 else
  kr (uj,t22,decide ((t22:Int)<t21),mC,fR)
noncomputable def D8 (C:ae) (t20:List V) (t21 gT:Int) (iv:Bool) (oE oF sE sF:Int) (sG:Bool) (aT cz:List V):(Bool × Int × (List V) × (List V))→Option ((Bool × Int × (List V) × (List V)) ⊕ (Bool × Int × Bool × (List V) × (List V))):=un fun uj=>un fun t22=>un fun mC fR=>z6 C t20 t21 gT iv oE oF sE sF sG aT cz uj t22 mC fR (fun y=>some (.inl y)) (fun r=>some (.inr r))
noncomputable def D9 (C:ae) (uj:Bool) (t55 oE oF sE sF:Int) (sG:Bool) (fR I4 aT cz:List V) (t56:Int) (gQ:List V) {β:Type} (kn:(Int × (List V))→Option β) (kr:(Int × Bool × (List V))→Option β):Option β:=
 bif decide ((t56:Int)<t55) then
  bif (decide (0≤t56))&&(decide (t56<(I4.length:Int))) then
  (I4[(t56:Int).toNat]?).bind fun et=>
  bif (((et.cell 0).toInt):Int)==1 then
   bif (decide (0≤t56))&&(decide (t56<(gQ.length:Int))) then
   (gQ[(t56:Int).toNat]?).bind fun sg=>
   kn (IntKind.wrap .i64 (t56+1),gQ.set ((t56:Int).toNat) (.agg [.int .i64 ((et.cell 0).toInt),.int .i64 ((et.cell 1).toInt),.list aa ((et.cell 2).toList)]))
   else none
  else
   bif (decide (0≤(IntKind.wrap .i64 (t56+1))))&&(decide ((IntKind.wrap .i64 (t56+1))≤(fR.length:Int))) then
   bif Nat.ble ((([.agg [.int .i64 ((et.cell 0).toInt),.int .i64 ((et.cell 1).toInt),.list aa ((et.cell 2).toList)]]:List V).length+((fR.drop ((IntKind.wrap .i64 (t56+1):Int).toNat)).take (fR.length-((IntKind.wrap .i64 (t56+1):Int).toNat))).length)*40) cI then
    (C kQ [.int .i64 5,.list aa (([.agg [.int .i64 ((et.cell 0).toInt),.int .i64 ((et.cell 1).toInt),.list aa ((et.cell 2).toList)]]:List V)++((fR.drop ((IntKind.wrap .i64 (t56+1):Int).toNat)).take (fR.length-((IntKind.wrap .i64 (t56+1):Int).toNat))))]).bind fun gP=>
    bif (decide (0≤t56))&&(decide (t56<(gQ.length:Int))) then
    (gQ[(t56:Int).toNat]?).bind fun mw=>
    kn (IntKind.wrap .i64 (t56+1),gQ.set ((t56:Int).toNat) (.agg [.int .i64 ((V.nth gP 0).toInt),.int .i64 ((V.nth (gP.drop 1) 0).toInt),.list aa ((V.nth ((gP.drop 1).drop 1) 0).toList)]))
    else none
   else none
   else none
  else none
 else
  kr (t56,decide ((t56:Int)<t55),gQ)
noncomputable def I5 (C:ae) (uj:Bool) (t55 oE oF sE sF:Int) (sG:Bool) (fR I4 aT cz:List V):(Int × (List V))→Option ((Int × (List V)) ⊕ (Int × Bool × (List V))):=un fun t56 gQ=>D9 C uj t55 oE oF sE sF sG fR I4 aT cz t56 gQ (fun y=>some (.inl y)) (fun r=>some (.inr r))
noncomputable def YS (C:ae):bZ:=fun β n ds k=>
 bif Nat.beq n 81 then bK MO [true,false,false,true,false,false,false,false,false,false,false,true,true,false,false] [[0,2,3,0,0,5,6,7,8,9,10,11,0,0,14,15]] (@z6 C) ds k else
 bif Nat.beq n 225 then bK MP [false,false,true,false,false,false,false,false,false,true,false,false,false] [[1,2,0,0,4,5,6,7,8,9,0,11,12,13]] (@D9 C) ds k else
 none
abbrev YT (C:ae) (b:bX):Prop:=bY Tryz.prog au C (YS C) 64 (cj Tryz.prog (au.aP 64)) (au.sin 64).ba.length b
theorem alZ (C:ae):YT C (.loop (aw [1,1,1,1,0,1,0,0] I1)):=
 bN MO [true,false,false,true,false,false,false,false,false,false,false,true,true,false,false] [[0,2,3,0,0,5,6,7,8,9,10,11,0,0,14,15]] (@z6 C) (by kernel_rfl) (a8 (bs:=[]) (by kernel_rfl) ax) (fun ds=>by kernel_rfl) (fun i x=>by kernel_rfl) (fun i x β k=>by kernel_rfl) (fun β ds k=>by kernel_rfl)
theorem al0 (C:ae):YT C (.loop (aw [1,1,1,1,1,1,0,1,0,0] I1)):=
 bN MP [false,false,true,false,false,false,false,false,false,true,false,false,false] [[1,2,0,0,4,5,6,7,8,9,0,11,12,13]] (@D9 C) (by kernel_rfl) (a8 (bs:=[]) (by kernel_rfl) ax) (fun ds=>by kernel_rfl) (fun i x=>by kernel_rfl) (fun i x β k=>by kernel_rfl) (fun β ds k=>by kernel_rfl)
noncomputable def YU (C:ae) (df:Int) (c9:Bool) (aj ar:Int) (ai:List V):Option (List V):=
 bif (decide (0≤(ai.length:Int)))&&((decide ((ai.length:Int)≤(ai.length:Int)))&&(Nat.ble ((((ai.length:Int):Int).toNat)*40) cI)) then
  (Loop (D8 C ai (ai.length:Int) df c9 0 0 0 0 false ([]:List V) ([]:List V)) (true,0,([]:List V),List.replicate (((ai.length:Int):Int).toNat) (V.agg [.int .i64 0,.int .i64 0,.list aa ([]:List V)]))).bind (un fun (YV:Bool)=>un fun (nc:Int)=>un fun (yY:Bool)=>un fun (wZ:List V) (YW:List V)=>
   bif (decide (0≤(wZ.length:Int)))&&((decide ((wZ.length:Int)≤(wZ.length:Int)))&&(Nat.ble ((((wZ.length:Int):Int).toNat)*40) cI)) then
   (Loop (I5 C YV (wZ.length:Int) 0 0 0 0 false YW wZ ([]:List V) ([]:List V)) (0,List.replicate (((wZ.length:Int):Int).toNat) (V.agg [.int .i64 0,.int .i64 0,.list aa ([]:List V)]))).bind (un fun (yZ:Int)=>un fun (Ul:Bool) (al1:List V)=>
    (C kQ [.int .i64 4,.list aa al1]).bind fun ki=>
    (C kQ [.int .i64 5,.list aa YW]).bind fun eV=>
    some [.int .i64 ((V.nth ki 0).toInt),.int .i64 ((V.nth (ki.drop 1) 0).toInt),.list aa ((V.nth ((ki.drop 1).drop 1) 0).toList),.int .i64 ((V.nth eV 0).toInt),.int .i64 ((V.nth (eV.drop 1) 0).toInt),.list aa ((V.nth ((eV.drop 1).drop 1) 0).toList),.bool YV])
   else none)
 else none
theorem al2 {df:Int} {c9:Bool} {aj ar:Int} {ai:List V} {r:Option (List V)} (h:YU CC df c9 aj ar ai=r):CC yI [.int .i64 df,.bool c9,.int .i64 aj,.int .i64 ar,.list aa ai]=r:=
 aY (key:=64) (L:=YS CC) (bs:=[.loop (aw [1,1,1,1,0,1,0,0] I1),.loop (aw [1,1,1,1,1,1,0,1,0,0] I1)]) (by kernel_rfl) (bq (alZ CC) (bq (al0 CC) ax)) (aX (by kernel_rfl) h)
noncomputable abbrev I6:Code:=cg Tryz.prog (au.aP 47)
noncomputable def I7 (C:ae) (t24:Bool) (fg eD:Int) (dS:List V) (oE oF sE sF:Int) (sG:Bool) (al3 Pr al4 al5:Int) (aT cz la I8:List V) {β:Type} (kr:(Int × Int × (List V))→Option β):Option β:=
 bif t24 then
  kr (al4,al5,I8)
 else
  kr (al3,Pr,la)
noncomputable def YX (C:ae):bZ:=fun β n ds k=>
 bif Nat.beq n 399 then iM MD [[2,3,4,5,6,7,8,9,0,0,14,15,0]] (@I7 C) ds k else
 none
abbrev al6 (C:ae) (b:bX):Prop:=bY Tryz.prog au C (YX C) 47 (cj Tryz.prog (au.aP 47)) (au.sin 47).ba.length b
theorem al7 (C:ae):al6 C (.cond 24 (aw [1,1,0,1,0,1,1,1,0,0,1,0] I6) (aw [1,1,0,1,0,1,1,1,0,0,1,1] I6)):=
 jq MD [[2,3,4,5,6,7,8,9,0,0,14,15,0]] (@I7 C) (by kernel_rfl) (a8 (bs:=[]) (by kernel_rfl) ax) (a8 (bs:=[]) (by kernel_rfl) ax) (fun ds=>by kernel_rfl) (fun i β k=>by kernel_rfl) (fun β ds k=>by kernel_rfl)
noncomputable def YY (C:ae) (df:Int) (c9:Bool) (aj ar:Int) (ai:List V):Option (List V):=
 bif (aj:Int)==2 then
  some [.int .i64 1,.int .i64 0,.list aa ([]:List V),.int .i64 2,.int .i64 0,.list aa ([]:List V),.bool true]
 else
  bif (aj:Int)==3 then
  I7 C ((ar:Int)==df) aj ar ai 0 0 0 0 false 1 0 2 0 ([]:List V) ([]:List V) ([]:List V) ([]:List V) (un fun (Pr:Int)=>un fun (al8:Int) (I9:List V)=>
   some [.int .i64 Pr,.int .i64 al8,.list aa I9,.int .i64 3,.int .i64 ar,.list aa ([]:List V),.bool false])
  else
  bif (aj:Int)==4 then
   bif (aj:Int)==4 then
   (C yH [.int .i64 df,.bool c9,.int .i64 aj,.int .i64 ar,.list aa ai]).bind fun r4=>
   some [.int .i64 ((V.nth r4 0).toInt),.int .i64 ((V.nth (r4.drop 1) 0).toInt),.list aa ((V.nth ((r4.drop 1).drop 1) 0).toList),.int .i64 ((V.nth (((r4.drop 1).drop 1).drop 1) 0).toInt),.int .i64 ((V.nth ((((r4.drop 1).drop 1).drop 1).drop 1) 0).toInt),.list aa ((V.nth (((((r4.drop 1).drop 1).drop 1).drop 1).drop 1) 0).toList),.bool ((V.nth ((((((r4.drop 1).drop 1).drop 1).drop 1).drop 1).drop 1) 0).toBool)]
   else
   bif (aj:Int)==7 then
    (ai[0]?).bind fun x5=>
    (C ph [.int .i64 df,.bool c9,.int .i64 ((x5.cell 0).toInt),.int .i64 ((x5.cell 1).toInt),.list aa ((x5.cell 2).toList)]).bind fun r6=>
    (C kQ [.int .i64 7,.list aa ([.agg [.int .i64 ((V.nth (((r6.drop 1).drop 1).drop 1) 0).toInt),.int .i64 ((V.nth ((((r6.drop 1).drop 1).drop 1).drop 1) 0).toInt),.list aa ((V.nth (((((r6.drop 1).drop 1).drop 1).drop 1).drop 1) 0).toList)]]:List V)]).bind fun r7=>
    (C kQ [.int .i64 5,.list aa ([.agg [.int .i64 ((V.nth r6 0).toInt),.int .i64 ((V.nth (r6.drop 1) 0).toInt),.list aa ((V.nth ((r6.drop 1).drop 1) 0).toList)],.agg [.int .i64 ((V.nth r7 0).toInt),.int .i64 ((V.nth (r7.drop 1) 0).toInt),.list aa ((V.nth ((r7.drop 1).drop 1) 0).toList)]]:List V)]).bind fun r8=>
    some [.int .i64 ((V.nth r8 0).toInt),.int .i64 ((V.nth (r8.drop 1) 0).toInt),.list aa ((V.nth ((r8.drop 1).drop 1) 0).toList),.int .i64 ((V.nth r7 0).toInt),.int .i64 ((V.nth (r7.drop 1) 0).toInt),.list aa ((V.nth ((r7.drop 1).drop 1) 0).toList),.bool true]
   else
    bif (aj:Int)==5 then
    (C yI [.int .i64 df,.bool c9,.int .i64 aj,.int .i64 ar,.list aa ai]).bind fun r9=>
    some [.int .i64 ((V.nth r9 0).toInt),.int .i64 ((V.nth (r9.drop 1) 0).toInt),.list aa ((V.nth ((r9.drop 1).drop 1) 0).toList),.int .i64 ((V.nth (((r9.drop 1).drop 1).drop 1) 0).toInt),.int .i64 ((V.nth ((((r9.drop 1).drop 1).drop 1).drop 1) 0).toInt),.list aa ((V.nth (((((r9.drop 1).drop 1).drop 1).drop 1).drop 1) 0).toList),.bool ((V.nth ((((((r9.drop 1).drop 1).drop 1).drop 1).drop 1).drop 1) 0).toBool)]
    else
    some [.int .i64 1,.int .i64 0,.list aa ([]:List V),.int .i64 1,.int .i64 0,.list aa ([]:List V),.bool false]
  else
   bif (aj:Int)==6 then
   bif (aj:Int)==6 then
    (C yH [.int .i64 df,.bool c9,.int .i64 aj,.int .i64 ar,.list aa ai]).bind fun eb=>
    some [.int .i64 ((V.nth eb 0).toInt),.int .i64 ((V.nth (eb.drop 1) 0).toInt),.list aa ((V.nth ((eb.drop 1).drop 1) 0).toList),.int .i64 ((V.nth (((eb.drop 1).drop 1).drop 1) 0).toInt),.int .i64 ((V.nth ((((eb.drop 1).drop 1).drop 1).drop 1) 0).toInt),.list aa ((V.nth (((((eb.drop 1).drop 1).drop 1).drop 1).drop 1) 0).toList),.bool ((V.nth ((((((eb.drop 1).drop 1).drop 1).drop 1).drop 1).drop 1) 0).toBool)]
   else
    bif (aj:Int)==7 then
    (ai[0]?).bind fun et=>
    (C ph [.int .i64 df,.bool c9,.int .i64 ((et.cell 0).toInt),.int .i64 ((et.cell 1).toInt),.list aa ((et.cell 2).toList)]).bind fun eU=>
    (C kQ [.int .i64 7,.list aa ([.agg [.int .i64 ((V.nth (((eU.drop 1).drop 1).drop 1) 0).toInt),.int .i64 ((V.nth ((((eU.drop 1).drop 1).drop 1).drop 1) 0).toInt),.list aa ((V.nth (((((eU.drop 1).drop 1).drop 1).drop 1).drop 1) 0).toList)]]:List V)]).bind fun gP=>
    (C kQ [.int .i64 5,.list aa ([.agg [.int .i64 ((V.nth eU 0).toInt),.int .i64 ((V.nth (eU.drop 1) 0).toInt),.list aa ((V.nth ((eU.drop 1).drop 1) 0).toList)],.agg [.int .i64 ((V.nth gP 0).toInt),.int .i64 ((V.nth (gP.drop 1) 0).toInt),.list aa ((V.nth ((gP.drop 1).drop 1) 0).toList)]]:List V)]).bind fun lK=>
    some [.int .i64 ((V.nth lK 0).toInt),.int .i64 ((V.nth (lK.drop 1) 0).toInt),.list aa ((V.nth ((lK.drop 1).drop 1) 0).toList),.int .i64 ((V.nth gP 0).toInt),.int .i64 ((V.nth (gP.drop 1) 0).toInt),.list aa ((V.nth ((gP.drop 1).drop 1) 0).toList),.bool true]
    else
    bif (aj:Int)==5 then
     (C yI [.int .i64 df,.bool c9,.int .i64 aj,.int .i64 ar,.list aa ai]).bind fun ox=>
     some [.int .i64 ((V.nth ox 0).toInt),.int .i64 ((V.nth (ox.drop 1) 0).toInt),.list aa ((V.nth ((ox.drop 1).drop 1) 0).toList),.int .i64 ((V.nth (((ox.drop 1).drop 1).drop 1) 0).toInt),.int .i64 ((V.nth ((((ox.drop 1).drop 1).drop 1).drop 1) 0).toInt),.list aa ((V.nth (((((ox.drop 1).drop 1).drop 1).drop 1).drop 1) 0).toList),.bool ((V.nth ((((((ox.drop 1).drop 1).drop 1).drop 1).drop 1).drop 1) 0).toBool)]
    else
     some [.int .i64 1,.int .i64 0,.list aa ([]:List V),.int .i64 1,.int .i64 0,.list aa ([]:List V),.bool false]
   else
   bif (aj:Int)==8 then
    (C yH [.int .i64 df,.bool c9,.int .i64 aj,.int .i64 ar,.list aa ai]).bind fun qM=>
    some [.int .i64 ((V.nth qM 0).toInt),.int .i64 ((V.nth (qM.drop 1) 0).toInt),.list aa ((V.nth ((qM.drop 1).drop 1) 0).toList),.int .i64 ((V.nth (((qM.drop 1).drop 1).drop 1) 0).toInt),.int .i64 ((V.nth ((((qM.drop 1).drop 1).drop 1).drop 1) 0).toInt),.list aa ((V.nth (((((qM.drop 1).drop 1).drop 1).drop 1).drop 1) 0).toList),.bool ((V.nth ((((((qM.drop 1).drop 1).drop 1).drop 1).drop 1).drop 1) 0).toBool)]
   else
    bif (aj:Int)==7 then
    (ai[0]?).bind fun py=>
    (C ph [.int .i64 df,.bool c9,.int .i64 ((py.cell 0).toInt),.int .i64 ((py.cell 1).toInt),.list aa ((py.cell 2).toList)]).bind fun ki=>
    (C kQ [.int .i64 7,.list aa ([.agg [.int .i64 ((V.nth (((ki.drop 1).drop 1).drop 1) 0).toInt),.int .i64 ((V.nth ((((ki.drop 1).drop 1).drop 1).drop 1) 0).toInt),.list aa ((V.nth (((((ki.drop 1).drop 1).drop 1).drop 1).drop 1) 0).toList)]]:List V)]).bind fun eV=>
    (C kQ [.int .i64 5,.list aa ([.agg [.int .i64 ((V.nth ki 0).toInt),.int .i64 ((V.nth (ki.drop 1) 0).toInt),.list aa ((V.nth ((ki.drop 1).drop 1) 0).toList)],.agg [.int .i64 ((V.nth eV 0).toInt),.int .i64 ((V.nth (eV.drop 1) 0).toInt),.list aa ((V.nth ((eV.drop 1).drop 1) 0).toList)]]:List V)]).bind fun jM=>
    some [.int .i64 ((V.nth jM 0).toInt),.int .i64 ((V.nth (jM.drop 1) 0).toInt),.list aa ((V.nth ((jM.drop 1).drop 1) 0).toList),.int .i64 ((V.nth eV 0).toInt),.int .i64 ((V.nth (eV.drop 1) 0).toInt),.list aa ((V.nth ((eV.drop 1).drop 1) 0).toList),.bool true]
    else
    bif (aj:Int)==5 then
     (C yI [.int .i64 df,.bool c9,.int .i64 aj,.int .i64 ar,.list aa ai]).bind fun pE=>
     some [.int .i64 ((V.nth pE 0).toInt),.int .i64 ((V.nth (pE.drop 1) 0).toInt),.list aa ((V.nth ((pE.drop 1).drop 1) 0).toList),.int .i64 ((V.nth (((pE.drop 1).drop 1).drop 1) 0).toInt),.int .i64 ((V.nth ((((pE.drop 1).drop 1).drop 1).drop 1) 0).toInt),.list aa ((V.nth (((((pE.drop 1).drop 1).drop 1).drop 1).drop 1) 0).toList),.bool ((V.nth ((((((pE.drop 1).drop 1).drop 1).drop 1).drop 1).drop 1) 0).toBool)]
    else
     some [.int .i64 1,.int .i64 0,.list aa ([]:List V),.int .i64 1,.int .i64 0,.list aa ([]:List V),.bool false]
theorem al9 {df:Int} {c9:Bool} {aj ar:Int} {ai:List V} {r:Option (List V)} (h:YY CC df c9 aj ar ai=r):CC ph [.int .i64 df,.bool c9,.int .i64 aj,.int .i64 ar,.list aa ai]=r:=
 aY (key:=47) (L:=YX CC) (bs:=[.cond 24 (aw [1,1,0,1,0,1,1,1,0,0,1,0] I6) (aw [1,1,0,1,0,1,1,1,0,0,1,1] I6)]) (by kernel_rfl) (bq (al7 CC) ax) (aX (by kernel_rfl) h)
end Go.AM
set_option maxRecDepth 100000
namespace Go.AM
open Go.Proofs Ex
def sH (c:Int) (e:Ex):List V:=b9 (aZ (b7 c e)) (b9 (aZ e) [.bool e.cP])
abbrev zE:V:= .agg [.int .i64 0,.int .i64 0,.list aa ([]:List V)]
theorem uk {α:Type} {A:List V} {n:Nat} {z:V} {i:Nat} (h:i=A.length) {K:V→Option α}:(bif (decide (0≤(i:Int)))&&(decide ((i:Int)<((A++List.replicate (n+1) z).length:Int))) then ((A++List.replicate (n+1) z)[((i:Int)).toNat]?).bind K else none)=K z:=by
 refine uf ?_
 rw[h,iU (bV _)]
 simp
theorem um {A:List V} {n:Nat} {z v:V} {i:Nat} (h:i=A.length):(A++List.replicate (n+1) z).set i v=A++[v]++List.replicate n z:=by
 rw[List.replicate_succ,YF _ _ _ _ h]
theorem ama (a:Ex):V.agg [.int .i64 a.op,.int .i64 a.letter,.list aa (a.kids.map enc)]=a.enc:=(eY a).symm
theorem Ps {c:Int} {e:Ex} (hw:e.wf 6=true):(aZ (b7 c e)).size≤e.size*e.size:=
 lg (Dq _ (uh e hw)) (YN e 6 hw)
theorem Ja {a m:Nat} (h:a≤m):a*a≤m*m:=Nat.mul_le_mul h h
theorem YZ {e:Ex} (hw:e.wf 6=true) (hs:e.size≤1000000):Gd 6 (aZ e)∧(aZ e).Ok∧(aZ e).size≤e.size:=by
 have h1:=nj e hw
 have U:=Dq e hw
 exact ⟨h1,wz (by omega) _ h1.2 (by omega),U⟩
def nu (c:Int):List Ex→List Ex
 | []=>[]
 | k::ks=>aZ (b7 c k)::(if k.cP=true then nu c ks else [])
def Ea (ss:List Ex):Nat→List Ex→List Ex
 | _,[]=>[]
 | i,d::ds=>(if d.op=1 then d else dI 5 0 (d::ss.drop (i+1)))::Ea ss (i+1) ds
theorem Y0 {c:Int}: ∀(ks pre:List Ex),Ea ((pre++ks).map aZ) pre.length (nu c ks)=ui c ks
 | [],pre=>rfl
 | k::ks,pre=>by
  have ih:=Y0 (c:=c) ks (pre++[k])
  have e1:((pre++k::ks).map aZ).drop (pre.length+1)=ks.map aZ:=by
   rw[gn,cr,show pre.length+1=(pre.map aZ++[aZ k]).length by simp,show pre.map aZ++aZ k::ks.map aZ=(pre.map aZ++[aZ k])++ks.map aZ by simp,List.drop_left]
  unfold nu ui Ea IZ
  rw[e1]
  refine congrArg _ ?_
  split
  ·rw[←ih];simp
  ·rfl
theorem Y1 {c:Int}: ∀ks:List Ex,(nu c ks).length≤ks.length
 | []=>bV _
 | k::ks=>by
  have:=Y1 (c:=c) ks
  unfold nu
  split<;>simp<;>omega
theorem Y2 {c:Int}: ∀{ks:List Ex} {d:Ex},d∈nu c ks→∃k∈ks,d=aZ (b7 c k)
 | k::ks,d,h=>by
  unfold nu at h
  rcases dx.1 h with rfl|h
  ·exact ⟨k,by simp,rfl⟩
  ·split at h
   ·obtain ⟨x,hx,e⟩:=Y2 h
    exact ⟨x,by simp[hx],e⟩
   ·cases h
theorem Pu: ∀{ks:List Ex},(∀k∈ks,k.wf 6=true)→aS (ks.map aZ)≤aS ks
 | [],_=>by simp[aS]
 | k::ks,h=>by
  have a:=Dq k (h k (by simp))
  have b:=Pu (ks:=ks) fun k hk=>h k (by simp[hk])
  simp only[cr,aS];omega
theorem Pv {ks:List Ex} {f:Ex→Ex} (h: ∀k∈ks,Gd 6 (f k)∧(f k).Ok):(∀k∈ks.map f,Gd 6 k)∧∀k∈ks.map f,k.Ok:=
 ⟨fun x hx=>by obtain ⟨k,hk,rfl⟩:=ey.1 hx;exact (h k hk).1,fun x hx=>by obtain ⟨k,hk,rfl⟩:=ey.1 hx;exact (h k hk).2⟩
theorem Pw {n:Nat} (h:n≤1000000):Nat.ble (n*40) cI=true:=by rw[ej,oe];omega
theorem Jb {n:Nat} (h:n≤1000000):((decide (0≤(n:Int)))&&((decide ((n:Int)≤(n:Int)))&&(Nat.ble (((n:Int).toNat)*40) cI)))=true:=alL (by omega) (by omega)
def lM (ks:List Ex):Nat:=(ks.filter Ex.cP).length
section
variable {c:Int} {nm:Bool} {ks:List Ex}
variable (hn:ks.length≤1000) (ih: ∀k∈ks,CC ph (.int .i64 c:: .bool nm::b9 k [])=some (sH c k))
include hn ih
theorem amb {a b c1 c2 c3 c4:Int} {b1:Bool} {l1 l2 l3:List V}: ∀(aJ pre:List Ex),ks=pre++aJ→
  Loop (I0 CC (ks.map enc) (ks.length:Int) c nm a b l1 c1 c2 c3 c4 b1 l2 l3) (((lM pre:Nat):Int),((pre.length:Nat):Int),(pre.map fun k=>aZ (b7 c k)).map enc++List.replicate aJ.length zE,(pre.map aZ).map enc++List.replicate aJ.length zE)
   = some (((lM ks:Nat):Int),(ks.length:Int),false,(ks.map fun k=>aZ (b7 c k)).map enc,(ks.map aZ).map enc):=by
 intro aJ
 induction aJ with
 | nil=>
  intro pre e
  rw[dy] at e
  subst e
  refine bj ?_
  simp only[I0,D6,un]
  rw[az,ah (by omega),cl (by omega)]
  simp
 | cons k aJ gN=>
  intro pre e
  have cb:pre.length<ks.length:=by rw[e];simp
  have cC:idx (ks.map enc) (pre.length:Int)=some k.enc:=by rw[e];exact jJ _ _ _
  refine (bW ?_).trans (gN (pre++[k]) (by simp[e]))
  simp only[I0,D6,un]
  refine bT (ug cb) (bs cC ?_)
  rw[bz,bA,bB]
  refine bs (ih k (by rw[e];simp)) ?_
  refine (uk (by simp)).trans ?_
  refine (uk (by simp)).trans ?_
  rw[Int.toNat_natCast]
  have hc:lM (pre++[k])=lM pre+(if k.cP=true then 1 else 0):=by
   unfold lM
   rw[nC,cB]
   cases hk:k.cP<;>simp[hk]
  have kM:lM pre≤pre.length:=uy _ _
  have xz:pre.length=((pre.map fun k=>aZ (b7 c k)).map enc).length:=by simp
  have ku:pre.length=((pre.map aZ).map enc).length:=by simp
  rw[List.length_cons,um xz,um ku]
  cases hk:k.cP with
  | true=>
   refine bT hk ?_
   rw[nt (by omega),nt (by omega),hc,hk]
   simp only[cU,gn,cr,fp,cB,List.length_cons,List.length_nil]
   rw[eY (aZ (b7 c k)),eY (aZ k)]
   rfl
  | false=>
   refine bF hk ?_
   rw[nt (by omega),hc,hk]
   simp only[ah Bool.false_ne_true,gn,cr,fp,cB,List.length_cons,List.length_nil]
   rw[eY (aZ (b7 c k)),eY (aZ k)]
   rfl
theorem amc {c1 c2 c3 c4:Int} {b1:Bool} {l1 l2:List V} (hs: ∀k∈ks,CC BT (.int .i64 c:: .bool nm::b9 k [])=some (iQ (aZ k))): ∀(aJ pre B:List Ex) (b:Bool),ks=pre++aJ→B.length≤pre.length→
  Loop (D8 CC (ks.map enc) (ks.length:Int) c nm c1 c2 c3 c4 b1 l1 l2) (b,((pre.length:Nat):Int),B.map enc,(pre.map aZ).map enc++List.replicate aJ.length zE)
   = some (b&&aJ.all Ex.cP,(ks.length:Int),false,(B++(if b=true then nu c aJ else [])).map enc,(ks.map aZ).map enc):=by
 intro aJ
 induction aJ with
 | nil=>
  intro pre B b e hB
  rw[dy] at e
  subst e
  refine bj ?_
  simp only[D8,z6,un]
  rw[az,ah (by omega),cl (by omega)]
  simp[nu]
 | cons k aJ gN=>
  intro pre B b e hB
  have cb:pre.length<ks.length:=by rw[e];simp
  have cC:idx (ks.map enc) (pre.length:Int)=some k.enc:=by rw[e];exact jJ _ _ _
  have ku:pre.length=((pre.map aZ).map enc).length:=by simp
  cases b with
  | false=>
   refine (bW ?_).trans (gN (pre++[k]) B false (by simp[e]) (by simp;omega))
   simp only[D8,z6,un]
   refine bT (ug cb) (bs cC (bT rfl ?_))
   rw[bz,bA,bB]
   refine bs (hs k (by rw[e];simp)) ?_
   refine (uk (by simp)).trans ?_
   rw[Int.toNat_natCast,List.length_cons,um ku,nt (by omega)]
   simp only[gn,cr,fp,cB,List.length_cons,List.length_nil]
   rw[eY (aZ k)]
   rfl
  | true=>
   refine ((bW ?_).trans (gN (pre++[k]) (B++[aZ (b7 c k)]) k.cP (by simp[e]) (by simp;omega))).trans ?_
   ·simp only[D8,z6,un]
    refine bT (ug cb) (bs cC (bF rfl ?_))
    rw[bz,bA,bB]
    refine bs (ih k (by rw[e];simp)) ?_
    refine bT (Pw (by simp;omega)) ?_
    refine (uk (by simp)).trans ?_
    rw[Int.toNat_natCast,List.length_cons,um ku,nt (by omega)]
    simp only[gn,cr,fp,cB,List.length_cons,List.length_nil]
    rw[eY (aZ k),eY (aZ (b7 c k))]
    rfl
   ·simp only[km,List.all_cons,cU]
    rw[show nu c (k::aJ)=aZ (b7 c k)::(if k.cP=true then nu c aJ else []) from rfl,cw]
    rfl
end
theorem amd {ss D:List Ex} {b b1:Bool} {c1 c2 c3 c4:Int} {l1 l2:List V} (hD:D.length≤ss.length) (hss:ss.length≤1000) (hd: ∀d∈D,Gd 6 d∧d.Ok∧d.size≤500000) (hsg: ∀k∈ss,Gd 6 k∧k.Ok) (bd:aS ss≤500000): ∀(aJ pre P:List Ex),D=pre++aJ→P.length=pre.length→
  Loop (I5 CC b (D.length:Int) c1 c2 c3 c4 b1 (ss.map enc) (D.map enc) l1 l2) (((pre.length:Nat):Int),P.map enc++List.replicate aJ.length zE)
   = some ((D.length:Int),false,(P++Ea ss pre.length aJ).map enc):=by
 intro aJ
 induction aJ with
 | nil=>
  intro pre P e hP
  rw[dy] at e
  subst e
  refine bj ?_
  simp only[I5,D9,un]
  rw[az,ah (by omega),cl (by omega)]
  simp[Ea]
 | cons d aJ gN=>
  intro pre P e hP
  have cb:pre.length<D.length:=by rw[e];simp
  have hm:d∈D:=by rw[e];simp
  have cC:(D.map enc)[pre.length]? =some d.enc:=by rw[e];simp
  have ku:pre.length=(P.map enc).length:=by simp[hP]
  refine ((bW ?_).trans (gN (pre++[d]) (P++[if d.op=1 then d else dI 5 0 (d::ss.drop (pre.length+1))]) (by simp[e]) (by simp[hP]))).trans ?_
  ·simp only[I5,D9,un]
   refine bT (ug cb) ?_
   refine (uf cC).trans ?_
   rw[bz,bA,bB,dD]
   by_cases h1:d.op=1
   ·rw[ag h1,ag h1]
    refine (uk ku).trans ?_
    rw[Int.toNat_natCast,List.length_cons,um ku,nt (by omega)]
    simp only[gn,cr,fp,cB,List.length_cons,List.length_nil]
    rw[eY d]
   ·rw[ah h1,ah h1,nt (by omega),Int.toNat_natCast,bt]
    refine bT (xg.2 ⟨eK (by omega),eK (by omega)⟩) ?_
    have ht:((ss.map enc).drop (pre.length+1)).take (ss.length-(pre.length+1))=(ss.drop (pre.length+1)).map enc:=by
     rw[←List.map_drop,List.take_of_length_le (by simp)]
    rw[ht]
    refine bT (Pw (by simp;omega)) ?_
    have hg: ∀k∈d::ss.drop (pre.length+1),Gd 6 k∧k.Ok:=fun k hk=>by
     rcases dx.1 hk with rfl|hk
     ·exact ⟨(hd _ hm).1,(hd _ hm).2.1⟩
     ·exact hsg k (List.mem_of_mem_drop hk)
    have hz:aS (d::ss.drop (pre.length+1))≤1000000:=by
     have h1:=(hd d hm).2.2
     have U:=Ir (ss.take (pre.length+1)) (ss.drop (pre.length+1))
     rw[EL] at U
     simp only[aS];omega
    rw[Pm,←gn]
    refine bs (sD (o:=5) (fun k hk=>(hg k hk).1) (fun k hk=>(hg k hk).2) hz (by omega)) ?_
    refine (uk ku).trans ?_
    rw[Int.toNat_natCast,List.length_cons,um ku]
    simp only[gn,cr,fp,cB,List.length_cons,List.length_nil]
    rw[eY (dI 5 0 (d::ss.drop (pre.length+1)))]
    rfl
  ·rw[cB,cw]
   rfl
theorem Y3: ∀ks:List Ex,ot ks=ks.all Ex.cP
 | []=>rfl
 | k::ks=>by simp[ot,Y3 ks]
theorem Y4: ∀ks:List Ex,lJ ks=decide ((lM ks:Int)>0)
 | []=>by simp[lJ,lM]
 | k::ks=>by
  have:=Y4 ks
  unfold lM at*
  cases hk:k.cP
  ·simp[lJ,hk,this]
  ·simp[lJ,hk]
theorem Y5: ∀ks:List Ex,ot ks=((lM ks:Int)==(ks.length:Int))
 | []=>by simp[ot,lM]
 | k::ks=>by
  have h:=Y5 ks
  have hl:lM ks≤ks.length:=uy _ _
  unfold lM at*
  rw[ot,h,nB]
  cases hk:k.cP
  ·simp[hk];omega
  ·simp[hk]
theorem ame {c:Int} {nm:Bool}: ∀e:Ex,e.wf 6=true→e.size≤400→(nm=true→Gd 6 e)→CC ph (.int .i64 c:: .bool nm::b9 e [])=some (sH c e):=
 ind fun o l ks ih hw hs jS=>by
  obtain ⟨h1,U⟩:=gg hw
  have hl:=qG ks
  have Y6:aS ks≤399:=by simp only[size] at hs;omega
  have Jc: ∀k∈ks,k.size≤399:=fun k hk=>lg (Df hk) Y6
  have lA: ∀k∈ks,CC ph (.int .i64 c:: .bool nm::b9 k [])=some (sH c k):=fun k hk=>ih k hk (U k hk) (by have:=Jc k hk;omega) fun h=>(jS h).kids k hk
  have hsm: ∀k∈ks,CC BT (.int .i64 c:: .bool nm::b9 k [])=some (iQ (aZ k)):=fun k hk=>by
   refine alT ?_
   unfold YO
   cases nm with
   | true=>refine bT rfl ?_;rw[WX k ((jS rfl).kids k hk)];rfl
   | false=>
    refine bF rfl ?_
    have:=Jc k hk
    exact bs (YG (n:=6) (by omega) k (U k hk) (by omega)) rfl
  have dZ: ∀k∈ks,(aZ (b7 c k)).size≤160000:=fun k hk=>by
   have a:=Ps (c:=c) (U k hk)
   have b:=Ja (Jc k hk)
   omega
  have Eb: ∀k∈ks,Gd 6 (aZ (b7 c k))∧(aZ (b7 c k)).Ok:=fun k hk=>by
   have a:=nj _ (uh (c:=c) k (U k hk))
   have b:=dZ k hk
   exact ⟨a,wz (by omega) _ a.2 (by omega)⟩
  have Jd: ∀k∈ks,Gd 6 (aZ k)∧(aZ k).Ok:=fun k hk=>by
   have a:=YZ (U k hk) (by have:=Jc k hk;omega)
   exact ⟨a.1,a.2.1⟩
  have hnz:=Pu U
  have hbz:aS (ks.map fun k=>aZ (b7 c k))≤160000:=by
   have a:=Po (f:=fun k=>aZ (b7 c k)) fun k hk=>Ps (c:=c) (U k hk)
   have b:=Ja Y6
   omega
  have Px:(o=4∨o=6∨o=8)→CC yH (.int .i64 c:: .bool nm::b9 (.node o l ks) [])=some (sH c (.node o l ks)):=fun ho=>by
   obtain ⟨a1,a2⟩:=Pv Eb
   obtain ⟨b1,b2⟩:=Pv Jd
   have jZ:l=0:=by rcases eE h1 with h|h<;>omega
   refine alY ?_
   unfold YR
   simp only[Ex.op,Ex.kids,Ex.letter,bt]
   refine bT (Jb (by omega)) (bT (Jb (by omega)) ?_)
   have Py:=amb (ks:=ks) (nm:=nm) (c:=c) (by omega) lA (a:=o) (b:=l) (c1:=0) (c2:=0) (c3:=0) (c4:=0) (b1:=false) (l1:=ks.map enc) (l2:=[]) (l3:=[]) ks [] rfl
   rw[Int.toNat_natCast]
   refine bs Py ?_
   unfold sH
   rw[alP ho,mz,jZ]
   rcases ho with rfl|rfl|rfl
   ·refine bs (sD a1 a2 (by omega) (.inl rfl)) ?_
    refine bs (sD b1 b2 (by omega) (.inl rfl)) ?_
    refine bT rfl ?_
    rw[←Y4]
    rfl
   ·refine bs (sD a1 a2 (by omega) (.inr (.inr rfl))) ?_
    refine bs (sD b1 b2 (by omega) (.inr (.inr rfl))) ?_
    refine bF rfl (bT rfl ?_)
    rw[←Y5]
    rfl
   ·obtain ⟨k,rfl⟩:=oP.1 (show ks.length=1 by rcases eE h1 with h|h<;>omega)
    refine bs (IX (Eb k (by simp)).1 (.inr rfl)) ?_
    refine bs (IX (Jd k (by simp)).1 (.inr rfl)) ?_
    refine bF rfl (bF rfl (bT rfl ?_))
    refine congrArg some ?_
    have:(((lM [k]:Nat):Int)==0)=(Ex.node 8 0 [k]).cP:=by
     simp only[Ex.cP,lM]
     cases hk:k.cP<;>simp[hk,lJ]
    rw[this]
    rfl
  have amf:o=5→CC yI (.int .i64 c:: .bool nm::b9 (.node o l ks) [])=some (sH c (.node o l ks)):=fun ho=>by
   subst ho
   have bD:ks≠[]:=by rintro rfl;rcases eE h1 with h|h<;>simp at h<;>omega
   have jZ:l=0:=by rcases eE h1 with h|h<;>omega
   obtain ⟨b1,b2⟩:=Pv Jd
   have hD:=Y1 (c:=c) ks
   refine al2 ?_
   unfold YU
   simp only[Ex.op,Ex.kids,Ex.letter,bt]
   refine bT (Jb (by omega)) ?_
   rw[Int.toNat_natCast]
   have Py:=amc (ks:=ks) (nm:=nm) (c:=c) (by omega) lA (c1:=0) (c2:=0) (c3:=0) (c4:=0) (b1:=false) (l1:=[]) (l2:=[]) hsm ks [] [] true rfl (bV _)
   refine bs Py ?_
   simp only[un,List.nil_append,cU,km,bt]
   refine bT (Jb (by omega)) ?_
   rw[Int.toNat_natCast]
   have cb:=amd (ss:=ks.map aZ) (D:=nu c ks) (b:=ks.all Ex.cP) (c1:=0) (c2:=0) (c3:=0) (c4:=0) (b1:=false) (l1:=[]) (l2:=[]) (by simp;omega) (by simp;omega) (fun d hd=>by
    obtain ⟨k,hk,rfl⟩:=Y2 hd
    have:=dZ k hk
    exact ⟨(Eb k hk).1,(Eb k hk).2,by omega⟩) (fun k hk=>⟨b1 k hk,b2 k hk⟩) (by omega) (nu c ks) [] [] rfl rfl
   have he:=Y0 (c:=c) ks []
   rw[List.nil_append] at he
   rw[List.length_nil] at cb he
   rw[he] at cb
   refine bs cb ?_
   simp only[un,List.nil_append]
   have xE:=parts_eq (c:=c) U
   have Y7:=IY (c:=c) U fun k hk=>uh k (U k hk)
   have hcz:aS (iu c ks)≤160000:=by
    have a:=Pp (c:=c) (ks:=ks) fun k hk=>YN k 6 (U k hk)
    have b:=Ja (show 1+aS ks≤400 by omega)
    omega
   have hpz:aS (ui c ks)≤160000:=by rw[xE];have:=Pu Y7;omega
   have Y8: ∀k∈ui c ks,Gd 6 k∧k.Ok:=fun k hk=>by
    have hz:=Df hk
    rw[xE] at hk
    obtain ⟨x,hx,rfl⟩:=ey.1 hk
    have a:=nj x (Y7 x hx)
    exact ⟨a,wz (by omega) _ a.2 (by omega)⟩
   refine bs (sD (fun k hk=>(Y8 k hk).1) (fun k hk=>(Y8 k hk).2) (by omega) (.inl rfl)) ?_
   refine bs (sD b1 b2 (by omega) (.inr (.inl rfl))) ?_
   unfold sH
   rw[alS bD U,mz,jZ,←Y3]
   rfl
  refine al9 ?_
  unfold YY I7
  simp only[Ex.op,Ex.kids,Ex.letter]
  rcases eE h1 with ⟨rfl,h⟩|⟨rfl,⟨rfl,h⟩|⟨rfl,h⟩|⟨rfl,h⟩|⟨rfl,h⟩|⟨rfl,h⟩|⟨rfl,h⟩|⟨rfl,h⟩⟩
  ·obtain rfl:=qY.1 (show ks.length=0 by omega)
   refine bF rfl (bT rfl ?_)
   unfold sH
   rw[wY,ag rfl,mz,kf (by omega)]
   rw[dD]
   by_cases yf:l=c
   ·rw[ag yf,ag yf];rfl
   ·rw[ah yf,ah yf];rfl
  ·obtain rfl:=qY.1 (show ks.length=0 by omega)
   rfl
  ·obtain rfl:=qY.1 (show ks.length=0 by omega)
   rfl
  ·exact bF rfl (bF rfl (bT rfl (bT rfl (bs (Px (.inl rfl)) rfl))))
  ·refine bF rfl (bF rfl (bF rfl (bF rfl (bF rfl (bF rfl (bT rfl ?_))))))
   exact bs (amf rfl) rfl
  ·exact bF rfl (bF rfl (bF rfl (bT rfl (bT rfl (bs (Px (.inr (.inl rfl))) rfl)))))
  ·obtain ⟨k,rfl⟩:=oP.1 (show ks.length=1 by omega)
   refine bF rfl (bF rfl (bF rfl (bF rfl (bF rfl (bT rfl ?_)))))
   refine bs (a:=k.enc) rfl ?_
   rw[bz,bA,bB]
   refine bs (lA k (by simp)) ?_
   have hk:=Jd k (by simp)
   have hb:=Eb k (by simp)
   have hj:=IX hk.1 (o:=7) (.inl rfl)
   rw[cr,fp,eY] at hj
   refine bs hj ?_
   have rH:dI 7 0 [aZ k]=aZ (.node 7 0 [k]):=by rw[mz];rfl
   have Pz:=YZ hw (by omega)
   have hz2:=dZ k (by simp)
   have gv:=sD (n:=6) (ks:=[aZ (b7 c k),aZ (.node 7 0 [k])]) (o:=5) (fun x hx=>by
    rcases dx.1 hx with rfl|hx
    ·exact hb.1
    ·rw[ew.1 hx];exact Pz.1) (fun x hx=>by
    rcases dx.1 hx with rfl|hx
    ·exact hb.2
    ·rw[ew.1 hx];exact Pz.2.1) (by have:=Pz.2.2;simp only[aS];omega) (by omega)
   rw[cr,cr,fp,eY (aZ (b7 c k)),eY (aZ (.node 7 0 [k])),←rH] at gv
   refine bs gv ?_
   unfold sH
   rw[alQ,←rH]
   rfl
  ·exact bF rfl (bF rfl (bF rfl (bF rfl (bT rfl (bs (Px (.inr (.inr rfl))) rfl)))))
end Go.AM
