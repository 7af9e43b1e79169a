/-
  Functions of the program, lifted to plain data.
-/
import Derived.Test.YtmcdbnalaobmpaaDoorP5
set_option linter.unusedVariables false
set_option linter.unusedSimpArgs false
set_option maxRecDepth 100000
namespace Go.AM
open Go.Proofs
noncomputable abbrev rE:Code:=cJ Tryd.prog (au.bc 181)
noncomputable def El (C:ae) (a j:Int) (ah:List V) (i:Int) {β:Type} (kn:Int→Option β) (kr:(Int × Bool)→Option β):Option β:=
 bif decide ((i:Int)≤j) then
  bif (decide (0≤i))&&(decide (i<(ah.length:Int))) then
  (ah[(i:Int).toNat]?).bind fun x5=>
  bif (decide (0≤a))&&(decide (a<(ah.length:Int))) then
   (ah[(a:Int).toNat]?).bind fun x6=>
   (C bG [.int .i64 ((x5.cell 0).toInt),.int .i64 ((x5.cell 1).toInt),.int .i64 ((x5.cell 2).toInt),.int .i64 ((x6.cell 0).toInt),.int .i64 ((x6.cell 1).toInt),.int .i64 ((x6.cell 2).toInt)]).bind fun r7=>
   bif decide ((((V.nth r7 0).toInt):Int)<0) then
   kn (IntKind.wrap .i64 (i+1))
   else
   kr (i,decide ((((V.nth r7 0).toInt):Int)<0))
  else none
  else none
 else
  kr (i,false)
noncomputable def Em (C:ae) (a j:Int) (ah:List V):(Int)→Option ((Int) ⊕ (Int × Bool)):=fun i=>El C a j ah i (fun y=>some (.inl y)) (fun r=>some (.inr r))
noncomputable def zN (C:ae) (a i:Int) (ah:List V) (j:Int) {β:Type} (kn:Int→Option β) (kr:(Int × Bool)→Option β):Option β:=
 bif decide ((i:Int)≤j) then
  bif (decide (0≤j))&&(decide (j<(ah.length:Int))) then
  (ah[(j:Int).toNat]?).bind fun iT=>
  bif (decide (0≤a))&&(decide (a<(ah.length:Int))) then
   (ah[(a:Int).toNat]?).bind fun fH=>
   (C bG [.int .i64 ((iT.cell 0).toInt),.int .i64 ((iT.cell 1).toInt),.int .i64 ((iT.cell 2).toInt),.int .i64 ((fH.cell 0).toInt),.int .i64 ((fH.cell 1).toInt),.int .i64 ((fH.cell 2).toInt)]).bind fun iw=>
   bif !(decide ((((V.nth iw 0).toInt):Int)<0)) then
   kn (IntKind.wrap .i64 (j-1))
   else
   kr (j,!(decide ((((V.nth iw 0).toInt):Int)<0)))
  else none
  else none
 else
  kr (j,false)
noncomputable def zO (C:ae) (a i:Int) (ah:List V):(Int)→Option ((Int) ⊕ (Int × Bool)):=fun j=>zN C a i ah j (fun y=>some (.inl y)) (fun r=>some (.inr r))
noncomputable def En (C:ae) (a j:Int) (ah:List V) (i:Int) {β:Type} (kn:Int→Option β) (kr:(Int × Bool)→Option β):Option β:=
 bif decide ((i:Int)≤j) then
  bif (decide (0≤i))&&(decide (i<(ah.length:Int))) then
  (ah[(i:Int).toNat]?).bind fun m7=>
  bif (decide (0≤a))&&(decide (a<(ah.length:Int))) then
   (ah[(a:Int).toNat]?).bind fun rF=>
   (C bG [.int .i64 ((m7.cell 0).toInt),.int .i64 ((m7.cell 1).toInt),.int .i64 ((m7.cell 2).toInt),.int .i64 ((rF.cell 0).toInt),.int .i64 ((rF.cell 1).toInt),.int .i64 ((rF.cell 2).toInt)]).bind fun ZN=>
   bif decide ((((V.nth ZN 0).toInt):Int)<0) then
   kn (IntKind.wrap .i64 (i+1))
   else
   kr (i,decide ((((V.nth ZN 0).toInt):Int)<0))
  else none
  else none
 else
  kr (i,false)
noncomputable def Eo (C:ae) (a j:Int) (ah:List V):(Int)→Option ((Int) ⊕ (Int × Bool)):=fun i=>En C a j ah i (fun y=>some (.inl y)) (fun r=>some (.inr r))
noncomputable def zP (C:ae) (a i:Int) (ah:List V) (j:Int) {β:Type} (kn:Int→Option β) (kr:(Int × Bool)→Option β):Option β:=
 bif decide ((i:Int)≤j) then
  bif (decide (0≤j))&&(decide (j<(ah.length:Int))) then
  (ah[(j:Int).toNat]?).bind fun xd=>
  bif (decide (0≤a))&&(decide (a<(ah.length:Int))) then
   (ah[(a:Int).toNat]?).bind fun xe=>
   (C bG [.int .i64 ((xd.cell 0).toInt),.int .i64 ((xd.cell 1).toInt),.int .i64 ((xd.cell 2).toInt),.int .i64 ((xe.cell 0).toInt),.int .i64 ((xe.cell 1).toInt),.int .i64 ((xe.cell 2).toInt)]).bind fun JH=>
   bif !(decide ((((V.nth JH 0).toInt):Int)<0)) then
   kn (IntKind.wrap .i64 (j-1))
   else
   kr (j,!(decide ((((V.nth JH 0).toInt):Int)<0)))
  else none
  else none
 else
  kr (j,false)
noncomputable def zQ (C:ae) (a i:Int) (ah:List V):(Int)→Option ((Int) ⊕ (Int × Bool)):=fun j=>zP C a i ah j (fun y=>some (.inl y)) (fun r=>some (.inr r))
noncomputable def Ep (C:ae) (a i j:Int) (ah:List V) {β:Type} (kn:(Int × Int × (List V))→Option β) (kr:(Int × Int × Bool × (List V))→Option β):Option β:=
 (Loop (Eo C a j ah) i).bind (un fun (mn:Int) (ahO:Bool)=>
  (Loop (zQ C a mn ah) j).bind (un fun (qs:Int) (aky:Bool)=>
   bif decide ((mn:Int)>qs) then
    kr (mn,qs,decide ((mn:Int)>qs),ah)
   else
    bif (decide (0≤qs))&&(decide (qs<(ah.length:Int))) then
    (ah[(qs:Int).toNat]?).bind fun tv=>
    bif (decide (0≤mn))&&(decide (mn<(ah.length:Int))) then
     (ah[(mn:Int).toNat]?).bind fun P0=>
     bif (decide (0≤mn))&&(decide (mn<(ah.length:Int))) then
     (ah[(mn:Int).toNat]?).bind fun x35=>
     bif (decide (0≤qs))&&(decide (qs<((ah.set ((mn:Int).toNat) (.agg [.int .i64 ((tv.cell 0).toInt),.int .i64 ((tv.cell 1).toInt),.int .i64 ((tv.cell 2).toInt)])).length:Int))) then
      ((ah.set ((mn:Int).toNat) (.agg [.int .i64 ((tv.cell 0).toInt),.int .i64 ((tv.cell 1).toInt),.int .i64 ((tv.cell 2).toInt)]))[(qs:Int).toNat]?).bind fun x36=>
      kn (IntKind.wrap .i64 (mn+1),IntKind.wrap .i64 (qs-1),(ah.set ((mn:Int).toNat) (.agg [.int .i64 ((tv.cell 0).toInt),.int .i64 ((tv.cell 1).toInt),.int .i64 ((tv.cell 2).toInt)])).set ((qs:Int).toNat) (.agg [.int .i64 ((P0.cell 0).toInt),.int .i64 ((P0.cell 1).toInt),.int .i64 ((P0.cell 2).toInt)]))
     else none
     else none
    else none
    else none))
noncomputable def zR (C:ae) (a:Int):(Int × Int × (List V))→Option ((Int × Int × (List V)) ⊕ (Int × Int × Bool × (List V))):=un fun i=>un fun j ah=>Ep C a i j ah (fun y=>some (.inl y)) (fun r=>some (.inr r))
noncomputable def ZO (C:ae):cD:=fun β n ds k=>
 bif Nat.beq n 49 then bz OH [false,true,false,false] [[1,0,3,0,4]] (@El C) ds k else
 bif Nat.beq n 81 then bz OI [false,false,true,false] [[1,2,0,0,4]] (@zN C) ds k else
 bif Nat.beq n 209 then bz OJ [false,true,false,false] [[1,0,3,0,4]] (@En C) ds k else
 bif Nat.beq n 241 then bz OK [false,false,true,false] [[1,2,0,0,4]] (@zP C) ds k else
 bif Nat.beq n 210 then bz OL [false,true,true,true] [[1,0,0,0,0]] (@Ep C) ds k else
 none
abbrev Er (C:ae) (b:cB):Prop:=cC Tryd.prog au C (ZO C) 181 (cQ Tryd.prog (au.bc 181)) (au.sin 181).bj.length b
theorem akz (C:ae):Er C (.loop (ao [1,1,1,0,0,0] rE)):=
 bC OH [false,true,false,false] [[1,0,3,0,4]] (@El C) (by kernel_rfl) (aW (bs:=[]) (by kernel_rfl) ar) (fun ds=>by kernel_rfl) (fun i x=>by kernel_rfl) (fun i x β k=>by kernel_rfl) (fun β ds k=>by kernel_rfl)
theorem akA (C:ae):Er C (.loop (ao [1,1,1,1,0,0,0] rE)):=
 bC OI [false,false,true,false] [[1,2,0,0,4]] (@zN C) (by kernel_rfl) (aW (bs:=[]) (by kernel_rfl) ar) (fun ds=>by kernel_rfl) (fun i x=>by kernel_rfl) (fun i x β k=>by kernel_rfl) (fun β ds k=>by kernel_rfl)
theorem akB (C:ae):Er C (.loop (ao [1,1,1,1,1,1,1,1,1,0,0,0,0,0,0,0] rE)):=
 bC OJ [false,true,false,false] [[1,0,3,0,4]] (@En C) (by kernel_rfl) (aW (bs:=[]) (by kernel_rfl) ar) (fun ds=>by kernel_rfl) (fun i x=>by kernel_rfl) (fun i x β k=>by kernel_rfl) (fun β ds k=>by kernel_rfl)
theorem akC (C:ae):Er C (.loop (ao [1,1,1,1,1,1,1,1,1,0,0,0,0,1,0,0,0] rE)):=
 bC OK [false,false,true,false] [[1,2,0,0,4]] (@zP C) (by kernel_rfl) (aW (bs:=[]) (by kernel_rfl) ar) (fun ds=>by kernel_rfl) (fun i x=>by kernel_rfl) (fun i x β k=>by kernel_rfl) (fun β ds k=>by kernel_rfl)
theorem akD (C:ae):Er C (.loop (ao [1,1,1,1,1,1,1,1,1,0,0,0] rE)):=
 bC OL [false,true,true,true] [[1,0,0,0,0]] (@Ep C) (by kernel_rfl) (aW (bs:=[.loop (ao [1,1,1,1,1,1,1,1,1,0,0,0,0,0,0,0] rE),.loop (ao [1,1,1,1,1,1,1,1,1,0,0,0,0,1,0,0,0] rE)]) (by kernel_rfl) (bm (akB C) (bm (akC C) ar))) (fun ds=>by kernel_rfl) (fun i x=>by kernel_rfl) (fun i x β k=>by kernel_rfl) (fun β ds k=>by kernel_rfl)
noncomputable def ZP (C:ae) (a b' pivot:Int) (ah:List V):Option (List V):=
 bif (decide (0≤pivot))&&(decide (pivot<(ah.length:Int))) then
  (ah[(pivot:Int).toNat]?).bind fun x1=>
  bif (decide (0≤a))&&(decide (a<(ah.length:Int))) then
  (ah[(a:Int).toNat]?).bind fun x2=>
  bif (decide (0≤a))&&(decide (a<(ah.length:Int))) then
   (ah[(a:Int).toNat]?).bind fun x3=>
   bif (decide (0≤pivot))&&(decide (pivot<((ah.set ((a:Int).toNat) (.agg [.int .i64 ((x1.cell 0).toInt),.int .i64 ((x1.cell 1).toInt),.int .i64 ((x1.cell 2).toInt)])).length:Int))) then
   ((ah.set ((a:Int).toNat) (.agg [.int .i64 ((x1.cell 0).toInt),.int .i64 ((x1.cell 1).toInt),.int .i64 ((x1.cell 2).toInt)]))[(pivot:Int).toNat]?).bind fun x4=>
   (Loop (Em C a (IntKind.wrap .i64 (b'-1)) ((ah.set ((a:Int).toNat) (.agg [.int .i64 ((x1.cell 0).toInt),.int .i64 ((x1.cell 1).toInt),.int .i64 ((x1.cell 2).toInt)])).set ((pivot:Int).toNat) (.agg [.int .i64 ((x2.cell 0).toInt),.int .i64 ((x2.cell 1).toInt),.int .i64 ((x2.cell 2).toInt)]))) (IntKind.wrap .i64 (a+1))).bind (un fun (fS:Int) (tc:Bool)=>
    (Loop (zO C a fS ((ah.set ((a:Int).toNat) (.agg [.int .i64 ((x1.cell 0).toInt),.int .i64 ((x1.cell 1).toInt),.int .i64 ((x1.cell 2).toInt)])).set ((pivot:Int).toNat) (.agg [.int .i64 ((x2.cell 0).toInt),.int .i64 ((x2.cell 1).toInt),.int .i64 ((x2.cell 2).toInt)]))) (IntKind.wrap .i64 (b'-1))).bind (un fun (fa:Int) (CR:Bool)=>
     bif decide ((fS:Int)>fa) then
      bif (decide (0≤a))&&(decide (a<(((ah.set ((a:Int).toNat) (.agg [.int .i64 ((x1.cell 0).toInt),.int .i64 ((x1.cell 1).toInt),.int .i64 ((x1.cell 2).toInt)])).set ((pivot:Int).toNat) (.agg [.int .i64 ((x2.cell 0).toInt),.int .i64 ((x2.cell 1).toInt),.int .i64 ((x2.cell 2).toInt)])).length:Int))) then
      (((ah.set ((a:Int).toNat) (.agg [.int .i64 ((x1.cell 0).toInt),.int .i64 ((x1.cell 1).toInt),.int .i64 ((x1.cell 2).toInt)])).set ((pivot:Int).toNat) (.agg [.int .i64 ((x2.cell 0).toInt),.int .i64 ((x2.cell 1).toInt),.int .i64 ((x2.cell 2).toInt)]))[(a:Int).toNat]?).bind fun fh=>
      bif (decide (0≤fa))&&(decide (fa<(((ah.set ((a:Int).toNat) (.agg [.int .i64 ((x1.cell 0).toInt),.int .i64 ((x1.cell 1).toInt),.int .i64 ((x1.cell 2).toInt)])).set ((pivot:Int).toNat) (.agg [.int .i64 ((x2.cell 0).toInt),.int .i64 ((x2.cell 1).toInt),.int .i64 ((x2.cell 2).toInt)])).length:Int))) then
       (((ah.set ((a:Int).toNat) (.agg [.int .i64 ((x1.cell 0).toInt),.int .i64 ((x1.cell 1).toInt),.int .i64 ((x1.cell 2).toInt)])).set ((pivot:Int).toNat) (.agg [.int .i64 ((x2.cell 0).toInt),.int .i64 ((x2.cell 1).toInt),.int .i64 ((x2.cell 2).toInt)]))[(fa:Int).toNat]?).bind fun gU=>
       bif (decide (0≤fa))&&(decide (fa<(((ah.set ((a:Int).toNat) (.agg [.int .i64 ((x1.cell 0).toInt),.int .i64 ((x1.cell 1).toInt),.int .i64 ((x1.cell 2).toInt)])).set ((pivot:Int).toNat) (.agg [.int .i64 ((x2.cell 0).toInt),.int .i64 ((x2.cell 1).toInt),.int .i64 ((x2.cell 2).toInt)])).length:Int))) then
       (((ah.set ((a:Int).toNat) (.agg [.int .i64 ((x1.cell 0).toInt),.int .i64 ((x1.cell 1).toInt),.int .i64 ((x1.cell 2).toInt)])).set ((pivot:Int).toNat) (.agg [.int .i64 ((x2.cell 0).toInt),.int .i64 ((x2.cell 1).toInt),.int .i64 ((x2.cell 2).toInt)]))[(fa:Int).toNat]?).bind fun rA=>
       bif (decide (0≤a))&&(decide (a<((((ah.set ((a:Int).toNat) (.agg [.int .i64 ((x1.cell 0).toInt),.int .i64 ((x1.cell 1).toInt),.int .i64 ((x1.cell 2).toInt)])).set ((pivot:Int).toNat) (.agg [.int .i64 ((x2.cell 0).toInt),.int .i64 ((x2.cell 1).toInt),.int .i64 ((x2.cell 2).toInt)])).set ((fa:Int).toNat) (.agg [.int .i64 ((fh.cell 0).toInt),.int .i64 ((fh.cell 1).toInt),.int .i64 ((fh.cell 2).toInt)])).length:Int))) then
        ((((ah.set ((a:Int).toNat) (.agg [.int .i64 ((x1.cell 0).toInt),.int .i64 ((x1.cell 1).toInt),.int .i64 ((x1.cell 2).toInt)])).set ((pivot:Int).toNat) (.agg [.int .i64 ((x2.cell 0).toInt),.int .i64 ((x2.cell 1).toInt),.int .i64 ((x2.cell 2).toInt)])).set ((fa:Int).toNat) (.agg [.int .i64 ((fh.cell 0).toInt),.int .i64 ((fh.cell 1).toInt),.int .i64 ((fh.cell 2).toInt)]))[(a:Int).toNat]?).bind fun zt=>
        some [.int .i64 fa,.bool true,.list av ((((ah.set ((a:Int).toNat) (.agg [.int .i64 ((x1.cell 0).toInt),.int .i64 ((x1.cell 1).toInt),.int .i64 ((x1.cell 2).toInt)])).set ((pivot:Int).toNat) (.agg [.int .i64 ((x2.cell 0).toInt),.int .i64 ((x2.cell 1).toInt),.int .i64 ((x2.cell 2).toInt)])).set ((fa:Int).toNat) (.agg [.int .i64 ((fh.cell 0).toInt),.int .i64 ((fh.cell 1).toInt),.int .i64 ((fh.cell 2).toInt)])).set ((a:Int).toNat) (.agg [.int .i64 ((gU.cell 0).toInt),.int .i64 ((gU.cell 1).toInt),.int .i64 ((gU.cell 2).toInt)]))]
       else none
       else none
      else none
      else none
     else
      bif (decide (0≤fa))&&(decide (fa<(((ah.set ((a:Int).toNat) (.agg [.int .i64 ((x1.cell 0).toInt),.int .i64 ((x1.cell 1).toInt),.int .i64 ((x1.cell 2).toInt)])).set ((pivot:Int).toNat) (.agg [.int .i64 ((x2.cell 0).toInt),.int .i64 ((x2.cell 1).toInt),.int .i64 ((x2.cell 2).toInt)])).length:Int))) then
      (((ah.set ((a:Int).toNat) (.agg [.int .i64 ((x1.cell 0).toInt),.int .i64 ((x1.cell 1).toInt),.int .i64 ((x1.cell 2).toInt)])).set ((pivot:Int).toNat) (.agg [.int .i64 ((x2.cell 0).toInt),.int .i64 ((x2.cell 1).toInt),.int .i64 ((x2.cell 2).toInt)]))[(fa:Int).toNat]?).bind fun m8=>
      bif (decide (0≤fS))&&(decide (fS<(((ah.set ((a:Int).toNat) (.agg [.int .i64 ((x1.cell 0).toInt),.int .i64 ((x1.cell 1).toInt),.int .i64 ((x1.cell 2).toInt)])).set ((pivot:Int).toNat) (.agg [.int .i64 ((x2.cell 0).toInt),.int .i64 ((x2.cell 1).toInt),.int .i64 ((x2.cell 2).toInt)])).length:Int))) then
       (((ah.set ((a:Int).toNat) (.agg [.int .i64 ((x1.cell 0).toInt),.int .i64 ((x1.cell 1).toInt),.int .i64 ((x1.cell 2).toInt)])).set ((pivot:Int).toNat) (.agg [.int .i64 ((x2.cell 0).toInt),.int .i64 ((x2.cell 1).toInt),.int .i64 ((x2.cell 2).toInt)]))[(fS:Int).toNat]?).bind fun tj=>
       bif (decide (0≤fS))&&(decide (fS<(((ah.set ((a:Int).toNat) (.agg [.int .i64 ((x1.cell 0).toInt),.int .i64 ((x1.cell 1).toInt),.int .i64 ((x1.cell 2).toInt)])).set ((pivot:Int).toNat) (.agg [.int .i64 ((x2.cell 0).toInt),.int .i64 ((x2.cell 1).toInt),.int .i64 ((x2.cell 2).toInt)])).length:Int))) then
       (((ah.set ((a:Int).toNat) (.agg [.int .i64 ((x1.cell 0).toInt),.int .i64 ((x1.cell 1).toInt),.int .i64 ((x1.cell 2).toInt)])).set ((pivot:Int).toNat) (.agg [.int .i64 ((x2.cell 0).toInt),.int .i64 ((x2.cell 1).toInt),.int .i64 ((x2.cell 2).toInt)]))[(fS:Int).toNat]?).bind fun DI=>
       bif (decide (0≤fa))&&(decide (fa<((((ah.set ((a:Int).toNat) (.agg [.int .i64 ((x1.cell 0).toInt),.int .i64 ((x1.cell 1).toInt),.int .i64 ((x1.cell 2).toInt)])).set ((pivot:Int).toNat) (.agg [.int .i64 ((x2.cell 0).toInt),.int .i64 ((x2.cell 1).toInt),.int .i64 ((x2.cell 2).toInt)])).set ((fS:Int).toNat) (.agg [.int .i64 ((m8.cell 0).toInt),.int .i64 ((m8.cell 1).toInt),.int .i64 ((m8.cell 2).toInt)])).length:Int))) then
        ((((ah.set ((a:Int).toNat) (.agg [.int .i64 ((x1.cell 0).toInt),.int .i64 ((x1.cell 1).toInt),.int .i64 ((x1.cell 2).toInt)])).set ((pivot:Int).toNat) (.agg [.int .i64 ((x2.cell 0).toInt),.int .i64 ((x2.cell 1).toInt),.int .i64 ((x2.cell 2).toInt)])).set ((fS:Int).toNat) (.agg [.int .i64 ((m8.cell 0).toInt),.int .i64 ((m8.cell 1).toInt),.int .i64 ((m8.cell 2).toInt)]))[(fa:Int).toNat]?).bind fun x22=>
        (Loop (zR C a) (IntKind.wrap .i64 (fS+1),IntKind.wrap .i64 (fa-1),(((ah.set ((a:Int).toNat) (.agg [.int .i64 ((x1.cell 0).toInt),.int .i64 ((x1.cell 1).toInt),.int .i64 ((x1.cell 2).toInt)])).set ((pivot:Int).toNat) (.agg [.int .i64 ((x2.cell 0).toInt),.int .i64 ((x2.cell 1).toInt),.int .i64 ((x2.cell 2).toInt)])).set ((fS:Int).toNat) (.agg [.int .i64 ((m8.cell 0).toInt),.int .i64 ((m8.cell 1).toInt),.int .i64 ((m8.cell 2).toInt)])).set ((fa:Int).toNat) (.agg [.int .i64 ((tj.cell 0).toInt),.int .i64 ((tj.cell 1).toInt),.int .i64 ((tj.cell 2).toInt)]))).bind (un fun (aov:Int)=>un fun (rG:Int)=>un fun (ZQ:Bool) (kS:List V)=>
         bif (decide (0≤a))&&(decide (a<(kS.length:Int))) then
         (kS[(a:Int).toNat]?).bind fun oe=>
         bif (decide (0≤rG))&&(decide (rG<(kS.length:Int))) then
          (kS[(rG:Int).toNat]?).bind fun xf=>
          bif (decide (0≤rG))&&(decide (rG<(kS.length:Int))) then
          (kS[(rG:Int).toNat]?).bind fun x43=>
          bif (decide (0≤a))&&(decide (a<((kS.set ((rG:Int).toNat) (.agg [.int .i64 ((oe.cell 0).toInt),.int .i64 ((oe.cell 1).toInt),.int .i64 ((oe.cell 2).toInt)])).length:Int))) then
           ((kS.set ((rG:Int).toNat) (.agg [.int .i64 ((oe.cell 0).toInt),.int .i64 ((oe.cell 1).toInt),.int .i64 ((oe.cell 2).toInt)]))[(a:Int).toNat]?).bind fun x44=>
           some [.int .i64 rG,.bool false,.list av ((kS.set ((rG:Int).toNat) (.agg [.int .i64 ((oe.cell 0).toInt),.int .i64 ((oe.cell 1).toInt),.int .i64 ((oe.cell 2).toInt)])).set ((a:Int).toNat) (.agg [.int .i64 ((xf.cell 0).toInt),.int .i64 ((xf.cell 1).toInt),.int .i64 ((xf.cell 2).toInt)]))]
          else none
          else none
         else none
         else none)
       else none
       else none
      else none
      else none))
   else none
  else none
  else none
 else none
theorem akE {a b' pivot:Int} {ah:List V} {r:Option (List V)} (h:ZP CC a b' pivot ah=r):CC qa [.int .i64 a,.int .i64 b',.int .i64 pivot,.list av ah]=r:=
 bD (key:=181) (L:=ZO CC) (bs:=[.loop (ao [1,1,1,0,0,0] rE),.loop (ao [1,1,1,1,0,0,0] rE),.loop (ao [1,1,1,1,1,1,1,1,1,0,0,0] rE)]) (by kernel_rfl) (bm (akz CC) (bm (akA CC) (bm (akD CC) ar))) (bB (by kernel_rfl) h)
noncomputable abbrev zS:Code:=cJ Tryd.prog (au.bc 182)
noncomputable def Es (C:ae) (a j:Int) (ah:List V) (i:Int) {β:Type} (kn:Int→Option β) (kr:(Int × Bool)→Option β):Option β:=
 bif decide ((i:Int)≤j) then
  bif (decide (0≤a))&&(decide (a<(ah.length:Int))) then
  (ah[(a:Int).toNat]?).bind fun x5=>
  bif (decide (0≤i))&&(decide (i<(ah.length:Int))) then
   (ah[(i:Int).toNat]?).bind fun x6=>
   (C bG [.int .i64 ((x5.cell 0).toInt),.int .i64 ((x5.cell 1).toInt),.int .i64 ((x5.cell 2).toInt),.int .i64 ((x6.cell 0).toInt),.int .i64 ((x6.cell 1).toInt),.int .i64 ((x6.cell 2).toInt)]).bind fun r7=>
   bif !(decide ((((V.nth r7 0).toInt):Int)<0)) then
   kn (IntKind.wrap .i64 (i+1))
   else
   kr (i,!(decide ((((V.nth r7 0).toInt):Int)<0)))
  else none
  else none
 else
  kr (i,false)
noncomputable def Et (C:ae) (a j:Int) (ah:List V):(Int)→Option ((Int) ⊕ (Int × Bool)):=fun i=>Es C a j ah i (fun y=>some (.inl y)) (fun r=>some (.inr r))
noncomputable def zT (C:ae) (a i:Int) (ah:List V) (j:Int) {β:Type} (kn:Int→Option β) (kr:(Int × Bool)→Option β):Option β:=
 bif decide ((i:Int)≤j) then
  bif (decide (0≤a))&&(decide (a<(ah.length:Int))) then
  (ah[(a:Int).toNat]?).bind fun iT=>
  bif (decide (0≤j))&&(decide (j<(ah.length:Int))) then
   (ah[(j:Int).toNat]?).bind fun fH=>
   (C bG [.int .i64 ((iT.cell 0).toInt),.int .i64 ((iT.cell 1).toInt),.int .i64 ((iT.cell 2).toInt),.int .i64 ((fH.cell 0).toInt),.int .i64 ((fH.cell 1).toInt),.int .i64 ((fH.cell 2).toInt)]).bind fun iw=>
   bif decide ((((V.nth iw 0).toInt):Int)<0) then
   kn (IntKind.wrap .i64 (j-1))
   else
   kr (j,decide ((((V.nth iw 0).toInt):Int)<0))
  else none
  else none
 else
  kr (j,false)
noncomputable def zU (C:ae) (a i:Int) (ah:List V):(Int)→Option ((Int) ⊕ (Int × Bool)):=fun j=>zT C a i ah j (fun y=>some (.inl y)) (fun r=>some (.inr r))
noncomputable def Eu (C:ae) (a i j:Int) (ah:List V) {β:Type} (kn:(Int × Int × (List V))→Option β) (kr:(Int × Int × Bool × (List V))→Option β):Option β:=
 (Loop (Et C a j ah) i).bind (un fun (fS:Int) (tc:Bool)=>
  (Loop (zU C a fS ah) j).bind (un fun (fa:Int) (CR:Bool)=>
   bif decide ((fS:Int)>fa) then
    kr (fS,fa,decide ((fS:Int)>fa),ah)
   else
    bif (decide (0≤fa))&&(decide (fa<(ah.length:Int))) then
    (ah[(fa:Int).toNat]?).bind fun fh=>
    bif (decide (0≤fS))&&(decide (fS<(ah.length:Int))) then
     (ah[(fS:Int).toNat]?).bind fun gU=>
     bif (decide (0≤fS))&&(decide (fS<(ah.length:Int))) then
     (ah[(fS:Int).toNat]?).bind fun rA=>
     bif (decide (0≤fa))&&(decide (fa<((ah.set ((fS:Int).toNat) (.agg [.int .i64 ((fh.cell 0).toInt),.int .i64 ((fh.cell 1).toInt),.int .i64 ((fh.cell 2).toInt)])).length:Int))) then
      ((ah.set ((fS:Int).toNat) (.agg [.int .i64 ((fh.cell 0).toInt),.int .i64 ((fh.cell 1).toInt),.int .i64 ((fh.cell 2).toInt)]))[(fa:Int).toNat]?).bind fun zt=>
      kn (IntKind.wrap .i64 (fS+1),IntKind.wrap .i64 (fa-1),(ah.set ((fS:Int).toNat) (.agg [.int .i64 ((fh.cell 0).toInt),.int .i64 ((fh.cell 1).toInt),.int .i64 ((fh.cell 2).toInt)])).set ((fa:Int).toNat) (.agg [.int .i64 ((gU.cell 0).toInt),.int .i64 ((gU.cell 1).toInt),.int .i64 ((gU.cell 2).toInt)]))
     else none
     else none
    else none
    else none))
noncomputable def zV (C:ae) (a:Int):(Int × Int × (List V))→Option ((Int × Int × (List V)) ⊕ (Int × Int × Bool × (List V))):=un fun i=>un fun j ah=>Eu C a i j ah (fun y=>some (.inl y)) (fun r=>some (.inr r))
noncomputable def ZR (C:ae):cD:=fun β n ds k=>
 bif Nat.beq n 49 then bz OM [false,true,false,false] [[1,0,3,0,4]] (@Es C) ds k else
 bif Nat.beq n 81 then bz ON [false,false,true,false] [[1,2,0,0,4]] (@zT C) ds k else
 bif Nat.beq n 50 then bz OO [false,true,true,true] [[1,0,0,0,0]] (@Eu C) ds k else
 none
abbrev P1 (C:ae) (b:cB):Prop:=cC Tryd.prog au C (ZR C) 182 (cQ Tryd.prog (au.bc 182)) (au.sin 182).bj.length b
theorem akF (C:ae):P1 C (.loop (ao [1,1,1,0,0,0,0,0,0,0] zS)):=
 bC OM [false,true,false,false] [[1,0,3,0,4]] (@Es C) (by kernel_rfl) (aW (bs:=[]) (by kernel_rfl) ar) (fun ds=>by kernel_rfl) (fun i x=>by kernel_rfl) (fun i x β k=>by kernel_rfl) (fun β ds k=>by kernel_rfl)
theorem akG (C:ae):P1 C (.loop (ao [1,1,1,0,0,0,0,1,0,0,0] zS)):=
 bC ON [false,false,true,false] [[1,2,0,0,4]] (@zT C) (by kernel_rfl) (aW (bs:=[]) (by kernel_rfl) ar) (fun ds=>by kernel_rfl) (fun i x=>by kernel_rfl) (fun i x β k=>by kernel_rfl) (fun β ds k=>by kernel_rfl)
theorem akH (C:ae):P1 C (.loop (ao [1,1,1,0,0,0] zS)):=
 bC OO [false,true,true,true] [[1,0,0,0,0]] (@Eu C) (by kernel_rfl) (aW (bs:=[.loop (ao [1,1,1,0,0,0,0,0,0,0] zS),.loop (ao [1,1,1,0,0,0,0,1,0,0,0] zS)]) (by kernel_rfl) (bm (akF C) (bm (akG C) ar))) (fun ds=>by kernel_rfl) (fun i x=>by kernel_rfl) (fun i x β k=>by kernel_rfl) (fun β ds k=>by kernel_rfl)
noncomputable def ZS (C:ae) (a b' pivot:Int) (ah:List V):Option (List V):=
 bif (decide (0≤pivot))&&(decide (pivot<(ah.length:Int))) then
  (ah[(pivot:Int).toNat]?).bind fun x1=>
  bif (decide (0≤a))&&(decide (a<(ah.length:Int))) then
  (ah[(a:Int).toNat]?).bind fun x2=>
  bif (decide (0≤a))&&(decide (a<(ah.length:Int))) then
   (ah[(a:Int).toNat]?).bind fun x3=>
   bif (decide (0≤pivot))&&(decide (pivot<((ah.set ((a:Int).toNat) (.agg [.int .i64 ((x1.cell 0).toInt),.int .i64 ((x1.cell 1).toInt),.int .i64 ((x1.cell 2).toInt)])).length:Int))) then
   ((ah.set ((a:Int).toNat) (.agg [.int .i64 ((x1.cell 0).toInt),.int .i64 ((x1.cell 1).toInt),.int .i64 ((x1.cell 2).toInt)]))[(pivot:Int).toNat]?).bind fun x4=>
   (Loop (zV C a) (IntKind.wrap .i64 (a+1),IntKind.wrap .i64 (b'-1),(ah.set ((a:Int).toNat) (.agg [.int .i64 ((x1.cell 0).toInt),.int .i64 ((x1.cell 1).toInt),.int .i64 ((x1.cell 2).toInt)])).set ((pivot:Int).toNat) (.agg [.int .i64 ((x2.cell 0).toInt),.int .i64 ((x2.cell 1).toInt),.int .i64 ((x2.cell 2).toInt)]))).bind (un fun (akI:Int)=>un fun (aow:Int)=>un fun (akJ:Bool) (akK:List V)=>
    some [.int .i64 akI,.list av akK])
   else none
  else none
  else none
 else none
theorem akL {a b' pivot:Int} {ah:List V} {r:Option (List V)} (h:ZS CC a b' pivot ah=r):CC yW [.int .i64 a,.int .i64 b',.int .i64 pivot,.list av ah]=r:=
 bD (key:=182) (L:=ZR CC) (bs:=[.loop (ao [1,1,1,0,0,0] zS)]) (by kernel_rfl) (bm (akH CC) ar) (bB (by kernel_rfl) h)
noncomputable abbrev po:Code:=cJ Tryd.prog (au.bc 180)
noncomputable def Ev (C:ae) (a b' j:Int) (ah:List V) (i:Int) {β:Type} (kn:Int→Option β) (kr:(Int × Bool)→Option β):Option β:=
 bif decide ((i:Int)<b') then
  bif (decide (0≤i))&&(decide (i<(ah.length:Int))) then
  (ah[(i:Int).toNat]?).bind fun x1=>
  bif (decide (0≤(IntKind.wrap .i64 (i-1))))&&(decide ((IntKind.wrap .i64 (i-1))<(ah.length:Int))) then
   (ah[(IntKind.wrap .i64 (i-1):Int).toNat]?).bind fun x2=>
   (C bG [.int .i64 ((x1.cell 0).toInt),.int .i64 ((x1.cell 1).toInt),.int .i64 ((x1.cell 2).toInt),.int .i64 ((x2.cell 0).toInt),.int .i64 ((x2.cell 1).toInt),.int .i64 ((x2.cell 2).toInt)]).bind fun r3=>
   bif !(decide ((((V.nth r3 0).toInt):Int)<0)) then
   kn (IntKind.wrap .i64 (i+1))
   else
   kr (i,!(decide ((((V.nth r3 0).toInt):Int)<0)))
  else none
  else none
 else
  kr (i,false)
noncomputable def Ew (C:ae) (a b' j:Int) (ah:List V):(Int)→Option ((Int) ⊕ (Int × Bool)):=fun i=>Ev C a b' j ah i (fun y=>some (.inl y)) (fun r=>some (.inr r))
noncomputable def Ex (C:ae) (a b' i j j':Int) (ah:List V) {β:Type} (kn:(Int × (List V))→Option β) (kr:(Int × (List V))→Option β):Option β:=
 bif decide ((j':Int)≥1) then
  bif (decide (0≤j'))&&(decide (j'<(ah.length:Int))) then
  (ah[(j':Int).toNat]?).bind fun iT=>
  bif (decide (0≤(IntKind.wrap .i64 (j'-1))))&&(decide ((IntKind.wrap .i64 (j'-1))<(ah.length:Int))) then
   (ah[(IntKind.wrap .i64 (j'-1):Int).toNat]?).bind fun fH=>
   (C bG [.int .i64 ((iT.cell 0).toInt),.int .i64 ((iT.cell 1).toInt),.int .i64 ((iT.cell 2).toInt),.int .i64 ((fH.cell 0).toInt),.int .i64 ((fH.cell 1).toInt),.int .i64 ((fH.cell 2).toInt)]).bind fun iw=>
   bif !(decide ((((V.nth iw 0).toInt):Int)<0)) then
   kr (j',ah)
   else
   bif (decide (0≤(IntKind.wrap .i64 (j'-1))))&&(decide ((IntKind.wrap .i64 (j'-1))<(ah.length:Int))) then
    (ah[(IntKind.wrap .i64 (j'-1):Int).toNat]?).bind fun gO=>
    bif (decide (0≤j'))&&(decide (j'<(ah.length:Int))) then
    (ah[(j':Int).toNat]?).bind fun kQ=>
    bif (decide (0≤j'))&&(decide (j'<(ah.length:Int))) then
     (ah[(j':Int).toNat]?).bind fun fh=>
     bif (decide (0≤(IntKind.wrap .i64 (j'-1))))&&(decide ((IntKind.wrap .i64 (j'-1))<((ah.set ((j':Int).toNat) (.agg [.int .i64 ((gO.cell 0).toInt),.int .i64 ((gO.cell 1).toInt),.int .i64 ((gO.cell 2).toInt)])).length:Int))) then
     ((ah.set ((j':Int).toNat) (.agg [.int .i64 ((gO.cell 0).toInt),.int .i64 ((gO.cell 1).toInt),.int .i64 ((gO.cell 2).toInt)]))[(IntKind.wrap .i64 (j'-1):Int).toNat]?).bind fun gU=>
     kn (IntKind.wrap .i64 (j'-1),(ah.set ((j':Int).toNat) (.agg [.int .i64 ((gO.cell 0).toInt),.int .i64 ((gO.cell 1).toInt),.int .i64 ((gO.cell 2).toInt)])).set ((IntKind.wrap .i64 (j'-1):Int).toNat) (.agg [.int .i64 ((kQ.cell 0).toInt),.int .i64 ((kQ.cell 1).toInt),.int .i64 ((kQ.cell 2).toInt)]))
     else none
    else none
    else none
   else none
  else none
  else none
 else
  kr (j',ah)
noncomputable def Ey (C:ae) (a b' i j:Int):(Int × (List V))→Option ((Int × (List V)) ⊕ (Int × (List V))):=un fun j' ah=>Ex C a b' i j j' ah (fun y=>some (.inl y)) (fun r=>some (.inr r))
noncomputable def JI (C:ae) (a b' i j:Int) (t65:Bool) (ah:List V) {β:Type} (kr:(List V)→Option β):Option β:=
 bif t65 then
  (Loop (Ey C a b' i j) (IntKind.wrap .i64 (i-1),ah)).bind (un fun (aox:Int) (akM:List V)=>
   kr akM)
 else
  kr ah
noncomputable def Ez (C:ae) (a b' i j j':Int) (ah:List V) {β:Type} (kn:(Int × (List V))→Option β) (kr:(Int × (List V))→Option β):Option β:=
 bif decide ((j':Int)<b') then
  bif (decide (0≤j'))&&(decide (j'<(ah.length:Int))) then
  (ah[(j':Int).toNat]?).bind fun tj=>
  bif (decide (0≤(IntKind.wrap .i64 (j'-1))))&&(decide ((IntKind.wrap .i64 (j'-1))<(ah.length:Int))) then
   (ah[(IntKind.wrap .i64 (j'-1):Int).toNat]?).bind fun DI=>
   (C bG [.int .i64 ((tj.cell 0).toInt),.int .i64 ((tj.cell 1).toInt),.int .i64 ((tj.cell 2).toInt),.int .i64 ((DI.cell 0).toInt),.int .i64 ((DI.cell 1).toInt),.int .i64 ((DI.cell 2).toInt)]).bind fun km=>
   bif !(decide ((((V.nth km 0).toInt):Int)<0)) then
   kr (j',ah)
   else
   bif (decide (0≤(IntKind.wrap .i64 (j'-1))))&&(decide ((IntKind.wrap .i64 (j'-1))<(ah.length:Int))) then
    (ah[(IntKind.wrap .i64 (j'-1):Int).toNat]?).bind fun m7=>
    bif (decide (0≤j'))&&(decide (j'<(ah.length:Int))) then
    (ah[(j':Int).toNat]?).bind fun rF=>
    bif (decide (0≤j'))&&(decide (j'<(ah.length:Int))) then
     (ah[(j':Int).toNat]?).bind fun x25=>
     bif (decide (0≤(IntKind.wrap .i64 (j'-1))))&&(decide ((IntKind.wrap .i64 (j'-1))<((ah.set ((j':Int).toNat) (.agg [.int .i64 ((m7.cell 0).toInt),.int .i64 ((m7.cell 1).toInt),.int .i64 ((m7.cell 2).toInt)])).length:Int))) then
     ((ah.set ((j':Int).toNat) (.agg [.int .i64 ((m7.cell 0).toInt),.int .i64 ((m7.cell 1).toInt),.int .i64 ((m7.cell 2).toInt)]))[(IntKind.wrap .i64 (j'-1):Int).toNat]?).bind fun x26=>
     kn (IntKind.wrap .i64 (j'+1),(ah.set ((j':Int).toNat) (.agg [.int .i64 ((m7.cell 0).toInt),.int .i64 ((m7.cell 1).toInt),.int .i64 ((m7.cell 2).toInt)])).set ((IntKind.wrap .i64 (j'-1):Int).toNat) (.agg [.int .i64 ((rF.cell 0).toInt),.int .i64 ((rF.cell 1).toInt),.int .i64 ((rF.cell 2).toInt)]))
     else none
    else none
    else none
   else none
  else none
  else none
 else
  kr (j',ah)
noncomputable def EA (C:ae) (a b' i j:Int):(Int × (List V))→Option ((Int × (List V)) ⊕ (Int × (List V))):=un fun j' ah=>Ez C a b' i j j' ah (fun y=>some (.inl y)) (fun r=>some (.inr r))
noncomputable def EB (C:ae) (a b' i j:Int) (ah:List V) {β:Type} (kn:(Int × Int × (List V))→Option β) (kr:((Bool × (List V)) ⊕ (Int × Int × Bool × (List V)))→Option β):Option β:=
 bif decide ((j:Int)<5) then
  (Loop (Ew C a b' j ah) i).bind (un fun (gf:Int) (lD:Bool)=>
   bif (gf:Int)==b' then
   kr (.inl (true,ah))
   else
   bif decide (((IntKind.wrap .i64 (b'-a)):Int)<50) then
    kr (.inl (false,ah))
   else
    bif (decide (0≤(IntKind.wrap .i64 (gf-1))))&&(decide ((IntKind.wrap .i64 (gf-1))<(ah.length:Int))) then
    (ah[(IntKind.wrap .i64 (gf-1):Int).toNat]?).bind fun x6=>
    bif (decide (0≤gf))&&(decide (gf<(ah.length:Int))) then
     (ah[(gf:Int).toNat]?).bind fun x7=>
     bif (decide (0≤gf))&&(decide (gf<(ah.length:Int))) then
     (ah[(gf:Int).toNat]?).bind fun x8=>
     bif (decide (0≤(IntKind.wrap .i64 (gf-1))))&&(decide ((IntKind.wrap .i64 (gf-1))<((ah.set ((gf:Int).toNat) (.agg [.int .i64 ((x6.cell 0).toInt),.int .i64 ((x6.cell 1).toInt),.int .i64 ((x6.cell 2).toInt)])).length:Int))) then
      ((ah.set ((gf:Int).toNat) (.agg [.int .i64 ((x6.cell 0).toInt),.int .i64 ((x6.cell 1).toInt),.int .i64 ((x6.cell 2).toInt)]))[(IntKind.wrap .i64 (gf-1):Int).toNat]?).bind fun x9=>
      JI C a b' gf j (decide (((IntKind.wrap .i64 (gf-a)):Int)≥2)) ((ah.set ((gf:Int).toNat) (.agg [.int .i64 ((x6.cell 0).toInt),.int .i64 ((x6.cell 1).toInt),.int .i64 ((x6.cell 2).toInt)])).set ((IntKind.wrap .i64 (gf-1):Int).toNat) (.agg [.int .i64 ((x7.cell 0).toInt),.int .i64 ((x7.cell 1).toInt),.int .i64 ((x7.cell 2).toInt)])) (fun (ZT:List V)=>
       bif decide (((IntKind.wrap .i64 (b'-gf)):Int)≥2) then
       (Loop (EA C a b' gf j) (IntKind.wrap .i64 (gf+1),ZT)).bind (un fun (aoy:Int) (akN:List V)=>
        kn (gf,IntKind.wrap .i64 (j+1),akN))
       else
       kn (gf,IntKind.wrap .i64 (j+1),ZT))
     else none
     else none
    else none
    else none)
 else
  kr (.inr (i,j,decide ((j:Int)<5),ah))
noncomputable def uQ (C:ae) (a b':Int):(Int × Int × (List V))→Option ((Int × Int × (List V)) ⊕ ((Bool × (List V)) ⊕ (Int × Int × Bool × (List V)))):=un fun i=>un fun j ah=>EB C a b' i j ah (fun y=>some (.inl y)) (fun r=>some (.inr r))
noncomputable def ZU (C:ae):cD:=fun β n ds k=>
 bif Nat.beq n 81 then bz OC [false,false,true,false,false] [[1,2,0,4,0,5]] (@Ev C) ds k else
 bif Nat.beq n 225 then bz OD [false,false,false,false,true,true] [[1,2,3,4,0,0]] (@Ex C) ds k else
 bif Nat.beq n 1055 then mM OE [[1,2,3,4,0]] (@JI C) ds k else
 bif Nat.beq n 321 then bz OF [false,false,false,false,true,true] [[1,2,3,4,0,0]] (@Ez C) ds k else
 bif Nat.beq n 49 then bz OG [false,false,true,true,true] [[0,0],[1,2,0,0,0,0]] (@EB C) ds k else
 none
abbrev EC (C:ae) (b:cB):Prop:=cC Tryd.prog au C (ZU C) 180 (cQ Tryd.prog (au.bc 180)) (au.sin 180).bj.length b
theorem akO (C:ae):EC C (.loop (ao [1,1,0,1,0,0,1,0,0,0,0,0] po)):=
 bC OC [false,false,true,false,false] [[1,2,0,4,0,5]] (@Ev C) (by kernel_rfl) (aW (bs:=[]) (by kernel_rfl) ar) (fun ds=>by kernel_rfl) (fun i x=>by kernel_rfl) (fun i x β k=>by kernel_rfl) (fun β ds k=>by kernel_rfl)
theorem akP (C:ae):EC C (.loop (ao [1,1,0,1,0,0,1,0,0,1,1,1,1,0,1,0,1,0,0] po)):=
 bC OD [false,false,false,false,true,true] [[1,2,3,4,0,0]] (@Ex C) (by kernel_rfl) (aW (bs:=[]) (by kernel_rfl) ar) (fun ds=>by kernel_rfl) (fun i x=>by kernel_rfl) (fun i x β k=>by kernel_rfl) (fun β ds k=>by kernel_rfl)
theorem akQ (C:ae):EC C (.cond 65 (ao [1,1,0,1,0,0,1,0,0,1,1,1,1,0,1,0] po) (ao [1,1,0,1,0,0,1,0,0,1,1,1,1,0,1,1] po)):=
 nL OE [[1,2,3,4,0]] (@JI C) (by kernel_rfl) (aW (bs:=[.loop (ao [1,1,0,1,0,0,1,0,0,1,1,1,1,0,1,0,1,0,0] po)]) (by kernel_rfl) (bm (akP C) ar)) (aW (bs:=[]) (by kernel_rfl) ar) (fun ds=>by kernel_rfl) (fun i β k=>by kernel_rfl) (fun β ds k=>by kernel_rfl)
theorem akR (C:ae):EC C (.loop (ao [1,1,0,1,0,0,1,0,0,1,1,1,1,1,1,0,1,0,0] po)):=
 bC OF [false,false,false,false,true,true] [[1,2,3,4,0,0]] (@Ez C) (by kernel_rfl) (aW (bs:=[]) (by kernel_rfl) ar) (fun ds=>by kernel_rfl) (fun i x=>by kernel_rfl) (fun i x β k=>by kernel_rfl) (fun β ds k=>by kernel_rfl)
theorem akS (C:ae):EC C (.loop (ao [1,1,0,1,0,0] po)):=
 bC OG [false,false,true,true,true] [[0,0],[1,2,0,0,0,0]] (@EB C) (by kernel_rfl) (aW (bs:=[.loop (ao [1,1,0,1,0,0,1,0,0,0,0,0] po),.cond 65 (ao [1,1,0,1,0,0,1,0,0,1,1,1,1,0,1,0] po) (ao [1,1,0,1,0,0,1,0,0,1,1,1,1,0,1,1] po),.loop (ao [1,1,0,1,0,0,1,0,0,1,1,1,1,1,1,0,1,0,0] po)]) (by kernel_rfl) (bm (akO C) (bm (akQ C) (bm (akR C) ar)))) (fun ds=>by kernel_rfl) (fun i x=>by kernel_rfl) (fun i x β k=>by kernel_rfl) (fun β ds k=>by kernel_rfl)
noncomputable def ZV (C:ae) (a b':Int) (ah:List V):Option (List V):=
 (Loop (uQ C a b') (IntKind.wrap .i64 (a+1),0,ah)).bind (cL (un fun (akT:Bool) (akU:List V)=>
  some [.bool akT,.list av akU]) (un fun (akV:Int)=>un fun (aoz:Int)=>un fun (aoA:Bool) (akW:List V)=>
  some [.bool false,.list av akW]))
theorem akX {a b':Int} {ah:List V} {r:Option (List V)} (h:ZV CC a b' ah=r):CC ML [.int .i64 a,.int .i64 b',.list av ah]=r:=
 bD (key:=180) (L:=ZU CC) (bs:=[.loop (ao [1,1,0,1,0,0] po)]) (by kernel_rfl) (bm (akS CC) ar) (bB (by kernel_rfl) h)
end Go.AM
set_option maxRecDepth 100000
set_option maxHeartbeats 4000000
namespace Go.AM.SL
open Go.AM Go.Proofs Go.Sort
theorem zW (p:Ed→Bool) (d:Array Ed) (j i:Nat):scanUp p d j i=if i≤j then (if p d[i]! =true then scanUp p d j (i+1) else i) else i:=by
 conv=>lhs;rw[scanUp]
 by_cases h:i≤j
 ·rw[af h];simp only[h,va,xB]
 ·rw[ag h,ag (by simp[h])]
theorem P2 (p:Ed→Bool) (d:Array Ed) (i j:Nat):scanDown p d i (j+1)=if i≤j+1 then (if p d[j+1]! =true then scanDown p d i j else j+1) else j+1:=by
 conv=>lhs;rw[scanDown]
 by_cases h:i≤j+1
 ·rw[af h];simp only[h,va,xB]
 ·rw[ag h,ag (by simp[h])]
theorem JJ (d:Array Ed) (b i:Nat):scanSorted ay d b i=if i<b then (if cf d[i]! d[i-1]! <0 then i else scanSorted ay d b (i+1)) else i:=by
 conv=>lhs;rw[scanSorted]
 by_cases h:i<b
 ·rw[af h];simp only[h,va,xB,tu]
  by_cases h2:cf d[i]! d[i-1]! <0
  ·rw[ag (pD h2),af h2]
  ·rw[af h2,ag h2]
 ·rw[ag h,ag (by simp[h])]
theorem ZW (j:Nat) (d:Array Ed):shiftDown ay (j+1) d=if cf d[j+1]! d[j]! <0 then shiftDown ay j (swp d (j+1) j) else d:=by
 conv=>lhs;rw[shiftDown]
 simp only[tu]
 by_cases h2:cf d[j+1]! d[j]! <0
 ·rw[ag (pD h2),af h2]
 ·rw[af h2,ag h2]
theorem JK (b j:Nat) (d:Array Ed):shiftUp ay b j d=if j<b then (if cf d[j]! d[j-1]! <0 then shiftUp ay b (j+1) (swp d j (j-1)) else d) else d:=by
 conv=>lhs;rw[shiftUp]
 simp only[tu]
 by_cases h:j<b
 ·rw[af h,af h]
  by_cases h2:cf d[j]! d[j-1]! <0
  ·rw[ag (pD h2),af h2]
  ·rw[af h2,ag h2]
 ·rw[ag h,ag h]
theorem akY {a:Nat}: ∀(n i j:Nat) (d:Array Ed),j+1-i≤n→(partLoop ay a i j d).2.size=d.size∧(partLoop ay a i j d).1≤j:=by
 intro n
 induction n with
 | zero=>
  intro i j d hn
  have h1:=scanUp_ge (fun x=>ay x d[a]!) d j i
  have h2:=scanDown_le (fun x=> !ay x d[a]!) d (scanUp (fun x=>ay x d[a]!) d j i) j
  rw[partLoop_eq,af (by omega)]
  exact ⟨rfl,h2⟩
 | succ n ih=>
  intro i j d hn
  rw[partLoop_eq]
  have h1:=scanUp_ge (fun x=>ay x d[a]!) d j i
  have h2:=scanDown_le (fun x=> !ay x d[a]!) d (scanUp (fun x=>ay x d[a]!) d j i) j
  split
  ·exact ⟨rfl,h2⟩
  ·obtain ⟨h3,h4⟩:=ih (scanUp (fun x=>ay x d[a]!) d j i+1) (scanDown (fun x=> !ay x d[a]!) d (scanUp (fun x=>ay x d[a]!) d j i) j-1) (swp d (scanUp (fun x=>ay x d[a]!) d j i) (scanDown (fun x=> !ay x d[a]!) d (scanUp (fun x=>ay x d[a]!) d j i) j)) (by omega)
   exact ⟨by rw[h3,size_swp],by omega⟩
theorem lK {β:Type} {d:Array Ed} {i:Nat} {x y:Option β} (h:i<d.size):(bif (decide (0≤(i:Int)))&&(decide ((i:Int)<((eA d).length:Int))) then x else y)=x:=by
 rw[gQ,dO,aA,af (by omega),aA,af (by omega)]
theorem JL {β:Type} {d:Array Ed} {i k:Nat} {v:V} {x y:Option β} (h:i<d.size):(bif (decide (0≤(i:Int)))&&(decide ((i:Int)<(((eA d).set k v).length:Int))) then x else y)=x:=by
 rw[rN,gQ,dO,aA,af (by omega),aA,af (by omega)]
theorem lM {β:Type} {d:Array Ed} {i:Nat} {f:V→Option β} (h:i<d.size):((eA d)[(i:Int).toNat]?).bind f=f (d[i]!).enc:=by
 rw[Int.toNat_natCast,gS h];rfl
theorem JM {β:Type} {d:Array Ed} {i k:Nat} {v:V} {x:Option β} (h:i<d.size):(((eA d).set k v)[(i:Int).toNat]?).bind (fun _=>x)=x:=by
 rw[Int.toNat_natCast,bM (by rw[rN,gQ];exact h)];rfl
theorem tw {β:Type} {d:Array Ed} {i:Nat} {f:V→Option β} (h:i<d.size):((eA d)[i]?).bind f=f (d[i]!).enc:=by
 rw[gS h];rfl
theorem P4 {β:Type} {d:Array Ed} {i k:Nat} {v:V} {x:Option β} (h:i<d.size):(((eA d).set k v)[i]?).bind (fun _=>x)=x:=by
 rw[bM (by rw[rN,gQ];exact h)];rfl
theorem akZ {a j:Nat} {d:Array Ed} (ha:a<d.size) (hj:j<d.size) (hs:d.size<1152921504606846976): ∀(n i:Nat),j+1-i=n→i≤d.size→
  ∃t,Loop (Em CC a j (eA d)) (i:Int)=some (((scanUp (fun x=>ay x d[a]!) d j i:Nat):Int),t):=by
 intro n
 induction n with
 | zero=>
  intro i hn hi
  rw[zW,ag (by omega)]
  exact ⟨false,cl (by simp (disch:=omega) only[Em,El,aA,ag])⟩
 | succ n ih=>
  intro i hn hi
  obtain ⟨t,h⟩:=ih (i+1) (by omega) (by omega)
  rw[zW,af (by omega)]
  have e:Em CC a j (eA d) (i:Int)=if cf d[i]! d[a]! <0 then some (.inl ((i+1:Nat):Int)) else some (.inr ((i:Int),decide (cf d[i]! d[a]! <0))):=by
   simp (disch:=omega) only[Em,El,aA,dO,gJ,af,ag,wrap64,dY,gT,Int.toNat_natCast,Option.bind_some,gQ,gS,Ed.dE,Ed.dF,Ed.dG,Ed.re,gR,jt,iF,iA,V.cd,V.toInt_int,cond_true,cond_false]
  simp only[uP]
  by_cases h2:cf d[i]! d[a]! <0
  ·rw[af h2] at e
   rw[af h2]
   exact ⟨t,(eF e).trans h⟩
  ·rw[ag h2] at e
   rw[ag h2]
   exact ⟨_,cl e⟩
theorem ZX {a j:Nat} {d:Array Ed} (ha:a<d.size) (hj:j<d.size) (hs:d.size<1152921504606846976): ∀(n i:Nat),j+1-i=n→i≤d.size→
  ∃t,Loop (Eo CC a j (eA d)) (i:Int)=some (((scanUp (fun x=>ay x d[a]!) d j i:Nat):Int),t):=by
 intro n
 induction n with
 | zero=>
  intro i hn hi
  rw[zW,ag (by omega)]
  exact ⟨false,cl (by simp (disch:=omega) only[Eo,En,aA,ag])⟩
 | succ n ih=>
  intro i hn hi
  obtain ⟨t,h⟩:=ih (i+1) (by omega) (by omega)
  rw[zW,af (by omega)]
  have e:Eo CC a j (eA d) (i:Int)=if cf d[i]! d[a]! <0 then some (.inl ((i+1:Nat):Int)) else some (.inr ((i:Int),decide (cf d[i]! d[a]! <0))):=by
   simp (disch:=omega) only[Eo,En,aA,dO,gJ,af,ag,wrap64,dY,gT,Int.toNat_natCast,Option.bind_some,gQ,gS,Ed.dE,Ed.dF,Ed.dG,Ed.re,gR,jt,iF,iA,V.cd,V.toInt_int,cond_true,cond_false]
  simp only[uP]
  by_cases h2:cf d[i]! d[a]! <0
  ·rw[af h2] at e
   rw[af h2]
   exact ⟨t,(eF e).trans h⟩
  ·rw[ag h2] at e
   rw[ag h2]
   exact ⟨_,cl e⟩
theorem ZY {a i:Nat} {d:Array Ed} (ha:a<d.size) (hi:1≤i) (hs:d.size<1152921504606846976): ∀(j:Nat),j<d.size→
  ∃t,Loop (zO CC a i (eA d)) (j:Int)=some (((scanDown (fun x=> !ay x d[a]!) d i j:Nat):Int),t)
 | 0,hj=>⟨false,cl (by simp (disch:=omega) only[zO,zN,aA,ag];rfl)⟩
 | j+1,hj=>by
  obtain ⟨t,h⟩:=ZY ha hi hs j (by omega)
  rw[P2]
  by_cases h1:i≤j+1
  ·rw[af h1]
   have e:zO CC a i (eA d) ((j+1:Nat):Int)=if cf d[j+1]! d[a]! <0 then some (.inr (((j+1:Nat):Int),!decide (cf d[j+1]! d[a]! <0))) else some (.inl (j:Int)):=by
    simp (disch:=omega) only[zO,zN,aA,dO,gJ,af,ag,wrap64,dY,gT,Int.toNat_natCast,Option.bind_some,gQ,gS,Ed.dE,Ed.dF,Ed.dG,Ed.re,gR,jt,iF,iA,V.cd,V.toInt_int,cond_true,cond_false,uN]
   simp only[tu]
   by_cases h2:cf d[j+1]! d[a]! <0
   ·rw[af h2] at e
    rw[ag (pD h2)]
    exact ⟨_,cl e⟩
   ·rw[ag h2] at e
    rw[af h2]
    exact ⟨t,(eF e).trans h⟩
  ·rw[ag h1]
   exact ⟨false,cl (by simp (disch:=omega) only[zO,zN,aA,ag])⟩
theorem P5 {a i:Nat} {d:Array Ed} (ha:a<d.size) (hi:1≤i) (hs:d.size<1152921504606846976): ∀(j:Nat),j<d.size→
  ∃t,Loop (zQ CC a i (eA d)) (j:Int)=some (((scanDown (fun x=> !ay x d[a]!) d i j:Nat):Int),t)
 | 0,hj=>⟨false,cl (by simp (disch:=omega) only[zQ,zP,aA,ag];rfl)⟩
 | j+1,hj=>by
  obtain ⟨t,h⟩:=P5 ha hi hs j (by omega)
  rw[P2]
  by_cases h1:i≤j+1
  ·rw[af h1]
   have e:zQ CC a i (eA d) ((j+1:Nat):Int)=if cf d[j+1]! d[a]! <0 then some (.inr (((j+1:Nat):Int),!decide (cf d[j+1]! d[a]! <0))) else some (.inl (j:Int)):=by
    simp (disch:=omega) only[zQ,zP,aA,dO,gJ,af,ag,wrap64,dY,gT,Int.toNat_natCast,Option.bind_some,gQ,gS,Ed.dE,Ed.dF,Ed.dG,Ed.re,gR,jt,iF,iA,V.cd,V.toInt_int,cond_true,cond_false,uN]
   simp only[tu]
   by_cases h2:cf d[j+1]! d[a]! <0
   ·rw[af h2] at e
    rw[ag (pD h2)]
    exact ⟨_,cl e⟩
   ·rw[ag h2] at e
    rw[af h2]
    exact ⟨t,(eF e).trans h⟩
  ·rw[ag h1]
   exact ⟨false,cl (by simp (disch:=omega) only[zQ,zP,aA,ag])⟩
theorem ZZ {a j:Nat} {d:Array Ed} (ha:a<d.size) (hj:j<d.size) (hs:d.size<1152921504606846976): ∀(n i:Nat),j+1-i=n→i≤d.size→
  ∃t,Loop (Et CC a j (eA d)) (i:Int)=some (((scanUp (fun x=> !ay d[a]! x) d j i:Nat):Int),t):=by
 intro n
 induction n with
 | zero=>
  intro i hn hi
  rw[zW,ag (by omega)]
  exact ⟨false,cl (by simp (disch:=omega) only[Et,Es,aA,ag])⟩
 | succ n ih=>
  intro i hn hi
  obtain ⟨t,h⟩:=ih (i+1) (by omega) (by omega)
  rw[zW,af (by omega)]
  have e:Et CC a j (eA d) (i:Int)=if cf d[a]! d[i]! <0 then some (.inr ((i:Int),!decide (cf d[a]! d[i]! <0))) else some (.inl ((i+1:Nat):Int)):=by
   simp (disch:=omega) only[Et,Es,aA,dO,gJ,af,ag,wrap64,dY,gT,Int.toNat_natCast,Option.bind_some,gQ,gS,Ed.dE,Ed.dF,Ed.dG,Ed.re,gR,jt,iF,iA,V.cd,V.toInt_int,cond_true,cond_false]
  simp only[tu]
  by_cases h2:cf d[a]! d[i]! <0
  ·rw[af h2] at e
   rw[ag (pD h2)]
   exact ⟨_,cl e⟩
  ·rw[ag h2] at e
   rw[af h2]
   exact ⟨t,(eF e).trans h⟩
theorem P6 {a i:Nat} {d:Array Ed} (ha:a<d.size) (hi:1≤i) (hs:d.size<1152921504606846976): ∀(j:Nat),j<d.size→
  ∃t,Loop (zU CC a i (eA d)) (j:Int)=some (((scanDown (fun x=>ay d[a]! x) d i j:Nat):Int),t)
 | 0,hj=>⟨false,cl (by simp (disch:=omega) only[zU,zT,aA,ag];rfl)⟩
 | j+1,hj=>by
  obtain ⟨t,h⟩:=P6 ha hi hs j (by omega)
  rw[P2]
  by_cases h1:i≤j+1
  ·rw[af h1]
   have e:zU CC a i (eA d) ((j+1:Nat):Int)=if cf d[a]! d[j+1]! <0 then some (.inl (j:Int)) else some (.inr (((j+1:Nat):Int),decide (cf d[a]! d[j+1]! <0))):=by
    simp (disch:=omega) only[zU,zT,aA,dO,gJ,af,ag,wrap64,dY,gT,Int.toNat_natCast,Option.bind_some,gQ,gS,Ed.dE,Ed.dF,Ed.dG,Ed.re,gR,jt,iF,iA,V.cd,V.toInt_int,cond_true,cond_false,uN]
   simp only[uP]
   by_cases h2:cf d[a]! d[j+1]! <0
   ·rw[af h2] at e
    rw[af h2]
    exact ⟨t,(eF e).trans h⟩
   ·rw[ag h2] at e
    rw[ag h2]
    exact ⟨_,cl e⟩
  ·rw[ag h1]
   exact ⟨false,cl (by simp (disch:=omega) only[zU,zT,aA,ag])⟩
theorem ak0 {a:Nat}: ∀(n i j:Nat) (d:Array Ed),j+1-i≤n→1≤i→i≤d.size→a<d.size→j<d.size→d.size<1152921504606846976→
  ∃x z,Loop (zR CC a) ((i:Int),(j:Int),eA d)=some (x,(((partLoop ay a i j d).1:Nat):Int),z,eA (partLoop ay a i j d).2):=by
 intro n
 induction n with
 | zero=>
  intro i j d hn h1 h2 ha hj hs
  obtain ⟨t3,e3⟩:=ZX (a:=a) ha hj hs _ i rfl h2
  have g1:=scanUp_ge (fun x=>ay x d[a]!) d j i
  have g2:=scanDown_le (fun x=> !ay x d[a]!) d (scanUp (fun x=>ay x d[a]!) d j i) j
  obtain ⟨t4,e4⟩:=P5 (a:=a) (i:=scanUp (fun x=>ay x d[a]!) d j i) ha (by omega) hs j hj
  rw[partLoop_eq,af (by omega)]
  refine ⟨((scanUp (fun x=>ay x d[a]!) d j i:Nat):Int),true,cl ?_⟩
  simp only[zR,Ep,un]
  rw[e3]
  simp only[Option.bind_some,un]
  rw[e4]
  simp (disch:=omega) only[Option.bind_some,un,pf,cond_true]
 | succ n ih=>
  intro i j d hn h1 h2 ha hj hs
  obtain ⟨t3,e3⟩:=ZX (a:=a) ha hj hs _ i rfl h2
  have g1:=scanUp_ge (fun x=>ay x d[a]!) d j i
  have g2:=scanDown_le (fun x=> !ay x d[a]!) d (scanUp (fun x=>ay x d[a]!) d j i) j
  obtain ⟨t4,e4⟩:=P5 (a:=a) (i:=scanUp (fun x=>ay x d[a]!) d j i) ha (by omega) hs j hj
  rw[partLoop_eq]
  have f:zR CC a ((i:Int),(j:Int),eA d)=zR CC a ((i:Int),(j:Int),eA d):=rfl
  conv at f=>rhs;simp only[zR,Ep,un];rw[e3];simp only[Option.bind_some,un];rw[e4];simp only[Option.bind_some,un]
  generalize iM:scanUp (fun x=>ay x d[a]!) d j i=i2 at*
  generalize cp:scanDown (fun x=> !ay x d[a]!) d i2 j=j2 at*
  by_cases h:i2>j2
  ·rw[af h]
   refine ⟨(i2:Int),true,cl (f.trans ?_)⟩
   simp (disch:=omega) only[Option.bind_some,pf,cond_true]
  ·rw[ag h]
   obtain ⟨x,z,e⟩:=ih (i2+1) (j2-1) (swp d i2 j2) (by omega) (by omega) (by rw[size_swp];omega) (by rw[size_swp];omega) (by rw[size_swp];omega) (by rw[size_swp];omega)
   refine ⟨x,z,(eF (f.trans ?_)).trans e⟩
   simp (disch:=omega) only[aA,dO,gJ,af,ag,wrap64,dY,gT,Int.toNat_natCast,Option.bind_some,gQ,gS,Ed.dE,Ed.dF,Ed.dG,Ed.re,gR,jt,iF,iA,V.cd,V.toInt_int,cond_true,cond_false,kR]
   rfl
theorem ak1 (d:Array Ed) (a b pivot:Nat):partition ay d a b pivot=
  if scanUp (fun x=>ay x (swp d a pivot)[a]!) (swp d a pivot) (b-1) (a+1)>scanDown (fun x=> !ay x (swp d a pivot)[a]!) (swp d a pivot) (scanUp (fun x=>ay x (swp d a pivot)[a]!) (swp d a pivot) (b-1) (a+1)) (b-1) then
   (scanDown (fun x=> !ay x (swp d a pivot)[a]!) (swp d a pivot) (scanUp (fun x=>ay x (swp d a pivot)[a]!) (swp d a pivot) (b-1) (a+1)) (b-1),true,swp (swp d a pivot) (scanDown (fun x=> !ay x (swp d a pivot)[a]!) (swp d a pivot) (scanUp (fun x=>ay x (swp d a pivot)[a]!) (swp d a pivot) (b-1) (a+1)) (b-1)) a)
  else
   ((partLoop ay a (scanUp (fun x=>ay x (swp d a pivot)[a]!) (swp d a pivot) (b-1) (a+1)+1) (scanDown (fun x=> !ay x (swp d a pivot)[a]!) (swp d a pivot) (scanUp (fun x=>ay x (swp d a pivot)[a]!) (swp d a pivot) (b-1) (a+1)) (b-1)-1) (swp (swp d a pivot) (scanUp (fun x=>ay x (swp d a pivot)[a]!) (swp d a pivot) (b-1) (a+1)) (scanDown (fun x=> !ay x (swp d a pivot)[a]!) (swp d a pivot) (scanUp (fun x=>ay x (swp d a pivot)[a]!) (swp d a pivot) (b-1) (a+1)) (b-1)))).1,false,
    swp (partLoop ay a (scanUp (fun x=>ay x (swp d a pivot)[a]!) (swp d a pivot) (b-1) (a+1)+1) (scanDown (fun x=> !ay x (swp d a pivot)[a]!) (swp d a pivot) (scanUp (fun x=>ay x (swp d a pivot)[a]!) (swp d a pivot) (b-1) (a+1)) (b-1)-1) (swp (swp d a pivot) (scanUp (fun x=>ay x (swp d a pivot)[a]!) (swp d a pivot) (b-1) (a+1)) (scanDown (fun x=> !ay x (swp d a pivot)[a]!) (swp d a pivot) (scanUp (fun x=>ay x (swp d a pivot)[a]!) (swp d a pivot) (b-1) (a+1)) (b-1)))).2
    (partLoop ay a (scanUp (fun x=>ay x (swp d a pivot)[a]!) (swp d a pivot) (b-1) (a+1)+1) (scanDown (fun x=> !ay x (swp d a pivot)[a]!) (swp d a pivot) (scanUp (fun x=>ay x (swp d a pivot)[a]!) (swp d a pivot) (b-1) (a+1)) (b-1)-1) (swp (swp d a pivot) (scanUp (fun x=>ay x (swp d a pivot)[a]!) (swp d a pivot) (b-1) (a+1)) (scanDown (fun x=> !ay x (swp d a pivot)[a]!) (swp d a pivot) (scanUp (fun x=>ay x (swp d a pivot)[a]!) (swp d a pivot) (b-1) (a+1)) (b-1)))).1 a):=rfl
theorem zX (d:Array Ed) (i j:Nat):eA ((d.setIfInBounds i d[j]!).setIfInBounds j d[i]!)=eA (swp d i j):=rfl
theorem ak2 {a b pivot:Nat} {d:Array Ed} (hp:pivot<b) (gH:a<b) (hb:b≤d.size) (hs:d.size<1152921504606846976):
  CC qa [.int .i64 (a:Int),.int .i64 (b:Int),.int .i64 (pivot:Int),.list av (eA d)]=
   some [.int .i64 ((partition ay d a b pivot).1:Int),.bool (partition ay d a b pivot).2.1,.list av (eA (partition ay d a b pivot).2.2)]:=by
 refine akE ?_
 unfold ZP
 have z1:(swp d a pivot).size=d.size:=size_swp ..
 obtain ⟨t1,e1⟩:=akZ (a:=a) (j:=b-1) (d:=swp d a pivot) (by omega) (by omega) (by omega) _ (a+1) rfl (by omega)
 have g1:=scanUp_ge (fun x=>ay x (swp d a pivot)[a]!) (swp d a pivot) (b-1) (a+1)
 have g2:=scanDown_le (fun x=> !ay x (swp d a pivot)[a]!) (swp d a pivot) (scanUp (fun x=>ay x (swp d a pivot)[a]!) (swp d a pivot) (b-1) (a+1)) (b-1)
 obtain ⟨t2,e2⟩:=ZY (a:=a) (i:=scanUp (fun x=>ay x (swp d a pivot)[a]!) (swp d a pivot) (b-1) (a+1)) (d:=swp d a pivot) (by omega) (by omega) (by omega) (b-1) (by omega)
 have e0:=ak1 d a b pivot
 rw[lK (i:=pivot) (by omega),lM (by omega),lK (i:=a) (by omega),lM (by omega),lK (i:=a) (by omega),lM (by omega),JL (i:=pivot) (by omega),JM (by omega)]
 simp only[Ed.dE,Ed.dF,Ed.dG,Ed.re,Int.toNat_natCast,gR,zX]
 simp (disch:=omega) only[kR,dY,wrap64]
 rw[e1]
 simp only[Option.bind_some,un]
 rw[e2]
 simp only[Option.bind_some,un]
 generalize iM:scanUp (fun x=>ay x (swp d a pivot)[a]!) (swp d a pivot) (b-1) (a+1)=i2 at*
 generalize cp:scanDown (fun x=> !ay x (swp d a pivot)[a]!) (swp d a pivot) i2 (b-1)=j2 at*
 generalize swp d a pivot=d1 at*
 by_cases h:i2>j2
 ·rw[af h] at e0
  rw[e0,aA,af (by omega)]
  rw[lK (i:=a) (by omega)];(first|rw[lM (by omega)]|rw[tw (by omega)]);rw[lK (i:=j2) (by omega)];(first|rw[lM (by omega)]|rw[tw (by omega)]);rw[lK (i:=j2) (by omega)];(first|rw[lM (by omega)]|rw[tw (by omega)]);rw[JL (i:=a) (by omega)];(first|rw[JM (by omega)]|rw[P4 (by omega)])
  simp only[Ed.dE,Ed.dF,Ed.dG,Ed.re,Int.toNat_natCast,gR,zX]
 ·rw[ag h] at e0
  rw[e0,aA,ag (by omega)]
  have z2:(swp d1 i2 j2).size=d1.size:=size_swp ..
  obtain ⟨x,z,e5⟩:=ak0 (a:=a) _ (i2+1) (j2-1) (swp d1 i2 j2) (ax _) (by omega) (by omega) (by omega) (by omega) (by omega)
  obtain ⟨q1,q2⟩:=akY (a:=a) _ (i2+1) (j2-1) (swp d1 i2 j2) (ax _)
  rw[lK (i:=j2) (by omega)];(first|rw[lM (by omega)]|rw[tw (by omega)]);rw[lK (i:=i2) (by omega)];(first|rw[lM (by omega)]|rw[tw (by omega)]);rw[lK (i:=i2) (by omega)];(first|rw[lM (by omega)]|rw[tw (by omega)]);rw[JL (i:=j2) (by omega)];(first|rw[JM (by omega)]|rw[P4 (by omega)])
  simp only[Ed.dE,Ed.dF,Ed.dG,Ed.re,Int.toNat_natCast,gR,zX]
  simp (disch:=omega) only[kR,dY,wrap64]
  rw[e5]
  generalize partLoop ay a (i2+1) (j2-1) (swp d1 i2 j2)=r at*
  simp only[Option.bind_some,un]
  rw[lK (i:=a) (by omega)];(first|rw[lM (by omega)]|rw[tw (by omega)]);rw[lK (i:=r.1) (by omega)];(first|rw[lM (by omega)]|rw[tw (by omega)]);rw[lK (i:=r.1) (by omega)];(first|rw[lM (by omega)]|rw[tw (by omega)]);rw[JL (i:=a) (by omega)];(first|rw[JM (by omega)]|rw[P4 (by omega)])
  simp only[Ed.dE,Ed.dF,Ed.dG,Ed.re,Int.toNat_natCast,gR,zX]
theorem ak3 {a:Nat}: ∀(n i j:Nat) (d:Array Ed),j+1-i≤n→1≤i→i≤d.size→a<d.size→j<d.size→d.size<1152921504606846976→
  ∃x z,Loop (zV CC a) ((i:Int),(j:Int),eA d)=some ((((partEqLoop ay a i j d).1:Nat):Int),x,z,eA (partEqLoop ay a i j d).2):=by
 intro n
 induction n with
 | zero=>
  intro i j d hn h1 h2 ha hj hs
  obtain ⟨t3,e3⟩:=ZZ (a:=a) ha hj hs _ i rfl h2
  have g1:=scanUp_ge (fun x=> !ay d[a]! x) d j i
  have g2:=scanDown_le (fun x=>ay d[a]! x) d (scanUp (fun x=> !ay d[a]! x) d j i) j
  obtain ⟨t4,e4⟩:=P6 (a:=a) (i:=scanUp (fun x=> !ay d[a]! x) d j i) ha (by omega) hs j hj
  rw[partEqLoop_eq,af (by omega)]
  refine ⟨((scanDown (fun x=>ay d[a]! x) d (scanUp (fun x=> !ay d[a]! x) d j i) j:Nat):Int),true,cl ?_⟩
  simp only[zV,Eu,un]
  rw[e3]
  simp only[Option.bind_some,un]
  rw[e4]
  simp (disch:=omega) only[Option.bind_some,un,pf,cond_true]
 | succ n ih=>
  intro i j d hn h1 h2 ha hj hs
  obtain ⟨t3,e3⟩:=ZZ (a:=a) ha hj hs _ i rfl h2
  have g1:=scanUp_ge (fun x=> !ay d[a]! x) d j i
  have g2:=scanDown_le (fun x=>ay d[a]! x) d (scanUp (fun x=> !ay d[a]! x) d j i) j
  obtain ⟨t4,e4⟩:=P6 (a:=a) (i:=scanUp (fun x=> !ay d[a]! x) d j i) ha (by omega) hs j hj
  rw[partEqLoop_eq]
  have f:zV CC a ((i:Int),(j:Int),eA d)=zV CC a ((i:Int),(j:Int),eA d):=rfl
  conv at f=>rhs;simp only[zV,Eu,un];rw[e3];simp only[Option.bind_some,un];rw[e4];simp only[Option.bind_some,un]
  generalize iM:scanUp (fun x=> !ay d[a]! x) d j i=i2 at*
  generalize cp:scanDown (fun x=>ay d[a]! x) d i2 j=j2 at*
  by_cases h:i2>j2
  ·rw[af h]
   refine ⟨(j2:Int),true,cl (f.trans ?_)⟩
   simp (disch:=omega) only[Option.bind_some,pf,cond_true]
  ·rw[ag h]
   obtain ⟨x,z,e⟩:=ih (i2+1) (j2-1) (swp d i2 j2) (by omega) (by omega) (by rw[size_swp];omega) (by rw[size_swp];omega) (by rw[size_swp];omega) (by rw[size_swp];omega)
   refine ⟨x,z,(eF (f.trans ?_)).trans e⟩
   simp (disch:=omega) only[aA,dO,gJ,af,ag,wrap64,dY,gT,Int.toNat_natCast,Option.bind_some,gQ,gS,Ed.dE,Ed.dF,Ed.dG,Ed.re,gR,jt,iF,iA,V.cd,V.toInt_int,cond_true,cond_false,kR]
   rfl
theorem ak4 {a b pivot:Nat} {d:Array Ed} (hp:pivot<b) (gH:a<b) (hb:b≤d.size) (hs:d.size<1152921504606846976):
  CC yW [.int .i64 (a:Int),.int .i64 (b:Int),.int .i64 (pivot:Int),.list av (eA d)]=
   some [.int .i64 ((partitionEqual ay d a b pivot).1:Int),.list av (eA (partitionEqual ay d a b pivot).2)]:=by
 refine akL ?_
 unfold ZS
 have z1:(swp d a pivot).size=d.size:=size_swp ..
 obtain ⟨x,z,e⟩:=ak3 (a:=a) _ (a+1) (b-1) (swp d a pivot) (ax _) (by omega) (by omega) (by omega) (by omega) (by omega)
 simp (disch:=omega) only[aA,dO,af,gQ,gS,Int.toNat_natCast,Option.bind_some,Ed.dE,Ed.dF,Ed.dG,Ed.re,gR,jt,iF,kR,dY,wrap64,zX]
 rw[e]
 rfl
theorem ak5 {a b j:Nat} {d:Array Ed} (hb:b≤d.size) (hs:d.size<1152921504606846976): ∀(n i:Nat),b-i=n→1≤i→i≤b→
  ∃t,Loop (Ew CC a b j (eA d)) (i:Int)=some (((scanSorted ay d b i:Nat):Int),t):=by
 intro n
 induction n with
 | zero=>
  intro i hn h1 hi
  rw[JJ,ag (by omega)]
  exact ⟨false,cl (by simp (disch:=omega) only[Ew,Ev,aA,ag])⟩
 | succ n ih=>
  intro i hn h1 hi
  obtain ⟨t,h⟩:=ih (i+1) (by omega) (by omega) (by omega)
  rw[JJ,af (by omega)]
  have e:Ew CC a b j (eA d) (i:Int)=if cf d[i]! d[i-1]! <0 then some (.inr ((i:Int),!decide (cf d[i]! d[i-1]! <0))) else some (.inl ((i+1:Nat):Int)):=by
   simp (disch:=omega) only[Ew,Ev,kR,aA,dO,gJ,af,ag,wrap64,dY,gT,Int.toNat_natCast,Option.bind_some,gQ,gS,Ed.dE,Ed.dF,Ed.dG,Ed.re,gR,jt,iF,iA,V.cd,V.toInt_int,cond_true,cond_false]
  by_cases h2:cf d[i]! d[i-1]! <0
  ·rw[af h2] at e⊢
   exact ⟨_,cl e⟩
  ·rw[ag h2] at e⊢
   exact ⟨t,(eF e).trans h⟩
theorem Z0: ∀(j:Nat) (d:Array Ed),(shiftDown ay j d).size=d.size
 | 0,_=>rfl
 | j+1,d=>by
  rw[ZW]
  split
  ·rw[Z0 j,size_swp]
  ·rfl
theorem ak6 {b:Nat}: ∀(n j:Nat) (d:Array Ed),b-j=n→(shiftUp ay b j d).size=d.size:=by
 intro n
 induction n with
 | zero=>intro j d h;rw[JK,ag (by omega)]
 | succ n ih=>
  intro j d h
  rw[JK,af (by omega)]
  split
  ·rw[ih _ _ (by omega),size_swp]
  ·rfl
theorem Z1 {a b i k:Nat}: ∀(j:Nat) (d:Array Ed),j<d.size→d.size<1152921504606846976→
  ∃t,Loop (Ey CC a b i k) ((j:Int),eA d)=some (t,eA (shiftDown ay j d))
 | 0,d,hj,hs=>⟨(0:Nat),cl (by
   simp (disch:=omega) only[Ey,Ex,un,aA,ag]
   rfl)⟩
 | j+1,d,hj,hs=>by
  obtain ⟨t,ih⟩:=Z1 (a:=a) (b:=b) (i:=i) (k:=k) j (swp d (j+1) j) (by rw[size_swp];omega) (by rw[size_swp];omega)
  rw[ZW]
  have e:Ey CC a b i k (((j+1:Nat):Int),eA d)=if cf d[j+1]! d[j]! <0 then some (.inl ((j:Int),eA (swp d (j+1) j))) else some (.inr (((j+1:Nat):Int),eA d)):=by
   simp (disch:=omega) only[Ey,Ex,un,aA,dO,gJ,af,ag,wrap64,dY,gT,Int.toNat_natCast,Option.bind_some,gQ,gS,Ed.dE,Ed.dF,Ed.dG,Ed.re,gR,jt,iF,iA,V.cd,V.toInt_int,cond_true,cond_false,uN]
   rfl
  by_cases h2:cf d[j+1]! d[j]! <0
  ·rw[af h2] at e⊢
   exact ⟨t,(eF e).trans ih⟩
  ·rw[ag h2] at e⊢
   exact ⟨_,cl e⟩
theorem ak7 {a b i k:Nat}: ∀(n j:Nat) (d:Array Ed),b-j=n→1≤j→j≤b→b≤d.size→d.size<1152921504606846976→
  ∃t,Loop (EA CC a b i k) ((j:Int),eA d)=some (t,eA (shiftUp ay b j d)):=by
 intro n
 induction n with
 | zero=>
  intro j d hn h1 hj hb hs
  rw[JK,ag (by omega)]
  exact ⟨(j:Int),cl (by
   simp (disch:=omega) only[EA,Ez,un,aA,ag])⟩
 | succ n ih=>
  intro j d hn h1 hj hb hs
  obtain ⟨t,h⟩:=ih (j+1) (swp d j (j-1)) (by omega) (by omega) (by omega) (by rw[size_swp];omega) (by rw[size_swp];omega)
  rw[JK,af (by omega)]
  have e:EA CC a b i k ((j:Int),eA d)=if cf d[j]! d[j-1]! <0 then some (.inl (((j+1:Nat):Int),eA (swp d j (j-1)))) else some (.inr ((j:Int),eA d)):=by
   simp (disch:=omega) only[EA,Ez,un,kR,aA,dO,gJ,af,ag,wrap64,dY,gT,Int.toNat_natCast,Option.bind_some,gQ,gS,Ed.dE,Ed.dF,Ed.dG,Ed.re,gR,jt,iF,iA,V.cd,V.toInt_int,cond_true,cond_false]
   rfl
  by_cases h2:cf d[j]! d[j-1]! <0
  ·rw[af h2] at e⊢
   exact ⟨t,(eF e).trans h⟩
  ·rw[ag h2] at e⊢
   exact ⟨_,cl e⟩
theorem ak8 {d:Array Ed} {b:Nat}: ∀(n i:Nat),b-i=n→i≤b→i≤scanSorted ay d b i∧scanSorted ay d b i≤b:=by
 intro n
 induction n with
 | zero=>intro i hn hi;rw[JJ,ag (by omega)];omega
 | succ n ih=>
  intro i hn hi
  rw[JJ,af (by omega)]
  obtain ⟨h1,h2⟩:=ih (i+1) (by omega) (by omega)
  split<;>omega
theorem ak9 {a b:Nat}: ∀(s i:Nat) (d:Array Ed),s≤5→a<i→i≤b→b≤d.size→d.size<1152921504606846976→
  (Loop (uQ CC a b) ((i:Int),((5-s:Nat):Int),eA d)=some (.inl ((partialIns ay a b s i d).2,eA (partialIns ay a b s i d).1)))∨
  (∃x y z,(partialIns ay a b s i d).2=false∧Loop (uQ CC a b) ((i:Int),((5-s:Nat):Int),eA d)=some (.inr (x,y,z,eA (partialIns ay a b s i d).1))):=by
 intro s
 induction s with
 | zero=>
  intro i d hs5 hi P7 hb hs
  refine .inr ⟨(i:Int),((5:Nat):Int),false,rfl,cl ?_⟩
  simp (disch:=omega) only[uQ,EB,un,tp,cond_false]
  rfl
 | succ s ih=>
  intro i d hs5 hi P7 hb hs
  obtain ⟨t1,e1⟩:=ak5 (a:=a) (j:=5-(s+1)) hb hs _ i rfl (by omega) P7
  obtain ⟨q1,q2⟩:=ak8 (d:=d) _ i rfl P7
  rw[partialIns_succ]
  have f:uQ CC a b ((i:Int),((5-(s+1):Nat):Int),eA d)=uQ CC a b ((i:Int),((5-(s+1):Nat):Int),eA d):=rfl
  conv at f=>rhs;simp only[uQ,EB,un];rw[aA,af (by omega),e1];simp only[Option.bind_some,un]
  generalize scanSorted ay d b i=k at*
  by_cases h1:k=b
  ·rw[af h1]
   left
   refine cl (f.trans ?_)
   rw[oU,af (by omega)]
  ·rw[ag h1]
   by_cases h2:b-a<50
   ·rw[af h2]
    left
    refine cl (f.trans ?_)
    rw[oU,ag (by omega),wrap64 (by omega) (by omega),aA,af (by omega)]
   ·rw[ag h2]
    have z1:(swp d k (k-1)).size=d.size:=size_swp ..
    have z2:(fixDown ay a k (swp d k (k-1))).size=d.size:=by
     unfold fixDown
     split
     ·rw[Z0,z1]
     ·exact z1
    have z3:(fixUp ay b k (fixDown ay a k (swp d k (k-1)))).size=d.size:=by
     unfold fixUp
     split
     ·rw[ak6 _ _ _ rfl,z2]
     ·exact z2
    obtain ⟨t2,e2⟩:=Z1 (a:=a) (b:=b) (i:=k) (k:=5-(s+1)) (k-1) (swp d k (k-1)) (by omega) (by omega)
    obtain ⟨t4,e4⟩:=ak7 (a:=a) (b:=b) (i:=k) (k:=5-(s+1)) _ (k+1) (fixDown ay a k (swp d k (k-1))) rfl (by omega) (by omega) (by omega) (by omega)
    have e5:uQ CC a b ((i:Int),((5-(s+1):Nat):Int),eA d)=some (.inl ((k:Int),((5-s:Nat):Int),eA (fixUp ay b k (fixDown ay a k (swp d k (k-1)))))):=by
     refine f.trans ?_
     rw[oU,ag (by omega),wrap64 (by omega) (by omega),aA,ag (by omega)]
     simp (disch:=omega) only[aA,dO,af,gQ,gS,Int.toNat_natCast,Option.bind_some,Ed.dE,Ed.dF,Ed.dG,Ed.re,gR,jt,iF,kR,dY,oa,wrap64,zX,JI]
     rw[show 5-(s+1)+1=5-s by omega]
     unfold fixDown at e4⊢
     unfold fixUp
     have c1:(((k-a:Nat):Int)≥2)=(k-a≥2):=propext (by omega)
     have c2:(((b-k:Nat):Int)≥2)=(b-k≥2):=propext (by omega)
     simp only[c1,c2]
     by_cases g1:k-a≥2
     ·by_cases g2:b-k≥2
      ·simp only[g1,g2,kz,e2,Option.bind_some,un] at e4⊢
       rw[e4]
       rfl
      ·simp only[g1,g2,kz,lO,e2,Option.bind_some,un]
     ·by_cases g2:b-k≥2
      ·simp only[g1,g2,kz,lO] at e4⊢
       rw[e4]
       rfl
      ·exact absurd (show b-k≥2 by omega) g2
    rw[eF e5]
    exact ih k _ (by omega) (by omega) (by omega) (by omega) (by omega)
theorem Z2 {a b:Nat} {d:Array Ed} (gH:a<b) (hb:b≤d.size) (hs:d.size<1152921504606846976):
  CC ML [.int .i64 (a:Int),.int .i64 (b:Int),.list av (eA d)]=
   some [.bool (partialInsertionSort ay d a b).2,.list av (eA (partialInsertionSort ay d a b).1)]:=by
 refine akX ?_
 unfold ZV
 simp (disch:=omega) only[dY,wrap64]
 rcases ak9 (a:=a) (b:=b) 5 (a+1) d (ax _) (by omega) (by omega) hb hs with h|⟨x,y,z,h0,h⟩
 ·rw[show ((5-5:Nat):Int)=0 from rfl] at h
  rw[h]
  rfl
 ·rw[show ((5-5:Nat):Int)=0 from rfl] at h
  rw[h]
  unfold partialInsertionSort
  rw[h0]
  rfl
end Go.AM.SL
set_option maxRecDepth 100000
namespace Go.AM
open Go.Proofs
noncomputable abbrev uR:Code:=cJ Tryd.prog (au.bc 173)
noncomputable def ED (C:ae) (data:List V) (i j k':Int) (t36:Bool) (iW:Int) {β:Type} (kr:(Int × Int × Int × Int)→Option β):Option β:=
 bif t36 then
  (C Cn [.list av data,.int .i64 i,.int .i64 iW]).bind fun r1=>
  (C Cn [.list av data,.int .i64 j,.int .i64 ((V.nth (r1.drop 1) 0).toInt)]).bind fun r2=>
  (C Cn [.list av data,.int .i64 k',.int .i64 ((V.nth (r2.drop 1) 0).toInt)]).bind fun r3=>
  kr ((V.nth r1 0).toInt,(V.nth r2 0).toInt,(V.nth r3 0).toInt,(V.nth (r3.drop 1) 0).toInt)
 else
  kr (i,j,k',iW)
noncomputable def EE (C:ae) (data:List V) (l i j k':Int) (t34:Bool) (iW:Int) {β:Type} (kr:(Int × Int)→Option β):Option β:=
 bif t34 then
  ED C data i j k' (decide ((l:Int)≥50)) iW (un fun (gf:Int)=>un fun (j_5:Int)=>un fun (k_6:Int) (ala:Int)=>
   (C HX [.list av data,.int .i64 gf,.int .i64 j_5,.int .i64 k_6,.int .i64 ala]).bind fun r8=>
   kr ((V.nth r8 0).toInt,(V.nth (r8.drop 1) 0).toInt))
 else
  kr (j,iW)
noncomputable def Z3 (C:ae):cD:=fun β n ds k=>
 bif Nat.beq n 591 then mM Ox [[1,0,0,0,0]] (@ED C) ds k else
 bif Nat.beq n 559 then mM Oy [[0,0]] (@EE C) ds k else
 none
abbrev Z4 (C:ae) (b:cB):Prop:=cC Tryd.prog au C (Z3 C) 173 (cQ Tryd.prog (au.bc 173)) (au.sin 173).bj.length b
theorem alb (C:ae):Z4 C (.cond 36 (ao [1,1,1,1,1,1,0,1,0,0,1,0] uR) (ao [1,1,1,1,1,1,0,1,0,0,1,1] uR)):=
 nL Ox [[1,0,0,0,0]] (@ED C) (by kernel_rfl) (aW (bs:=[]) (by kernel_rfl) ar) (aW (bs:=[]) (by kernel_rfl) ar) (fun ds=>by kernel_rfl) (fun i β k=>by kernel_rfl) (fun β ds k=>by kernel_rfl)
theorem alc (C:ae):Z4 C (.cond 34 (ao [1,1,1,1,1,1,0,1,0] uR) (ao [1,1,1,1,1,1,0,1,1] uR)):=
 nL Oy [[0,0]] (@EE C) (by kernel_rfl) (aW (bs:=[.cond 36 (ao [1,1,1,1,1,1,0,1,0,0,1,0] uR) (ao [1,1,1,1,1,1,0,1,0,0,1,1] uR)]) (by kernel_rfl) (bm (alb C) ar)) (aW (bs:=[]) (by kernel_rfl) ar) (fun ds=>by kernel_rfl) (fun i β k=>by kernel_rfl) (fun β ds k=>by kernel_rfl)
noncomputable def P8 (C:ae) (data:List V) (a b':Int):Option (List V):=
 EE C data (IntKind.wrap .i64 (b'-a)) (IntKind.wrap .i64 (a+(IntKind.wrap .i64 (1*(IntKind.wrap .i64 (Int.tdiv (IntKind.wrap .i64 (b'-a)) 4)))))) (IntKind.wrap .i64 (a+(IntKind.wrap .i64 (2*(IntKind.wrap .i64 (Int.tdiv (IntKind.wrap .i64 (b'-a)) 4)))))) (IntKind.wrap .i64 (a+(IntKind.wrap .i64 (3*(IntKind.wrap .i64 (Int.tdiv (IntKind.wrap .i64 (b'-a)) 4)))))) (decide (((IntKind.wrap .i64 (b'-a)):Int)≥8)) 0 (un fun (P9:Int) (Z5:Int)=>
  bif (Z5:Int)==0 then
   some [.int .i64 P9,.int .i64 1]
  else
   bif (Z5:Int)==12 then
   some [.int .i64 P9,.int .i64 2]
   else
   some [.int .i64 P9,.int .i64 0])
theorem Z6 {data:List V} {a b':Int} {r:Option (List V)} (h:P8 CC data a b'=r):CC HW [.list av data,.int .i64 a,.int .i64 b']=r:=
 bD (key:=173) (L:=Z3 CC) (bs:=[.cond 34 (ao [1,1,1,1,1,1,0,1,0] uR) (ao [1,1,1,1,1,1,0,1,1] uR)]) (by kernel_rfl) (bm (alc CC) ar) (bB (by kernel_rfl) h)
noncomputable def Z7 (C:ae) (data:List V) (a b' c iW:Int):Option (List V):=
 (C Co [.list av data,.int .i64 a,.int .i64 b',.int .i64 iW]).bind fun r1=>
 (C Co [.list av data,.int .i64 ((V.nth (r1.drop 1) 0).toInt),.int .i64 c,.int .i64 ((V.nth (r1.drop 2) 0).toInt)]).bind fun r2=>
 (C Co [.list av data,.int .i64 ((V.nth r1 0).toInt),.int .i64 ((V.nth r2 0).toInt),.int .i64 ((V.nth (r2.drop 2) 0).toInt)]).bind fun r3=>
 some [.int .i64 ((V.nth (r3.drop 1) 0).toInt),.int .i64 ((V.nth (r3.drop 2) 0).toInt)]
theorem ald {data:List V} {a b' c iW:Int} {r:Option (List V)} (h:Z7 CC data a b' c iW=r):CC HX [.list av data,.int .i64 a,.int .i64 b',.int .i64 c,.int .i64 iW]=r:=
 bD (key:=175) (L:=dJ) (bs:=[]) (by kernel_rfl) ar (bB (by kernel_rfl) h)
noncomputable def Qa (C:ae) (data:List V) (a b' iW:Int):Option (List V):=
 (idx data b').bind fun x1=>
 (idx data a).bind fun x2=>
 (C bG [.int .i64 ((x1.cell 0).toInt),.int .i64 ((x1.cell 1).toInt),.int .i64 ((x1.cell 2).toInt),.int .i64 ((x2.cell 0).toInt),.int .i64 ((x2.cell 1).toInt),.int .i64 ((x2.cell 2).toInt)]).bind fun r3=>
 bif decide ((((V.nth r3 0).toInt):Int)<0) then
  some [.int .i64 b',.int .i64 a,.int .i64 (IntKind.wrap .i64 (iW+1))]
 else
  some [.int .i64 a,.int .i64 b',.int .i64 iW]
theorem Z8 {data:List V} {a b' iW:Int} {r:Option (List V)} (h:Qa CC data a b' iW=r):CC Co [.list av data,.int .i64 a,.int .i64 b',.int .i64 iW]=r:=
 bD (key:=176) (L:=dJ) (bs:=[]) (by kernel_rfl) ar (bB (by kernel_rfl) h)
noncomputable def Z9 (C:ae) (data:List V) (a iW:Int):Option (List V):=
 (C HX [.list av data,.int .i64 (IntKind.wrap .i64 (a-1)),.int .i64 a,.int .i64 (IntKind.wrap .i64 (a+1)),.int .i64 iW]).bind fun r1=>
 some [.int .i64 ((V.nth r1 0).toInt),.int .i64 ((V.nth (r1.drop 1) 0).toInt)]
theorem ale {data:List V} {a iW:Int} {r:Option (List V)} (h:Z9 CC data a iW=r):CC Cn [.list av data,.int .i64 a,.int .i64 iW]=r:=
 bD (key:=174) (L:=dJ) (bs:=[]) (by kernel_rfl) ar (bB (by kernel_rfl) h)
noncomputable abbrev zY:Code:=cJ Tryd.prog (au.bc 172)
noncomputable def JN (C:ae) (a length zZ kT other:Int) (t45:Bool) (ah:List V) (EF:Int) {β:Type} (kr:(Int)→Option β):Option β:=
 bif t45 then
  kr (IntKind.wrap .i64 (other-length))
 else
  kr other
noncomputable def EG (C:ae) (a length zZ kT:Int) (ah:List V) (EF:Int) {β:Type} (kn:(Int × (List V) × Int)→Option β) (kr:(Int × Bool × (List V) × Int)→Option β):Option β:=
 bif decide ((kT:Int)≤(IntKind.wrap .i64 ((IntKind.wrap .i64 (a+(IntKind.wrap .i64 (2*(IntKind.wrap .i64 (Int.tdiv length 4))))))+1))) then
  (C HT [.int .u64 EF]).bind fun r2=>
  JN C a length zZ kT (IntKind.wrap .i64 (IntKind.wrap .u64 ((BitVec.ofInt (IntKind.bits .u64) ((V.nth r2 0).toInt)&&&BitVec.ofInt (IntKind.bits .u64) (IntKind.wrap .u64 (zZ-1))).toNat))) (decide (((IntKind.wrap .i64 (IntKind.wrap .u64 ((BitVec.ofInt (IntKind.bits .u64) ((V.nth r2 0).toInt)&&&BitVec.ofInt (IntKind.bits .u64) (IntKind.wrap .u64 (zZ-1))).toNat))):Int)≥length)) ah ((V.nth (r2.drop 1) 0).toInt) (fun (xg:Int)=>
   bif (decide (0≤(IntKind.wrap .i64 (a+xg))))&&(decide ((IntKind.wrap .i64 (a+xg))<(ah.length:Int))) then
   (ah[(IntKind.wrap .i64 (a+xg):Int).toNat]?).bind fun x4=>
   bif (decide (0≤kT))&&(decide (kT<(ah.length:Int))) then
    (ah[(kT:Int).toNat]?).bind fun x5=>
    bif (decide (0≤kT))&&(decide (kT<(ah.length:Int))) then
    (ah[(kT:Int).toNat]?).bind fun x6=>
    bif (decide (0≤(IntKind.wrap .i64 (a+xg))))&&(decide ((IntKind.wrap .i64 (a+xg))<((ah.set ((kT:Int).toNat) (.agg [.int .i64 ((x4.cell 0).toInt),.int .i64 ((x4.cell 1).toInt),.int .i64 ((x4.cell 2).toInt)])).length:Int))) then
     ((ah.set ((kT:Int).toNat) (.agg [.int .i64 ((x4.cell 0).toInt),.int .i64 ((x4.cell 1).toInt),.int .i64 ((x4.cell 2).toInt)]))[(IntKind.wrap .i64 (a+xg):Int).toNat]?).bind fun x7=>
     kn (IntKind.wrap .i64 (kT+1),(ah.set ((kT:Int).toNat) (.agg [.int .i64 ((x4.cell 0).toInt),.int .i64 ((x4.cell 1).toInt),.int .i64 ((x4.cell 2).toInt)])).set ((IntKind.wrap .i64 (a+xg):Int).toNat) (.agg [.int .i64 ((x5.cell 0).toInt),.int .i64 ((x5.cell 1).toInt),.int .i64 ((x5.cell 2).toInt)]),(V.nth (r2.drop 1) 0).toInt)
    else none
    else none
   else none
   else none)
 else
  kr (kT,decide ((kT:Int)≤(IntKind.wrap .i64 ((IntKind.wrap .i64 (a+(IntKind.wrap .i64 (2*(IntKind.wrap .i64 (Int.tdiv length 4))))))+1))),ah,EF)
noncomputable def JO (C:ae) (a length zZ:Int):(Int × (List V) × Int)→Option ((Int × (List V) × Int) ⊕ (Int × Bool × (List V) × Int)):=un fun kT=>un fun ah EF=>EG C a length zZ kT ah EF (fun y=>some (.inl y)) (fun r=>some (.inr r))
noncomputable def aaa (C:ae):cD:=fun β n ds k=>
 bif Nat.beq n 735 then mM Ov [[1,2,3,4,0,7,8]] (@JN C) ds k else
 bif Nat.beq n 81 then bz Ow [false,false,false,true,true,true] [[1,2,3,0,0,0,0]] (@EG C) ds k else
 none
abbrev aab (C:ae) (b:cB):Prop:=cC Tryd.prog au C (aaa C) 172 (cQ Tryd.prog (au.bc 172)) (au.sin 172).bj.length b
theorem alf (C:ae):aab C (.cond 45 (ao [1,1,0,1,1,1,0,0,1,0,0,1,0,1,0] zY) (ao [1,1,0,1,1,1,0,0,1,0,0,1,0,1,1] zY)):=
 nL Ov [[1,2,3,4,0,7,8]] (@JN C) (by kernel_rfl) (aW (bs:=[]) (by kernel_rfl) ar) (aW (bs:=[]) (by kernel_rfl) ar) (fun ds=>by kernel_rfl) (fun i β k=>by kernel_rfl) (fun β ds k=>by kernel_rfl)
theorem alg (C:ae):aab C (.loop (ao [1,1,0,1,1,1,0,0] zY)):=
 bC Ow [false,false,false,true,true,true] [[1,2,3,0,0,0,0]] (@EG C) (by kernel_rfl) (aW (bs:=[.cond 45 (ao [1,1,0,1,1,1,0,0,1,0,0,1,0,1,0] zY) (ao [1,1,0,1,1,1,0,0,1,0,0,1,0,1,1] zY)]) (by kernel_rfl) (bm (alf C) ar)) (fun ds=>by kernel_rfl) (fun i x=>by kernel_rfl) (fun i x β k=>by kernel_rfl) (fun β ds k=>by kernel_rfl)
noncomputable def aac (C:ae) (a b':Int) (ah:List V):Option (List V):=
 bif decide (((IntKind.wrap .i64 (b'-a)):Int)≥8) then
  (C HS [.int .i64 (IntKind.wrap .i64 (b'-a))]).bind fun r1=>
  (Loop (JO C a (IntKind.wrap .i64 (b'-a)) ((V.nth r1 0).toInt)) (IntKind.wrap .i64 ((IntKind.wrap .i64 (a+(IntKind.wrap .i64 (2*(IntKind.wrap .i64 (Int.tdiv (IntKind.wrap .i64 (b'-a)) 4))))))-1),ah,IntKind.wrap .u64 (IntKind.wrap .i64 (b'-a)))).bind (un fun (aoB:Int)=>un fun (tc:Bool)=>un fun (qp:List V) (aoC:Int)=>
   some [.list av qp])
 else
  some [.list av ah]
theorem alh {a b':Int} {ah:List V} {r:Option (List V)} (h:aac CC a b' ah=r):CC MJ [.int .i64 a,.int .i64 b',.list av ah]=r:=
 bD (key:=172) (L:=aaa CC) (bs:=[.loop (ao [1,1,0,1,1,1,0,0] zY)]) (by kernel_rfl) (bm (alg CC) ar) (bB (by kernel_rfl) h)
noncomputable def aad (C:ae) (jR:Int):Option (List V):=
 some [.int .u64 (IntKind.wrap .u64 ((BitVec.ofInt (IntKind.bits .u64) (IntKind.wrap .u64 ((BitVec.ofInt (IntKind.bits .u64) (IntKind.wrap .u64 ((BitVec.ofInt (IntKind.bits .u64) jR ^^^ BitVec.ofInt (IntKind.bits .u64) (IntKind.wrap .u64 (jR*2^(min (13:Int).toNat (IntKind.bits .u64))))).toNat)) ^^^ BitVec.ofInt (IntKind.bits .u64) (Int.fdiv (IntKind.wrap .u64 ((BitVec.ofInt (IntKind.bits .u64) jR ^^^ BitVec.ofInt (IntKind.bits .u64) (IntKind.wrap .u64 (jR*2^(min (13:Int).toNat (IntKind.bits .u64))))).toNat)) (2^(min (7:Int).toNat (IntKind.bits .u64))))).toNat)) ^^^ BitVec.ofInt (IntKind.bits .u64) (IntKind.wrap .u64 ((IntKind.wrap .u64 ((BitVec.ofInt (IntKind.bits .u64) (IntKind.wrap .u64 ((BitVec.ofInt (IntKind.bits .u64) jR ^^^ BitVec.ofInt (IntKind.bits .u64) (IntKind.wrap .u64 (jR*2^(min (13:Int).toNat (IntKind.bits .u64))))).toNat)) ^^^ BitVec.ofInt (IntKind.bits .u64) (Int.fdiv (IntKind.wrap .u64 ((BitVec.ofInt (IntKind.bits .u64) jR ^^^ BitVec.ofInt (IntKind.bits .u64) (IntKind.wrap .u64 (jR*2^(min (13:Int).toNat (IntKind.bits .u64))))).toNat)) (2^(min (7:Int).toNat (IntKind.bits .u64))))).toNat))*2^(min (17:Int).toNat (IntKind.bits .u64))))).toNat)),.int .u64 (IntKind.wrap .u64 ((BitVec.ofInt (IntKind.bits .u64) (IntKind.wrap .u64 ((BitVec.ofInt (IntKind.bits .u64) (IntKind.wrap .u64 ((BitVec.ofInt (IntKind.bits .u64) jR ^^^ BitVec.ofInt (IntKind.bits .u64) (IntKind.wrap .u64 (jR*2^(min (13:Int).toNat (IntKind.bits .u64))))).toNat)) ^^^ BitVec.ofInt (IntKind.bits .u64) (Int.fdiv (IntKind.wrap .u64 ((BitVec.ofInt (IntKind.bits .u64) jR ^^^ BitVec.ofInt (IntKind.bits .u64) (IntKind.wrap .u64 (jR*2^(min (13:Int).toNat (IntKind.bits .u64))))).toNat)) (2^(min (7:Int).toNat (IntKind.bits .u64))))).toNat)) ^^^ BitVec.ofInt (IntKind.bits .u64) (IntKind.wrap .u64 ((IntKind.wrap .u64 ((BitVec.ofInt (IntKind.bits .u64) (IntKind.wrap .u64 ((BitVec.ofInt (IntKind.bits .u64) jR ^^^ BitVec.ofInt (IntKind.bits .u64) (IntKind.wrap .u64 (jR*2^(min (13:Int).toNat (IntKind.bits .u64))))).toNat)) ^^^ BitVec.ofInt (IntKind.bits .u64) (Int.fdiv (IntKind.wrap .u64 ((BitVec.ofInt (IntKind.bits .u64) jR ^^^ BitVec.ofInt (IntKind.bits .u64) (IntKind.wrap .u64 (jR*2^(min (13:Int).toNat (IntKind.bits .u64))))).toNat)) (2^(min (7:Int).toNat (IntKind.bits .u64))))).toNat))*2^(min (17:Int).toNat (IntKind.bits .u64))))).toNat))]
theorem ali {jR:Int} {r:Option (List V)} (h:aad CC jR=r):CC HT [.int .u64 jR]=r:=
 bD (key:=143) (L:=dJ) (bs:=[]) (by kernel_rfl) ar (bB (by kernel_rfl) h)
noncomputable def aae (C:ae) (length:Int):Option (List V):=
 (C Cg [.int .u64 (IntKind.wrap .u64 length)]).bind fun r1=>
 bif decide (0≤((V.nth r1 0).toInt)) then
  some [.int .u64 (IntKind.wrap .u64 (1*2^(min ((V.nth r1 0).toInt).toNat (IntKind.bits .u64))))]
 else none
theorem alj {length:Int} {r:Option (List V)} (h:aae CC length=r):CC HS [.int .i64 length]=r:=
 bD (key:=142) (L:=dJ) (bs:=[]) (by kernel_rfl) ar (bB (by kernel_rfl) h)
noncomputable def aaf (C:ae) (x:Int):Option (List V):=
 (C HO [.int .u64 x]).bind fun r1=>
 some [.int .i64 ((V.nth r1 0).toInt)]
theorem alk {x:Int} {r:Option (List V)} (h:aaf CC x=r):CC Cg [.int .u64 x]=r:=
 bD (key:=111) (L:=dJ) (bs:=[]) (by kernel_rfl) ar (bB (by kernel_rfl) h)
noncomputable abbrev uS:Code:=cJ Tryd.prog (au.bc 134)
noncomputable def xh (C:ae) (x n:Int) (t4:Bool) {β:Type} (kr:(Int × Int)→Option β):Option β:=
 bif t4 then
  kr (Int.fdiv x (2^(min (32:Int).toNat (IntKind.bits .u64))),32)
 else
  kr (x,n)
noncomputable def xi (C:ae) (x n:Int) (t8:Bool) {β:Type} (kr:(Int × Int)→Option β):Option β:=
 bif t8 then
  kr (Int.fdiv x (2^(min (16:Int).toNat (IntKind.bits .u64))),IntKind.wrap .i64 (n+16))
 else
  kr (x,n)
noncomputable def aag (C:ae):cD:=fun β n ds k=>
 bif Nat.beq n 79 then mM Og [[0,0]] (@xh C) ds k else
 bif Nat.beq n 143 then mM Oh [[0,0]] (@xi C) ds k else
 none
abbrev aah (C:ae) (b:cB):Prop:=cC Tryd.prog au C (aag C) 134 (cQ Tryd.prog (au.bc 134)) (au.sin 134).bj.length b
theorem alm (C:ae):aah C (.cond 4 (ao [1,0,1,0] uS) (ao [1,0,1,1] uS)):=
 nL Og [[0,0]] (@xh C) (by kernel_rfl) (aW (bs:=[]) (by kernel_rfl) ar) (aW (bs:=[]) (by kernel_rfl) ar) (fun ds=>by kernel_rfl) (fun i β k=>by kernel_rfl) (fun β ds k=>by kernel_rfl)
theorem aln (C:ae):aah C (.cond 8 (ao [1,1,0,1,0] uS) (ao [1,1,0,1,1] uS)):=
 nL Oh [[0,0]] (@xi C) (by kernel_rfl) (aW (bs:=[]) (by kernel_rfl) ar) (aW (bs:=[]) (by kernel_rfl) ar) (fun ds=>by kernel_rfl) (fun i β k=>by kernel_rfl) (fun β ds k=>by kernel_rfl)
noncomputable def alo (C:ae) (x:Int):Option (List V):=
 xh C x 0 (decide ((x:Int)≥4294967296)) (un fun (uT:Int) (cN:Int)=>
  xi C uT cN (decide ((uT:Int)≥65536)) (un fun (EH:Int) (cP:Int)=>
   bif decide ((EH:Int)≥256) then
    (bif decide (0≤(IntKind.wrap .u8 (Int.fdiv EH (2^(min (8:Int).toNat (IntKind.bits .u64)))))) then (([0,1,2,2,3,3,3,3,4,4,4,4,4,4,4,4,5,5,5,5,5,5,5,5,5,5,5,5,5,5,5,5,6,6,6,6,6,6,6,6,6,6,6,6,6,6,6,6,6,6,6,6,6,6,6,6,6,6,6,6,6,6,6,6,7,7,7,7,7,7,7,7,7,7,7,7,7,7,7,7,7,7,7,7,7,7,7,7,7,7,7,7,7,7,7,7,7,7,7,7,7,7,7,7,7,7,7,7,7,7,7,7,7,7,7,7,7,7,7,7,7,7,7,7,7,7,7,7,8,8,8,8,8,8,8,8,8,8,8,8,8,8,8,8,8,8,8,8,8,8,8,8,8,8,8,8,8,8,8,8,8,8,8,8,8,8,8,8,8,8,8,8,8,8,8,8,8,8,8,8,8,8,8,8,8,8,8,8,8,8,8,8,8,8,8,8,8,8,8,8,8,8,8,8,8,8,8,8,8,8,8,8,8,8,8,8,8,8,8,8,8,8,8,8,8,8,8,8,8,8,8,8,8,8,8,8,8,8,8,8,8,8,8,8,8,8,8,8,8,8,8,8,8,8,8,8]:List UInt8)[(IntKind.wrap .u8 (Int.fdiv EH (2^(min (8:Int).toNat (IntKind.bits .u64)))):Int).toNat]?).map fun b=>V.int .u8 b.toNat else none).bind fun x5=>
    some [.int .i64 (IntKind.wrap .i64 ((IntKind.wrap .i64 (cP+8))+(IntKind.wrap .i64 x5.toInt)))]
   else
    (bif decide (0≤(IntKind.wrap .u8 EH)) then (([0,1,2,2,3,3,3,3,4,4,4,4,4,4,4,4,5,5,5,5,5,5,5,5,5,5,5,5,5,5,5,5,6,6,6,6,6,6,6,6,6,6,6,6,6,6,6,6,6,6,6,6,6,6,6,6,6,6,6,6,6,6,6,6,7,7,7,7,7,7,7,7,7,7,7,7,7,7,7,7,7,7,7,7,7,7,7,7,7,7,7,7,7,7,7,7,7,7,7,7,7,7,7,7,7,7,7,7,7,7,7,7,7,7,7,7,7,7,7,7,7,7,7,7,7,7,7,7,8,8,8,8,8,8,8,8,8,8,8,8,8,8,8,8,8,8,8,8,8,8,8,8,8,8,8,8,8,8,8,8,8,8,8,8,8,8,8,8,8,8,8,8,8,8,8,8,8,8,8,8,8,8,8,8,8,8,8,8,8,8,8,8,8,8,8,8,8,8,8,8,8,8,8,8,8,8,8,8,8,8,8,8,8,8,8,8,8,8,8,8,8,8,8,8,8,8,8,8,8,8,8,8,8,8,8,8,8,8,8,8,8,8,8,8,8,8,8,8,8,8,8,8,8,8,8,8]:List UInt8)[(IntKind.wrap .u8 EH:Int).toNat]?).map fun b=>V.int .u8 b.toNat else none).bind fun x6=>
    some [.int .i64 (IntKind.wrap .i64 (cP+(IntKind.wrap .i64 x6.toInt)))]))
theorem aai {x:Int} {r:Option (List V)} (h:alo CC x=r):CC HO [.int .u64 x]=r:=
 bD (key:=134) (L:=aag CC) (bs:=[.cond 4 (ao [1,0,1,0] uS) (ao [1,0,1,1] uS),.cond 8 (ao [1,1,0,1,0] uS) (ao [1,1,0,1,1] uS)]) (by kernel_rfl) (bm (alm CC) (bm (aln CC) ar)) (bB (by kernel_rfl) h)
noncomputable abbrev ni:Code:=cJ Tryd.prog (au.bc 169)
noncomputable def z0 (C:ae) (a b' ko:Int) (fv fT:Bool) (length:Int) (t39:Bool) (ah:List V) {β:Type} (kr:(Int × (List V))→Option β):Option β:=
 bif t39 then
  (C MJ [.int .i64 a,.int .i64 b',.list av ah]).bind fun r3=>
  kr (IntKind.wrap .i64 (ko-1),(V.nth r3 0).toList)
 else
  kr (ko,ah)
noncomputable def z5 (C:ae) (a b' ko:Int) (fv fT:Bool) (length pivot hint:Int) (t56:Bool) (ah:List V) {β:Type} (kr:(Int × Int × (List V))→Option β):Option β:=
 bif t56 then
  (C MK [.int .i64 a,.int .i64 b',.list av ah]).bind fun r7=>
  kr (IntKind.wrap .i64 ((IntKind.wrap .i64 (b'-1))-(IntKind.wrap .i64 (pivot-a))),1,(V.nth r7 0).toList)
 else
  kr (pivot,hint,ah)
noncomputable def og (C:ae) (a b' ko:Int) (fv fT:Bool) (length pivot:Int) (t75:Bool) (ah:List V) {β:Type} (kr:((Bool × (List V)) ⊕ (List V))→Option β):Option β:=
 bif t75 then
  (C ML [.int .i64 a,.int .i64 b',.list av ah]).bind fun JP=>
  bif (V.nth JP 0).toBool then
  kr (.inl ((V.nth JP 0).toBool,(V.nth (JP.drop 1) 0).toList))
  else
  kr (.inr ((V.nth (JP.drop 1) 0).toList))
 else
  kr (.inr ah)
noncomputable def rH (C:ae) (a b' ko:Int) (fv fT:Bool) (ah:List V) {β:Type} (kn:(Int × Int × Int × Bool × Bool × (List V))→Option β) (kr:(List V)→Option β):Option β:=
 bif decide (((IntKind.wrap .i64 (b'-a)):Int)≤12) then
  (C HU [.int .i64 a,.int .i64 b',.list av ah]).bind fun r1=>
  kr ((V.nth r1 0).toList)
 else
  bif (ko:Int)==0 then
  (C HV [.int .i64 a,.int .i64 b',.list av ah]).bind fun r2=>
  kr ((V.nth r2 0).toList)
  else
  z0 C a b' ko fv fT (IntKind.wrap .i64 (b'-a)) (!fv) ah (un fun (da:Int) (EI:List V)=>
   (C HW [.list av EI,.int .i64 a,.int .i64 b']).bind fun r6=>
   z5 C a b' da fv fT (IntKind.wrap .i64 (b'-a)) ((V.nth r6 0).toInt) ((V.nth (r6.drop 1) 0).toInt) ((((V.nth (r6.drop 1) 0).toInt):Int)==2) EI (un fun (eD:Int)=>un fun (Qb:Int) (qp:List V)=>
    bif fv then
     bif fT then
     og C a b' da fv fT (IntKind.wrap .i64 (b'-a)) eD ((Qb:Int)==1) qp (cL (un fun (zu:Bool) (PY:List V)=>
      kr PY) (fun (xj:List V)=>
      bif decide ((a:Int)>0) then
       bif (decide (0≤(IntKind.wrap .i64 (a-1))))&&(decide ((IntKind.wrap .i64 (a-1))<(xj.length:Int))) then
       (xj[(IntKind.wrap .i64 (a-1):Int).toNat]?).bind fun fh=>
       bif (decide (0≤eD))&&(decide (eD<(xj.length:Int))) then
        (xj[(eD:Int).toNat]?).bind fun gU=>
        (C bG [.int .i64 ((fh.cell 0).toInt),.int .i64 ((fh.cell 1).toInt),.int .i64 ((fh.cell 2).toInt),.int .i64 ((gU.cell 0).toInt),.int .i64 ((gU.cell 1).toInt),.int .i64 ((gU.cell 2).toInt)]).bind fun cG=>
        bif !(decide ((((V.nth cG 0).toInt):Int)<0)) then
        (C yW [.int .i64 a,.int .i64 b',.int .i64 eD,.list av xj]).bind fun uU=>
        kn ((V.nth uU 0).toInt,b',da,fv,fT,(V.nth (uU.drop 1) 0).toList)
        else
        (C qa [.int .i64 a,.int .i64 b',.int .i64 eD,.list av xj]).bind fun gV=>
        bif decide (((IntKind.wrap .i64 (((V.nth gV 0).toInt)-a)):Int)<(IntKind.wrap .i64 (b'-((V.nth gV 0).toInt)))) then
         (C iR [.int .i64 a,.int .i64 ((V.nth gV 0).toInt),.int .i64 da,.list av ((V.nth (gV.drop 2) 0).toList)]).bind fun iB=>
         kn (IntKind.wrap .i64 (((V.nth gV 0).toInt)+1),b',da,decide (((IntKind.wrap .i64 (((V.nth gV 0).toInt)-a)):Int)≥(IntKind.wrap .i64 (Int.tdiv (IntKind.wrap .i64 (b'-a)) 8))),(V.nth (gV.drop 1) 0).toBool,(V.nth iB 0).toList)
        else
         (C iR [.int .i64 (IntKind.wrap .i64 (((V.nth gV 0).toInt)+1)),.int .i64 b',.int .i64 da,.list av ((V.nth (gV.drop 2) 0).toList)]).bind fun qt=>
         kn (a,(V.nth gV 0).toInt,da,decide (((IntKind.wrap .i64 (b'-((V.nth gV 0).toInt))):Int)≥(IntKind.wrap .i64 (Int.tdiv (IntKind.wrap .i64 (b'-a)) 8))),(V.nth (gV.drop 1) 0).toBool,(V.nth qt 0).toList)
       else none
       else none
      else
       (C qa [.int .i64 a,.int .i64 b',.int .i64 eD,.list av xj]).bind fun km=>
       bif decide (((IntKind.wrap .i64 (((V.nth km 0).toInt)-a)):Int)<(IntKind.wrap .i64 (b'-((V.nth km 0).toInt)))) then
       (C iR [.int .i64 a,.int .i64 ((V.nth km 0).toInt),.int .i64 da,.list av ((V.nth (km.drop 2) 0).toList)]).bind fun r23=>
       kn (IntKind.wrap .i64 (((V.nth km 0).toInt)+1),b',da,decide (((IntKind.wrap .i64 (((V.nth km 0).toInt)-a)):Int)≥(IntKind.wrap .i64 (Int.tdiv (IntKind.wrap .i64 (b'-a)) 8))),(V.nth (km.drop 1) 0).toBool,(V.nth r23 0).toList)
       else
       (C iR [.int .i64 (IntKind.wrap .i64 (((V.nth km 0).toInt)+1)),.int .i64 b',.int .i64 da,.list av ((V.nth (km.drop 2) 0).toList)]).bind fun r24=>
       kn (a,(V.nth km 0).toInt,da,decide (((IntKind.wrap .i64 (b'-((V.nth km 0).toInt))):Int)≥(IntKind.wrap .i64 (Int.tdiv (IntKind.wrap .i64 (b'-a)) 8))),(V.nth (km.drop 1) 0).toBool,(V.nth r24 0).toList)))
     else
     og C a b' da fv fT (IntKind.wrap .i64 (b'-a)) eD false qp (cL (un fun (I8:Bool) (alp:List V)=>
      kr alp) (fun (tt:List V)=>
      bif decide ((a:Int)>0) then
       bif (decide (0≤(IntKind.wrap .i64 (a-1))))&&(decide ((IntKind.wrap .i64 (a-1))<(tt.length:Int))) then
       (tt[(IntKind.wrap .i64 (a-1):Int).toNat]?).bind fun xd=>
       bif (decide (0≤eD))&&(decide (eD<(tt.length:Int))) then
        (tt[(eD:Int).toNat]?).bind fun xe=>
        (C bG [.int .i64 ((xd.cell 0).toInt),.int .i64 ((xd.cell 1).toInt),.int .i64 ((xd.cell 2).toInt),.int .i64 ((xe.cell 0).toInt),.int .i64 ((xe.cell 1).toInt),.int .i64 ((xe.cell 2).toInt)]).bind fun JH=>
        bif !(decide ((((V.nth JH 0).toInt):Int)<0)) then
        (C yW [.int .i64 a,.int .i64 b',.int .i64 eD,.list av tt]).bind fun r31=>
        kn ((V.nth r31 0).toInt,b',da,fv,fT,(V.nth (r31.drop 1) 0).toList)
        else
        (C qa [.int .i64 a,.int .i64 b',.int .i64 eD,.list av tt]).bind fun pq=>
        bif decide (((IntKind.wrap .i64 (((V.nth pq 0).toInt)-a)):Int)<(IntKind.wrap .i64 (b'-((V.nth pq 0).toInt)))) then
         (C iR [.int .i64 a,.int .i64 ((V.nth pq 0).toInt),.int .i64 da,.list av ((V.nth (pq.drop 2) 0).toList)]).bind fun r33=>
         kn (IntKind.wrap .i64 (((V.nth pq 0).toInt)+1),b',da,decide (((IntKind.wrap .i64 (((V.nth pq 0).toInt)-a)):Int)≥(IntKind.wrap .i64 (Int.tdiv (IntKind.wrap .i64 (b'-a)) 8))),(V.nth (pq.drop 1) 0).toBool,(V.nth r33 0).toList)
        else
         (C iR [.int .i64 (IntKind.wrap .i64 (((V.nth pq 0).toInt)+1)),.int .i64 b',.int .i64 da,.list av ((V.nth (pq.drop 2) 0).toList)]).bind fun r34=>
         kn (a,(V.nth pq 0).toInt,da,decide (((IntKind.wrap .i64 (b'-((V.nth pq 0).toInt))):Int)≥(IntKind.wrap .i64 (Int.tdiv (IntKind.wrap .i64 (b'-a)) 8))),(V.nth (pq.drop 1) 0).toBool,(V.nth r34 0).toList)
       else none
       else none
      else
       (C qa [.int .i64 a,.int .i64 b',.int .i64 eD,.list av tt]).bind fun pr=>
       bif decide (((IntKind.wrap .i64 (((V.nth pr 0).toInt)-a)):Int)<(IntKind.wrap .i64 (b'-((V.nth pr 0).toInt)))) then
       (C iR [.int .i64 a,.int .i64 ((V.nth pr 0).toInt),.int .i64 da,.list av ((V.nth (pr.drop 2) 0).toList)]).bind fun r36=>
       kn (IntKind.wrap .i64 (((V.nth pr 0).toInt)+1),b',da,decide (((IntKind.wrap .i64 (((V.nth pr 0).toInt)-a)):Int)≥(IntKind.wrap .i64 (Int.tdiv (IntKind.wrap .i64 (b'-a)) 8))),(V.nth (pr.drop 1) 0).toBool,(V.nth r36 0).toList)
       else
       (C iR [.int .i64 (IntKind.wrap .i64 (((V.nth pr 0).toInt)+1)),.int .i64 b',.int .i64 da,.list av ((V.nth (pr.drop 2) 0).toList)]).bind fun r37=>
       kn (a,(V.nth pr 0).toInt,da,decide (((IntKind.wrap .i64 (b'-((V.nth pr 0).toInt))):Int)≥(IntKind.wrap .i64 (Int.tdiv (IntKind.wrap .i64 (b'-a)) 8))),(V.nth (pr.drop 1) 0).toBool,(V.nth r37 0).toList)))
    else
     og C a b' da fv fT (IntKind.wrap .i64 (b'-a)) eD false qp (cL (un fun (aaj:Bool) (alq:List V)=>
      kr alq) (fun (kS:List V)=>
      bif decide ((a:Int)>0) then
      bif (decide (0≤(IntKind.wrap .i64 (a-1))))&&(decide ((IntKind.wrap .i64 (a-1))<(kS.length:Int))) then
       (kS[(IntKind.wrap .i64 (a-1):Int).toNat]?).bind fun oe=>
       bif (decide (0≤eD))&&(decide (eD<(kS.length:Int))) then
       (kS[(eD:Int).toNat]?).bind fun xf=>
       (C bG [.int .i64 ((oe.cell 0).toInt),.int .i64 ((oe.cell 1).toInt),.int .i64 ((oe.cell 2).toInt),.int .i64 ((xf.cell 0).toInt),.int .i64 ((xf.cell 1).toInt),.int .i64 ((xf.cell 2).toInt)]).bind fun r43=>
       bif !(decide ((((V.nth r43 0).toInt):Int)<0)) then
        (C yW [.int .i64 a,.int .i64 b',.int .i64 eD,.list av kS]).bind fun r44=>
        kn ((V.nth r44 0).toInt,b',da,fv,fT,(V.nth (r44.drop 1) 0).toList)
       else
        (C qa [.int .i64 a,.int .i64 b',.int .i64 eD,.list av kS]).bind fun gW=>
        bif decide (((IntKind.wrap .i64 (((V.nth gW 0).toInt)-a)):Int)<(IntKind.wrap .i64 (b'-((V.nth gW 0).toInt)))) then
        (C iR [.int .i64 a,.int .i64 ((V.nth gW 0).toInt),.int .i64 da,.list av ((V.nth (gW.drop 2) 0).toList)]).bind fun oh=>
        kn (IntKind.wrap .i64 (((V.nth gW 0).toInt)+1),b',da,decide (((IntKind.wrap .i64 (((V.nth gW 0).toInt)-a)):Int)≥(IntKind.wrap .i64 (Int.tdiv (IntKind.wrap .i64 (b'-a)) 8))),(V.nth (gW.drop 1) 0).toBool,(V.nth oh 0).toList)
        else
        (C iR [.int .i64 (IntKind.wrap .i64 (((V.nth gW 0).toInt)+1)),.int .i64 b',.int .i64 da,.list av ((V.nth (gW.drop 2) 0).toList)]).bind fun oj=>
        kn (a,(V.nth gW 0).toInt,da,decide (((IntKind.wrap .i64 (b'-((V.nth gW 0).toInt))):Int)≥(IntKind.wrap .i64 (Int.tdiv (IntKind.wrap .i64 (b'-a)) 8))),(V.nth (gW.drop 1) 0).toBool,(V.nth oj 0).toList)
       else none
      else none
      else
      (C qa [.int .i64 a,.int .i64 b',.int .i64 eD,.list av kS]).bind fun pt=>
      bif decide (((IntKind.wrap .i64 (((V.nth pt 0).toInt)-a)):Int)<(IntKind.wrap .i64 (b'-((V.nth pt 0).toInt)))) then
       (C iR [.int .i64 a,.int .i64 ((V.nth pt 0).toInt),.int .i64 da,.list av ((V.nth (pt.drop 2) 0).toList)]).bind fun r49=>
       kn (IntKind.wrap .i64 (((V.nth pt 0).toInt)+1),b',da,decide (((IntKind.wrap .i64 (((V.nth pt 0).toInt)-a)):Int)≥(IntKind.wrap .i64 (Int.tdiv (IntKind.wrap .i64 (b'-a)) 8))),(V.nth (pt.drop 1) 0).toBool,(V.nth r49 0).toList)
      else
       (C iR [.int .i64 (IntKind.wrap .i64 (((V.nth pt 0).toInt)+1)),.int .i64 b',.int .i64 da,.list av ((V.nth (pt.drop 2) 0).toList)]).bind fun r50=>
       kn (a,(V.nth pt 0).toInt,da,decide (((IntKind.wrap .i64 (b'-((V.nth pt 0).toInt))):Int)≥(IntKind.wrap .i64 (Int.tdiv (IntKind.wrap .i64 (b'-a)) 8))),(V.nth (pt.drop 1) 0).toBool,(V.nth r50 0).toList)))))
noncomputable def aak (C:ae):(Int × Int × Int × Bool × Bool × (List V))→Option ((Int × Int × Int × Bool × Bool × (List V)) ⊕ (List V)):=un fun a=>un fun b'=>un fun ko=>un fun fv=>un fun fT ah=>rH C a b' ko fv fT ah (fun y=>some (.inl y)) (fun r=>some (.inr r))
noncomputable def aal (C:ae):cD:=fun β n ds k=>
 bif Nat.beq n 639 then mM Oj [[1,2,0,4,5,6,0]] (@z0 C) ds k else
 bif Nat.beq n 911 then mM Ol [[1,2,3,4,5,6,0,0,0]] (@z5 C) ds k else
 bif Nat.beq n 1215 then mM Om [[1,2,3,4,5,6,7,0,0],[1,2,3,4,5,6,7,0]] (@og C) ds k else
 bif Nat.beq n 33 then bz On [true,true,true,true,true,true] [[0]] (@rH C) ds k else
 none
abbrev JQ (C:ae) (b:cB):Prop:=cC Tryd.prog au C (aal C) 169 (cQ Tryd.prog (au.bc 169)) (au.sin 169).bj.length b
theorem alr (C:ae):JQ C (.cond 39 (ao [1,1,0,0,0,1,1,1,0,1,0] ni) (ao [1,1,0,0,0,1,1,1,0,1,1] ni)):=
 nL Oj [[1,2,0,4,5,6,0]] (@z0 C) (by kernel_rfl) (aW (bs:=[]) (by kernel_rfl) ar) (aW (bs:=[]) (by kernel_rfl) ar) (fun ds=>by kernel_rfl) (fun i β k=>by kernel_rfl) (fun β ds k=>by kernel_rfl)
theorem als (C:ae):JQ C (.cond 56 (ao [1,1,0,0,0,1,1,1,1,1,0,1,0] ni) (ao [1,1,0,0,0,1,1,1,1,1,0,1,1] ni)):=
 nL Ol [[1,2,3,4,5,6,0,0,0]] (@z5 C) (by kernel_rfl) (aW (bs:=[]) (by kernel_rfl) ar) (aW (bs:=[]) (by kernel_rfl) ar) (fun ds=>by kernel_rfl) (fun i β k=>by kernel_rfl) (fun β ds k=>by kernel_rfl)
theorem alu (C:ae):JQ C (.cond 75 (ao [1,1,0,0,0,1,1,1,1,1,1,0,1,0] ni) (ao [1,1,0,0,0,1,1,1,1,1,1,0,1,1] ni)):=
 nL Om [[1,2,3,4,5,6,7,0,0],[1,2,3,4,5,6,7,0]] (@og C) (by kernel_rfl) (aW (bs:=[]) (by kernel_rfl) ar) (aW (bs:=[]) (by kernel_rfl) ar) (fun ds=>by kernel_rfl) (fun i β k=>by kernel_rfl) (fun β ds k=>by kernel_rfl)
theorem alv (C:ae):JQ C (.loop (ao [1,1,0,0] ni)):=
 bC On [true,true,true,true,true,true] [[0]] (@rH C) (by kernel_rfl) (aW (bs:=[.cond 39 (ao [1,1,0,0,0,1,1,1,0,1,0] ni) (ao [1,1,0,0,0,1,1,1,0,1,1] ni),.cond 56 (ao [1,1,0,0,0,1,1,1,1,1,0,1,0] ni) (ao [1,1,0,0,0,1,1,1,1,1,0,1,1] ni),.cond 75 (ao [1,1,0,0,0,1,1,1,1,1,1,0,1,0] ni) (ao [1,1,0,0,0,1,1,1,1,1,1,0,1,1] ni)]) (by kernel_rfl) (bm (alr C) (bm (als C) (bm (alu C) ar)))) (fun ds=>by kernel_rfl) (fun i x=>by kernel_rfl) (fun i x β k=>by kernel_rfl) (fun β ds k=>by kernel_rfl)
noncomputable def aam (C:ae) (a b' ko:Int) (ah:List V):Option (List V):=
 (Loop (aak C) (a,b',ko,true,true,ah)).bind (fun (alw:List V)=>
  some [.list av alw])
theorem alx {a b' ko:Int} {ah:List V} {r:Option (List V)} (h:aam CC a b' ko ah=r):CC iR [.int .i64 a,.int .i64 b',.int .i64 ko,.list av ah]=r:=
 bD (key:=169) (L:=aal CC) (bs:=[.loop (ao [1,1,0,0] ni)]) (by kernel_rfl) (bm (alv CC) ar) (bB (by kernel_rfl) h)
noncomputable def aan (C:ae) (xs:List V):Option (List V):=
 (C Cg [.int .u64 (IntKind.wrap .u64 (xs.length:Int))]).bind fun r1=>
 (C iR [.int .i64 0,.int .i64 (xs.length:Int),.int .i64 ((V.nth r1 0).toInt),.list av xs]).bind fun r2=>
 some [.list av ((V.nth r2 0).toList)]
theorem aly {xs:List V} {r:Option (List V)} (h:aan CC xs=r):CC B9 [.list av xs]=r:=
 bD (key:=87) (L:=dJ) (bs:=[]) (by kernel_rfl) ar (bB (by kernel_rfl) h)
end Go.AM
set_option maxRecDepth 100000
set_option maxHeartbeats 4000000
namespace Go.AM.SL
open Go.AM Go.Proofs Go.Sort
theorem aao (a b:Ed):(ay a b=true)=(a.lt b):=by rw[uP,propext (Il a b)]
theorem JR (a b:Ed):(ay a b=false)= ¬(a.lt b):=by rw[←aao];simp
theorem z6:SWO ay where
 irrefl x:=by rw[JR];unfold Ed.lt;omega
 trans x y z:=by simp only[aao];unfold Ed.lt;omega
 ntrans x y z:=by simp only[JR];unfold Ed.lt;omega
def JS:List UInt8:=([0,1,2,2,3,3,3,3,4,4,4,4,4,4,4,4,5,5,5,5,5,5,5,5,5,5,5,5,5,5,5,5,6,6,6,6,6,6,6,6,6,6,6,6,6,6,6,6,6,6,6,6,6,6,6,6,6,6,6,6,6,6,6,6,7,7,7,7,7,7,7,7,7,7,7,7,7,7,7,7,7,7,7,7,7,7,7,7,7,7,7,7,7,7,7,7,7,7,7,7,7,7,7,7,7,7,7,7,7,7,7,7,7,7,7,7,7,7,7,7,7,7,7,7,7,7,7,7,8,8,8,8,8,8,8,8,8,8,8,8,8,8,8,8,8,8,8,8,8,8,8,8,8,8,8,8,8,8,8,8,8,8,8,8,8,8,8,8,8,8,8,8,8,8,8,8,8,8,8,8,8,8,8,8,8,8,8,8,8,8,8,8,8,8,8,8,8,8,8,8,8,8,8,8,8,8,8,8,8,8,8,8,8,8,8,8,8,8,8,8,8,8,8,8,8,8,8,8,8,8,8,8,8,8,8,8,8,8,8,8,8,8,8,8,8,8,8,8,8,8,8,8,8,8,8,8]:List UInt8)
theorem alz:(List.range 256).all (fun y=>match JS[y]? with|some b=>decide (b.toNat≤8)&&(Nat.beq y 0||(decide (1≤b.toNat)&&decide (2^(b.toNat-1)≤y)))|none=>false)=true:=by decide+kernel
theorem aap {y:Nat} (h:y<256): ∃b,JS[y]? =some b∧b.toNat≤8∧(0<y→1≤b.toNat∧2^(b.toNat-1)≤y):=by
 have:=gi.1 alz y (ja.2 h)
 cases hb:JS[y]? with
 | none=>rw[hb] at this;cases this
 | some b=>
  rw[hb] at this
  simp only[aM,Bool.or_eq_true,eE] at this
  refine ⟨b,rfl,this.1,fun hy=> ?_⟩
  rcases this.2 with h2|h2
  ·have:=Nat.eq_of_beq_eq_true h2;omega
  ·exact h2
theorem Qc {y t k:Nat} (h:2^(t-1)≤y/2^k) (ht:1≤t):2^(t+k-1)≤y:=by
 have e:t+k-1=(t-1)+k:=by omega
 rw[e,Nat.pow_add]
 exact jT (dQ _ h) (Nat.div_mul_le_self _ _)
noncomputable def z7 (y n:Int):Option (List V):=
(bif decide ((y:Int)≥256) then
    (bif decide (0≤(IntKind.wrap .u8 (Int.fdiv y (2^(min (8:Int).toNat (IntKind.bits .u64)))))) then (([0,1,2,2,3,3,3,3,4,4,4,4,4,4,4,4,5,5,5,5,5,5,5,5,5,5,5,5,5,5,5,5,6,6,6,6,6,6,6,6,6,6,6,6,6,6,6,6,6,6,6,6,6,6,6,6,6,6,6,6,6,6,6,6,7,7,7,7,7,7,7,7,7,7,7,7,7,7,7,7,7,7,7,7,7,7,7,7,7,7,7,7,7,7,7,7,7,7,7,7,7,7,7,7,7,7,7,7,7,7,7,7,7,7,7,7,7,7,7,7,7,7,7,7,7,7,7,7,8,8,8,8,8,8,8,8,8,8,8,8,8,8,8,8,8,8,8,8,8,8,8,8,8,8,8,8,8,8,8,8,8,8,8,8,8,8,8,8,8,8,8,8,8,8,8,8,8,8,8,8,8,8,8,8,8,8,8,8,8,8,8,8,8,8,8,8,8,8,8,8,8,8,8,8,8,8,8,8,8,8,8,8,8,8,8,8,8,8,8,8,8,8,8,8,8,8,8,8,8,8,8,8,8,8,8,8,8,8,8,8,8,8,8,8,8,8,8,8,8,8,8,8,8,8,8,8]:List UInt8)[(IntKind.wrap .u8 (Int.fdiv y (2^(min (8:Int).toNat (IntKind.bits .u64)))):Int).toNat]?).map fun b=>V.int .u8 b.toNat else none).bind fun x5=>
    some [V.int .i64 (IntKind.wrap .i64 ((IntKind.wrap .i64 (n+8))+(IntKind.wrap .i64 x5.toInt)))]
   else
    (bif decide (0≤(IntKind.wrap .u8 y)) then (([0,1,2,2,3,3,3,3,4,4,4,4,4,4,4,4,5,5,5,5,5,5,5,5,5,5,5,5,5,5,5,5,6,6,6,6,6,6,6,6,6,6,6,6,6,6,6,6,6,6,6,6,6,6,6,6,6,6,6,6,6,6,6,6,7,7,7,7,7,7,7,7,7,7,7,7,7,7,7,7,7,7,7,7,7,7,7,7,7,7,7,7,7,7,7,7,7,7,7,7,7,7,7,7,7,7,7,7,7,7,7,7,7,7,7,7,7,7,7,7,7,7,7,7,7,7,7,7,8,8,8,8,8,8,8,8,8,8,8,8,8,8,8,8,8,8,8,8,8,8,8,8,8,8,8,8,8,8,8,8,8,8,8,8,8,8,8,8,8,8,8,8,8,8,8,8,8,8,8,8,8,8,8,8,8,8,8,8,8,8,8,8,8,8,8,8,8,8,8,8,8,8,8,8,8,8,8,8,8,8,8,8,8,8,8,8,8,8,8,8,8,8,8,8,8,8,8,8,8,8,8,8,8,8,8,8,8,8,8,8,8,8,8,8,8,8,8,8,8,8,8,8,8,8,8,8]:List UInt8)[(IntKind.wrap .u8 y:Int).toNat]?).map fun b=>V.int .u8 b.toNat else none).bind fun x6=>
    some [V.int .i64 (IntKind.wrap .i64 (n+(IntKind.wrap .i64 x6.toInt)))])
theorem alA {x:Nat} (h:x<2^64): ∃L:Nat,CC HO [.int .u64 (x:Int)]=some [.int .i64 (L:Int)]∧L≤64∧(0<x→1≤L∧2^(L-1)≤x):=by
 have last: ∀y n:Nat,y<65536→n≤48→∃t:Nat,
   z7 (y:Int) (n:Int)=some [V.int .i64 ((n+t:Nat):Int)]∧t≤16∧(0<y→1≤t∧2^(t-1)≤y):=by
  intro y n hy hn
  unfold z7
  rw[show ([0,1,2,2,3,3,3,3,4,4,4,4,4,4,4,4,5,5,5,5,5,5,5,5,5,5,5,5,5,5,5,5,6,6,6,6,6,6,6,6,6,6,6,6,6,6,6,6,6,6,6,6,6,6,6,6,6,6,6,6,6,6,6,6,7,7,7,7,7,7,7,7,7,7,7,7,7,7,7,7,7,7,7,7,7,7,7,7,7,7,7,7,7,7,7,7,7,7,7,7,7,7,7,7,7,7,7,7,7,7,7,7,7,7,7,7,7,7,7,7,7,7,7,7,7,7,7,7,8,8,8,8,8,8,8,8,8,8,8,8,8,8,8,8,8,8,8,8,8,8,8,8,8,8,8,8,8,8,8,8,8,8,8,8,8,8,8,8,8,8,8,8,8,8,8,8,8,8,8,8,8,8,8,8,8,8,8,8,8,8,8,8,8,8,8,8,8,8,8,8,8,8,8,8,8,8,8,8,8,8,8,8,8,8,8,8,8,8,8,8,8,8,8,8,8,8,8,8,8,8,8,8,8,8,8,8,8,8,8,8,8,8,8,8,8,8,8,8,8,8,8,8,8,8,8,8]:List UInt8)=JS from rfl]
  by_cases h1:y≥256
  ·have e:Int.fdiv (y:Int) (2^(min (8:Int).toNat (IntKind.bits .u64)))=((y/2^8:Nat):Int):=Cv (m:=8) (by omega)
   obtain ⟨b,hb,b1,b2⟩:=aap (y:=y/2^8) (by omega)
   refine ⟨b.toNat+8,?_,by omega,fun _=> ?_⟩
   ·rw[e,aA,af (by omega),Mt (by omega) (by omega),aA,af (by omega),Int.toNat_natCast,hb]
    simp only[Option.map_some,Option.bind_some,V.toInt_int]
    simp (disch:=omega) only[wrap64]
    congr 3
    omega
   ·obtain ⟨b3,b4⟩:=b2 (by omega)
    exact ⟨by omega,Qc b4 b3⟩
  ·obtain ⟨b,hb,b1,b2⟩:=aap (y:=y) (by omega)
   refine ⟨b.toNat,?_,by omega,b2⟩
   rw[aA,ag (by omega),Mt (by omega) (by omega),aA,af (by omega),Int.toNat_natCast,hb]
   simp (disch:=omega) only[Option.map_some,Option.bind_some,V.toInt_int,wrap64]
   congr 3
 have mid: ∀y n:Nat,y<4294967296→n≤32→∃t:Nat,∀F:Int→Int→Option (List V),
   (∀y n:Nat,y<65536→n≤48→∃t:Nat,F (y:Int) (n:Int)=some [V.int .i64 ((n+t:Nat):Int)]∧t≤16∧(0<y→1≤t∧2^(t-1)≤y))→
   ∃t:Nat,xi CC (y:Int) (n:Int) (decide (((y:Int):Int)≥65536)) (un F)=some [V.int .i64 ((n+t:Nat):Int)]∧t≤32∧(0<y→1≤t∧2^(t-1)≤y):=by
  intro y n hy hn
  refine ⟨0,fun F hF=> ?_⟩
  unfold xi
  by_cases h1:y≥65536
  ·have e:Int.fdiv (y:Int) (2^(min (16:Int).toNat (IntKind.bits .u64)))=((y/2^16:Nat):Int):=Cv (m:=16) (by omega)
   rw[aA,af (by omega),e,wrap64 (by omega) (by omega)]
   obtain ⟨t,h2,h3,h4⟩:=hF (y/2^16) (n+16) (by omega) (by omega)
   refine ⟨t+16,?_,by omega,fun _=> ?_⟩
   ·rw[show ((n:Int)+16)=((n+16:Nat):Int) by omega]
    simp only[un]
    rw[h2]
    congr 3
    omega
   ·obtain ⟨b3,b4⟩:=h4 (by omega)
    exact ⟨by omega,Qc b4 b3⟩
  ·rw[aA,ag (by omega)]
   obtain ⟨t,h2,h3,h4⟩:=hF y n (by omega) (by omega)
   exact ⟨t,h2,by omega,h4⟩
 by_cases h1:x≥4294967296
 ·have e:Int.fdiv (x:Int) (2^(min (32:Int).toNat (IntKind.bits .u64)))=((x/2^32:Nat):Int):=Cv (m:=32) (by omega)
  obtain ⟨_,hm⟩:=mid (x/2^32) 32 (by omega) (by omega)
  obtain ⟨t,h2,h3,h4⟩:=hm z7 last
  refine ⟨32+t,aai ?_,by omega,fun _=> ?_⟩
  ·show xh CC (x:Int) 0 (decide (((x:Int):Int)≥4294967296)) (un fun (uT:Int) (cN:Int)=>xi CC uT cN (decide ((uT:Int)≥65536)) (un z7))=_
   unfold xh
   rw[aA,af (by omega),e]
   exact h2
  ·obtain ⟨b3,b4⟩:=h4 (by omega)
   rw[Nat.add_comm 32 t]
   exact ⟨by omega,Qc b4 b3⟩
 ·obtain ⟨_,hm⟩:=mid x 0 (by omega) (by omega)
  obtain ⟨t,h2,h3,h4⟩:=hm z7 last
  refine ⟨t,aai ?_,by omega,h4⟩
  show xh CC (x:Int) 0 (decide (((x:Int):Int)≥4294967296)) (un fun (uT:Int) (cN:Int)=>xi CC uT cN (decide ((uT:Int)≥65536)) (un z7))=_
  unfold xh
  rw[aA,ag (by omega)]
  rw[eh] at h2
  exact h2
theorem aaq {x:Nat} (h:x<2^64): ∃L:Nat,CC Cg [.int .u64 (x:Int)]=some [.int .i64 (L:Int)]∧L≤64∧(0<x→1≤L∧2^(L-1)≤x):=by
 obtain ⟨L,h1,h2⟩:=alA h
 refine ⟨L,alk ?_,h2⟩
 unfold aaf
 rw[h1]
 rfl
theorem alB {x:Nat} (h0:0<x) (h:x<1152921504606846976): ∃M:Nat,CC HS [.int .i64 (x:Int)]=some [.int .u64 (M:Int)]∧1≤M∧M≤2*x:=by
 obtain ⟨L,h1,h2,h3⟩:=aaq (x:=x) (by omega)
 obtain ⟨h4,h5⟩:=h3 h0
 have e:2^L=2*2^(L-1):=by
  obtain ⟨k,rfl⟩: ∃k,L=k+1:=⟨L-1,by omega⟩
  rw[Nat.pow_succ];simp only[Fp];omega
 have hL:L<64:=by
  by_cases hx:L<64
  ·exact hx
  ·have:2^63≤2^(L-1):=ox (by omega) (by omega)
   omega
 refine ⟨2^L,alj ?_,rO (by simp),by omega⟩
 unfold aae
 rw[uD (A:=x) (by omega),h1]
 simp only[Option.bind_some,V.cd,V.toInt_int]
 rw[aA,af (by omega),Int.toNat_natCast,Cu hL]
theorem alC (r:Int): ∃R:Nat,CC HT [.int .u64 r]=some [.int .u64 (R:Int),.int .u64 (R:Int)]∧R<2^64:=by
 have h: ∀n:Int,∃R:Nat,IntKind.wrap .u64 n=(R:Int)∧R<2^64:=fun n=>⟨(IntKind.wrap .u64 n).toNat,by rw[wrap_u64];omega,by rw[wrap_u64];omega⟩
 obtain ⟨R,h1,h2⟩:=h _
 exact ⟨R,ali (by unfold aad;rw[h1]),h2⟩
theorem JT {d:Array Ed} {i:Nat} (h:i<d.size):idx (eA d) (i:Int)=some (d[i]!).enc:=by rw[Hf,gS h]
theorem Qd {d:Array Ed} {a b:Nat} {s:Int} (ha:a<d.size) (hb:b<d.size): ∃(x y:Nat) (s':Int),CC Co [.list av (eA d),.int .i64 (a:Int),.int .i64 (b:Int),.int .i64 s]=some [.int .i64 (x:Int),.int .i64 (y:Int),.int .i64 s']∧(x=a∧y=b∨x=b∧y=a):=by
 by_cases h:cf d[b]! d[a]! <0
 ·refine ⟨b,a,_,Z8 (by unfold Qa;rw[JT hb,JT ha];simp only[Option.bind_some,Ed.dE,Ed.dF,Ed.dG,iA,V.cd,V.toInt_int];rw[aA,af h]),.inr ⟨rfl,rfl⟩⟩
 ·refine ⟨a,b,_,Z8 (by unfold Qa;rw[JT hb,JT ha];simp only[Option.bind_some,Ed.dE,Ed.dF,Ed.dG,iA,V.cd,V.toInt_int];rw[aA,ag h]),.inl ⟨rfl,rfl⟩⟩
theorem Qe {d:Array Ed} {a b c:Nat} {s:Int} (ha:a<d.size) (hb:b<d.size) (hc:c<d.size): ∃(m:Nat) (s':Int),CC HX [.list av (eA d),.int .i64 (a:Int),.int .i64 (b:Int),.int .i64 (c:Int),.int .i64 s]=some [.int .i64 (m:Int),.int .i64 s']∧(m=a∨m=b∨m=c):=by
 obtain ⟨x1,y1,s1,e1,o1⟩:=Qd (s:=s) ha hb
 obtain ⟨x2,y2,s2,e2,o2⟩:=Qd (d:=d) (a:=y1) (b:=c) (s:=s1) (by omega) hc
 obtain ⟨x3,y3,s3,e3,o3⟩:=Qd (d:=d) (a:=x1) (b:=x2) (s:=s2) (by omega) (by omega)
 refine ⟨y3,s3,ald ?_,by omega⟩
 unfold Z7
 rw[e1]
 simp only[Option.bind_some,V.cd,V.sH,V.toInt_int,nn,kX]
 rw[e2]
 simp only[Option.bind_some,V.cd,V.sH,V.toInt_int,nn,kX]
 rw[e3]
 rfl
theorem Qf {d:Array Ed} {a:Nat} {s:Int} (h1:1≤a) (ha:a+1<d.size) (hs:d.size<1152921504606846976): ∃(m:Nat) (s':Int),CC Cn [.list av (eA d),.int .i64 (a:Int),.int .i64 s]=some [.int .i64 (m:Int),.int .i64 s']∧a≤m+1∧m≤a+1:=by
 obtain ⟨m,s',e,o⟩:=Qe (d:=d) (a:=a-1) (b:=a) (c:=a+1) (s:=s) (by omega) (by omega) (by omega)
 refine ⟨m,s',ale ?_,by omega,by omega⟩
 unfold Z9
 simp (disch:=omega) only[kR,dY,wrap64]
 rw[e]
 rfl
theorem Qg (n:Nat):Int.tdiv (n:Int) 4=((n/4:Nat):Int):=by
 have:=divC n 4
 exact this
theorem mulC (k n:Nat):((k:Nat):Int)*(n:Int)=((k*n:Nat):Int):=(Int.natCast_mul k n).symm
theorem alD {d:Array Ed} {a b:Nat} (gH:a+12<b) (hb:b≤d.size) (hs:d.size<1152921504606846976): ∃(p:Nat) (h:Int),CC HW [.list av (eA d),.int .i64 (a:Int),.int .i64 (b:Int)]=some [.int .i64 (p:Int),.int .i64 h]∧a≤p∧p<b:=by
 have fin: ∀(p:Nat) (s:Int),∃h:Int,(bif (s:Int)==0 then some [V.int .i64 (p:Int),V.int .i64 1] else bif (s:Int)==12 then some [V.int .i64 (p:Int),V.int .i64 2] else some [V.int .i64 (p:Int),V.int .i64 0])=some [V.int .i64 (p:Int),V.int .i64 h]:=by
  intro p s
  rw[oU]
  split
  ·exact ⟨1,rfl⟩
  ·rw[oU]
   split
   ·exact ⟨2,rfl⟩
   ·exact ⟨0,rfl⟩
 have e1:IntKind.wrap .i64 ((b:Int)-(a:Int))=((b-a:Nat):Int):=by rw[oa (by omega),wrap64 (by omega) (by omega)]
 have e2:IntKind.wrap .i64 (Int.tdiv ((b-a:Nat):Int) 4)=(((b-a)/4:Nat):Int):=by rw[Qg,wrap64 (by omega) (by omega)]
 have e3: ∀k:Nat,k≤3→IntKind.wrap .i64 ((a:Int)+IntKind.wrap .i64 ((k:Int)*(((b-a)/4:Nat):Int)))=((a+k*((b-a)/4):Nat):Int):=by
  intro k hk
  have uu:k*((b-a)/4)≤3*((b-a)/4):=dQ _ hk
  simp (disch:=omega) only[mulC,wrap64,gT]
 have Qh:=e3 1 (by omega)
 have uW:=e3 2 (by omega)
 have Qi:=e3 3 (by omega)
 rw[show ((1:Nat):Int)=1 from rfl] at Qh
 rw[show ((2:Nat):Int)=2 from rfl] at uW
 rw[show ((3:Nat):Int)=3 from rfl] at Qi
 by_cases h50:b-a≥50
 ·obtain ⟨m1,s1,q1,r1⟩:=Qf (d:=d) (a:=a+1*((b-a)/4)) (s:=0) (by omega) (by omega) hs
  obtain ⟨m2,s2,q2,r2⟩:=Qf (d:=d) (a:=a+2*((b-a)/4)) (s:=s1) (by omega) (by omega) hs
  obtain ⟨m3,s3,q3,r3⟩:=Qf (d:=d) (a:=a+3*((b-a)/4)) (s:=s2) (by omega) (by omega) hs
  obtain ⟨m,s,q,r⟩:=Qe (d:=d) (a:=m1) (b:=m2) (c:=m3) (s:=s3) (by omega) (by omega) (by omega)
  obtain ⟨h,hf⟩:=fin m s
  refine ⟨m,h,Z6 ?_,by omega,by omega⟩
  unfold P8 EE ED
  rw[e1,e2,Qh,uW,Qi,pf (by omega),cond_true,pf (by omega),cond_true,q1]
  simp only[Option.bind_some,V.cd,V.sH,V.toInt_int,nn,kX]
  rw[q2]
  simp only[Option.bind_some,V.cd,V.sH,V.toInt_int,nn,kX]
  rw[q3]
  simp only[Option.bind_some,V.cd,V.sH,V.toInt_int,nn,kX,un]
  rw[q]
  exact hf
 ·obtain ⟨m,s,q,r⟩:=Qe (d:=d) (a:=a+1*((b-a)/4)) (b:=a+2*((b-a)/4)) (c:=a+3*((b-a)/4)) (s:=0) (by omega) (by omega) (by omega)
  obtain ⟨h,hf⟩:=fin m s
  refine ⟨m,h,Z6 ?_,by omega,by omega⟩
  unfold P8 EE ED
  rw[e1,e2,Qh,uW,Qi,pf (by omega),cond_true,tp (by omega),cond_false]
  simp only[un]
  rw[q]
  exact hf
theorem alE {a b M:Nat} (hM1:1≤M) (hM:M≤2*(b-a)) (h8:8≤b-a) (hB:b<1152921504606846976): ∀(n i:Nat) (d:Array Ed) (r:Int),a+2*((b-a)/4)+2-i=n→a≤i→b≤d.size→d.size<1152921504606846976→
  ∃x y z R,Loop (JO CC a (b-a:Nat) M) ((i:Int),eA d,r)=some (x,y,eA R,z)∧PermIn a b d R:=by
 have e2:IntKind.wrap .i64 (Int.tdiv ((b-a:Nat):Int) 4)=(((b-a)/4:Nat):Int):=by rw[Qg,wrap64 (by omega) (by omega)]
 have uW:IntKind.wrap .i64 ((a:Int)+IntKind.wrap .i64 (2*(((b-a)/4:Nat):Int)))=((a+2*((b-a)/4):Nat):Int):=by
  have:=mulC 2 ((b-a)/4)
  rw[show ((2:Nat):Int)=2 from rfl] at this
  rw[this]
  simp (disch:=omega) only[wrap64,gT]
 intro n
 induction n with
 | zero=>
  intro i d r hn hi hb hs
  refine ⟨(i:Int),false,r,d,cl ?_,permIn_refl _ _ _⟩
  simp only[JO,EG,un]
  rw[e2,uW,dY,wrap64 (by omega) (by omega),tp (by omega),cond_false]
 | succ n ih=>
  intro i d r hn hi hb hs
  obtain ⟨R1,q1,q2⟩:=alC r
  obtain ⟨o,ho,oH⟩: ∃o:Nat,(o=if R1&&&(M-1)≥b-a then (R1&&&(M-1))-(b-a) else R1&&&(M-1))∧o<b-a:=by
   refine ⟨_,rfl,?_⟩
   have:R1&&&(M-1)≤M-1:=Nat.and_le_right
   split<;>omega
  have hand:R1&&&(M-1)≤M-1:=Nat.and_le_right
  have hP:=swp_permIn (α:=Ed) d a b i (a+o) hi (by omega) (by omega) (by omega) hb
  obtain ⟨x,y,z,R,e,hR⟩:=ih (i+1) (swp d i (a+o)) (R1:Int) (by omega) (by omega) (by rw[size_swp];exact hb) (by rw[size_swp];exact hs)
  refine ⟨x,y,z,R,(eF ?_).trans e,permIn_trans _ _ _ a b hP hR⟩
  simp only[JO,EG,un]
  rw[e2,uW,dY,wrap64 (x:=((a+2*((b-a)/4)+1:Nat):Int)) (by omega) (by omega),pf (by omega),cond_true,q1]
  simp only[Option.bind_some,V.cd,V.sH,V.toInt_int,nn,kX]
  have e5:IntKind.wrap .u64 ((M:Int)-1)=((M-1:Nat):Int):=by rw[kR hM1,uD (by omega)]
  rw[e5,u64_and q2 (by omega),wrap64 (x:=((R1&&&(M-1):Nat):Int)) (by omega) (by omega)]
  have fin: ∀k:Int,k=(o:Int)→(bif (decide (0≤(IntKind.wrap .i64 ((a:Int)+k))))&&(decide ((IntKind.wrap .i64 ((a:Int)+k))<((eA d).length:Int))) then
   ((eA d)[(IntKind.wrap .i64 ((a:Int)+k):Int).toNat]?).bind fun x4=>
   bif (decide (0≤(i:Int)))&&(decide ((i:Int)<((eA d).length:Int))) then
    ((eA d)[((i:Int):Int).toNat]?).bind fun x5=>
    bif (decide (0≤(i:Int)))&&(decide ((i:Int)<((eA d).length:Int))) then
    ((eA d)[((i:Int):Int).toNat]?).bind fun x6=>
    bif (decide (0≤(IntKind.wrap .i64 ((a:Int)+k))))&&(decide ((IntKind.wrap .i64 ((a:Int)+k))<(((eA d).set (((i:Int):Int).toNat) (.agg [.int .i64 ((x4.cell 0).toInt),.int .i64 ((x4.cell 1).toInt),.int .i64 ((x4.cell 2).toInt)])).length:Int))) then
     (((eA d).set (((i:Int):Int).toNat) (.agg [.int .i64 ((x4.cell 0).toInt),.int .i64 ((x4.cell 1).toInt),.int .i64 ((x4.cell 2).toInt)]))[(IntKind.wrap .i64 ((a:Int)+k):Int).toNat]?).bind fun x7=>
     some (.inl (IntKind.wrap .i64 ((i:Int)+1),((eA d).set (((i:Int):Int).toNat) (.agg [.int .i64 ((x4.cell 0).toInt),.int .i64 ((x4.cell 1).toInt),.int .i64 ((x4.cell 2).toInt)])).set ((IntKind.wrap .i64 ((a:Int)+k):Int).toNat) (.agg [.int .i64 ((x5.cell 0).toInt),.int .i64 ((x5.cell 1).toInt),.int .i64 ((x5.cell 2).toInt)]),(R1:Int)))
    else none
    else none
   else none
   else none:Option ((Int × List V × Int) ⊕ (Int × Bool × List V × Int)))=some (.inl (((i+1:Nat):Int),eA (swp d i (a+o)),(R1:Int))):=by
   intro k hk
   subst hk
   simp (disch:=omega) only[aA,dO,gJ,af,ag,wrap64,dY,gT,Int.toNat_natCast,Option.bind_some,gQ,gS,Ed.dE,Ed.dF,Ed.dG,Ed.re,gR,jt,iF,iA,V.cd,V.toInt_int,cond_true,cond_false]
   rfl
  unfold JN
  by_cases h:R1&&&(M-1)≥b-a
  ·rw[af h] at ho
   rw[pf (by omega),cond_true]
   exact fin _ (by rw[oa (by omega),wrap64 (by omega) (by omega)];omega)
  ·rw[ag h] at ho
   rw[tp (by omega),cond_false]
   exact fin _ (by omega)
theorem alF {a b:Nat} {d:Array Ed} (gH:a+12<b) (hb:b≤d.size) (hs:d.size<1152921504606846976): ∃R,CC MJ [.int .i64 (a:Int),.int .i64 (b:Int),.list av (eA d)]=some [.list av (eA R)]∧PermIn a b d R:=by
 obtain ⟨M,q1,q2,q3⟩:=alB (x:=b-a) (by omega) (by omega)
 have e1:IntKind.wrap .i64 ((b:Int)-(a:Int))=((b-a:Nat):Int):=by rw[oa (by omega),wrap64 (by omega) (by omega)]
 have e2:IntKind.wrap .i64 (Int.tdiv ((b-a:Nat):Int) 4)=(((b-a)/4:Nat):Int):=by rw[Qg,wrap64 (by omega) (by omega)]
 have uW:IntKind.wrap .i64 ((a:Int)+IntKind.wrap .i64 (2*(((b-a)/4:Nat):Int)))=((a+2*((b-a)/4):Nat):Int):=by
  have:=mulC 2 ((b-a)/4)
  rw[show ((2:Nat):Int)=2 from rfl] at this
  rw[this]
  simp (disch:=omega) only[wrap64,gT]
 obtain ⟨x,y,z,R,e,hR⟩:=alE (a:=a) (b:=b) (M:=M) q2 q3 (by omega) (by omega) _ (a+2*((b-a)/4)-1) d (IntKind.wrap .u64 ((b-a:Nat):Int)) rfl (by omega) hb hs
 refine ⟨R,alh ?_,hR⟩
 unfold aac
 rw[e1,aA,af (by omega),q1]
 simp only[Option.bind_some,V.cd,V.toInt_int]
 rw[e2,uW,kR (by omega),wrap64 (x:=((a+2*((b-a)/4)-1:Nat):Int)) (by omega) (by omega),e]
 rfl
noncomputable def uX (C:ae) (a b':Int) (fv fT:Bool) (da eD:Int) (od:List V) {β:Type} (kn:(Int × Int × Int × Bool × Bool × (List V))→Option β):Option β:=
      bif decide ((a:Int)>0) then
       bif (decide (0≤(IntKind.wrap .i64 (a-1))))&&(decide ((IntKind.wrap .i64 (a-1))<(od.length:Int))) then
       (od[(IntKind.wrap .i64 (a-1):Int).toNat]?).bind fun gO=>
       bif (decide (0≤eD))&&(decide (eD<(od.length:Int))) then
        (od[(eD:Int).toNat]?).bind fun kQ=>
        (C bG [.int .i64 ((gO.cell 0).toInt),.int .i64 ((gO.cell 1).toInt),.int .i64 ((gO.cell 2).toInt),.int .i64 ((kQ.cell 0).toInt),.int .i64 ((kQ.cell 1).toInt),.int .i64 ((kQ.cell 2).toInt)]).bind fun n0=>
        bif !(decide ((((V.nth n0 0).toInt):Int)<0)) then
        (C yW [.int .i64 a,.int .i64 b',.int .i64 eD,.list av od]).bind fun jQ=>
        kn ((V.nth jQ 0).toInt,b',da,fv,fT,(V.nth (jQ.drop 1) 0).toList)
        else
        (C qa [.int .i64 a,.int .i64 b',.int .i64 eD,.list av od]).bind fun cG=>
        bif decide (((IntKind.wrap .i64 (((V.nth cG 0).toInt)-a)):Int)<(IntKind.wrap .i64 (b'-((V.nth cG 0).toInt)))) then
         (C iR [.int .i64 a,.int .i64 ((V.nth cG 0).toInt),.int .i64 da,.list av ((V.nth (cG.drop 2) 0).toList)]).bind fun uU=>
         kn (IntKind.wrap .i64 (((V.nth cG 0).toInt)+1),b',da,decide (((IntKind.wrap .i64 (((V.nth cG 0).toInt)-a)):Int)≥(IntKind.wrap .i64 (Int.tdiv (IntKind.wrap .i64 (b'-a)) 8))),(V.nth (cG.drop 1) 0).toBool,(V.nth uU 0).toList)
        else
         (C iR [.int .i64 (IntKind.wrap .i64 (((V.nth cG 0).toInt)+1)),.int .i64 b',.int .i64 da,.list av ((V.nth (cG.drop 2) 0).toList)]).bind fun gV=>
         kn (a,(V.nth cG 0).toInt,da,decide (((IntKind.wrap .i64 (b'-((V.nth cG 0).toInt))):Int)≥(IntKind.wrap .i64 (Int.tdiv (IntKind.wrap .i64 (b'-a)) 8))),(V.nth (cG.drop 1) 0).toBool,(V.nth gV 0).toList)
       else none
       else none
      else
       (C qa [.int .i64 a,.int .i64 b',.int .i64 eD,.list av od]).bind fun iB=>
       bif decide (((IntKind.wrap .i64 (((V.nth iB 0).toInt)-a)):Int)<(IntKind.wrap .i64 (b'-((V.nth iB 0).toInt)))) then
       (C iR [.int .i64 a,.int .i64 ((V.nth iB 0).toInt),.int .i64 da,.list av ((V.nth (iB.drop 2) 0).toList)]).bind fun qt=>
       kn (IntKind.wrap .i64 (((V.nth iB 0).toInt)+1),b',da,decide (((IntKind.wrap .i64 (((V.nth iB 0).toInt)-a)):Int)≥(IntKind.wrap .i64 (Int.tdiv (IntKind.wrap .i64 (b'-a)) 8))),(V.nth (iB.drop 1) 0).toBool,(V.nth qt 0).toList)
       else
       (C iR [.int .i64 (IntKind.wrap .i64 (((V.nth iB 0).toInt)+1)),.int .i64 b',.int .i64 da,.list av ((V.nth (iB.drop 2) 0).toList)]).bind fun km=>
       kn (a,(V.nth iB 0).toInt,da,decide (((IntKind.wrap .i64 (b'-((V.nth iB 0).toInt))):Int)≥(IntKind.wrap .i64 (Int.tdiv (IntKind.wrap .i64 (b'-a)) 8))),(V.nth (iB.drop 1) 0).toBool,(V.nth km 0).toList)
theorem JU (C:ae) (a b' ko:Int) (fv fT:Bool) (ah:List V) {β:Type} (kn:(Int × Int × Int × Bool × Bool × (List V))→Option β) (kr:(List V)→Option β):
  rH C a b' ko fv fT ah kn kr=
 bif decide (((IntKind.wrap .i64 (b'-a)):Int)≤12) then
  (C HU [.int .i64 a,.int .i64 b',.list av ah]).bind fun r1=>
  kr ((V.nth r1 0).toList)
 else
  bif (ko:Int)==0 then
  (C HV [.int .i64 a,.int .i64 b',.list av ah]).bind fun r2=>
  kr ((V.nth r2 0).toList)
  else
  z0 C a b' ko fv fT (IntKind.wrap .i64 (b'-a)) (!fv) ah (un fun (da:Int) (EI:List V)=>
   (C HW [.list av EI,.int .i64 a,.int .i64 b']).bind fun r6=>
   z5 C a b' da fv fT (IntKind.wrap .i64 (b'-a)) ((V.nth r6 0).toInt) ((V.nth (r6.drop 1) 0).toInt) ((((V.nth (r6.drop 1) 0).toInt):Int)==2) EI (un fun (eD:Int)=>un fun (Qb:Int) (qp:List V)=>
    bif fv then
     bif fT then
     og C a b' da fv fT (IntKind.wrap .i64 (b'-a)) eD ((Qb:Int)==1) qp (cL (un fun (zw:Bool) (Qj:List V)=>
      kr Qj) (fun (od:List V)=>uX C a b' fv fT da eD od kn))
     else
     og C a b' da fv fT (IntKind.wrap .i64 (b'-a)) eD false qp (cL (un fun (aoD:Bool) (alG:List V)=>
      kr alG) (fun (alH:List V)=>uX C a b' fv fT da eD alH kn))
    else
     og C a b' da fv fT (IntKind.wrap .i64 (b'-a)) eD false qp (cL (un fun (aoE:Bool) (alI:List V)=>
      kr alI) (fun (alJ:List V)=>uX C a b' fv fT da eD alJ kn)))):=rfl
section
variable {a b:Nat} {lim:Int} {wb wp:Bool}
theorem alK {d:Array Ed} (gH:a+12<b) (hb:b≤d.size) (hs:d.size<1152921504606846976) (len:Int) (t:Bool): ∃(l1:Int) (d1:Array Ed),PermIn a b d d1∧∀(β:Type) (kr:(Int × List V)→Option β),z0 CC a b lim wb wp len t (eA d) kr=kr (l1,eA d1):=by
 cases t with
 | true=>
  obtain ⟨R,e,hR⟩:=alF gH hb hs
  refine ⟨IntKind.wrap .i64 (lim-1),R,hR,fun β kr=> ?_⟩
  unfold z0
  rw[cond_true,e]
  rfl
 | false=>exact ⟨lim,d,permIn_refl _ _ _,fun β kr=>rfl⟩
theorem alL {d:Array Ed} (gH:a+12<b) (hb:b≤d.size) (hs:d.size<1152921504606846976) (len h:Int) (t:Bool) {p:Nat} (h1:a≤p) (h2:p<b): ∃(p2:Nat) (h2:Int) (d1:Array Ed),a≤p2∧p2<b∧PermIn a b d d1∧∀(β:Type) (kr:(Int × Int × List V)→Option β),z5 CC a b lim wb wp len p h t (eA d) kr=kr ((p2:Int),h2,eA d1):=by
 cases t with
 | true=>
  refine ⟨b-1-(p-a),1,reverseRange d a b,by omega,by omega,reverseRange_holds d a b (by omega) hb,fun β kr=> ?_⟩
  unfold z5
  rw[cond_true,akx (by omega) hb hs]
  simp (disch:=omega) only[Option.bind_some,V.cd,V.oT,kR,oa,wrap64]
 | false=>exact ⟨p,h,d,h1,h2,permIn_refl _ _ _,fun β kr=>rfl⟩
theorem alM {d:Array Ed} (gH:a+12<b) (hb:b≤d.size) (hs:d.size<1152921504606846976) (hB:Below ay a b d) (len p:Int) (t:Bool): ∃d1:Array Ed,PermIn a b d d1∧
  ((∀(β:Type) (kr:((Bool × List V) ⊕ List V)→Option β),og CC a b lim wb wp len p t (eA d) kr=kr (.inr (eA d1)))∨
  (SortedIn ay a b d1∧∀(β:Type) (kr:((Bool × List V) ⊕ List V)→Option β),og CC a b lim wb wp len p t (eA d) kr=kr (.inl (true,eA d1)))):=by
 cases t with
 | true=>
  have hp:=partialInsertionSort_holds (lt:=ay) z6 d a b (by omega) hb hB
  refine ⟨_,hp.1,?_⟩
  cases h:(partialInsertionSort ay d a b).2 with
  | true=>
   refine .inr ⟨hp.2 h,fun β kr=> ?_⟩
   unfold og
   rw[cond_true,Z2 (by omega) hb hs,h]
   rfl
  | false=>
   refine .inl fun β kr=> ?_
   unfold og
   rw[cond_true,Z2 (by omega) hb hs,h]
   rfl
 | false=>exact ⟨d,permIn_refl _ _ _,.inl fun β kr=>rfl⟩
end
def JV (a b:Nat) (d:Array Ed):Prop:= ∀(lim:Int) (wb wp:Bool),∃R,Loop (aak CC) ((a:Int),(b:Int),lim,wb,wp,eA d)=some (eA R)∧PermIn a b d R∧SortedIn ay a b R
theorem JV.call {a b:Nat} {d:Array Ed} (h:JV a b d) (lim:Int): ∃R,CC iR [.int .i64 (a:Int),.int .i64 (b:Int),.int .i64 lim,.list av (eA d)]=some [.list av (eA R)]∧PermIn a b d R∧SortedIn ay a b R:=by
 obtain ⟨R,e,h1,h2⟩:=h lim true true
 refine ⟨R,alx ?_,h1,h2⟩
 unfold aam
 rw[e]
 rfl
theorem alN {a b p:Nat} {d:Array Ed} (gH:a+12<b) (hb:b≤d.size) (hs:d.size<1152921504606846976) (hB:Below ay a b d) (h1:a≤p) (h2:p<b)
  (ih: ∀(a2 b2:Nat) (d2:Array Ed),b2-a2<b-a→a2≤b2→b2≤d2.size→d2.size<1152921504606846976→Below ay a2 b2 d2→JV a2 b2 d2) (wb wp:Bool) (lim:Int):
  ∃(a2 b2:Nat) (xk xl:Bool) (d2:Array Ed),b2-a2<b-a∧a2≤b2∧b2≤d2.size∧d2.size<1152921504606846976∧Below ay a2 b2 d2∧
   (∀R,PermIn a2 b2 d2 R→SortedIn ay a2 b2 R→PermIn a b d R∧SortedIn ay a b R)∧
   ∀(β:Type) (kn:(Int × Int × Int × Bool × Bool × (List V))→Option β),uX CC a b wb wp lim p (eA d) kn=kn ((a2:Int),(b2:Int),lim,xk,xl,eA d2):=by
 have part: ∃(a2 b2:Nat) (xk xl:Bool) (d2:Array Ed),b2-a2<b-a∧a2≤b2∧b2≤d2.size∧d2.size<1152921504606846976∧Below ay a2 b2 d2∧
   (∀R,PermIn a2 b2 d2 R→SortedIn ay a2 b2 R→PermIn a b d R∧SortedIn ay a b R)∧
   ∀(β:Type) (kn:(Int × Int × Int × Bool × Bool × (List V))→Option β),
    ((CC qa [.int .i64 (a:Int),.int .i64 (b:Int),.int .i64 (p:Int),.list av (eA d)]).bind fun cG=>
        bif decide (((IntKind.wrap .i64 (((V.nth cG 0).toInt)-(a:Int))):Int)<(IntKind.wrap .i64 ((b:Int)-((V.nth cG 0).toInt)))) then
         (CC iR [.int .i64 (a:Int),.int .i64 ((V.nth cG 0).toInt),.int .i64 lim,.list av ((V.nth (cG.drop 2) 0).toList)]).bind fun uU=>
         kn (IntKind.wrap .i64 (((V.nth cG 0).toInt)+1),(b:Int),lim,decide (((IntKind.wrap .i64 (((V.nth cG 0).toInt)-(a:Int))):Int)≥(IntKind.wrap .i64 (Int.tdiv (IntKind.wrap .i64 ((b:Int)-(a:Int))) 8))),(V.nth (cG.drop 1) 0).toBool,(V.nth uU 0).toList)
        else
         (CC iR [.int .i64 (IntKind.wrap .i64 (((V.nth cG 0).toInt)+1)),.int .i64 (b:Int),.int .i64 lim,.list av ((V.nth (cG.drop 2) 0).toList)]).bind fun gV=>
         kn ((a:Int),(V.nth cG 0).toInt,lim,decide (((IntKind.wrap .i64 ((b:Int)-((V.nth cG 0).toInt))):Int)≥(IntKind.wrap .i64 (Int.tdiv (IntKind.wrap .i64 ((b:Int)-(a:Int))) 8))),(V.nth (cG.drop 1) 0).toBool,(V.nth gV 0).toList))=kn ((a2:Int),(b2:Int),lim,xk,xl,eA d2):=by
  obtain ⟨mid,ap,d4,hx⟩: ∃mid ap d4,partition ay d a b p=(mid,ap,d4):=⟨_,_,_,rfl⟩
  obtain ⟨g1,g2,qu,hBa,hBr,alO,alP⟩:=round_part z6 (partition_holds ay) h1 h2 hb hB hx
  have hc:=ak2 (a:=a) (b:=b) (pivot:=p) (d:=d) h2 (by omega) hb hs
  rw[hx] at hc
  by_cases hl:mid-a<b-mid
  ·obtain ⟨L,e,l1,l2⟩:=(ih a mid d4 (by omega) g1 (by rw[qu];omega) (by rw[qu];exact hs) hBa).call lim
   obtain ⟨Qk,pe⟩:=alO _ l1 l2
   refine ⟨mid+1,b,decide (((IntKind.wrap .i64 ((mid:Int)-(a:Int))):Int)≥(IntKind.wrap .i64 (Int.tdiv (IntKind.wrap .i64 ((b:Int)-(a:Int))) 8))),ap,L,by omega,by omega,by rw[l1.1,qu];exact hb,by rw[l1.1,qu];exact hs,Qk,pe,fun β kn=> ?_⟩
   ·rw[hc]
    simp only[Option.bind_some,V.cd,V.sH,V.toInt_int,V.me,V.oT,nn,kX]
    rw[aA,af (by rw[oa g1,oa (by omega),wrap64 (by omega) (by omega),wrap64 (by omega) (by omega)];omega),e]
    simp only[Option.bind_some,V.cd,V.oT]
    rw[dY,wrap64 (x:=((mid+1:Nat):Int)) (by omega) (by omega)]
  ·obtain ⟨L,e,l1,l2⟩:=(ih (mid+1) b d4 (by omega) (by omega) (by rw[qu];exact hb) (by rw[qu];exact hs) hBr).call lim
   obtain ⟨Qk,pe⟩:=alP _ l1 l2
   refine ⟨a,mid,decide (((IntKind.wrap .i64 ((b:Int)-(mid:Int))):Int)≥(IntKind.wrap .i64 (Int.tdiv (IntKind.wrap .i64 ((b:Int)-(a:Int))) 8))),ap,L,by omega,by omega,by rw[l1.1,qu];omega,by rw[l1.1,qu];exact hs,Qk,pe,fun β kn=> ?_⟩
   ·rw[hc]
    simp only[Option.bind_some,V.cd,V.sH,V.toInt_int,V.me,V.oT,nn,kX]
    rw[aA,ag (by rw[oa g1,oa (by omega),wrap64 (by omega) (by omega),wrap64 (by omega) (by omega)];omega),dY,wrap64 (x:=((mid+1:Nat):Int)) (by omega) (by omega),e]
    simp only[Option.bind_some,V.cd,V.oT]
 by_cases ha:0<a
 ·by_cases hc:cf d[a-1]! d[p]! <0
  ·obtain ⟨a2,b2,xk,xl,d2,q1,q2,q3,q4,q5,q6,q7⟩:=part
   refine ⟨a2,b2,xk,xl,d2,q1,q2,q3,q4,q5,q6,fun β kn=> ?_⟩
   rw[←q7 β kn]
   unfold uX
   rw[aA,af (by omega),kR ha,wrap64 (by omega) (by omega),lK (i:=a-1) (by omega),lM (by omega),lK (i:=p) (by omega),lM (by omega)]
   simp only[Ed.dE,Ed.dF,Ed.dG,iA,Option.bind_some,V.cd,V.toInt_int]
   rw[gJ,aA,af hc]
  ·obtain ⟨mid,d4,hx⟩: ∃mid d4,partitionEqual ay d a b p=(mid,d4):=⟨_,_,rfl⟩
   obtain ⟨g1,pO,qu,hB4,pe⟩:=round_eq z6 (partitionEqual_holds ay) ha h1 h2 hb hB (by rw[JR,←propext (Il _ _)];exact hc) hx
   have he:=ak4 (a:=a) (b:=b) (pivot:=p) (d:=d) h2 (by omega) hb hs
   rw[hx] at he
   refine ⟨mid,b,wb,wp,d4,by omega,pO,by rw[qu];exact hb,by rw[qu];exact hs,hB4,pe,fun β kn=> ?_⟩
   unfold uX
   rw[aA,af (by omega),kR ha,wrap64 (by omega) (by omega),lK (i:=a-1) (by omega),lM (by omega),lK (i:=p) (by omega),lM (by omega)]
   simp only[Ed.dE,Ed.dF,Ed.dG,iA,Option.bind_some,V.cd,V.toInt_int]
   rw[gJ,aA,ag hc,he]
   rfl
 ·obtain ⟨a2,b2,xk,xl,d2,q1,q2,q3,q4,q5,q6,q7⟩:=part
  refine ⟨a2,b2,xk,xl,d2,q1,q2,q3,q4,q5,q6,fun β kn=> ?_⟩
  rw[←q7 β kn]
  unfold uX
  rw[aA,ag (by omega)]
theorem alQ: ∀(n a b:Nat) (d:Array Ed),b-a≤n→a≤b→b≤d.size→d.size<1152921504606846976→Below ay a b d→JV a b d:=by
 intro n
 induction n with
 | zero=>
  intro a b d hn gH hb hs hB lim wb wp
  have hi:=insertionSort_holds (lt:=ay) z6 d a b gH hb
  refine ⟨_,cl ?_,hi⟩
  show rH CC a b lim wb wp (eA d) (fun y=>some (Sum.inl y)) (fun r=>some (Sum.inr r))=_
  rw[JU,aA,af (by rw[oa gH,wrap64 (by omega) (by omega)];omega),ZJ hb hs (by omega)]
  rfl
 | succ n ih=>
  intro a b d hn gH hb hs hB lim wb wp
  by_cases h12:b-a≤12
  ·have hi:=insertionSort_holds (lt:=ay) z6 d a b gH hb
   refine ⟨_,cl ?_,hi⟩
   show rH CC a b lim wb wp (eA d) (fun y=>some (Sum.inl y)) (fun r=>some (Sum.inr r))=_
   rw[JU,aA,af (by rw[oa gH,wrap64 (by omega) (by omega)];omega),ZJ hb hs (by omega)]
   rfl
  ·have EJ:a+12<b:=by omega
   have ur: ¬(((IntKind.wrap .i64 ((b:Int)-(a:Int))):Int)≤12):=by rw[oa gH,wrap64 (by omega) (by omega)];omega
   by_cases h0:lim=0
   ·have hi:=heapSort_holds (lt:=ay) z6 d a b gH hb
    refine ⟨_,cl ?_,hi⟩
    show rH CC a b lim wb wp (eA d) (fun y=>some (Sum.inl y)) (fun r=>some (Sum.inr r))=_
    rw[JU,aA,ag ur,oU,af h0,akv (by omega) hb hs]
    rfl
   ·obtain ⟨l1,d1,s1,k1⟩:=alK (lim:=lim) (wb:=wb) (wp:=wp) EJ hb hs (IntKind.wrap .i64 ((b:Int)-(a:Int))) (!wb)
    have b1:b≤d1.size:=by rw[s1.1];exact hb
    have z1:d1.size<1152921504606846976:=by rw[s1.1];exact hs
    obtain ⟨p,h,c1,p1,p2⟩:=alD EJ b1 z1
    obtain ⟨q,h2,d2,q1,q2,s2,k2⟩:=alL (lim:=l1) (wb:=wb) (wp:=wp) EJ b1 z1 (IntKind.wrap .i64 ((b:Int)-(a:Int))) h (h==2) p1 p2
    have b2:b≤d2.size:=by rw[s2.1];exact b1
    have z2:d2.size<1152921504606846976:=by rw[s2.1];exact z1
    have B2:Below ay a b d2:=(hB.perm hb s1).perm b1 s2
    obtain ⟨t,ht⟩: ∃t:Bool,t=(bif wb then (bif wp then (h2==1) else false) else false):=⟨_,rfl⟩
    obtain ⟨d3,s3,k3⟩:=alM (lim:=l1) (wb:=wb) (wp:=wp) EJ b2 z2 B2 (IntKind.wrap .i64 ((b:Int)-(a:Int))) (q:Int) t
    have b3:b≤d3.size:=by rw[s3.1];exact b2
    have z3:d3.size<1152921504606846976:=by rw[s3.1];exact z2
    have B3:Below ay a b d3:=B2.perm b2 s3
    have P3:PermIn a b d d3:=permIn_trans _ _ _ a b (permIn_trans _ _ _ a b s1 s2) s3
    have step: ∀(β:Type) (kn:(Int × Int × Int × Bool × Bool × (List V))→Option β) (kr:(List V)→Option β),rH CC a b lim wb wp (eA d) kn kr=
      og CC a b l1 wb wp (IntKind.wrap .i64 ((b:Int)-(a:Int))) (q:Int) t (eA d2) (cL (un fun (zw:Bool) (Qj:List V)=>kr Qj) (fun (od:List V)=>uX CC a b wb wp l1 q od kn)):=by
     intro β kn kr
     rw[JU,aA,ag ur,oU,ag h0,k1]
     simp only[un]
     rw[c1]
     simp only[Option.bind_some,V.cd,V.sH,V.toInt_int,nn,kX]
     rw[k2]
     simp only[un]
     rw[ht]
     cases wb
     ·rfl
     ·cases wp
      ·rfl
      ·rfl
    rcases k3 with k3|⟨k3s,k3⟩
    ·obtain ⟨a4,b4,wb4,wp4,d4,r1,r2,r3,r4,r5,r6,r7⟩:=alN EJ b3 z3 B3 q1 q2 (fun a2 b2 d2 a9 h1 h2 h3 h4=>ih a2 b2 d2 (by omega) h1 h2 h3 h4) wb wp l1
     obtain ⟨R,e,e1,e2⟩:=ih a4 b4 d4 (by omega) r2 r3 r4 r5 l1 wb4 wp4
     obtain ⟨f1,f2⟩:=r6 R e1 e2
     refine ⟨R,(eF ?_).trans e,permIn_trans _ _ _ a b P3 f1,f2⟩
     show rH CC a b lim wb wp (eA d) (fun y=>some (Sum.inl y)) (fun r=>some (Sum.inr r))=_
     rw[step,k3]
     exact r7 _ (fun y=>some (Sum.inl y))
    ·refine ⟨d3,cl ?_,P3,k3s⟩
     show rH CC a b lim wb wp (eA d) (fun y=>some (Sum.inl y)) (fun r=>some (Sum.inr r))=_
     rw[step,k3]
     rfl
theorem alR (l:List Ed) (hs:l.length<1152921504606846976): ∃R:List Ed,CC B9 [.list av (l.map Ed.enc)]=some [.list av (R.map Ed.enc)]∧R.Perm l∧R.Pairwise (fun x y=> ¬y.lt x):=by
 obtain ⟨L,e1,_⟩:=aaq (x:=l.length) (by omega)
 obtain ⟨R,e2,h1,h2⟩:=(alQ _ 0 l.toArray.size l.toArray (ax _) (ku _) (ax _) (by simpa using hs) (.inl rfl)).call (L:Int)
 have bn:R.size=l.length:=by rw[h1.1];simp
 refine ⟨R.toList,aly ?_,?_,?_⟩
 ·unfold aan
  rw[cb,uD (A:=l.length) (by omega),e1]
  simp only[Option.bind_some,V.cd,V.toInt_int]
  have e3:eA l.toArray=l.map Ed.enc:=by simp[rC]
  rw[e3,show ((l.toArray.size:Nat):Int)=(l.length:Int) by simp,show ((0:Nat):Int)=0 from rfl] at e2
  rw[e2]
  rfl
 ·have h3:=h1.2.2
  rw[show l.toArray.size=R.size from h1.1.symm,Array.extract_size,h1.1,Array.extract_size] at h3
  exact h3
 ·rw[xA]
  intro i j hi hj vT
  have h3:=h2 i j (ku _) vT (by simpa[←bn] using hj)
  rw[JR] at h3
  have eB:i<R.size:=by simpa using hi
  have il:j<R.size:=by simpa using hj
  rw[getElem!_pos R i eB,getElem!_pos R j il] at h3
  simpa using h3
end Go.AM.SL
set_option maxRecDepth 100000
namespace Go.AM
open Go.Proofs
noncomputable abbrev uY:Code:=cJ Tryd.prog (au.bc 93)
noncomputable def EK (C:ae) (i x s at':Int) (t57:Bool) (aR aJ aX aS:Int) (gL:List V) (cg ch:Int) (jw places:List V) (iy iz:Int) (rows bw bh cj dL:List V) {β:Type} (kr:((Int × Int × Int × (List V) × (List V) × (List V)) ⊕ (Int × (List V) × (List V)))→Option β):Option β:=
 bif t57 then
  bif ((jw.length:Int):Int)==512 then
  kr (.inl (3,0,0,([]:List V),([]:List V),([]:List V)))
  else
  bif dp .u64 s&&true then
   bif Nat.ble ((jw.length+([.int .u64 s]:List V).length)*8) bP then
   kr (.inr ((jw.length:Int),jw++([.int .u64 s]:List V),fB (.int .u64 s) (.int .i64 (jw.length:Int)) places))
   else none
  else none
 else
  kr (.inr (at',jw,places))
noncomputable def z8 (C:ae) (i aR aJ aX aS:Int) (gL:List V) (cg ch iy iz:Int) (bw bh cj dL:List V) (x:Int) (jw places rows:List V) {β:Type} (kn:(Int × (List V) × (List V) × (List V))→Option β) (kr:((Int × Int × Int × (List V) × (List V) × (List V)) ⊕ (Int × Bool × (List V) × (List V) × (List V)))→Option β):Option β:=
 bif decide ((x:Int)<aR) then
  bif (decide (0≤i))&&(decide (i<(jw.length:Int))) then
  (jw[(i:Int).toNat]?).bind fun x2=>
  (C uB [.int .i64 aR,.int .i64 aJ,.int .u64 aX,.int .u64 aS,.list av gL,.int .u64 x2.toInt,.int .i64 x]).bind fun r3=>
  bif dp .u64 ((V.nth r3 0).toInt)&&true then
   EK C i x ((V.nth r3 0).toInt) ((jb (.int .u64 ((V.nth r3 0).toInt)) places (.int .i64 0)).toInt) (!(gk (.int .u64 ((V.nth r3 0).toInt)) places)) aR aJ aX aS gL cg ch jw places iy iz rows bw bh cj dL (cL (un fun (jr:Int)=>un fun (alS:Int)=>un fun (alT:Int)=>un fun (Ql:List V)=>un fun (Qm:List V) (alU:List V)=>
    kr (.inl (jr,alS,alT,Ql,Qm,alU))) (un fun (aar:Int)=>un fun (alV:List V) (alW:List V)=>
    bif Nat.ble ((rows.length+([.int .i64 aar]:List V).length)*8) bP then
    kn (IntKind.wrap .i64 (x+1),alV,alW,rows++([.int .i64 aar]:List V))
    else none))
  else none
  else none
 else
  kr (.inr (x,decide ((x:Int)<aR),jw,places,rows))
noncomputable def xm (C:ae) (i aR aJ aX aS:Int) (gL:List V) (cg ch iy iz:Int) (bw bh cj dL:List V):(Int × (List V) × (List V) × (List V))→Option ((Int × (List V) × (List V) × (List V)) ⊕ ((Int × Int × Int × (List V) × (List V) × (List V)) ⊕ (Int × Bool × (List V) × (List V) × (List V)))):=un fun x=>un fun jw=>un fun places rows=>z8 C i aR aJ aX aS gL cg ch iy iz bw bh cj dL x jw places rows (fun y=>some (.inl y)) (fun r=>some (.inr r))
noncomputable def EL (C:ae) (aR aJ aX aS:Int) (gL:List V) (cg ch iy iz:Int) (bO bw:List V) (i:Int) (jw places bh cj:List V) {β:Type} (kn:(Int × (List V) × (List V) × (List V) × (List V))→Option β) (kr:((Int × Int × Int × (List V) × (List V) × (List V)) ⊕ (Int × Bool × (List V) × (List V) × (List V) × (List V)))→Option β):Option β:=
 bif decide ((i:Int)<(jw.length:Int)) then
  (Loop (xm C i aR aJ aX aS gL cg ch iy iz bO bw bh cj) (0,jw,places,([]:List V))).bind (cL (un fun (o4:Int)=>un fun (alX:Int)=>un fun (alY:Int)=>un fun (PA:List V)=>un fun (tf:List V) (alZ:List V)=>
   kr (.inl (o4,alX,alY,PA,tf,alZ))) (un fun (aoF:Int)=>un fun (YS:Bool)=>un fun (Qn:List V)=>un fun (al0:List V) (aas:List V)=>
   bif Nat.ble ((cj.length+([.list bt aas]:List V).length)*24) bP then
   bif (decide (0≤i))&&(decide (i<(Qn.length:Int))) then
    (Qn[(i:Int).toNat]?).bind fun rF=>
    bif Nat.ble ((bh.length+([.bool (((IntKind.wrap .u64 ((BitVec.ofInt (IntKind.bits .u64) rF.toInt&&&BitVec.ofInt (IntKind.bits .u64) aS).toNat)):Int) != 0)]:List V).length)*1) bP then
    kn (IntKind.wrap .i64 (i+1),Qn,al0,bh++([.bool (((IntKind.wrap .u64 ((BitVec.ofInt (IntKind.bits .u64) rF.toInt&&&BitVec.ofInt (IntKind.bits .u64) aS).toNat)):Int) != 0)]:List V),cj++([.list bt aas]:List V))
    else none
   else none
   else none))
 else
  kr (.inr (i,decide ((i:Int)<(jw.length:Int)),jw,places,bh,cj))
noncomputable def z9 (C:ae) (aR aJ aX aS:Int) (gL:List V) (cg ch iy iz:Int) (bO bw:List V):(Int × (List V) × (List V) × (List V) × (List V))→Option ((Int × (List V) × (List V) × (List V) × (List V)) ⊕ ((Int × Int × Int × (List V) × (List V) × (List V)) ⊕ (Int × Bool × (List V) × (List V) × (List V) × (List V)))):=un fun i=>un fun jw=>un fun places=>un fun bh cj=>EL C aR aJ aX aS gL cg ch iy iz bO bw i jw places bh cj (fun y=>some (.inl y)) (fun r=>some (.inr r))
noncomputable def aat (C:ae):cD:=fun β n ds k=>
 bif Nat.beq n 927 then mM NQ [[0,0,0,0,0,0],[1,2,0,6,7,8,9,10,11,12,0,0,15,16,17,18,19,20,21]] (@EK C) ds k else
 bif Nat.beq n 193 then bz NR [false,true,false,false,false,false,false,false,false,true,true,false,false,true,false,false,false,false] [[0,0,0,0,0,0],[1,0,0,3,4,5,6,7,8,9,0,0,12,13,0,15,16,17,18]] (@z8 C) ds k else
 bif Nat.beq n 129 then bz NS [true,false,false,false,false,false,false,false,true,true,false,false,false,false,true,true] [[0,0,0,0,0,0],[0,0,2,3,4,5,6,7,8,0,0,11,12,13,14,0,0]] (@EL C) ds k else
 none
abbrev Qo (C:ae) (b:cB):Prop:=cC Tryd.prog au C (aat C) 93 (cQ Tryd.prog (au.bc 93)) (au.sin 93).bj.length b
theorem al1 (C:ae):Qo C (.cond 57 (ao [1,1,1,1,1,0,1,0,0,1,0,0,1,0,1,0,0,1,0,0,1,1,0,1,0] uY) (ao [1,1,1,1,1,0,1,0,0,1,0,0,1,0,1,0,0,1,0,0,1,1,0,1,1] uY)):=
 nL NQ [[0,0,0,0,0,0],[1,2,0,6,7,8,9,10,11,12,0,0,15,16,17,18,19,20,21]] (@EK C) (by kernel_rfl) (aW (bs:=[]) (by kernel_rfl) ar) (aW (bs:=[]) (by kernel_rfl) ar) (fun ds=>by kernel_rfl) (fun i β k=>by kernel_rfl) (fun β ds k=>by kernel_rfl)
theorem al2 (C:ae):Qo C (.loop (ao [1,1,1,1,1,0,1,0,0,1,0,0,1,0,1,0,0] uY)):=
 bC NR [false,true,false,false,false,false,false,false,false,true,true,false,false,true,false,false,false,false] [[0,0,0,0,0,0],[1,0,0,3,4,5,6,7,8,9,0,0,12,13,0,15,16,17,18]] (@z8 C) (by kernel_rfl) (aW (bs:=[.cond 57 (ao [1,1,1,1,1,0,1,0,0,1,0,0,1,0,1,0,0,1,0,0,1,1,0,1,0] uY) (ao [1,1,1,1,1,0,1,0,0,1,0,0,1,0,1,0,0,1,0,0,1,1,0,1,1] uY)]) (by kernel_rfl) (bm (al1 C) ar)) (fun ds=>by kernel_rfl) (fun i x=>by kernel_rfl) (fun i x β k=>by kernel_rfl) (fun β ds k=>by kernel_rfl)
theorem al3 (C:ae):Qo C (.loop (ao [1,1,1,1,1,0,1,0,0] uY)):=
 bC NS [true,false,false,false,false,false,false,false,true,true,false,false,false,false,true,true] [[0,0,0,0,0,0],[0,0,2,3,4,5,6,7,8,0,0,11,12,13,14,0,0]] (@EL C) (by kernel_rfl) (aW (bs:=[.loop (ao [1,1,1,1,1,0,1,0,0,1,0,0,1,0,1,0,0] uY)]) (by kernel_rfl) (bm (al2 C) ar)) (fun ds=>by kernel_rfl) (fun i x=>by kernel_rfl) (fun i x β k=>by kernel_rfl) (fun β ds k=>by kernel_rfl)
noncomputable def Qp (C:ae) (cM dc cN dB:Int) (cP:List V):Option (List V):=
 (C HK [.int .i64 cM,.int .i64 dc,.int .u64 cN,.int .u64 dB,.list av cP]).bind fun r1=>
 bif (((V.nth r1 0).toInt):Int) != 0 then
  some [.int .i64 0,.int .i64 0,.int .i64 ((V.nth r1 0).toInt),.list aC ([]:List V),.list aG ([]:List V),.list ct ([]:List V)]
 else
  bif dp .u64 cN&&true then
  (Loop (z9 C cM dc cN dB cP 0 0 cM 0 ([]:List V) ([]:List V)) (0,([.int .u64 cN]:List V),fB (.int .u64 cN) (.int .i64 0) ([]:List V),([]:List V),([]:List V))).bind (cL (un fun (I8:Int)=>un fun (al4:Int)=>un fun (al5:Int)=>un fun (al6:List V)=>un fun (al7:List V) (al8:List V)=>
   some [.int .i64 al4,.int .i64 al5,.int .i64 I8,.list aC al6,.list aG al7,.list ct al8]) (un fun (akV:Int)=>un fun (aky:Bool)=>un fun (al9:List V)=>un fun (aoG:List V)=>un fun (Di:List V) (DN:List V)=>
   some [.int .i64 cM,.int .i64 0,.int .i64 0,.list aC Di,.list aG DN,.list ct al9]))
  else none
theorem aau {cM dc cN dB:Int} {cP:List V} {r:Option (List V)} (h:Qp CC cM dc cN dB cP=r):CC Cd [.int .i64 cM,.int .i64 dc,.int .u64 cN,.int .u64 dB,.list av cP]=r:=
 bD (key:=93) (L:=aat CC) (bs:=[.loop (ao [1,1,1,1,1,0,1,0,0] uY)]) (by kernel_rfl) (bm (al3 CC) ar) (bB (by kernel_rfl) h)
noncomputable def aav (C:ae) (cM dc cN dB:Int) (cP:List V):Option (List V):=
 bif decide ((dc:Int)>64) then
  some [.int .i64 0,.int .i64 0,.int .i64 3,.list aC ([]:List V),.list aG ([]:List V)]
 else
  (C HB [.list av cP]).bind fun r1=>
  (C Cd [.int .i64 cM,.int .i64 dc,.int .u64 cN,.int .u64 dB,.list av ((V.nth r1 0).toList)]).bind fun r2=>
  bif (((V.nth (r2.drop 2) 0).toInt):Int) != 0 then
  some [.int .i64 0,.int .i64 0,.int .i64 ((V.nth (r2.drop 2) 0).toInt),.list aC ([]:List V),.list aG ([]:List V)]
  else
  (C yQ [.int .i64 ((V.nth r2 0).toInt),.int .i64 ((V.nth (r2.drop 1) 0).toInt),.list aC ((V.nth (r2.drop 3) 0).toList),.list aG ((V.nth ((r2.drop 3).drop 1) 0).toList)]).bind fun r3=>
  some [.int .i64 ((V.nth r3 0).toInt),.int .i64 ((V.nth (r3.drop 1) 0).toInt),.int .i64 0,.list aC ((V.nth (r3.drop 2) 0).toList),.list aG ((V.nth ((r3.drop 2).drop 1) 0).toList)]
theorem ama {cM dc cN dB:Int} {cP:List V} {r:Option (List V)} (h:aav CC cM dc cN dB cP=r):CC B7 [.int .i64 cM,.int .i64 dc,.int .u64 cN,.int .u64 dB,.list av cP]=r:=
 bD (key:=67) (L:=dJ) (bs:=[]) (by kernel_rfl) ar (bB (by kernel_rfl) h)
noncomputable def aaw (C:ae) (cM dc cN dB:Int) (cP:List V):Option (List V):=
 (C Ce [.int .i64 cM,.int .i64 dc,.int .u64 cN,.int .u64 dB,.list av cP]).bind fun r1=>
 bif (((V.nth (r1.drop 2) 0).toInt):Int) != 0 then
  some [.int .i64 0,.int .i64 0,.int .i64 ((V.nth (r1.drop 2) 0).toInt),.list aC ([]:List V),.list aG ([]:List V)]
 else
  (C yR [.int .i64 ((V.nth r1 0).toInt),.int .i64 ((V.nth (r1.drop 1) 0).toInt),.list aC ((V.nth (r1.drop 3) 0).toList),.list aG ((V.nth ((r1.drop 3).drop 1) 0).toList)]).bind fun r2=>
  some [.int .i64 ((V.nth r2 0).toInt),.int .i64 ((V.nth (r2.drop 1) 0).toInt),.int .i64 0,.list aC ((V.nth (r2.drop 2) 0).toList),.list aG ((V.nth ((r2.drop 2).drop 1) 0).toList)]
theorem amb {cM dc cN dB:Int} {cP:List V} {r:Option (List V)} (h:aaw CC cM dc cN dB cP=r):CC B8 [.int .i64 cM,.int .i64 dc,.int .u64 cN,.int .u64 dB,.list av cP]=r:=
 bD (key:=79) (L:=dJ) (bs:=[]) (by kernel_rfl) ar (bB (by kernel_rfl) h)
noncomputable def Qq (C:ae) (aR aJ aX aS:Int) (bS:List V):Option (List V):=
 (C B9 [.list av bS]).bind fun r1=>
 (C HA [.list av ((V.nth r1 0).toList)]).bind fun r2=>
 bif (V.nth r2 0).toBool then
  (C B8 [.int .i64 aR,.int .i64 aJ,.int .u64 aX,.int .u64 aS,.list av ((V.nth (r2.drop 1) 0).toList)]).bind fun r3=>
  some [.int .i64 ((V.nth r3 0).toInt),.int .i64 ((V.nth (r3.drop 1) 0).toInt),.int .i64 ((V.nth (r3.drop 2) 0).toInt),.int .i64 aR,.int .i64 aJ,.int .u64 aX,.int .u64 aS,.list av ((V.nth (r2.drop 1) 0).toList),.list aC ((V.nth (r3.drop 3) 0).toList),.list aG ((V.nth ((r3.drop 3).drop 1) 0).toList)]
 else
  (C B8 [.int .i64 aR,.int .i64 aJ,.int .u64 aX,.int .u64 aS,.list av ((V.nth (r2.drop 1) 0).toList)]).bind fun r4=>
  some [.int .i64 ((V.nth r4 0).toInt),.int .i64 ((V.nth (r4.drop 1) 0).toInt),.int .i64 ((V.nth (r4.drop 2) 0).toInt),.int .i64 aR,.int .i64 aJ,.int .u64 aX,.int .u64 aS,.list av ((V.nth (r2.drop 1) 0).toList),.list aC ((V.nth (r4.drop 3) 0).toList),.list aG ((V.nth ((r4.drop 3).drop 1) 0).toList)]
theorem aax {aR aJ aX aS:Int} {bS:List V} {r:Option (List V)} (h:Qq CC aR aJ aX aS bS=r):CC uA [.int .i64 aR,.int .i64 aJ,.int .u64 aX,.int .u64 aS,.list av bS]=r:=
 bD (key:=65) (L:=dJ) (bs:=[]) (by kernel_rfl) ar (bB (by kernel_rfl) h)
section
variable {n:Nf} {L S:Nat} (h:Nat6 n L S)
include h
theorem aay {T U:List Nat} {s:Nat} {i:Nat} (hi:i<T.length) (hs:T[i]=s) (iO:s<2^S) {x:Nat} (hx:x<L) (hpx:bf (sn n.E) T s (x+1) <+: U) (hU:(bf (sn n.E) T s (x+1)).length≤512) {c1 c2 c3 c4:Int} {l1 l2 l3 l4:List V}:
  xm CC (i:Int) (L:Int) n.S (n.st:Int) (n.fin:Int) (n.E.map Ed.enc) c1 c2 c3 c4 l1 l2 l3 l4 ((x:Int),U1 (bf (sn n.E) T s x),uM (bf (sn n.E) T s x),(tab x fun j=>nV (U.idxOf (sn n.E s j))))=
   some (.inl (((x+1:Nat):Int),U1 (bf (sn n.E) T s (x+1)),uM (bf (sn n.E) T s (x+1)),(tab (x+1) fun j=>nV (U.idxOf (sn n.E s j))))):=by
 have h6:=h.l6
 have zA:=h.pow
 have qo:=CS (next:=sn n.E) T s x
 have iM:i<(bf (sn n.E) T s x).length:=gy hi qo.length_le
 have zC:(bf (sn n.E) T s x)[i]=s:=by rw[←qo.getElem hi,hs]
 have hn:=h.next s x
 have fD:=hU
 have k1:dp .u64 ((sn n.E s x:Nat):Int)=true:=zi (by omega)
 have st:=WN n h.ok h.good (set:=s) (by omega) (x:Int)
 simp only[xm,z8,un]
 refine bT (cU hx) ?_
 refine (qj (Ji iM)).trans ?_
 rw[zC]
 have st':CC uB [.int .i64 (L:Int),.int .i64 n.S,.int .u64 (n.st:Int),.int .u64 (n.fin:Int),.list av (n.E.map Ed.enc),.int .u64 (s:Int),.int .i64 (x:Int)]=some [uV (sn n.E s x)]:=(congrArg (fun z=>CC uB [.int .i64 z,.int .i64 n.S,.int .u64 (n.st:Int),.int .u64 (n.fin:Int),.list av (n.E.map Ed.enc),.int .u64 (s:Int),.int .i64 (x:Int)]) h.hL.symm).trans st
 refine bs st' ?_
 refine bT (by simp only[uV,V.cd,V.toInt_int];rw[k1];rfl) ?_
 simp only[uV,V.cd,V.toInt_int]
 rw[show (V.int .u64 ((sn n.E s x:Nat):Int))=uV (sn n.E s x) from rfl]
 have e1:=wR w4 (sn n.E s x) (bf (sn n.E) T s x) 0
 unfold EK
 rw[show (V.int .u64 ((sn n.E s x:Nat):Int))=uV (sn n.E s x) from rfl,show gk (uV (sn n.E s x)) (uM (bf (sn n.E) T s x))=_ from e1]
 have ei:U.idxOf (sn n.E s x)=(dh (bf (sn n.E) T s x) (sn n.E s x)).idxOf (sn n.E s x):=wO hpx wK
 rw[Pf] at ei
 rw[bf,qh] at fD
 by_cases hm:sn n.E s x∈bf (sn n.E) T s x
 ·have e2:=zg w4 (sn n.E s x) (.int .i64 0) (bf (sn n.E) T s x) 0 hm
  rw[eh] at e2
  rw[af hm] at ei
  refine bF (by simpa using hm) ?_
  rw[show jb (uV (sn n.E s x)) (uM (bf (sn n.E) T s x)) (.int .i64 0)=_ from e2,V.toInt_int,←ei]
  simp only[cL,un]
  refine bT (cap (by rw[dI];simp;omega) (by omega)) ?_
  rw[cy (by omega),ki,bf]
  unfold dh
  rw[af hm]
  rfl
 ·rw[ag hm] at ei fD
  refine bT (by simpa using hm) ?_
  refine bF (by rw[lF];simp;omega) ?_
  refine bT (by rw[k1];rfl) ?_
  refine bT (cap (by rw[lF];simp;omega) (by omega)) ?_
  simp only[cL,un]
  refine bT (cap (by rw[dI];simp;omega) (by omega)) ?_
  have e2:=zh w4 (sn n.E s x) (bf (sn n.E) T s x) 0 hm
  rw[eh] at e2
  rw[lF,show fB (uV (sn n.E s x)) _ (uM (bf (sn n.E) T s x))=_ from e2,←ei,cy (by omega),ki,bf]
  unfold dh
  rw[ag hm]
  simp[U1,uM,nV,uV]
theorem amc {T U:List Nat} {s:Nat} {i:Nat} (hi:i<T.length) (hs:T[i]=s) (iO:s<2^S) (hp:bf (sn n.E) T s L <+: U) (hU:(bf (sn n.E) T s L).length≤512) {c1 c2 c3 c4:Int} {l1 l2 l3 l4:List V}:
  Loop (xm CC (i:Int) (L:Int) n.S (n.st:Int) (n.fin:Int) (n.E.map Ed.enc) c1 c2 c3 c4 l1 l2 l3 l4) (0,U1 T,uM T,([]:List V))=
   some (.inr ((L:Int),false,U1 (bf (sn n.E) T s L),uM (bf (sn n.E) T s L),(tab L fun x=>nV (U.idxOf (sn n.E s x))))):=by
 refine (eY L (fun x=>((x:Int),U1 (bf (sn n.E) T s x),uM (bf (sn n.E) T s x),(tab x fun j=>nV (U.idxOf (sn n.E s j))))) _ (fun x hx=> ?_) ?_)
 ·have:=(ta (next:=sn n.E) T s (show x+1≤L by omega)).length_le
  exact aay h hi hs iO hx ((ta T s (show x+1≤L by omega)).trans hp) (by omega)
 ·simp only[xm,z8,un]
  refine bF (bq (ax _)) ?_
  rw[bq (ax _)]
theorem amd {T:List Nat} {s:Nat} {i:Nat} (hi:i<T.length) (hs:T[i]=s) (iO:s<2^S) (hT:T.length≤512) (hU:512<(bf (sn n.E) T s L).length) {c1 c2 c3 c4:Int} {l1 l2 l3 l4:List V}:
  Loop (xm CC (i:Int) (L:Int) n.S (n.st:Int) (n.fin:Int) (n.E.map Ed.enc) c1 c2 c3 c4 l1 l2 l3 l4) (0,U1 T,uM T,([]:List V))=
   some (.inl (3,0,0,[],[],[])):=by
 obtain ⟨y,hy,Mb,hy2,hy3⟩:=aiF hT hU
 have h6:=h.l6
 have zA:=h.pow
 refine (aes (fun x=>((x:Int),U1 (bf (sn n.E) T s x),uM (bf (sn n.E) T s x),(tab x fun j=>nV ((bf (sn n.E) T s y).idxOf (sn n.E s j))))) y (fun x hx=> ?_) ?_)
 ·exact aay h hi hs iO (by omega) (ta T s (by omega)) (hy3 (x+1) (by omega))
 ·have qo:=CS (next:=sn n.E) T s y
  have iM:i<(bf (sn n.E) T s y).length:=gy hi qo.length_le
  have zC:(bf (sn n.E) T s y)[i]=s:=by rw[←qo.getElem hi,hs]
  have hn:=h.next s y
  have k1:dp .u64 ((sn n.E s y:Nat):Int)=true:=zi (by omega)
  have st:=WN n h.ok h.good (set:=s) (by omega) (y:Int)
  simp only[xm,z8,un]
  refine bT (cU hy) ?_
  refine (qj (Ji iM)).trans ?_
  rw[zC]
  have st':CC uB [.int .i64 (L:Int),.int .i64 n.S,.int .u64 (n.st:Int),.int .u64 (n.fin:Int),.list av (n.E.map Ed.enc),.int .u64 (s:Int),.int .i64 (y:Int)]=some [uV (sn n.E s y)]:=(congrArg (fun z=>CC uB [.int .i64 z,.int .i64 n.S,.int .u64 (n.st:Int),.int .u64 (n.fin:Int),.list av (n.E.map Ed.enc),.int .u64 (s:Int),.int .i64 (y:Int)]) h.hL.symm).trans st
  refine bs st' ?_
  refine bT (by simp only[uV,V.cd,V.toInt_int];rw[k1];rfl) ?_
  simp only[uV,V.cd,V.toInt_int]
  rw[show (V.int .u64 ((sn n.E s y:Nat):Int))=uV (sn n.E s y) from rfl]
  have e1:=wR w4 (sn n.E s y) (bf (sn n.E) T s y) 0
  unfold EK
  rw[show gk (uV (sn n.E s y)) (uM (bf (sn n.E) T s y))=_ from e1]
  refine bT (by simpa using hy2) ?_
  refine bT (by rw[lF];simp;omega) ?_
  rfl
theorem ame {s:Nat} (hs:s<2^S):(((IntKind.wrap .u64 ((BitVec.ofInt (IntKind.bits .u64) (s:Int)&&&BitVec.ofInt (IntKind.bits .u64) (n.fin:Int)).toNat)):Int) != 0)=sf n.fin s:=by
 have hp:=h.pow
 have hf:=h.fin
 rw[u64_and (by omega) (by omega)]
 unfold sf
 rw[qB]
 simp
theorem Qr {i:Nat} (fY:i<(an L (sn n.E) n.st i).length) (hlen:(an L (sn n.E) n.st i).length≤512) {U:List Nat} (hp:an L (sn n.E) n.st (i+1) <+: U) {l1 l2 l3 l4:List V} (hl3:l3.length≤1000) (hl4:l4.length≤1000):
  z9 CC (L:Int) n.S (n.st:Int) (n.fin:Int) (n.E.map Ed.enc) 0 0 (L:Int) 0 l1 l2 ((i:Int),U1 (an L (sn n.E) n.st i),uM (an L (sn n.E) n.st i),l3,l4)=
   if 512<(an L (sn n.E) n.st (i+1)).length then some (.inr (.inl (3,0,0,[],[],[])))
   else some (.inl (((i+1:Nat):Int),U1 (an L (sn n.E) n.st (i+1)),uM (an L (sn n.E) n.st (i+1)),l3++[V.bool (sf n.fin (an L (sn n.E) n.st i)[i])],l4++[V.list bt (tab L fun x=>nV (U.idxOf (sn n.E (an L (sn n.E) n.st i)[i] x)))])):=by
 have h6:=h.l6
 have hq:=sub_lt h i _ (eQ fY)
 have jl:an L (sn n.E) n.st (i+1)=bf (sn n.E) (an L (sn n.E) n.st i) (an L (sn n.E) n.st i)[i] L:=O5 (bM fY)
 simp only[z9,EL,un]
 refine bT (bN (by rw[lF];omega)) ?_
 by_cases pZ:512<(an L (sn n.E) n.st (i+1)).length
 ·rw[af pZ]
  refine bs (amd h fY rfl hq hlen (by rw[←jl];exact pZ)) ?_
  rfl
 ·rw[ag pZ]
  refine bs (amc h fY rfl hq (U:=U) (by rw[←jl];exact hp) (by rw[←jl];omega)) ?_
  rw[←jl]
  simp only[cL,un]
  have qo:=Xk (L:=L) (next:=sn n.E) (a0:=n.st) i
  have iM:i<(an L (sn n.E) n.st (i+1)).length:=gy fY qo.length_le
  refine bT (cap (by simp;omega) (by omega)) ?_
  refine (qj (Ji iM)).trans ?_
  rw[←qo.getElem fY]
  simp only[uV,V.toInt_int]
  rw[ame h hq]
  refine bT (cap (by simp;omega) (by omega)) ?_
  rw[cy (by omega)]
theorem amf (hn: ¬gN n L S): ∃X,CC Cd (kO n [])=some (Jj (fg n L S) 0 (.list ct X)):=by
 have h6:=h.l6
 have b6:=h.st
 have zA:=h.pow
 have hd:(an L (sn n.E) n.st (2^S)).length≤2^S:=w5 h _
 have hle: ∀i,(an L (sn n.E) n.st i).length≤(eC n L S).length:=Yw hd
 have ai1:(eC n L S).length≤512:=by unfold gN at hn;omega
 refine ⟨U1 (eC n L S),aau ?_⟩
 unfold Qp
 have hv:=WD n h.ok
 rw[h.code] at hv
 refine bs hv (bF rfl ?_)
 refine bT (by rw[zi (show n.st<2^64 by omega)];rfl) ?_
 rw[h.hL]
 have key:Loop (z9 CC (L:Int) n.S (n.st:Int) (n.fin:Int) (n.E.map Ed.enc) 0 0 (L:Int) 0 ([]:List V) ([]:List V)) (0,U1 [n.st],uM [n.st],([]:List V),([]:List V))=
   some (.inr (((eC n L S).length:Int),false,U1 (eC n L S),uM (eC n L S),(fg n L S).cZ,(fg n L S).cS)):=by
  refine (eY (eC n L S).length (fun i=>((i:Int),U1 (an L (sn n.E) n.st i),uM (an L (sn n.E) n.st i),(tab i fun j=>V.bool ((fg n L S).fin j)),(tab i fun j=>gb L ((fg n L S).nx j)))) _ (fun i hi=> ?_) ?_)
  ·have fY:=zb hd hi
   have hiK:i<2^S:=gy hi hd
   have wU:(an L (sn n.E) n.st i)[i]=(eC n L S)[i]:=(lH (show i≤2^S by omega)).getElem fY
   have ai2:=hle (i+1)
   have ai3:=hle i
   have:=Qr h fY (by omega) (U:=eC n L S) (lH (by omega)) (l1:=[]) (l2:=[]) (l3:=(tab i fun j=>V.bool ((fg n L S).fin j))) (l4:=(tab i fun j=>gb L ((fg n L S).nx j))) (by rw[dI];omega) (by rw[dI];omega)
   rw[ag (by omega),wU] at this
   rw[this,ki,ki]
   have e1:(fg n L S).fin i=sf n.fin (eC n L S)[i]:=CW hi
   have e2:gb L ((fg n L S).nx i)= .list bt (tab L fun x=>nV ((eC n L S).idxOf (sn n.E (eC n L S)[i] x))):=by
    unfold gb
    refine congrArg _ (eX fun x hx=> ?_)
    rw[show (fg n L S).nx i x=_ from wM hi hx];rfl
   rw[e1,e2]
  ·simp only[z9,EL,un]
   rw[show an L (sn n.E) n.st (eC n L S).length=eC n L S from CX hd,lF]
   refine bF (bq (ax _)) ?_
   rw[bq (ax _)]
   have e3:(fg n L S).n=(eC n L S).length:=mi
   unfold Da.cZ Da.cS
   rw[e3];rfl
 refine bs key ?_
 rfl
theorem amg (hn:gN n L S): ∃X,CC Cd (kO n [])=some (Jj zD 3 (.list ct X)):=by
 have h6:=h.l6
 have b6:=h.st
 have zA:=h.pow
 obtain ⟨m,hm1,pO,hm3⟩:=Yy (Yx (show 512<(an L (sn n.E) n.st (2^S)).length from hn)) (by omega)
 refine ⟨[],aau ?_⟩
 unfold Qp
 have hv:=WD n h.ok
 rw[h.code] at hv
 refine bs hv (bF rfl ?_)
 refine bT (by rw[zi (show n.st<2^64 by omega)];rfl) ?_
 rw[h.hL]
 have key: ∃r,Loop (z9 CC (L:Int) n.S (n.st:Int) (n.fin:Int) (n.E.map Ed.enc) 0 0 (L:Int) 0 ([]:List V) ([]:List V)) (0,U1 [n.st],uM [n.st],([]:List V),([]:List V))=some r∧r=(.inl (3,0,0,[],[],[])):=by
  refine ze (fun i st=> ∃l3 l4:List V,l3.length=i∧l4.length=i∧st=((i:Int),U1 (an L (sn n.E) n.st i),uM (an L (sn n.E) n.st i),l3,l4)) _ m 0 _ (fun i _ hi st b6=> ?_) (fun st b6=> ?_) ⟨[],[],rfl,rfl,rfl⟩
  ·obtain ⟨l3,l4,e3,e4,rfl⟩:=b6
   obtain ⟨h1,h2⟩:=pO i (by omega)
   have h3:=(pO (i+1) (by omega)).2
   have:=Qr h h1 h2 (np _) (l1:=[]) (l2:=[]) (l3:=l3) (l4:=l4) (by omega) (by omega)
   rw[ag (by omega)] at this
   exact ⟨_,this,_,_,by simp[e3],by simp[e4],rfl⟩
  ·obtain ⟨l3,l4,e3,e4,rfl⟩:=b6
   rw[eh] at*
   obtain ⟨h1,h2⟩:=pO m (by omega)
   have:=Qr h h1 h2 (np _) (l1:=[]) (l2:=[]) (l3:=l3) (l4:=l4) (by omega) (by omega)
   rw[af (by omega)] at this
   exact ⟨_,this,rfl⟩
 obtain ⟨r,h1,rfl⟩:=key
 refine bs h1 ?_
 rfl
end
instance (n:Nf) (L S:Nat):Decidable (gN n L S):=by unfold gN;infer_instance
noncomputable def gg (n:Nf) (L S:Nat):Da:=if gN n L S then zD else minD (fg n L S)
def qv (n:Nf) (L S:Nat):Int:=if gN n L S then 3 else 0
section
variable {n:Nf} {L S:Nat} (h:Nat6 n L S)
include h
theorem aaz:CC B8 (kO n [])=some (fR (gg n L S) (qv n L S)):=by
 refine amb ?_
 unfold aaw gg qv
 by_cases ho:gN n L S
 ·obtain ⟨X,hX⟩:=ai6 h ho
  rw[af ho,af ho]
  refine bs hX (bT rfl ?_)
  rfl
 ·obtain ⟨X,hX⟩:=ai5 h ho
  rw[ag ho,ag ho]
  refine bs hX (bF rfl ?_)
  refine bs (Yu (w6 h ho)) ?_
  rfl
end
def di (L S st fin:Nat) (l:List Ed):Nf:=⟨L,S,st,fin,rD l⟩
structure xn (L S st fin:Nat) (l:List Ed):Prop where
 l1:1≤L
 l6:L≤6
 rv:S≤64
 st:st<2^S
 fin:fin<2^S
 E: ∀e∈l,e.In L S
 len:l.length≤1000000
theorem pw {L S st fin:Nat} {l:List Ed} (h:xn L S st fin l):Nat6 (di L S st fin l) L S where
 hL:=rfl
 hS:=rfl
 ok:=by
  have xT:=h.l1
  have JW:=h.l6
  have hs:=h.rv
  have b6:=h.st
  have pe:=h.fin
  have hp:2^S≤2^64:=ox (by omega) hs
  have ez: ∀e∈rD l,e.In L S:=fun e he=>h.E e (zF.1 he)
  have hlen:=ajZ (L:=L) (S:=S) (by omega) (by omega) (PV l) ez
  refine ⟨by simp only[di];omega,by simp only[di];omega,by simp only[di];omega,by simp only[di];omega,by simp only[di];omega,by simp only[di];omega,by simp only[di];unfold maxLen;omega,fun e he=> ?_⟩
  have:=ez e he
  unfold Ed.In at this
  unfold Ed.Ok
  omega
 code:=by
  have xT:=h.l1
  have JW:=h.l6
  have hs:=h.rv
  unfold Nf.code
  rw[ag (by simp only[di];omega),ag (by simp only[di,Int.toNat_natCast];have:=h.st;have:=h.fin;omega),af]
  intro i hi
  have ez: ∀e∈rD l,e.In L S:=fun e he=>h.E e (zF.1 he)
  unfold Nf.lB
  simp only[di] at*
  refine ⟨by rw[gu hi];exact ez _ (eQ hi),fun h0=> ?_⟩
  rw[gu hi,gu (show i-1<_ by omega)]
  exact xA.1 (PV l) (i-1) i (by omega) hi (by omega)
def Qs (m:Da) (e:Int) (n:Nf):List V:=[.int .i64 (m.L:Int),.int .i64 (m.st:Int),.int .i64 e,.int .i64 n.L,.int .i64 n.S,.int .u64 (n.st:Int),.int .u64 (n.fin:Int),.list av (n.E.map Ed.enc),.list aC m.cZ,.list aG m.cS]
section
variable {L S st fin:Nat} {l:List Ed} (h:xn L S st fin l)
include h
theorem amh:CC uA [.int .i64 (L:Int),.int .i64 (S:Int),.int .u64 (st:Int),.int .u64 (fin:Int),.list av (l.map Ed.enc)]=some (Qs (gg (di L S st fin l) L S) (qv (di L S st fin l) L S) (di L S st fin l)):=by
 have hl:=h.len
 obtain ⟨R,e1,p1,s1⟩:=SL.alR l (by omega)
 obtain ⟨b,e2⟩:=Zu (l:=R) (by rw[p1.length_eq];exact hl)
 obtain ⟨c1,c2⟩:=aj9 s1
 have hc:jv R=rD l:=Zj c1 (PV l) fun x=>by rw[c2,zF,p1.mem_iff]
 rw[hc] at e2
 have e3:=aaz (pw h)
 refine aax ?_
 unfold Qq
 refine bs e1 ?_
 refine bs e2 ?_
 cases b
 ·refine bF rfl ?_
  refine bs e3 ?_
  rfl
 ·refine bT rfl ?_
  refine bs e3 ?_
  rfl
theorem ami:CC B7 [.int .i64 (L:Int),.int .i64 (S:Int),.int .u64 (st:Int),.int .u64 (fin:Int),.list av (l.map Ed.enc)]=some (fR (gg (di L S st fin l) L S) (qv (di L S st fin l) L S)):=by
 have hl:=h.len
 have hs:=h.rv
 have h6:=pw h
 refine ama ?_
 unfold aav gg qv
 refine bF (db (by omega)) ?_
 refine bs (aj4 (by omega)) ?_
 by_cases ho:gN (di L S st fin l) L S
 ·obtain ⟨X,hX⟩:=amg h6 ho
  rw[af ho,af ho]
  refine bs hX (bT rfl ?_)
  rfl
 ·obtain ⟨X,hX⟩:=amf h6 ho
  rw[ag ho,ag ho]
  refine bs hX (bF rfl ?_)
  refine bs (PN (w6 h6 ho)) ?_
  rfl
end
noncomputable abbrev Aa:Code:=cJ Tryd.prog (au.bc 41)
noncomputable def EM (C:ae) (t40 eI eJ:Int) (jx iC:List V) (tx tz:Int) (rI qw:List V) (t41:Int) {β:Type} (kn:Int→Option β) (kr:((Bool) ⊕ (Int × Bool))→Option β):Option β:=
 bif decide ((t41:Int)<t40) then
  (idx jx t41).bind fun x1=>
  (idx rI t41).bind fun x2=>
  bif !(x1.toBool==x2.toBool) then
  kr (.inl false)
  else
  kn (IntKind.wrap .i64 (t41+1))
 else
  kr (.inr (t41,decide ((t41:Int)<t40)))
noncomputable def Qt (C:ae) (t40 eI eJ:Int) (jx iC:List V) (tx tz:Int) (rI qw:List V):(Int)→Option ((Int) ⊕ ((Bool) ⊕ (Int × Bool))):=fun t41=>EM C t40 eI eJ jx iC tx tz rI qw t41 (fun y=>some (.inl y)) (fun r=>some (.inr r))
noncomputable def EN (C:ae) (q t58 t59 t80 eI eJ:Int) (jx iC:List V) (tx tz:Int) (rI qw:List V) (t81:Int) {β:Type} (kn:Int→Option β) (kr:((Bool) ⊕ (Int × Bool))→Option β):Option β:=
 bif decide ((t81:Int)<t80) then
  (idx iC q).bind fun x9=>
  (idx x9.toList t81).bind fun iT=>
  (idx qw q).bind fun fH=>
  (idx fH.toList t81).bind fun lG=>
  bif (iT.toInt:Int) != lG.toInt then
  kr (.inl false)
  else
  kn (IntKind.wrap .i64 (t81+1))
 else
  kr (.inr (t81,decide ((t81:Int)<t80)))
noncomputable def Qu (C:ae) (q t58 t59 t80 eI eJ:Int) (jx iC:List V) (tx tz:Int) (rI qw:List V):(Int)→Option ((Int) ⊕ ((Bool) ⊕ (Int × Bool))):=fun t81=>EN C q t58 t59 t80 eI eJ jx iC tx tz rI qw t81 (fun y=>some (.inl y)) (fun r=>some (.inr r))
noncomputable def EO (C:ae) (t58 eI eJ:Int) (jx iC:List V) (tx tz:Int) (rI qw:List V) (t59:Int) {β:Type} (kn:Int→Option β) (kr:((Bool) ⊕ (Int × Bool))→Option β):Option β:=
 bif decide ((t59:Int)<t58) then
  (idx iC t59).bind fun x6=>
  (idx qw t59).bind fun x7=>
  bif ((x6.toList.length:Int):Int) != (x7.toList.length:Int) then
  kr (.inl false)
  else
  (idx iC t59).bind fun x8=>
  (Loop (Qu C t59 t58 t59 (x8.toList.length:Int) eI eJ jx iC tx tz rI qw) 0).bind (cL (fun (o4:Bool)=>
   kr (.inl o4)) (un fun (CR:Int) (YN:Bool)=>
   kn (IntKind.wrap .i64 (t59+1))))
 else
  kr (.inr (t59,decide ((t59:Int)<t58)))
noncomputable def Qv (C:ae) (t58 eI eJ:Int) (jx iC:List V) (tx tz:Int) (rI qw:List V):(Int)→Option ((Int) ⊕ ((Bool) ⊕ (Int × Bool))):=fun t59=>EO C t58 eI eJ jx iC tx tz rI qw t59 (fun y=>some (.inl y)) (fun r=>some (.inr r))
noncomputable def aaA (C:ae):cD:=fun β n ds k=>
 bif Nat.beq n 65 then bz Ni [false,true,false,false,false,false,false,false,false,false] [[0],[1,0,0,3,4,5,6,7,8,9,10]] (@EM C) ds k else
 bif Nat.beq n 241 then bz Nj [false,false,false,false,true,false,false,false,false,false,false,false,false] [[0],[1,2,3,4,0,0,6,7,8,9,10,11,12,13]] (@EN C) ds k else
 bif Nat.beq n 161 then bz Nk [false,true,false,false,false,false,false,false,false,false] [[0],[1,0,0,3,4,5,6,7,8,9,10]] (@EO C) ds k else
 none
abbrev Qw (C:ae) (b:cB):Prop:=cC Tryd.prog au C (aaA C) 41 (cQ Tryd.prog (au.bc 41)) (au.sin 41).bj.length b
theorem amj (C:ae):Qw C (.loop (ao [1,1,0,1,0,0] Aa)):=
 bC Ni [false,true,false,false,false,false,false,false,false,false] [[0],[1,0,0,3,4,5,6,7,8,9,10]] (@EM C) (by kernel_rfl) (aW (bs:=[]) (by kernel_rfl) ar) (fun ds=>by kernel_rfl) (fun i x=>by kernel_rfl) (fun i x β k=>by kernel_rfl) (fun β ds k=>by kernel_rfl)
theorem amk (C:ae):Qw C (.loop (ao [1,1,1,0,1,0,0,1,1,0,0,1,1,1,0,0] Aa)):=
 bC Nj [false,false,false,false,true,false,false,false,false,false,false,false,false] [[0],[1,2,3,4,0,0,6,7,8,9,10,11,12,13]] (@EN C) (by kernel_rfl) (aW (bs:=[]) (by kernel_rfl) ar) (fun ds=>by kernel_rfl) (fun i x=>by kernel_rfl) (fun i x β k=>by kernel_rfl) (fun β ds k=>by kernel_rfl)
theorem aml (C:ae):Qw C (.loop (ao [1,1,1,0,1,0,0] Aa)):=
 bC Nk [false,true,false,false,false,false,false,false,false,false] [[0],[1,0,0,3,4,5,6,7,8,9,10]] (@EO C) (by kernel_rfl) (aW (bs:=[.loop (ao [1,1,1,0,1,0,0,1,1,0,0,1,1,1,0,0] Aa)]) (by kernel_rfl) (bm (amk C) ar)) (fun ds=>by kernel_rfl) (fun i x=>by kernel_rfl) (fun i x β k=>by kernel_rfl) (fun β ds k=>by kernel_rfl)
noncomputable def aaB (C:ae) (jN kh:Int) (js py:List V) (oZ o0:Int) (qf Ab:List V):Option (List V):=
 bif (jN:Int) != oZ then
  some [.bool false]
 else
  bif (kh:Int) != o0 then
  some [.bool false]
  else
  bif ((js.length:Int):Int) != (qf.length:Int) then
   some [.bool false]
  else
   bif ((py.length:Int):Int) != (Ab.length:Int) then
   some [.bool false]
   else
   (Loop (Qt C (js.length:Int) jN kh js py oZ o0 qf Ab) 0).bind (cL (fun (lC:Bool)=>
    some [.bool lC]) (un fun (jr:Int) (lD:Bool)=>
    (Loop (Qv C (py.length:Int) jN kh js py oZ o0 qf Ab) 0).bind (cL (fun (Dg:Bool)=>
     some [.bool Dg]) (un fun (aoH:Int) (PL:Bool)=>
     some [.bool true]))))
theorem amm {jN kh:Int} {js py:List V} {oZ o0:Int} {qf Ab:List V} {r:Option (List V)} (h:aaB CC jN kh js py oZ o0 qf Ab=r):CC sO [.int .i64 jN,.int .i64 kh,.list aC js,.list aG py,.int .i64 oZ,.int .i64 o0,.list aC qf,.list aG Ab]=r:=
 bD (key:=41) (L:=aaA CC) (bs:=[.loop (ao [1,1,0,1,0,0] Aa),.loop (ao [1,1,1,0,1,0,0] Aa)]) (by kernel_rfl) (bm (amj CC) (bm (aml CC) ar)) (bB (by kernel_rfl) h)
section
variable {a b:Da} (ha:a.Ok) (hb:b.Ok) (hL:a.L=b.L) {op:Nat}
include ha hb hL
end
theorem aaC (m:Da) (hn:m.n≤1000000) (hl:m.L≤1000):CC sO (gd m (dK m))=some [.bool true]:=by
 refine amm ?_
 unfold aaB
 refine bF (by simp) (bF (by simp) (bF (by simp) (bF (by simp) ?_)))
 rw[Da.pb]
 refine bs (eY m.n (fun i=>(i:Int)) (.inr ((m.n:Int),false)) (fun i hi=> ?_) ?_) ?_
 ·simp only[Qt,EM]
  refine bT (cU hi) ?_
  refine bs (Da.uH hi) ?_
  refine bs (Da.uH hi) ?_
  refine bF (by simp) ?_
  rw[cy (by omega)]
 ·simp only[Qt,EM]
  refine bF (bq (ax _)) ?_
  rw[bq (ax _)]
 ·simp only[cL,un]
  rw[Da.XQ]
  refine bs (eY m.n (fun i=>(i:Int)) (.inr ((m.n:Int),false)) (fun i hi=> ?_) ?_) ?_
  ·simp only[Qv,EO]
   refine bT (cU hi) ?_
   refine bs (Da.nW hi) ?_
   refine bs (Da.nW hi) ?_
   refine bF (by simp) ?_
   refine bs (Da.nW hi) ?_
   rw[pc,dI]
   refine bs (eY m.L (fun x=>(x:Int)) (.inr ((m.L:Int),false)) (fun x hx=> ?_) ?_) ?_
   ·simp only[Qu,EN]
    refine bT (cU hx) ?_
    refine bs (Da.nW hi) ?_
    rw[pc]
    refine bs (qk hx) ?_
    refine bs (Da.nW hi) ?_
    rw[pc]
    refine bs (qk hx) ?_
    refine bF (by simp) ?_
    rw[cy (by omega)]
   ·simp only[Qu,EN]
    refine bF (bq (ax _)) ?_
    rw[bq (ax _)]
   ·simp only[cL,un]
    rw[cy (by omega)]
  ·simp only[Qv,EO]
   refine bF (bq (ax _)) ?_
   rw[bq (ax _)]
  ·rfl
theorem JX:CC sO (gd zD (dK zD))=some [.bool true]:=aaC zD (by simp[zD,Da.n]) (by simp[zD])
theorem Da.Ok.same {m:Da} (h:m.Ok):CC sO (gd m (dK m))=some [.bool true]:=aaC m (by have:=h.fO;omega) (by have:=h.l6;omega)
end Go.AM
set_option maxRecDepth 100000
namespace Go.AM
open Go.Proofs
namespace Da
def EP (a:Da) (k q:Nat):Prop:= ∃w,WL a.L w∧w.length≤k∧a.acc q w=true
def Live (a:Da) (q:Nat):Prop:= ∃w,WL a.L w∧a.acc q w=true
open Classical in
noncomputable def KF (a:Da) (q:Nat):Bool:=decide (a.Live q)
theorem EP.live {a:Da} {k q:Nat} (h:a.EP k q):a.Live q:=by obtain ⟨w,h1,_,h3⟩:=h;exact ⟨w,h1,h3⟩
theorem EP.mono {a:Da} {k m q:Nat} (h:a.EP k q) (hk:k≤m):a.EP m q:=by obtain ⟨w,h1,h2,h3⟩:=h;exact ⟨w,h1,by omega,h3⟩
end Da
def bV (n:Nat) (r:Nat→Bool):List V:=tab n fun q=>V.bool (r q)
def upd (r:Nat→Bool) (p:Nat) (b:Bool) (q:Nat):Bool:=if q=p then b else r q
structure LvI (a:Da) (r0 r:Nat→Bool) (c:Bool):Prop where
 good: ∀q,q<a.n→r q=true→a.Live q
 up: ∀q,q<a.n→r0 q=true→r q=true
 yes:c=true→∃q,q<a.n∧r0 q=false∧r q=true
 no:c=false→∀q,q<a.n→r q=r0 q
section
variable {a:Da} (h:a.Ok)
include h
end
section
variable {a:Da} (h:a.Ok)
include h
end
end Go.AM
set_option maxRecDepth 100000
namespace Go.AM
open Go.Proofs
noncomputable def Qx (C:ae) (aY nT:Int):Option (List V):=
 bif decide ((nT:Int)>64) then
  some [V.bool true]
 else
  some [V.bool false,.int .i64 aY,.int .i64 nT,.int .u64 0,.int .u64 0,.list av ([]:List V)]
theorem aaD {aY nT:Int} {r:Option (List V)} (h:Qx CC aY nT=r):CC wq [.int .i64 aY,.int .i64 nT]=r:=
 bD (key:=61) (L:=dJ) (bs:=[]) (by kernel_rfl) ar (bB (by kernel_rfl) h)
noncomputable def aaE (C:ae) (rJ letter to aR aJ aX aS:Int) (bS:List V):Option (List V):=
 bif Nat.ble ((bS.length+([.agg [.int .i64 rJ,.int .i64 letter,.int .i64 to]]:List V).length)*24) bP then
  some [.int .i64 aR,.int .i64 aJ,.int .u64 aX,.int .u64 aS,.list av (bS++([.agg [.int .i64 rJ,.int .i64 letter,.int .i64 to]]:List V))]
 else none
theorem amn {rJ letter to aR aJ aX aS:Int} {bS:List V} {r:Option (List V)} (h:aaE CC rJ letter to aR aJ aX aS bS=r):CC wu [.int .i64 rJ,.int .i64 letter,.int .i64 to,.int .i64 aR,.int .i64 aJ,.int .u64 aX,.int .u64 aS,.list av bS]=r:=
 bD (key:=62) (L:=dJ) (bs:=[]) (by kernel_rfl) ar (bB (by kernel_rfl) h)
noncomputable def aaF (C:ae) (q aR aJ aX aS:Int) (bS:List V):Option (List V):=
 bif decide (0≤q) then
  some [.int .i64 aR,.int .i64 aJ,.int .u64 (IntKind.wrap .u64 ((BitVec.ofInt (IntKind.bits .u64) aX|||BitVec.ofInt (IntKind.bits .u64) (IntKind.wrap .u64 (1*2^(min q.toNat (IntKind.bits .u64))))).toNat)),.int .u64 aS,.list av bS]
 else none
theorem amo {q aR aJ aX aS:Int} {bS:List V} {r:Option (List V)} (h:aaF CC q aR aJ aX aS bS=r):CC yS [.int .i64 q,.int .i64 aR,.int .i64 aJ,.int .u64 aX,.int .u64 aS,.list av bS]=r:=
 bD (key:=63) (L:=dJ) (bs:=[]) (by kernel_rfl) ar (bB (by kernel_rfl) h)
noncomputable def aaG (C:ae) (q aR aJ aX aS:Int) (bS:List V):Option (List V):=
 bif decide (0≤q) then
  some [.int .i64 aR,.int .i64 aJ,.int .u64 aX,.int .u64 (IntKind.wrap .u64 ((BitVec.ofInt (IntKind.bits .u64) aS|||BitVec.ofInt (IntKind.bits .u64) (IntKind.wrap .u64 (1*2^(min q.toNat (IntKind.bits .u64))))).toNat)),.list av bS]
 else none
theorem amp {q aR aJ aX aS:Int} {bS:List V} {r:Option (List V)} (h:aaG CC q aR aJ aX aS bS=r):CC Ht [.int .i64 q,.int .i64 aR,.int .i64 aJ,.int .u64 aX,.int .u64 aS,.list av bS]=r:=
 bD (key:=69) (L:=dJ) (bs:=[]) (by kernel_rfl) ar (bB (by kernel_rfl) h)
noncomputable abbrev aaH:Code:=cJ Tryd.prog (au.bc 64)
noncomputable def ER (C:ae) (offset:Int) (t8:List V) (t9 t10 aR aJ aX aS:Int) (dy:List V) {β:Type} (kn:(Int × Int × Int × Int × Int × (List V))→Option β) (kr:(Int × Bool × Int × Int × Int × Int × (List V))→Option β):Option β:=
 bif decide ((t10:Int)<t9) then
  (idx t8 t10).bind fun x1=>
  bif x1.toBool then
  (C Ht [.int .i64 (IntKind.wrap .i64 (t10+offset)),.int .i64 aR,.int .i64 aJ,.int .u64 aX,.int .u64 aS,.list av dy]).bind fun r2=>
  kn (IntKind.wrap .i64 (t10+1),(V.nth r2 0).toInt,(V.nth (r2.drop 1) 0).toInt,(V.nth ((r2.drop 1).drop 1) 0).toInt,(V.nth (((r2.drop 1).drop 1).drop 1) 0).toInt,(V.nth (r2.drop 4) 0).toList)
  else
  kn (IntKind.wrap .i64 (t10+1),aR,aJ,aX,aS,dy)
 else
  kr (t10,decide ((t10:Int)<t9),aR,aJ,aX,aS,dy)
noncomputable def Qy (C:ae) (offset:Int) (t8:List V) (t9:Int):(Int × Int × Int × Int × Int × (List V))→Option ((Int × Int × Int × Int × Int × (List V)) ⊕ (Int × Bool × Int × Int × Int × Int × (List V))):=un fun t10=>un fun aR=>un fun aJ=>un fun aX=>un fun aS dy=>ER C offset t8 t9 t10 aR aJ aX aS dy (fun y=>some (.inl y)) (fun r=>some (.inr r))
noncomputable def aaI (C:ae):cD:=fun β n ds k=>
 bif Nat.beq n 17 then bz Nr [false,false,false,true,true,true,true,true,true] [[1,2,3,0,0,0,0,0,0,0]] (@ER C) ds k else
 none
abbrev amq (C:ae) (b:cB):Prop:=cC Tryd.prog au C (aaI C) 64 (cQ Tryd.prog (au.bc 64)) (au.sin 64).bj.length b
theorem amr (C:ae):amq C (.loop (ao [1,0,0] aaH)):=
 bC Nr [false,false,false,true,true,true,true,true,true] [[1,2,3,0,0,0,0,0,0,0]] (@ER C) (by kernel_rfl) (aW (bs:=[]) (by kernel_rfl) ar) (fun ds=>by kernel_rfl) (fun i x=>by kernel_rfl) (fun i x β k=>by kernel_rfl) (fun β ds k=>by kernel_rfl)
noncomputable def aaJ (C:ae) (final:List V) (offset aR aJ aX aS:Int) (bS:List V):Option (List V):=
 (Loop (Qy C offset final (final.length:Int)) (0,aR,aJ,aX,aS,bS)).bind (un fun (lC:Int)=>un fun (jr:Bool)=>un fun (ams:Int)=>un fun (Qz:Int)=>un fun (ES:Int)=>un fun (ET:Int) (EU:List V)=>
  some [.int .i64 ams,.int .i64 Qz,.int .u64 ES,.int .u64 ET,.list av EU])
theorem amt {final:List V} {offset aR aJ aX aS:Int} {bS:List V} {r:Option (List V)} (h:aaJ CC final offset aR aJ aX aS bS=r):CC yT [.list aC final,.int .i64 offset,.int .i64 aR,.int .i64 aJ,.int .u64 aX,.int .u64 aS,.list av bS]=r:=
 bD (key:=64) (L:=aaI CC) (bs:=[.loop (ao [1,0,0] aaH)]) (by kernel_rfl) (bm (amr CC) ar) (bB (by kernel_rfl) h)
noncomputable abbrev JY:Code:=cJ Tryd.prog (au.bc 73)
noncomputable def EV (C:ae) (offset p:Int) (t11:List V) (t12 t13:Int) (t18:List V) (t19 t20 aR aJ aX aS:Int) (dy:List V) {β:Type} (kn:(Int × Int × Int × Int × Int × (List V))→Option β) (kr:(Int × Bool × Int × Int × Int × Int × (List V))→Option β):Option β:=
 bif decide ((t20:Int)<t19) then
  (idx t18 t20).bind fun x2=>
  (C wu [.int .i64 (IntKind.wrap .i64 (p+offset)),.int .i64 t20,.int .i64 (IntKind.wrap .i64 (x2.toInt+offset)),.int .i64 aR,.int .i64 aJ,.int .u64 aX,.int .u64 aS,.list av dy]).bind fun r3=>
  kn (IntKind.wrap .i64 (t20+1),(V.nth r3 0).toInt,(V.nth (r3.drop 1) 0).toInt,(V.nth ((r3.drop 1).drop 1) 0).toInt,(V.nth (((r3.drop 1).drop 1).drop 1) 0).toInt,(V.nth (r3.drop 4) 0).toList)
 else
  kr (t20,decide ((t20:Int)<t19),aR,aJ,aX,aS,dy)
noncomputable def QA (C:ae) (offset p:Int) (t11:List V) (t12 t13:Int) (t18:List V) (t19:Int):(Int × Int × Int × Int × Int × (List V))→Option ((Int × Int × Int × Int × Int × (List V)) ⊕ (Int × Bool × Int × Int × Int × Int × (List V))):=un fun t20=>un fun aR=>un fun aJ=>un fun aX=>un fun aS dy=>EV C offset p t11 t12 t13 t18 t19 t20 aR aJ aX aS dy (fun y=>some (.inl y)) (fun r=>some (.inr r))
noncomputable def EW (C:ae) (offset:Int) (t11:List V) (t12 t13 aR aJ aX aS:Int) (dy:List V) {β:Type} (kn:(Int × Int × Int × Int × Int × (List V))→Option β) (kr:(Int × Bool × Int × Int × Int × Int × (List V))→Option β):Option β:=
 bif decide ((t13:Int)<t12) then
  (idx t11 t13).bind fun x1=>
  (Loop (QA C offset t13 t11 t12 t13 x1.toList (x1.toList.length:Int)) (0,aR,aJ,aX,aS,dy)).bind (un fun (jr:Int)=>un fun (lD:Bool)=>un fun (Qz:Int)=>un fun (ES:Int)=>un fun (ET:Int)=>un fun (QB:Int) (Jh:List V)=>
   kn (IntKind.wrap .i64 (t13+1),Qz,ES,ET,QB,Jh))
 else
  kr (t13,decide ((t13:Int)<t12),aR,aJ,aX,aS,dy)
noncomputable def QC (C:ae) (offset:Int) (t11:List V) (t12:Int):(Int × Int × Int × Int × Int × (List V))→Option ((Int × Int × Int × Int × Int × (List V)) ⊕ (Int × Bool × Int × Int × Int × Int × (List V))):=un fun t13=>un fun aR=>un fun aJ=>un fun aX=>un fun aS dy=>EW C offset t11 t12 t13 aR aJ aX aS dy (fun y=>some (.inl y)) (fun r=>some (.inr r))
noncomputable def aaK (C:ae):cD:=fun β n ds k=>
 bif Nat.beq n 81 then bz Nv [false,false,false,false,false,false,false,true,true,true,true,true,true] [[1,2,3,4,5,6,7,0,0,0,0,0,0,0]] (@EV C) ds k else
 bif Nat.beq n 33 then bz Nw [false,false,false,true,true,true,true,true,true] [[1,2,3,0,0,0,0,0,0,0]] (@EW C) ds k else
 none
abbrev aaL (C:ae) (b:cB):Prop:=cC Tryd.prog au C (aaK C) 73 (cQ Tryd.prog (au.bc 73)) (au.sin 73).bj.length b
theorem amu (C:ae):aaL C (.loop (ao [1,1,0,0,1,1,0,0,1,1,0,0] JY)):=
 bC Nv [false,false,false,false,false,false,false,true,true,true,true,true,true] [[1,2,3,4,5,6,7,0,0,0,0,0,0,0]] (@EV C) (by kernel_rfl) (aW (bs:=[]) (by kernel_rfl) ar) (fun ds=>by kernel_rfl) (fun i x=>by kernel_rfl) (fun i x β k=>by kernel_rfl) (fun β ds k=>by kernel_rfl)
theorem amv (C:ae):aaL C (.loop (ao [1,1,0,0] JY)):=
 bC Nw [false,false,false,true,true,true,true,true,true] [[1,2,3,0,0,0,0,0,0,0]] (@EW C) (by kernel_rfl) (aW (bs:=[.loop (ao [1,1,0,0,1,1,0,0,1,1,0,0] JY)]) (by kernel_rfl) (bm (amu C) ar)) (fun ds=>by kernel_rfl) (fun i x=>by kernel_rfl) (fun i x β k=>by kernel_rfl) (fun β ds k=>by kernel_rfl)
noncomputable def aaM (C:ae) (aK aO:Int) (aD aT:List V) (offset aR aJ aX aS:Int) (bS:List V):Option (List V):=
 (Loop (QC C offset aT (aT.length:Int)) (0,aR,aJ,aX,aS,bS)).bind (un fun (zE:Int)=>un fun (zu:Bool)=>un fun (amw:Int)=>un fun (QD:Int)=>un fun (QE:Int)=>un fun (EX:Int) (tf:List V)=>
  some [.int .i64 amw,.int .i64 QD,.int .u64 QE,.int .u64 EX,.list av tf])
theorem amx {aK aO:Int} {aD aT:List V} {offset aR aJ aX aS:Int} {bS:List V} {r:Option (List V)} (h:aaM CC aK aO aD aT offset aR aJ aX aS bS=r):CC Hu [.int .i64 aK,.int .i64 aO,.list aC aD,.list aG aT,.int .i64 offset,.int .i64 aR,.int .i64 aJ,.int .u64 aX,.int .u64 aS,.list av bS]=r:=
 bD (key:=73) (L:=aaK CC) (bs:=[.loop (ao [1,1,0,0] JY)]) (by kernel_rfl) (bm (amv CC) ar) (bB (by kernel_rfl) h)
noncomputable abbrev uZ:Code:=cJ Tryd.prog (au.bc 66)
noncomputable def JZ (C:ae) (q t18 t19:Int) (t26:Bool) (eI eJ:Int) (jx iC:List V) (cg ch nX mV aR aJ aX aS:Int) (eH bY:List V) {β:Type} (kr:(Int)→Option β):Option β:=
 bif t26 then
  (C yU [.int .i64 q]).bind fun r3=>
  kr (IntKind.wrap .u64 ((BitVec.ofInt (IntKind.bits .u64) aS|||BitVec.ofInt (IntKind.bits .u64) ((V.nth r3 0).toInt)).toNat))
 else
  kr aS
noncomputable def EY (C:ae) (q t18 t19:Int) (t37:List V) (t38 eI eJ:Int) (jx iC:List V) (cg ch nX mV aR aJ aX aS:Int) (eH:List V) (t39:Int) (bY:List V) {β:Type} (kn:(Int × (List V))→Option β) (kr:(Int × Bool × (List V))→Option β):Option β:=
 bif decide ((t39:Int)<t38) then
  (idx t37 t39).bind fun x6=>
  bif Nat.ble ((bY.length+([.agg [.int .i64 q,.int .i64 t39,.int .i64 x6.toInt]]:List V).length)*24) bP then
  kn (IntKind.wrap .i64 (t39+1),bY++([.agg [.int .i64 q,.int .i64 t39,.int .i64 x6.toInt]]:List V))
  else none
 else
  kr (t39,decide ((t39:Int)<t38),bY)
noncomputable def J0 (C:ae) (q t18 t19:Int) (t37:List V) (t38 eI eJ:Int) (jx iC:List V) (cg ch nX mV aR aJ aX aS:Int) (eH:List V):(Int × (List V))→Option ((Int × (List V)) ⊕ (Int × Bool × (List V))):=un fun t39 bY=>EY C q t18 t19 t37 t38 eI eJ jx iC cg ch nX mV aR aJ aX aS eH t39 bY (fun y=>some (.inl y)) (fun r=>some (.inr r))
noncomputable def EZ (C:ae) (t18 eI eJ:Int) (jx iC:List V) (cg ch nX mV aR aJ aX:Int) (eH:List V) (t19 aS:Int) (bY:List V) {β:Type} (kn:(Int × Int × (List V))→Option β) (kr:(Int × Bool × Int × (List V))→Option β):Option β:=
 bif decide ((t19:Int)<t18) then
  (idx jx t19).bind fun x2=>
  JZ C t19 t18 t19 x2.toBool eI eJ jx iC cg ch nX mV aR aJ aX aS eH bY (fun (gL:Int)=>
   (idx iC t19).bind fun x5=>
   (Loop (J0 C t19 t18 t19 x5.toList (x5.toList.length:Int) eI eJ jx iC cg ch nX mV aR aJ aX gL eH) (0,bY)).bind (un fun (mh:Int)=>un fun (qe:Bool) (EU:List V)=>
    kn (IntKind.wrap .i64 (t19+1),gL,EU)))
 else
  kr (t19,decide ((t19:Int)<t18),aS,bY)
noncomputable def QF (C:ae) (t18 eI eJ:Int) (jx iC:List V) (cg ch nX mV aR aJ aX:Int) (eH:List V):(Int × Int × (List V))→Option ((Int × Int × (List V)) ⊕ (Int × Bool × Int × (List V))):=un fun t19=>un fun aS bY=>EZ C t18 eI eJ jx iC cg ch nX mV aR aJ aX eH t19 aS bY (fun y=>some (.inl y)) (fun r=>some (.inr r))
noncomputable def aaN (C:ae):cD:=fun β n ds k=>
 bif Nat.beq n 431 then mM Ns [[1,2,3,5,6,7,8,9,10,11,12,13,14,15,0,17,18]] (@JZ C) ds k else
 bif Nat.beq n 129 then bz Nt [false,false,false,false,false,true,false,false,false,false,false,false,false,false,false,false,false,false,false,true] [[1,2,3,4,5,0,0,7,8,9,10,11,12,13,14,15,16,17,18,19,0]] (@EY C) ds k else
 bif Nat.beq n 49 then bz Nu [false,true,false,false,false,false,false,false,false,false,false,false,false,true,false,true] [[1,0,0,3,4,5,6,7,8,9,10,11,12,13,0,15,0]] (@EZ C) ds k else
 none
abbrev QG (C:ae) (b:cB):Prop:=cC Tryd.prog au C (aaN C) 66 (cQ Tryd.prog (au.bc 66)) (au.sin 66).bj.length b
theorem amy (C:ae):QG C (.cond 26 (ao [1,1,0,1,0,0,1,1,0,0,1,0,1,0] uZ) (ao [1,1,0,1,0,0,1,1,0,0,1,0,1,1] uZ)):=
 nL Ns [[1,2,3,5,6,7,8,9,10,11,12,13,14,15,0,17,18]] (@JZ C) (by kernel_rfl) (aW (bs:=[]) (by kernel_rfl) ar) (aW (bs:=[]) (by kernel_rfl) ar) (fun ds=>by kernel_rfl) (fun i β k=>by kernel_rfl) (fun β ds k=>by kernel_rfl)
theorem amz (C:ae):QG C (.loop (ao [1,1,0,1,0,0,1,1,0,0,1,1,1,0,0] uZ)):=
 bC Nt [false,false,false,false,false,true,false,false,false,false,false,false,false,false,false,false,false,false,false,true] [[1,2,3,4,5,0,0,7,8,9,10,11,12,13,14,15,16,17,18,19,0]] (@EY C) (by kernel_rfl) (aW (bs:=[]) (by kernel_rfl) ar) (fun ds=>by kernel_rfl) (fun i x=>by kernel_rfl) (fun i x β k=>by kernel_rfl) (fun β ds k=>by kernel_rfl)
theorem amA (C:ae):QG C (.loop (ao [1,1,0,1,0,0] uZ)):=
 bC Nu [false,true,false,false,false,false,false,false,false,false,false,false,false,true,false,true] [[1,0,0,3,4,5,6,7,8,9,10,11,12,13,0,15,0]] (@EZ C) (by kernel_rfl) (aW (bs:=[.cond 26 (ao [1,1,0,1,0,0,1,1,0,0,1,0,1,0] uZ) (ao [1,1,0,1,0,0,1,1,0,0,1,0,1,1] uZ),.loop (ao [1,1,0,1,0,0,1,1,0,0,1,1,1,0,0] uZ)]) (by kernel_rfl) (bm (amy C) (bm (amz C) ar))) (fun ds=>by kernel_rfl) (fun i x=>by kernel_rfl) (fun i x β k=>by kernel_rfl) (fun β ds k=>by kernel_rfl)
noncomputable def aaO (C:ae) (jN kh:Int) (js py:List V):Option (List V):=
 (C yU [.int .i64 kh]).bind fun r1=>
 (Loop (QF C (js.length:Int) jN kh js py 0 0 0 0 jN (js.length:Int) ((V.nth r1 0).toInt) ([]:List V)) (0,0,([]:List V))).bind (un fun (Pk:Int)=>un fun (zE:Bool)=>un fun (amB:Int) (IJ:List V)=>
  some [.int .i64 jN,.int .i64 (js.length:Int),.int .u64 ((V.nth r1 0).toInt),.int .u64 amB,.list av IJ])
theorem amC {jN kh:Int} {js py:List V} {r:Option (List V)} (h:aaO CC jN kh js py=r):CC Hs [.int .i64 jN,.int .i64 kh,.list aC js,.list aG py]=r:=
 bD (key:=66) (L:=aaN CC) (bs:=[.loop (ao [1,1,0,1,0,0] uZ)]) (by kernel_rfl) (bm (amA CC) ar) (bB (by kernel_rfl) h)
def fU (p x q:Nat):Ed:=⟨(p:Int),(x:Int),(q:Int)⟩
def aN (L S:Nat) (st fin:Nat) (l:List Ed):List V:=[.int .i64 (L:Int),.int .i64 (S:Int),.int .u64 (st:Int),.int .u64 (fin:Int),.list av (l.map Ed.enc)]
def fm (n:Nat) (g:Nat→List Ed):List Ed:=(List.range n).flatMap g
theorem amD {g:Nat→List Ed}:fm 0 g=[]:=rfl
theorem u0 {n:Nat} {g:Nat→List Ed}:fm (n+1) g=fm n g++g n:=by simp[fm,AB]
theorem J1 {n:Nat} {g:Nat→List Ed} {e:Ed}:e∈fm n g↔∃i,i<n∧e∈g i:=by simp[fm]
theorem Ac {n k:Nat} {g:Nat→List Ed} (h: ∀i,i<n→(g i).length≤k):(fm n g).length≤n*k:=by
 induction n with
 | zero=>simp[fm]
 | succ n ih=>
  rw[u0,dd,Ai]
  have:=ih fun i hi=>h i (by omega)
  have:=h n (by omega)
  omega
theorem om {X R:Type} {step:X→Option (X ⊕ R)} (n:Nat) (s:Nat→X) (r:R) {x:X} (hx:x=s 0) (h: ∀i,i<n→step (s i)=some (.inl (s (i+1)))) (he:step (s n)=some (.inr r)):Loop step x=some r:=by rw[hx];exact eY n s r h he
theorem J2 {a b:Nat} (h:a+b≤1000000000):IntKind.wrap .i64 ((a:Int)+(b:Int))=((a+b:Nat):Int):=by rw[wrap64 (by omega) (by omega)];omega
theorem J3 {l:List Ed} {p x q:Nat}:l.map Ed.enc++[V.agg [.int .i64 (p:Int),.int .i64 (x:Int),.int .i64 (q:Int)]]=(l++[fU p x q]).map Ed.enc:=by simp[fU,Ed.enc]
section
variable {L S st fin:Nat} {l:List Ed}
theorem J4 {p x q:Nat} (h:l.length≤1000000):CC wu [.int .i64 (p:Int),.int .i64 (x:Int),.int .i64 (q:Int),.int .i64 (L:Int),.int .i64 (S:Int),.int .u64 (st:Int),.int .u64 (fin:Int),.list av (l.map Ed.enc)]=some (aN L S st fin (l++[fU p x q])):=by
 refine amn ?_
 unfold aaE
 refine bT (cap (by simp;omega) (by omega)) ?_
 rw[J3];rfl
theorem aaP {q:Nat} (hq:q<64) (hs:st<2^64):CC yS [.int .i64 (q:Int),.int .i64 (L:Int),.int .i64 (S:Int),.int .u64 (st:Int),.int .u64 (fin:Int),.list av (l.map Ed.enc)]=some (aN L S (st|||2^q) fin l):=by
 refine amo ?_
 unfold aaF
 refine bT (bN (by omega)) ?_
 rw[Int.toNat_natCast,Cu hq,u64_or hs (oy (by omega) hq)];rfl
theorem amE {q:Nat} (hq:q<64) (hs:fin<2^64):CC Ht [.int .i64 (q:Int),.int .i64 (L:Int),.int .i64 (S:Int),.int .u64 (st:Int),.int .u64 (fin:Int),.list av (l.map Ed.enc)]=some (aN L S st (fin|||2^q) l):=by
 refine amp ?_
 unfold aaG
 refine bT (bN (by omega)) ?_
 rw[Int.toNat_natCast,Cu hq,u64_or hs (oy (by omega) hq)];rfl
theorem aaQ (h:S≤64):CC wq [.int .i64 (L:Int),.int .i64 (S:Int)]=some (.bool false::aN L S 0 0 []):=by
 refine aaD ?_
 unfold Qx
 exact bF (db (by omega)) rfl
theorem amF (h:64<S):CC wq [.int .i64 (L:Int),.int .i64 (S:Int)]=some [.bool true]:=by
 refine aaD ?_
 unfold Qx
 exact bT (bN (by omega)) rfl
def fV (fin:Nat) (f:Nat→Bool) (off:Nat):Nat→Nat
 | 0=>fin
 | i+1=>if f i=true then fV fin f off i|||2^(i+off) else fV fin f off i
theorem E0 {f:Nat→Bool} {off k:Nat} (hf:fin<2^k): ∀{n:Nat},n+off≤k→fV fin f off n<2^k
 | 0,_=>hf
 | n+1,h=>by
  unfold fV
  have ih:=E0 (f:=f) (off:=off) hf (n:=n) (by omega)
  split
  ·exact Av ih (oy (by omega) (by omega))
  ·exact ih
theorem aaR {n off:Nat} {f:Nat→Bool} (ho:n+off≤64) (hs:fin<2^64):CC yT [.list aC (bV n f),.int .i64 (off:Int),.int .i64 (L:Int),.int .i64 (S:Int),.int .u64 (st:Int),.int .u64 (fin:Int),.list av (l.map Ed.enc)]=some (aN L S st (fV fin f off n) l):=by
 refine amt ?_
 unfold aaJ
 rw[show (bV n f).length=n from dI]
 refine bs (eY n (fun i=>((i:Int),(L:Int),(S:Int),(st:Int),(fV fin f off i:Int),l.map Ed.enc)) ((n:Int),false,(L:Int),(S:Int),(st:Int),(fV fin f off n:Int),l.map Ed.enc) (fun i hi=> ?_) ?_) ?_
 ·simp only[Qy,ER,un]
  refine bT (cU hi) ?_
  refine bs (o9 hi) ?_
  have a9:=E0 (f:=f) (off:=off) hs (n:=i) (by omega)
  cases hf:f i with
  | true=>
   refine bT rfl ?_
   rw[J2 (by omega)]
   refine bs (amE (by omega) a9) ?_
   rw[cy (by omega),show fV fin f off (i+1)=fV fin f off i|||2^(i+off) from af hf]
   rfl
  | false=>
   refine bF rfl ?_
   rw[cy (by omega),show fV fin f off (i+1)=fV fin f off i from ag (by rw[hf];simp)]
 ·simp only[Qy,ER,un]
  refine bF (bq (ax _)) ?_
  rw[bq (ax _)]
 ·rfl
def nj (a:Da) (off p:Nat):List Ed:=tab a.L fun x=>fU (p+off) x (a.nx p x+off)
def jS (a:Da) (off:Nat):List Ed:=fm a.n (nj a off)
theorem amG {a:Da} {off:Nat} {e:Ed}:e∈jS a off↔∃p x,p<a.n∧x<a.L∧e=fU (p+off) x (a.nx p x+off):=by
 unfold jS nj
 rw[J1]
 constructor
 ·rintro ⟨p,hp,he⟩
  obtain ⟨x,hx,rfl⟩:=uG.1 he
  exact ⟨p,x,hp,hx,rfl⟩
 ·rintro ⟨p,x,hp,hx,rfl⟩
  exact ⟨p,hp,uG.2 ⟨x,hx,rfl⟩⟩
theorem J5 {a:Da} (h:a.Ok) {off:Nat} {n:Nat}:(fm n (nj a off)).length≤n*6:=Ac fun p _=>by unfold nj;rw[dI];exact h.l6
theorem amH {a:Da} (h:a.Ok) {off:Nat} (ho:off≤1000) (hl:l.length≤100000):CC Hu (gd a [.int .i64 (off:Int),.int .i64 (L:Int),.int .i64 (S:Int),.int .u64 (st:Int),.int .u64 (fin:Int),.list av (l.map Ed.enc)])=some (aN L S st fin (l++jS a off)):=by
 have hn:=h.fO
 have h6:=h.l6
 refine amx ?_
 unfold aaM
 rw[show a.cS.length=a.n from dI]
 refine bs (om a.n (fun i=>((i:Int),(L:Int),(S:Int),(st:Int),(fin:Int),(l++fm i (nj a off)).map Ed.enc)) ((a.n:Int),false,(L:Int),(S:Int),(st:Int),(fin:Int),(l++jS a off).map Ed.enc) (by rw[amD,iD];rfl) (fun p hp=> ?_) ?_) ?_
 ·have hlen:=J5 h (off:=off) (n:=p)
  simp only[QC,EW,un]
  refine bT (cU hp) ?_
  refine bs (o9 hp) ?_
  rw[show (gb a.L (a.nx p)).toList=tab a.L fun x=>nV (a.nx p x) from rfl,dI]
  refine bs (om a.L (fun i=>((i:Int),(L:Int),(S:Int),(st:Int),(fin:Int),((l++fm p (nj a off))++tab i fun x=>fU (p+off) x (a.nx p x+off)).map Ed.enc)) ((a.L:Int),false,(L:Int),(S:Int),(st:Int),(fin:Int),((l++fm p (nj a off))++nj a off p).map Ed.enc) (by rw[Pc,iD];rfl) (fun x hx=> ?_) ?_) ?_
  ·have hq:=h.fP hp hx
   simp only[QA,EV,un]
   refine bT (cU hx) ?_
   refine bs (o9 hx) ?_
   rw[show (nV (a.nx p x)).toInt=((a.nx p x:Nat):Int) from rfl,J2 (by omega),J2 (by omega)]
   refine bs (J4 (by rw[dd,dd,dI];omega)) ?_
   rw[cy (by omega),ki,←dk]
   rfl
  ·simp only[QA,EV,un]
   refine bF (bq (ax _)) ?_
   rw[bq (ax _)]
   rfl
  ·simp only[un]
   rw[cy (by omega),u0,←dk]
 ·simp only[QC,EW,un]
  refine bF (bq (ax _)) ?_
  rw[bq (ax _)]
  rfl
 ·rfl
end
theorem amI {a:Da} (h:a.Ok) (hs:a.n≤64):CC Hs (dK a)=some (aN a.L a.n (2^a.st) (fV 0 a.fin 0 a.n) (jS a 0)):=by
 have h6:=h.l6
 have b6:=h.s
 refine amC ?_
 unfold aaO
 refine bs (OT (by omega)) ?_
 rw[show a.cZ.length=a.n from dI]
 refine bs (eY a.n (fun i=>((i:Int),(fV 0 a.fin 0 i:Int),(fm i (nj a 0)).map Ed.enc)) ((a.n:Int),false,(fV 0 a.fin 0 a.n:Int),(jS a 0).map Ed.enc) (fun p hp=> ?_) ?_) ?_
 ·have hlen:=J5 h (off:=0) (n:=p)
  simp only[QF,EZ,un]
  refine bT (cU hp) ?_
  refine bs (o9 hp) ?_
  have a9:=E0 (f:=a.fin) (off:=0) (fin:=0) (k:=64) (by omega) (n:=p) (by omega)
  have key: ∀(F:Nat),((idx a.cS (p:Int)).bind fun x5=>
   (Loop (J0 CC (p:Int) (a.n:Int) (p:Int) x5.toList (x5.toList.length:Int) (a.L:Int) (a.st:Int) a.cZ a.cS 0 0 0 0 (a.L:Int) (a.n:Int) ((2^a.st:Nat):Int) (F:Int) ([]:List V)) (0,(fm p (nj a 0)).map Ed.enc)).bind (un fun (mh:Int)=>un fun (qe:Bool) (EU:List V)=>
    some (Sum.inl (IntKind.wrap .i64 ((p:Int)+1),(F:Int),EU):(Int × Int × List V) ⊕ (Int × Bool × Int × List V))))=some (Sum.inl (((p+1:Nat):Int),(F:Int),(fm (p+1) (nj a 0)).map Ed.enc)):=by
   intro F
   refine bs (o9 hp) ?_
   rw[show (gb a.L (a.nx p)).toList=tab a.L fun x=>nV (a.nx p x) from rfl,dI]
   refine bs (om a.L (fun i=>((i:Int),(fm p (nj a 0)++tab i fun x=>fU (p+0) x (a.nx p x+0)).map Ed.enc)) ((a.L:Int),false,(fm p (nj a 0)++nj a 0 p).map Ed.enc) (by rw[Pc,iD];rfl) (fun x hx=> ?_) ?_) ?_
   ·simp only[J0,EY,un]
    refine bT (cU hx) ?_
    refine bs (o9 hx) ?_
    refine bT (cap (by rw[cb,dd,dI];simp;omega) (by omega)) ?_
    rw[show (nV (a.nx p x)).toInt=((a.nx p x:Nat):Int) from rfl,J3,cy (by omega),ki,←dk]
    rfl
   ·simp only[J0,EY,un]
    refine bF (bq (ax _)) ?_
    rw[bq (ax _)]
    rfl
   ·simp only[un]
    rw[cy (by omega),u0]
  unfold JZ
  cases hf:a.fin p with
  | true=>
   refine bT rfl ?_
   refine bs (OT (by omega)) ?_
   rw[show (V.nth [V.int .u64 ((2^p:Nat):Int)] 0).toInt=((2^p:Nat):Int) from rfl,u64_or a9 (oy (by omega) (by omega)),show fV 0 a.fin 0 (p+1)=fV 0 a.fin 0 p|||2^p from af hf]
   exact key _
  | false=>
   refine bF rfl ?_
   rw[show fV 0 a.fin 0 (p+1)=fV 0 a.fin 0 p from ag (by rw[hf];simp)]
   exact key _
 ·simp only[QF,EZ,un]
  refine bF (bq (ax _)) ?_
  rw[bq (ax _)]
  rfl
 ·rfl
noncomputable def QH (C:ae) (aK aO:Int) (aD aT:List V):Option (List V):=
 (C sN [.int .i64 aK,.int .i64 aO,.list aC aD,.list aG aT]).bind fun r1=>
 bif (((V.nth r1 0).toInt):Int) != 0 then
  some [.int .i64 0,.int .i64 0,.int .i64 ((V.nth r1 0).toInt),.list aC ([]:List V),.list aG ([]:List V)]
 else
  (C yR [.int .i64 aK,.int .i64 aO,.list aC aD,.list aG aT]).bind fun r2=>
  some [.int .i64 ((V.nth r2 0).toInt),.int .i64 ((V.nth (r2.drop 1) 0).toInt),.int .i64 0,.list aC ((V.nth (r2.drop 2) 0).toList),.list aG ((V.nth ((r2.drop 2).drop 1) 0).toList)]
theorem aaS {aK aO:Int} {aD aT:List V} {r:Option (List V)} (h:QH CC aK aO aD aT=r):CC uz [.int .i64 aK,.int .i64 aO,.list aC aD,.list aG aT]=r:=
 bD (key:=56) (L:=dJ) (bs:=[]) (by kernel_rfl) ar (bB (by kernel_rfl) h)
noncomputable def aaT (C:ae) (aK aO:Int) (aD aT:List V) (f mO mP:Int) (mQ J6:List V) (g:Int):Option (List V):=
 bif (f:Int)==g then
  (C sO [.int .i64 aK,.int .i64 aO,.list aC aD,.list aG aT,.int .i64 mO,.int .i64 mP,.list aC mQ,.list aG J6]).bind fun r1=>
  some [.bool ((V.nth r1 0).toBool)]
 else
  some [.bool false]
theorem amJ {aK aO:Int} {aD aT:List V} {f mO mP:Int} {mQ J6:List V} {g:Int} {r:Option (List V)} (h:aaT CC aK aO aD aT f mO mP mQ J6 g=r):CC sM [.int .i64 aK,.int .i64 aO,.list aC aD,.list aG aT,.int .i64 f,.int .i64 mO,.int .i64 mP,.list aC mQ,.list aG J6,.int .i64 g]=r:=
 bD (key:=18) (L:=dJ) (bs:=[]) (by kernel_rfl) ar (bB (by kernel_rfl) h)
theorem J7 {a:Da} (h:a.Ok):(minD a).Ok:=(zx h).ok
theorem E1 {a:Da} (h:a.Ok):(minD a).L=a.L:=(zx h).hL
theorem amK {a:Da} (h:a.Ok):(minD a).st=0:=(zx h).st
theorem aaU {a:Da} (h:a.Ok) {w:List Nat} (hw:WL a.L w):(minD a).acc (minD a).st w=a.acc a.st w:=by
 rw[amK h];exact (zx h).mU w hw
theorem aaV {a:Da} (h:a.Ok):(minD a).n≤a.n:=by
 obtain ⟨p,_,c2,_⟩:=Zd h
 rw[←zy h (Da.Pq h c2)]
 have h1:=(Da.IU h c2).nR (a.quo p).n
 have h2:(a.quo p).trim.n=(an (a.quo p).L (a.quo p).nx (a.quo p).st (a.quo p).n).length:=mi
 rw[h2]
 refine jT h1 ?_
 rw[Da.ti]
 exact Pw p a.n
theorem aaW {a b:Da} (ha:a.Ok) (hb:b.Ok) (hL:a.L=b.L) (hl: ∀w,WL a.L w→a.acc a.st w=b.acc b.st w):minD a=minD b:=
 zy hb (hL▸Canon.congr (zx ha) hl)
theorem amL {a:Da} (ha:a.Ok):minD (minD a)=minD a:=
 aaW (J7 ha) ha (E1 ha) fun w hw=>aaU ha (by rwa [E1 ha] at hw)
theorem J8 {a:Da} (h:a.Ok):CC uz (dK a)=some (fR (minD a) 0):=by
 refine aaS ?_
 unfold QH
 refine bs (Db h) (bF rfl ?_)
 refine bs (Yu h) ?_
 rfl
theorem amM {d:Df} (h:d.Ok) (hv:d.val≠0):CC uz (rK d [])=some (fR zD d.val):=by
 refine aaS ?_
 unfold QH
 refine bs (XB h) (bT (by simpa using hv) ?_)
 rfl
theorem QI {m:Da} (h:CC sO (gd m (dK m))=some [.bool true]) (f:Int):CC sM (gd m (.int .i64 f::gd m [.int .i64 f]))=some [.bool true]:=by
 refine amJ ?_
 unfold aaT
 refine bT (by simp) ?_
 refine bs h ?_
 rfl
def lN (E:List Ed):Nat→List Nat→Nat→Prop
 | i,[],k=>i=k
 | i,x::w,k=> ∃j,fU i x j∈E∧lN E j w k
theorem lN.ext {A B:List Ed} (h: ∀e,e∈A→e∈B): ∀{w:List Nat} {i k:Nat},lN A i w k→lN B i w k
 | [],_,_,p=>p
 | _::_,_,_,⟨j,h1,h2⟩=>⟨j,h _ h1,lN.ext h h2⟩
theorem lN.app {E:List Ed}: ∀{v w:List Nat} {i k:Nat},lN E i (v++w) k↔∃j,lN E i v j∧lN E j w k
 | [],w,i,k=>by simp[lN]
 | x::v,w,i,k=>by
  simp only[List.cons_append,lN]
  constructor
  ·rintro ⟨j,h1,h2⟩
   obtain ⟨m,h3,h4⟩:=lN.app.1 h2
   exact ⟨m,⟨j,h1,h3⟩,h4⟩
  ·rintro ⟨m,⟨j,h1,h3⟩,h4⟩
   exact ⟨j,h1,lN.app.2 ⟨m,h3,h4⟩⟩
theorem amN {p x q p' x' q':Nat}:fU p x q=fU p' x' q'↔p=p'∧x=x'∧q=q':=by
 unfold fU
 simp only[Ed.mk.injEq]
 omega
theorem amO {e:Ed} (h1:0≤e.f) (h2:0≤e.l) (h3:0≤e.t):e=fU e.f.toNat e.l.toNat e.t.toNat:=by
 unfold fU
 cases e
 simp only[Ed.mk.injEq] at*
 omega
theorem QJ {E:List Ed} (hE: ∀e∈E,0≤e.f∧0≤e.l∧0≤e.t): ∀(w:List Nat) (s k:Nat),(w.foldl (sn E) s).testBit k=true↔∃i,s.testBit i=true∧lN E i w k
 | [],s,k=>by simp[lN]
 | x::w,s,k=>by
  rw[List.foldl_cons,QJ hE w]
  constructor
  ·rintro ⟨j,h1,h2⟩
   unfold sn at h1
   rw[CM,vd] at h1
   obtain ⟨e,he,h3⟩:=h1
   simp only[aM,eE] at h3
   obtain ⟨c1,c2,c3⟩:=hE e he
   refine ⟨e.f.toNat,h3.2.1,j,?_,h2⟩
   have:e=fU e.f.toNat x j:=by
    rw[amO c1 c2 c3]
    rw[amN]
    simp only[fU,Int.toNat_natCast]
    exact ⟨trivial,by omega,h3.2.2⟩
   exact this▸he
  ·rintro ⟨i,h1,j,h2,h3⟩
   refine ⟨j,?_,h3⟩
   unfold sn
   rw[CM,vd]
   refine ⟨_,h2,?_⟩
   simp only[aM,eE,fU,Int.toNat_natCast]
   exact ⟨trivial,h1,trivial⟩
theorem amP {fin s:Nat}:sf fin s=true↔∃k,s.testBit k=true∧fin.testBit k=true:=by
 unfold sf
 rw[ot,u9]
 constructor
 ·intro h
  obtain ⟨k,hk⟩:=Nat.exists_testBit_of_ne_zero h
  rw[AA,aM] at hk
  exact ⟨k,hk⟩
 ·rintro ⟨k,h1,h2⟩ h0
  have:(s&&&fin).testBit k=true:=by rw[AA,h1,h2];rfl
  rw[h0,Nat.zero_testBit] at this
  cases this
def E2 (st fin:Nat) (l:List Ed) (w:List Nat):Prop:= ∃i k,st.testBit i=true∧fin.testBit k=true∧lN l i w k
section
variable {L S st fin:Nat} {l:List Ed} (h:xn L S st fin l)
include h
theorem amQ (hn: ¬gN (di L S st fin l) L S):(gg (di L S st fin l) L S).Ok:=by
 unfold gg
 rw[ag hn]
 exact J7 (w6 (pw h) hn)
theorem amR (hn: ¬gN (di L S st fin l) L S):(gg (di L S st fin l) L S).L=L:=by
 unfold gg
 rw[ag hn]
 exact E1 (w6 (pw h) hn)
theorem amS (hn: ¬gN (di L S st fin l) L S) {w:List Nat} (hw:WL L w):(gg (di L S st fin l) L S).acc (gg (di L S st fin l) L S).st w=true↔E2 st fin l w:=by
 have aw:=w6 (pw h) hn
 unfold gg
 rw[ag hn,aaU aw hw,show (fg (di L S st fin l) L S).st=0 from rfl,ai7 (pw h) hw]
 show sf fin (w.foldl (sn (rD l)) st)=true↔_
 have hE: ∀e∈rD l,0≤e.f∧0≤e.l∧0≤e.t:=fun e he=>by
  have:=h.E e (zF.1 he)
  unfold Ed.In at this
  exact ⟨this.1,this.2.2.2.2.1,this.2.2.1⟩
 rw[amP]
 unfold E2
 constructor
 ·rintro ⟨k,h1,h2⟩
  obtain ⟨i,h3,h4⟩:=(QJ hE w st k).1 h1
  exact ⟨i,k,h3,h2,h4.ext fun e he=>zF.1 he⟩
 ·rintro ⟨i,k,h1,h2,h3⟩
  exact ⟨k,(QJ hE w st k).2 ⟨i,h1,h3.ext fun e he=>zF.2 he⟩,h2⟩
theorem amT (hS:S≤9): ¬gN (di L S st fin l) L S:=fun ho=>by
 have h1:=w5 (pw h) (2^S)
 have h2:2^S≤2^9:=ox (by omega) hS
 have h3:(512:Nat)<(an L (sn (di L S st fin l).E) (di L S st fin l).st (2^S)).length:=ho
 have h4:(2:Nat)^9=512:=by decide
 omega
end
noncomputable abbrev J9:Code:=cJ Tryd.prog (au.bc 51)
noncomputable def E3 (C:ae) (q t36 t37 t41 aZ bp:Int) (bA bu:List V) (cg ch ia ib:Int) (bY bO bw bh:List V) (t42 aR aJ aX aS:Int) (cj:List V) {β:Type} (kn:(Int × Int × Int × Int × Int × (List V))→Option β) (kr:(Int × Bool × Int × Int × Int × Int × (List V))→Option β):Option β:=
 bif decide ((t42:Int)<t41) then
  (C wu [.int .i64 q,.int .i64 t42,.int .i64 q,.int .i64 aR,.int .i64 aJ,.int .u64 aX,.int .u64 aS,.list av cj]).bind fun r4=>
  kn (IntKind.wrap .i64 (t42+1),(V.nth r4 0).toInt,(V.nth (r4.drop 1) 0).toInt,(V.nth ((r4.drop 1).drop 1) 0).toInt,(V.nth (((r4.drop 1).drop 1).drop 1) 0).toInt,(V.nth (r4.drop 4) 0).toList)
 else
  kr (t42,decide ((t42:Int)<t41),aR,aJ,aX,aS,cj)
noncomputable def QK (C:ae) (q t36 t37 t41 aZ bp:Int) (bA bu:List V) (cg ch ia ib:Int) (bY bO bw bh:List V):(Int × Int × Int × Int × Int × (List V))→Option ((Int × Int × Int × Int × Int × (List V)) ⊕ (Int × Bool × Int × Int × Int × Int × (List V))):=un fun t42=>un fun aR=>un fun aJ=>un fun aX=>un fun aS cj=>E3 C q t36 t37 t41 aZ bp bA bu cg ch ia ib bY bO bw bh t42 aR aJ aX aS cj (fun y=>some (.inl y)) (fun r=>some (.inr r))
noncomputable def E4 (C:ae) (t36 aZ bp:Int) (bA bu:List V) (cg ch ia ib:Int) (bY bO bw bh:List V) (t37 aR aJ aX aS:Int) (cj:List V) {β:Type} (kn:(Int × Int × Int × Int × Int × (List V))→Option β) (kr:(Int × Bool × Int × Int × Int × Int × (List V))→Option β):Option β:=
 bif decide ((t37:Int)<t36) then
  (Loop (QK C t37 t36 t37 aZ aZ bp bA bu cg ch ia ib bY bO bw bh) (0,aR,aJ,aX,aS,cj)).bind (un fun (lD:Int)=>un fun (mN:Bool)=>un fun (ES:Int)=>un fun (ET:Int)=>un fun (QB:Int)=>un fun (amU:Int) (Py:List V)=>
   kn (IntKind.wrap .i64 (t37+1),ES,ET,QB,amU,Py))
 else
  kr (t37,decide ((t37:Int)<t36),aR,aJ,aX,aS,cj)
noncomputable def QL (C:ae) (t36 aZ bp:Int) (bA bu:List V) (cg ch ia ib:Int) (bY bO bw bh:List V):(Int × Int × Int × Int × Int × (List V))→Option ((Int × Int × Int × Int × Int × (List V)) ⊕ (Int × Bool × Int × Int × Int × Int × (List V))):=un fun t37=>un fun aR=>un fun aJ=>un fun aX=>un fun aS cj=>E4 C t36 aZ bp bA bu cg ch ia ib bY bO bw bh t37 aR aJ aX aS cj (fun y=>some (.inl y)) (fun r=>some (.inr r))
noncomputable def aaX (C:ae):cD:=fun β n ds k=>
 bif Nat.beq n 193 then bz Nl [false,false,false,false,true,false,false,false,false,false,false,false,false,true,true,true,true,false,false,false,false,true] [[1,2,3,4,0,0,6,7,8,9,10,11,12,13,0,0,0,0,18,19,20,21,0]] (@E3 C) ds k else
 bif Nat.beq n 145 then bz Nm [false,true,false,false,false,false,false,false,false,false,true,true,true,true,false,false,false,false,true] [[1,0,0,3,4,5,6,7,8,9,10,0,0,0,0,15,16,17,18,0]] (@E4 C) ds k else
 none
abbrev aaY (C:ae) (b:cB):Prop:=cC Tryd.prog au C (aaX C) 51 (cQ Tryd.prog (au.bc 51)) (au.sin 51).bj.length b
theorem amV (C:ae):aaY C (.loop (ao [1,1,1,1,1,1,0,1,0,0,1,1,0,0,1,1,0,0] J9)):=
 bC Nl [false,false,false,false,true,false,false,false,false,false,false,false,false,true,true,true,true,false,false,false,false,true] [[1,2,3,4,0,0,6,7,8,9,10,11,12,13,0,0,0,0,18,19,20,21,0]] (@E3 C) (by kernel_rfl) (aW (bs:=[]) (by kernel_rfl) ar) (fun ds=>by kernel_rfl) (fun i x=>by kernel_rfl) (fun i x β k=>by kernel_rfl) (fun β ds k=>by kernel_rfl)
theorem amW (C:ae):aaY C (.loop (ao [1,1,1,1,1,1,0,1,0,0] J9)):=
 bC Nm [false,true,false,false,false,false,false,false,false,false,true,true,true,true,false,false,false,false,true] [[1,0,0,3,4,5,6,7,8,9,10,0,0,0,0,15,16,17,18,0]] (@E4 C) (by kernel_rfl) (aW (bs:=[.loop (ao [1,1,1,1,1,1,0,1,0,0,1,1,0,0,1,1,0,0] J9)]) (by kernel_rfl) (bm (amV C) ar)) (fun ds=>by kernel_rfl) (fun i x=>by kernel_rfl) (fun i x β k=>by kernel_rfl) (fun β ds k=>by kernel_rfl)
noncomputable def aaZ (C:ae) (aK aO:Int) (aD aT:List V):Option (List V):=
 (C uz [.int .i64 aK,.int .i64 aO,.list aC aD,.list aG aT]).bind fun r1=>
 bif (((V.nth (r1.drop 2) 0).toInt):Int) != 0 then
  some [.int .i64 0,.int .i64 0,.int .i64 ((V.nth (r1.drop 2) 0).toInt),.list aC ([]:List V),.list aG ([]:List V)]
 else
  (C wq [.int .i64 aK,.int .i64 (((V.nth (r1.drop 3) 0).toList).length:Int)]).bind fun r2=>
  bif (V.nth r2 0).toBool then
  some [.int .i64 0,.int .i64 0,.int .i64 3,.list aC ([]:List V),.list aG ([]:List V)]
  else
  (C Hu [.int .i64 ((V.nth r1 0).toInt),.int .i64 ((V.nth (r1.drop 1) 0).toInt),.list aC ((V.nth (r1.drop 3) 0).toList),.list aG ((V.nth ((r1.drop 3).drop 1) 0).toList),.int .i64 0,.int .i64 ((V.nth (r2.drop 1) 0).toInt),.int .i64 ((V.nth ((r2.drop 1).drop 1) 0).toInt),.int .u64 ((V.nth (((r2.drop 1).drop 1).drop 1) 0).toInt),.int .u64 ((V.nth ((((r2.drop 1).drop 1).drop 1).drop 1) 0).toInt),.list av ((V.nth ((r2.drop 1).drop 4) 0).toList)]).bind fun r3=>
  (Loop (QL C (((V.nth (r1.drop 3) 0).toList).length:Int) aK aO aD aT 0 0 ((V.nth r1 0).toInt) ((V.nth (r1.drop 1) 0).toInt) ([]:List V) ([]:List V) ((V.nth (r1.drop 3) 0).toList) ((V.nth ((r1.drop 3).drop 1) 0).toList)) (0,(V.nth r3 0).toInt,(V.nth (r3.drop 1) 0).toInt,(V.nth ((r3.drop 1).drop 1) 0).toInt,(V.nth (((r3.drop 1).drop 1).drop 1) 0).toInt,(V.nth (r3.drop 4) 0).toList)).bind (un fun (zu:Int)=>un fun (o4:Bool)=>un fun (QD:Int)=>un fun (QE:Int)=>un fun (EX:Int)=>un fun (amX:Int) (Dh:List V)=>
   (C yS [.int .i64 ((V.nth (r1.drop 1) 0).toInt),.int .i64 QD,.int .i64 QE,.int .u64 EX,.int .u64 amX,.list av Dh]).bind fun gV=>
   (C yT [.list aC ((V.nth (r1.drop 3) 0).toList),.int .i64 0,.int .i64 ((V.nth gV 0).toInt),.int .i64 ((V.nth (gV.drop 1) 0).toInt),.int .u64 ((V.nth ((gV.drop 1).drop 1) 0).toInt),.int .u64 ((V.nth (((gV.drop 1).drop 1).drop 1) 0).toInt),.list av ((V.nth (gV.drop 4) 0).toList)]).bind fun iB=>
   (C uA [.int .i64 ((V.nth iB 0).toInt),.int .i64 ((V.nth (iB.drop 1) 0).toInt),.int .u64 ((V.nth ((iB.drop 1).drop 1) 0).toInt),.int .u64 ((V.nth (((iB.drop 1).drop 1).drop 1) 0).toInt),.list av ((V.nth (iB.drop 4) 0).toList)]).bind fun qt=>
   some [.int .i64 ((V.nth qt 0).toInt),.int .i64 ((V.nth (qt.drop 1) 0).toInt),.int .i64 ((V.nth (qt.drop 2) 0).toInt),.list aC ((V.nth ((qt.drop 3).drop 5) 0).toList),.list aG ((V.nth (((qt.drop 3).drop 5).drop 1) 0).toList)])
theorem amY {aK aO:Int} {aD aT:List V} {r:Option (List V)} (h:aaZ CC aK aO aD aT=r):CC Hp [.int .i64 aK,.int .i64 aO,.list aC aD,.list aG aT]=r:=
 bD (key:=51) (L:=aaX CC) (bs:=[.loop (ao [1,1,1,1,1,1,0,1,0,0] J9)]) (by kernel_rfl) (bm (amW CC) ar) (bB (by kernel_rfl) h)
theorem Ka {p x q L S:Nat} (hp:p<S) (hx:x<L) (hq:q<S):(fU p x q).In (L:Int) (S:Int):=by unfold Ed.In fU;simp only;omega
theorem amZ {a:Da} (h:a.Ok) {off S:Nat} (hs:a.n+off≤S) {e:Ed} (he:e∈jS a off):e.In (a.L:Int) (S:Int):=by
 obtain ⟨p,x,hp,hx,rfl⟩:=amG.1 he
 have:=h.fP hp hx
 exact Ka (by omega) hx (by omega)
def kU (L n:Nat):List Ed:=fm n fun q=>tab L fun x=>fU q x q
theorem am0 {L n:Nat} {e:Ed}:e∈kU L n↔∃q x,q<n∧x<L∧e=fU q x q:=by
 unfold kU
 rw[J1]
 constructor
 ·rintro ⟨p,hp,he⟩
  obtain ⟨x,hx,rfl⟩:=uG.1 he
  exact ⟨p,x,hp,hx,rfl⟩
 ·rintro ⟨p,x,hp,hx,rfl⟩
  exact ⟨p,hp,uG.2 ⟨x,hx,rfl⟩⟩
def Ad (m:Da):Nf:=di m.L m.n (2^m.st) (fV 0 m.fin 0 m.n) (jS m 0++kU m.L m.n)
theorem aa0 {m:Da} (h:m.Ok) (hs:m.n≤64):xn m.L m.n (2^m.st) (fV 0 m.fin 0 m.n) (jS m 0++kU m.L m.n) where
 l1:=h.l1
 l6:=h.l6
 rv:=hs
 st:=oy (by omega) h.s
 fin:=E0 (Nat.two_pow_pos _) (by omega)
 E:=fun e he=>by
  rcases eP.1 he with he|he
  ·exact amZ h (by omega) he
  ·obtain ⟨p,x,hp,hx,rfl⟩:=am0.1 he
   exact Ka (by omega) hx (by omega)
 len:=by
  have h1:=J5 h (off:=0) (n:=m.n)
  have h2:(kU m.L m.n).length≤m.n*6:=Ac fun p _=>by rw[dI];exact h.l6
  rw[dd]
  unfold jS
  omega
section
variable {a:Da} (h:a.Ok)
include h
theorem am1 (hs:(minD a).n≤64) {X:Da} {e:Int} {n:Nf} (hr:CC uA (aN (minD a).L (minD a).n (2^(minD a).st) (fV 0 (minD a).fin 0 (minD a).n) (jS (minD a) 0++kU (minD a).L (minD a).n))=some (Qs X e n)):CC Hp (dK a)=some (fR X e):=by
 have hm:=J7 h
 have h6:=hm.l6
 have hL:=E1 h
 have b6:=hm.s
 refine amY ?_
 unfold aaZ
 refine bs (J8 h) (bF rfl ?_)
 have e0:(V.nth ((fR (minD a) 0).drop 3) 0).toList=(minD a).cZ:=rfl
 rw[e0,Da.pb]
 refine bs (aaQ hs) (bF rfl ?_)
 refine bs (amH (l:=[]) hm (off:=0) (by omega) (by simp)) ?_
 rw[List.nil_append]
 have hlen:=J5 hm (off:=0) (n:=(minD a).n)
 refine bs (om (minD a).n (fun i=>((i:Int),(a.L:Int),((minD a).n:Int),((0:Nat):Int),((0:Nat):Int),(jS (minD a) 0++kU (minD a).L i).map Ed.enc)) (((minD a).n:Int),false,(a.L:Int),((minD a).n:Int),((0:Nat):Int),((0:Nat):Int),(jS (minD a) 0++kU (minD a).L (minD a).n).map Ed.enc) (by rw[show kU (minD a).L 0=[] from rfl,iD];rfl) (fun q hq=> ?_) ?_) ?_
 ·have vh:(kU (minD a).L q).length≤q*6:=Ac fun p _=>by rw[dI];exact h6
  simp only[QL,E4,un]
  refine bT (cU hq) ?_
  refine bs (om a.L (fun i=>((i:Int),(a.L:Int),((minD a).n:Int),((0:Nat):Int),((0:Nat):Int),((jS (minD a) 0++kU (minD a).L q)++tab i fun x=>fU q x q).map Ed.enc)) ((a.L:Int),false,(a.L:Int),((minD a).n:Int),((0:Nat):Int),((0:Nat):Int),((jS (minD a) 0++kU (minD a).L q)++tab (minD a).L fun x=>fU q x q).map Ed.enc) (by rw[Pc,iD];rfl) (fun x hx=> ?_) ?_) ?_
  ·simp only[QK,E3,un]
   refine bT (cU hx) ?_
   refine bs (J4 (by rw[dd,dd,dI];unfold jS;omega)) ?_
   rw[cy (by omega),ki,←dk]
   rfl
  ·simp only[QK,E3,un]
   refine bF (bq (ax _)) ?_
   rw[bq (ax _),hL]
  ·simp only[un]
   rw[cy (by omega),show kU (minD a).L (q+1)=kU (minD a).L q++tab (minD a).L fun x=>fU q x q from u0,←dk]
 ·simp only[QL,E4,un]
  refine bF (bq (ax _)) ?_
  rw[bq (ax _)]
 ·simp only[un]
  refine bs (aaP (q:=(minD a).st) (by omega) (by omega)) ?_
  refine bs (aaR (n:=(minD a).n) (f:=(minD a).fin) (off:=0) (by omega) (by omega)) ?_
  rw[Nat.zero_or]
  rw[hL] at hr
  rw[hL]
  refine bs hr ?_
  rfl
end
inductive tA (K:List Nat→Prop):List Nat→Prop
 | nil:tA K []
 | app {u v:List Nat}:u≠[]→K u→tA K v→tA K (u++v)
section
variable {K:List Nat→Prop}
theorem tA.one {w:List Nat} (h:K w):tA K w:=by
 by_cases hw:w=[]
 ·rw[hw];exact .nil
 ·have:=tA.app hw h .nil
  rwa [iD] at this
theorem tA.ext {K2:List Nat→Prop} {L:Nat} (h: ∀u,WL L u→(K u↔K2 u)) {w:List Nat} (hw:WL L w):tA K w↔tA K2 w:=by
 constructor
 ·intro hr
  induction hr with
  | nil=>exact .nil
  | app g1 g2 _ ih=>exact .app g1 ((h _ (WL.app.1 hw).1).1 g2) (ih (WL.app.1 hw).2)
 ·intro hr
  induction hr with
  | nil=>exact .nil
  | app g1 g2 _ ih=>exact .app g1 ((h _ (WL.app.1 hw).1).2 g2) (ih (WL.app.1 hw).2)
end
section
variable {m:Da} (hm:m.Ok)
include hm
end
section
variable {m:Da} (hm:m.Ok)
include hm
end
def Ed.rev (e:Ed):Ed:=⟨e.t,e.l,e.f⟩
@[simp] theorem Ed.rev_rev (e:Ed):e.rev.rev=e:=rfl
theorem WL.rev {L:Nat} {w:List Nat} (h:WL L w):WL L w.reverse:=fun x hx=>h x (List.mem_reverse.1 hx)
section
variable {m:Da} (hm:m.Ok)
include hm
end
section
variable {m:Da} (hm:m.Ok)
include hm
end
end Go.AM
set_option maxRecDepth 100000
namespace Go.AM
open Go.Proofs
namespace Da
end Da
structure qx (X:Da) (L:Nat) (K:List Nat→Prop):Prop where
 ok:X.Ok
 hL:X.L=L
 min:minD X=X
 mU: ∀w,WL L w→(X.acc X.st w=true↔K w)
theorem qx.eq {X Y:Da} {L:Nat} {K K':List Nat→Prop} (h:qx X L K) (h':qx Y L K') (e: ∀w,WL L w→(K w↔K' w)):X=Y:=by
 rw[←h.min,←h'.min]
 refine aaW h.ok h'.ok (h.hL.trans h'.hL.symm) fun w hw=> ?_
 have kJ:WL L w:=h.hL▸hw
 rw[qB,h.mU w kJ,h'.mU w kJ,e w kJ]
theorem qx.ext {X:Da} {L:Nat} {K K':List Nat→Prop} (h:qx X L K) (e: ∀w,WL L w→(K w↔K' w)):qx X L K':=⟨h.ok,h.hL,h.min,fun w hw=>(h.mU w hw).trans (e w hw)⟩
theorem qx.acc {X:Da} {L:Nat} {K:List Nat→Prop} (h:qx X L K) {w:List Nat} (hw:WL L w) {b:Bool} (e:K w↔b=true):X.acc X.st w=b:=by
 rw[qB,h.mU w hw,e]
section
variable {L S st fin:Nat} {l:List Ed} (h:xn L S st fin l)
include h
theorem am2 (hn: ¬gN (di L S st fin l) L S):qx (gg (di L S st fin l) L S) L (E2 st fin l) where
 ok:=amQ h hn
 hL:=amR h hn
 min:=by
  unfold gg
  rw[ag hn]
  exact amL (w6 (pw h) hn)
 mU:=fun _ hw=>amS h hn hw
theorem am3 (hn: ¬gN (di L S st fin l) L S):(gg (di L S st fin l) L S).n≤2^S:=by
 have h1:=aaV (w6 (pw h) hn)
 have h2:=w5 (pw h) (2^S)
 have h3:(fg (di L S st fin l) L S).n=(eC (di L S st fin l) L S).length:=mi
 unfold gg
 rw[ag hn]
 unfold eC at h3
 omega
theorem aa1:(qv (di L S st fin l) L S=0∧qx (gg (di L S st fin l) L S) L (E2 st fin l)∧(gg (di L S st fin l) L S).n≤2^S)∨(qv (di L S st fin l) L S=3∧gg (di L S st fin l) L S=zD∧9<S):=by
 by_cases hn:gN (di L S st fin l) L S
 ·refine .inr ⟨af hn,af hn,?_⟩
  rcases eg 9 S with c|c
  ·exact c
  ·exact absurd hn (amT h c)
 ·exact .inl ⟨ag hn,am2 h hn,am3 h hn⟩
theorem am4:CC sO (gd (gg (di L S st fin l) L S) (dK (gg (di L S st fin l) L S)))=some [.bool true]:=by
 rcases aa1 h with ⟨_,h2,_⟩|⟨_,h2,_⟩
 ·exact h2.ok.same
 ·rw[h2];exact JX
end
def aa2 (r:Option (List V)) (L S:Nat) (K:List Nat→Prop):Prop:=(∃X,r=some (fR X 0)∧qx X L K∧X.n≤2^S)∨(r=some (fR zD 3)∧9<S)
theorem aa2.of {L S st fin:Nat} {l:List Ed} (h:xn L S st fin l) {r:Option (List V)} (e:r=some (fR (gg (di L S st fin l) L S) (qv (di L S st fin l) L S))) {K:List Nat→Prop} (hK: ∀w,WL L w→(E2 st fin l w↔K w)):aa2 r L S K:=by
 rcases aa1 h with ⟨h1,h2,h3⟩|⟨h1,h2,h3⟩
 ·exact .inl ⟨_,by rw[e,h1],h2.ext hK,h3⟩
 ·exact .inr ⟨by rw[e,h1,h2],h3⟩
end Go.AM
set_option maxRecDepth 100000
namespace Go.AM
open Go.Proofs
theorem WT.Fo {P:Program} {t:TypeId} {x:V} (hu:P.underlying t=some (.int .i64)) (h:WT P t x): ∃n:Int,x= .int .i64 n∧ -9223372036854775808≤n∧n≤9223372036854775807:=by
 obtain ⟨n,rfl,h1,h2⟩:=h.e8 hu
 have e1:IntKind.min .i64= -9223372036854775808:=by decide
 have e2:IntKind.max .i64=9223372036854775807:=by decide
 rw[e1] at h1
 rw[e2] at h2
 exact ⟨n,rfl,h1,h2⟩
theorem am5 {α:Type} {l:List α} (h:l.length=4): ∃a b c d,l=[a,b,c,d]:=by
 match l,h with
 | [a,b,c,d],_=>exact ⟨a,b,c,d,rfl⟩
theorem am6 {x:V} (h:gx Tryd.prog aG x): ∃r:List Int,x=mj r∧(r.length≤maxLen∧∀q∈r,-9223372036854775808≤q∧q≤9223372036854775807):=by
 have hu:Tryd.prog.underlying aG=some (.slice bt):=by kernel_rfl
 have hi:Tryd.prog.underlying bt=some (.int .i64):=by kernel_rfl
 obtain ⟨es,rfl,e1,e2⟩:=WT.Hg hu (gx.one (by kernel_rfl) h)
 obtain ⟨r,rfl,hr⟩:=Hh (f:=iV) (p:=fun q=> -9223372036854775808≤q∧q≤9223372036854775807) fun y hy=>WT.Fo hi (gx.one (by kernel_rfl) (e2 y hy))
 exact ⟨r,rfl,by simpa using e1,hr⟩
def Df.enc (d:Df):V:= .agg (rK d [])
theorem abt {t:TypeId} {x:V} (ha:bW Tryd.prog t=true) (he:bd Tryd.prog t=[bt,bt,MG,MH]) (h:gx Tryd.prog t x): ∃d:Df,x=d.enc∧d.Ok:=by
 obtain ⟨xs,rfl,hl,hx⟩:=gx.lW ha h
 rw[he] at hl
 obtain ⟨a,b,c,d,rfl⟩:=am5 hl
 have hu:Tryd.prog.underlying bt=some (.int .i64):=by kernel_rfl
 have hb:Tryd.prog.underlying aC=some .bool:=by kernel_rfl
 have hv:Tryd.prog.underlying MG=some (.slice aC):=by kernel_rfl
 have hw:Tryd.prog.underlying MH=some (.slice aG):=by kernel_rfl
 obtain ⟨L,rfl,l1,l2⟩:=WT.Fo hu (hx 0 bt a (by rw[he];rfl) rfl)
 obtain ⟨S,rfl,s1,s2⟩:=WT.Fo hu (hx 1 bt b (by rw[he];rfl) rfl)
 obtain ⟨fs,rfl,f1,f2⟩:=WT.Hg hv (hx 2 MG c (by rw[he];rfl) rfl)
 obtain ⟨ns,rfl,n1,n2⟩:=WT.Hg hw (hx 3 MH d (by rw[he];rfl) rfl)
 obtain ⟨F,rfl⟩:=Uu (f:=V.bool) fun y hy=>WT.kG hb (gx.one (by kernel_rfl) (f2 y hy))
 obtain ⟨N,rfl,hN⟩:=Hh (f:=mj) fun y hy=>am6 (n2 y hy)
 exact ⟨⟨L,S,F,N⟩,rfl,l1,l2,s1,s2,by simpa using f1,by simpa using n1,hN⟩
def mr (l:List (List UInt8)):V:= .list jM (l.map V.str)
theorem abu {t:TypeId} {x:V} (hu:Tryd.prog.underlying t=some (.slice jM)) (hn:bW Tryd.prog t=false) (h:gx Tryd.prog t x): ∃l:List (List UInt8),x=mr l∧l.length≤maxLen∧∀w∈l,w.length≤maxLen:=by
 have hs:Tryd.prog.underlying jM=some .string:=by kernel_rfl
 obtain ⟨es,rfl,e1,e2⟩:=WT.Hg hu (gx.one hn h)
 obtain ⟨l,rfl,hl⟩:=Hh (f:=V.str) (p:=fun w=>w.length≤maxLen) fun y hy=>gx.str hs (e2 y hy)
 exact ⟨l,rfl,by simpa using e1,hl⟩
noncomputable abbrev aa3:Code:=cJ Tryd.prog (au.bc 20)
noncomputable def E5 (C:ae) (aY:Int) (empty:Bool) (t25:List V) (t26 t27:Int) {β:Type} (kn:Int→Option β) (kr:((Bool) ⊕ (Int × Bool))→Option β):Option β:=
 bif decide ((t27:Int)<t26) then
  (idx t25 t27).bind fun x3=>
  (C Ho [.str x3.toStr,.int .i64 aY]).bind fun r4=>
  bif !((V.nth r4 0).toBool) then
  kr (.inl false)
  else
  bif !empty then
   bif x3.toStr==[] then
   kr (.inl false)
   else
   kn (IntKind.wrap .i64 (t27+1))
  else
   kn (IntKind.wrap .i64 (t27+1))
 else
  kr (.inr (t27,decide ((t27:Int)<t26)))
noncomputable def QM (C:ae) (aY:Int) (empty:Bool) (t25:List V) (t26:Int):(Int)→Option ((Int) ⊕ ((Bool) ⊕ (Int × Bool))):=fun t27=>E5 C aY empty t25 t26 t27 (fun y=>some (.inl y)) (fun r=>some (.inr r))
noncomputable def aa4 (C:ae):cD:=fun β n ds k=>
 bif Nat.beq n 65 then bz M3 [false,false,false,false,true] [[0],[1,2,3,4,0,0]] (@E5 C) ds k else
 none
abbrev am7 (C:ae) (b:cB):Prop:=cC Tryd.prog au C (aa4 C) 20 (cQ Tryd.prog (au.bc 20)) (au.sin 20).bj.length b
theorem am8 (C:ae):am7 C (.loop (ao [1,1,0,1,0,0] aa3)):=
 bC M3 [false,false,false,false,true] [[0],[1,2,3,4,0,0]] (@E5 C) (by kernel_rfl) (aW (bs:=[]) (by kernel_rfl) ar) (fun ds=>by kernel_rfl) (fun i x=>by kernel_rfl) (fun i x β k=>by kernel_rfl) (fun β ds k=>by kernel_rfl)
noncomputable def aa5 (C:ae) (bU:List V) (many aY:Int) (empty:Bool):Option (List V):=
 (C uy [.int .i64 aY]).bind fun r1=>
 bif !((V.nth r1 0).toBool) then
  some [.bool false]
 else
  bif ((bU.length:Int):Int) != many then
  some [.bool false]
  else
  (C uy [.int .i64 many]).bind fun r2=>
  bif !((V.nth r2 0).toBool) then
   some [.bool false]
  else
   (Loop (QM C aY empty bU (bU.length:Int)) 0).bind (cL (fun (lD:Bool)=>
    some [.bool lD]) (un fun (mN:Int) (mh:Bool)=>
    some [.bool true]))
theorem am9 {bU:List V} {many aY:Int} {empty:Bool} {r:Option (List V)} (h:aa5 CC bU many aY empty=r):CC B4 [.list jM bU,.int .i64 many,.int .i64 aY,.bool empty]=r:=
 bD (key:=20) (L:=aa4 CC) (bs:=[.loop (ao [1,1,0,1,0,0] aa3)]) (by kernel_rfl) (bm (am8 CC) ar) (bB (by kernel_rfl) h)
end Go.AM
set_option maxRecDepth 100000
namespace Go.AM
open Go.Proofs
namespace Da
def pre (a:Da) (k:Nat) (g:Nat→List Nat):Da:=⟨k,a.st,a.F,tab a.n fun q=>tab k fun x=>a.run q (g x)⟩
theorem Ok.pre {a:Da} (h:a.Ok) {k:Nat} {g:Nat→List Nat} (h1:1≤k) (h6:k≤6) (hg: ∀x,x<k→WL a.L (g x)):(a.pre k g).Ok:=⟨h1,h6,by simp[Da.pre,n],fun r hr=>by
 obtain ⟨q,hq,rfl⟩:=uG.1 hr
 refine ⟨by simp[Da.pre],fun s hs=> ?_⟩
 obtain ⟨x,hx,rfl⟩:=uG.1 hs
 exact h.Is _ hq (hg x hx),h.s,h.fO⟩
end Da
section
variable {a:Da} (h:a.Ok) {w:List UInt8}
include h
end
section
variable {d:Df} (h:d.Ok) (hv:d.val≠0)
include h hv
end
theorem u3 {l:List (List UInt8)} {i:Nat} (h:i<l.length):idx (l.map V.str) (i:Int)=some (.str (l.getD i [])):=C4 h
def aa6 (l:List (List UInt8)) (L:Int):Prop:= ∀i,i<l.length→eG (l.getD i []) L
instance (l:List (List UInt8)) (L:Int):Decidable (aa6 l L):=by unfold aa6;infer_instance
def fi (l:List (List UInt8)) (x:Nat):List Nat:=lets (l.getD x [])
section
variable {a:Da} (h:a.Ok) {l:List (List UInt8)}
include h
end
end Go.AM
set_option maxRecDepth 100000
namespace Go.AM
open Go.Proofs
theorem wrM {a b:Nat} (h:a*b≤1000000000):IntKind.wrap .i64 ((a:Int)*(b:Int))=((a*b:Nat):Int):=by
 rw[←Int.natCast_mul,wrap64 (by omega) (by omega)]
section
variable {m k:Da} (hm:m.Ok)
include hm
variable (hk:k.Ok)
include hk
variable (hL:m.L=k.L)
include hL
end
section
variable {a b m k:Da} (hm:m.Ok) (hk:k.Ok) (xo:m.L=a.L) (hLk:k.L=a.L)
include hm hk xo hLk
end
section
variable {a b:Da} (ha:a.Ok) (hb:b.Ok) (hL:a.L=b.L)
include ha hb hL
end
end Go.AM
