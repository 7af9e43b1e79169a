/-
  Functions of the program, lifted to plain data.
-/
import Derived.Test.YtppefogdkedaiaaP5
set_option linter.unusedVariables false
set_option linter.unusedSimpArgs false
set_option maxRecDepth 100000
namespace Go.AM
open Go.Proofs
noncomputable abbrev Sf:Code:=cK Try.prog (az.aZ 68)
noncomputable def AD (C:ag) (t21:List V) (t22 oq:Int) (ot:Bool) (eG ec:Int) (dv:List V) (kE kF qz qA:Int) (qB:Bool) (fC jX:List V) (AE t23:Int) (lr ff:List V) {β:Type} (kn:(Int × Int × (List V) × (List V))→Option β) (kr:(Int × Int × Bool × (List V) × (List V))→Option β):Option β:=
 bif decide ((t23:Int)<t22) then
  (idx t21 t23).bind fun x1=>
  (C nW [.int .i64 oq,.bool ot,.int .i64 ((x1.cell 0).toInt),.int .i64 ((x1.cell 1).toInt),.list aa ((x1.cell 2).toList)]).bind fun r2=>
  bif (decide (0≤t23))&&(decide (t23<(lr.length:Int))) then
  (lr[(t23:Int).toNat]?).bind fun x3=>
  bif (decide (0≤t23))&&(decide (t23<(ff.length:Int))) then
   (ff[(t23:Int).toNat]?).bind fun x4=>
   bif (V.nth ((((((r2.drop 1).drop 1).drop 1).drop 1).drop 1).drop 1) 0).toBool then
   kn (IntKind.wrap .i64 (AE+1),IntKind.wrap .i64 (t23+1),lr.set ((t23:Int).toNat) (.agg [.int .i64 ((V.nth r2 0).toInt),.int .i64 ((V.nth (r2.drop 1) 0).toInt),.list aa ((V.nth ((r2.drop 1).drop 1) 0).toList)]),ff.set ((t23:Int).toNat) (.agg [.int .i64 ((V.nth (((r2.drop 1).drop 1).drop 1) 0).toInt),.int .i64 ((V.nth ((((r2.drop 1).drop 1).drop 1).drop 1) 0).toInt),.list aa ((V.nth (((((r2.drop 1).drop 1).drop 1).drop 1).drop 1) 0).toList)]))
   else
   kn (AE,IntKind.wrap .i64 (t23+1),lr.set ((t23:Int).toNat) (.agg [.int .i64 ((V.nth r2 0).toInt),.int .i64 ((V.nth (r2.drop 1) 0).toInt),.list aa ((V.nth ((r2.drop 1).drop 1) 0).toList)]),ff.set ((t23:Int).toNat) (.agg [.int .i64 ((V.nth (((r2.drop 1).drop 1).drop 1) 0).toInt),.int .i64 ((V.nth ((((r2.drop 1).drop 1).drop 1).drop 1) 0).toInt),.list aa ((V.nth (((((r2.drop 1).drop 1).drop 1).drop 1).drop 1) 0).toList)]))
  else none
  else none
 else
  kr (AE,t23,decide ((t23:Int)<t22),lr,ff)
noncomputable def EN (C:ag) (t21:List V) (t22 oq:Int) (ot:Bool) (eG ec:Int) (dv:List V) (kE kF qz qA:Int) (qB:Bool) (fC jX:List V):(Int × Int × (List V) × (List V))→Option ((Int × Int × (List V) × (List V)) ⊕ (Int × Int × Bool × (List V) × (List V))):=un fun AE=>un fun t23=>un fun lr ff=>AD C t21 t22 oq ot eG ec dv kE kF qz qA qB fC jX AE t23 lr ff (fun y=>some (.inl y)) (fun r=>some (.inr r))
noncomputable def Sg (C:ag):cz:=fun β n ds k=>
 bif Nat.beq n 65 then cl H3 [true,false,false,true,false,false,false,false,false,false,false,false,false,false,true,true,false,false] [[0,2,3,0,0,5,6,7,8,9,10,11,12,13,14,0,0,17,18]] (@AD C) ds k else
 none
abbrev aeb (C:ag) (b:cw):Prop:=cx Try.prog az C (Sg C) 68 (cN Try.prog (az.aZ 68)) (az.sin 68).a9.length b
theorem aec (C:ag):aeb C (.loop (ax [1,1,1,0,1,0,0] Sf)):=
 cy H3 [true,false,false,true,false,false,false,false,false,false,false,false,false,false,true,true,false,false] [[0,2,3,0,0,5,6,7,8,9,10,11,12,13,14,0,0,17,18]] (@AD C) (by kernel_rfl) (bh (bs:=[]) (by kernel_rfl) aw) (fun ds=>by kernel_rfl) (fun i x=>by kernel_rfl) (fun i x β k=>by kernel_rfl) (fun β ds k=>by kernel_rfl)
noncomputable def Sh (C:ag) (dL:Int) (dM:Bool) (ah ar:Int) (ae:List V):Option (List V):=
 bif (decide (0≤(ae.length:Int)))&&((decide ((ae.length:Int)≤(ae.length:Int)))&&(Nat.ble ((((ae.length:Int):Int).toNat)*40) cC)) then
  bif (decide (0≤(ae.length:Int)))&&((decide ((ae.length:Int)≤(ae.length:Int)))&&(Nat.ble ((((ae.length:Int):Int).toNat)*40) cC)) then
  (Loop (EN C ae (ae.length:Int) dL dM ah ar ae 0 0 0 0 false ([]:List V) ([]:List V)) (0,0,List.replicate (((ae.length:Int):Int).toNat) (V.agg [.int .i64 0,.int .i64 0,.list aa ([]:List V)]),List.replicate (((ae.length:Int):Int).toNat) (V.agg [.int .i64 0,.int .i64 0,.list aa ([]:List V)]))).bind (un fun (JZ:Int)=>un fun (lj:Int)=>un fun (o6:Bool)=>un fun (aed:List V) (aee:List V)=>
   (C jQ [.int .i64 ah,.list aa aed]).bind fun dW=>
   (C jQ [.int .i64 ah,.list aa aee]).bind fun eM=>
   bif (ah:Int)==4 then
    some [.int .i64 ((V.nth dW 0).toInt),.int .i64 ((V.nth (dW.drop 1) 0).toInt),.list aa ((V.nth ((dW.drop 1).drop 1) 0).toList),.int .i64 ((V.nth eM 0).toInt),.int .i64 ((V.nth (eM.drop 1) 0).toInt),.list aa ((V.nth ((eM.drop 1).drop 1) 0).toList),.bool (decide ((JZ:Int)>0))]
   else
    bif (ah:Int)==6 then
    some [.int .i64 ((V.nth dW 0).toInt),.int .i64 ((V.nth (dW.drop 1) 0).toInt),.list aa ((V.nth ((dW.drop 1).drop 1) 0).toList),.int .i64 ((V.nth eM 0).toInt),.int .i64 ((V.nth (eM.drop 1) 0).toInt),.list aa ((V.nth ((eM.drop 1).drop 1) 0).toList),.bool ((JZ:Int)==(ae.length:Int))]
    else
    bif (ah:Int)==8 then
     some [.int .i64 ((V.nth dW 0).toInt),.int .i64 ((V.nth (dW.drop 1) 0).toInt),.list aa ((V.nth ((dW.drop 1).drop 1) 0).toList),.int .i64 ((V.nth eM 0).toInt),.int .i64 ((V.nth (eM.drop 1) 0).toInt),.list aa ((V.nth ((eM.drop 1).drop 1) 0).toList),.bool ((JZ:Int)==0)]
    else
     some [.int .i64 ((V.nth dW 0).toInt),.int .i64 ((V.nth (dW.drop 1) 0).toInt),.list aa ((V.nth ((dW.drop 1).drop 1) 0).toList),.int .i64 ((V.nth eM 0).toInt),.int .i64 ((V.nth (eM.drop 1) 0).toInt),.list aa ((V.nth ((eM.drop 1).drop 1) 0).toList),.bool false])
  else none
 else none
theorem aef {dL:Int} {dM:Bool} {ah ar:Int} {ae:List V} {r:Option (List V)} (h:Sh CC dL dM ah ar ae=r):CC vR [.int .i64 dL,.bool dM,.int .i64 ah,.int .i64 ar,.list aa ae]=r:=
 ba (key:=68) (L:=Sg CC) (bs:=[.loop (ax [1,1,1,0,1,0,0] Sf)]) (by kernel_rfl) (bH (aec CC) aw) (aX (by kernel_rfl) h)
noncomputable abbrev EO:Code:=cK Try.prog (az.aZ 70)
noncomputable def xb (C:ag) (t20:List V) (t21 oq:Int) (ot:Bool) (kE kF qz qA:Int) (qB:Bool) (pf fC:List V) (rX:Bool) (t22:Int) (lr ff:List V) {β:Type} (kn:(Bool × Int × (List V) × (List V))→Option β) (kr:(Bool × Int × Bool × (List V) × (List V))→Option β):Option β:=
 bif decide ((t22:Int)<t21) then
  (idx t20 t22).bind fun x1=>
  bif !rX then
  (C zb [.int .i64 oq,.bool ot,.int .i64 ((x1.cell 0).toInt),.int .i64 ((x1.cell 1).toInt),.list aa ((x1.cell 2).toList)]).bind fun r2=>
  bif (decide (0≤t22))&&(decide (t22<(ff.length:Int))) then
   (ff[(t22:Int).toNat]?).bind fun x3=>
   kn (rX,IntKind.wrap .i64 (t22+1),lr,ff.set ((t22:Int).toNat) (.agg [.int .i64 ((V.nth r2 0).toInt),.int .i64 ((V.nth (r2.drop 1) 0).toInt),.list aa ((V.nth ((r2.drop 1).drop 1) 0).toList)]))
  else none
  else
  (C nW [.int .i64 oq,.bool ot,.int .i64 ((x1.cell 0).toInt),.int .i64 ((x1.cell 1).toInt),.list aa ((x1.cell 2).toList)]).bind fun r4=>
  bif Nat.ble ((lr.length+([.agg [.int .i64 ((V.nth r4 0).toInt),.int .i64 ((V.nth (r4.drop 1) 0).toInt),.list aa ((V.nth ((r4.drop 1).drop 1) 0).toList)]]:List V).length)*40) cC then
   bif (decide (0≤t22))&&(decide (t22<(ff.length:Int))) then
   (ff[(t22:Int).toNat]?).bind fun x5=>
   kn ((V.nth ((((((r4.drop 1).drop 1).drop 1).drop 1).drop 1).drop 1) 0).toBool,IntKind.wrap .i64 (t22+1),lr++([.agg [.int .i64 ((V.nth r4 0).toInt),.int .i64 ((V.nth (r4.drop 1) 0).toInt),.list aa ((V.nth ((r4.drop 1).drop 1) 0).toList)]]:List V),ff.set ((t22:Int).toNat) (.agg [.int .i64 ((V.nth (((r4.drop 1).drop 1).drop 1) 0).toInt),.int .i64 ((V.nth ((((r4.drop 1).drop 1).drop 1).drop 1) 0).toInt),.list aa ((V.nth (((((r4.drop 1).drop 1).drop 1).drop 1).drop 1) 0).toList)]))
   else none
  else none
 else
  kr (rX,t22,decide ((t22:Int)<t21),lr,ff)
noncomputable def AF (C:ag) (t20:List V) (t21 oq:Int) (ot:Bool) (kE kF qz qA:Int) (qB:Bool) (pf fC:List V):(Bool × Int × (List V) × (List V))→Option ((Bool × Int × (List V) × (List V)) ⊕ (Bool × Int × Bool × (List V) × (List V))):=un fun rX=>un fun t22=>un fun lr ff=>xb C t20 t21 oq ot kE kF qz qA qB pf fC rX t22 lr ff (fun y=>some (.inl y)) (fun r=>some (.inr r))
noncomputable def AG (C:ag) (rX:Bool) (t55 kE kF qz qA:Int) (qB:Bool) (ff EP pf fC:List V) (t56:Int) (gb:List V) {β:Type} (kn:(Int × (List V))→Option β) (kr:(Int × Bool × (List V))→Option β):Option β:=
 bif decide ((t56:Int)<t55) then
  bif (decide (0≤t56))&&(decide (t56<(EP.length:Int))) then
  (EP[(t56:Int).toNat]?).bind fun eJ=>
  bif (((eJ.cell 0).toInt):Int)==1 then
   bif (decide (0≤t56))&&(decide (t56<(gb.length:Int))) then
   (gb[(t56:Int).toNat]?).bind fun D8=>
   kn (IntKind.wrap .i64 (t56+1),gb.set ((t56:Int).toNat) (.agg [.int .i64 ((eJ.cell 0).toInt),.int .i64 ((eJ.cell 1).toInt),.list aa ((eJ.cell 2).toList)]))
   else none
  else
   bif (decide (0≤(IntKind.wrap .i64 (t56+1))))&&(decide ((IntKind.wrap .i64 (t56+1))≤(ff.length:Int))) then
   bif Nat.ble ((([.agg [.int .i64 ((eJ.cell 0).toInt),.int .i64 ((eJ.cell 1).toInt),.list aa ((eJ.cell 2).toList)]]:List V).length+((ff.drop ((IntKind.wrap .i64 (t56+1):Int).toNat)).take (ff.length-((IntKind.wrap .i64 (t56+1):Int).toNat))).length)*40) cC then
    (C jQ [.int .i64 5,.list aa (([.agg [.int .i64 ((eJ.cell 0).toInt),.int .i64 ((eJ.cell 1).toInt),.list aa ((eJ.cell 2).toList)]]:List V)++((ff.drop ((IntKind.wrap .i64 (t56+1):Int).toNat)).take (ff.length-((IntKind.wrap .i64 (t56+1):Int).toNat))))]).bind fun gd=>
    bif (decide (0≤t56))&&(decide (t56<(gb.length:Int))) then
    (gb[(t56:Int).toNat]?).bind fun m8=>
    kn (IntKind.wrap .i64 (t56+1),gb.set ((t56:Int).toNat) (.agg [.int .i64 ((V.nth gd 0).toInt),.int .i64 ((V.nth (gd.drop 1) 0).toInt),.list aa ((V.nth ((gd.drop 1).drop 1) 0).toList)]))
    else none
   else none
   else none
  else none
 else
  kr (t56,decide ((t56:Int)<t55),gb)
noncomputable def ER (C:ag) (rX:Bool) (t55 kE kF qz qA:Int) (qB:Bool) (ff EP pf fC:List V):(Int × (List V))→Option ((Int × (List V)) ⊕ (Int × Bool × (List V))):=un fun t56 gb=>AG C rX t55 kE kF qz qA qB ff EP pf fC t56 gb (fun y=>some (.inl y)) (fun r=>some (.inr r))
noncomputable def Si (C:ag):cz:=fun β n ds k=>
 bif Nat.beq n 81 then cl H4 [true,false,false,true,false,false,false,false,false,false,false,true,true,false,false] [[0,2,3,0,0,5,6,7,8,9,10,11,0,0,14,15]] (@xb C) ds k else
 bif Nat.beq n 225 then cl H5 [false,false,true,false,false,false,false,false,false,true,false,false,false] [[1,2,0,0,4,5,6,7,8,9,0,11,12,13]] (@AG C) ds k else
 none
abbrev Sj (C:ag) (b:cw):Prop:=cx Try.prog az C (Si C) 70 (cN Try.prog (az.aZ 70)) (az.sin 70).a9.length b
theorem aeg (C:ag):Sj C (.loop (ax [1,1,1,1,0,1,0,0] EO)):=
 cy H4 [true,false,false,true,false,false,false,false,false,false,false,true,true,false,false] [[0,2,3,0,0,5,6,7,8,9,10,11,0,0,14,15]] (@xb C) (by kernel_rfl) (bh (bs:=[]) (by kernel_rfl) aw) (fun ds=>by kernel_rfl) (fun i x=>by kernel_rfl) (fun i x β k=>by kernel_rfl) (fun β ds k=>by kernel_rfl)
theorem aeh (C:ag):Sj C (.loop (ax [1,1,1,1,1,1,0,1,0,0] EO)):=
 cy H5 [false,false,true,false,false,false,false,false,false,true,false,false,false] [[1,2,0,0,4,5,6,7,8,9,0,11,12,13]] (@AG C) (by kernel_rfl) (bh (bs:=[]) (by kernel_rfl) aw) (fun ds=>by kernel_rfl) (fun i x=>by kernel_rfl) (fun i x β k=>by kernel_rfl) (fun β ds k=>by kernel_rfl)
noncomputable def Sk (C:ag) (dL:Int) (dM:Bool) (ah ar:Int) (ae:List V):Option (List V):=
 bif (decide (0≤(ae.length:Int)))&&((decide ((ae.length:Int)≤(ae.length:Int)))&&(Nat.ble ((((ae.length:Int):Int).toNat)*40) cC)) then
  (Loop (AF C ae (ae.length:Int) dL dM 0 0 0 0 false ([]:List V) ([]:List V)) (true,0,([]:List V),List.replicate (((ae.length:Int):Int).toNat) (V.agg [.int .i64 0,.int .i64 0,.list aa ([]:List V)]))).bind (un fun (Sl:Bool)=>un fun (o6:Int)=>un fun (O4:Bool)=>un fun (um:List V) (Sm:List V)=>
   bif (decide (0≤(um.length:Int)))&&((decide ((um.length:Int)≤(um.length:Int)))&&(Nat.ble ((((um.length:Int):Int).toNat)*40) cC)) then
   (Loop (ER C Sl (um.length:Int) 0 0 0 0 false Sm um ([]:List V) ([]:List V)) (0,List.replicate (((um.length:Int):Int).toNat) (V.agg [.int .i64 0,.int .i64 0,.list aa ([]:List V)]))).bind (un fun (zB:Int)=>un fun (O6:Bool) (aei:List V)=>
    (C jQ [.int .i64 4,.list aa aei]).bind fun iF=>
    (C jQ [.int .i64 5,.list aa Sm]).bind fun ep=>
    some [.int .i64 ((V.nth iF 0).toInt),.int .i64 ((V.nth (iF.drop 1) 0).toInt),.list aa ((V.nth ((iF.drop 1).drop 1) 0).toList),.int .i64 ((V.nth ep 0).toInt),.int .i64 ((V.nth (ep.drop 1) 0).toInt),.list aa ((V.nth ((ep.drop 1).drop 1) 0).toList),.bool Sl])
   else none)
 else none
theorem aej {dL:Int} {dM:Bool} {ah ar:Int} {ae:List V} {r:Option (List V)} (h:Sk CC dL dM ah ar ae=r):CC vS [.int .i64 dL,.bool dM,.int .i64 ah,.int .i64 ar,.list aa ae]=r:=
 ba (key:=70) (L:=Si CC) (bs:=[.loop (ax [1,1,1,1,0,1,0,0] EO),.loop (ax [1,1,1,1,1,1,0,1,0,0] EO)]) (by kernel_rfl) (bH (aeg CC) (bH (aeh CC) aw)) (aX (by kernel_rfl) h)
noncomputable abbrev ES:Code:=cK Try.prog (az.aZ 50)
noncomputable def ET (C:ag) (t24:Bool) (eG ec:Int) (dv:List V) (kE kF qz qA:Int) (qB:Bool) (aek J0 ael aem:Int) (pf fC jX EU:List V) {β:Type} (kr:(Int × Int × (List V))→Option β):Option β:=
 bif t24 then
  kr (ael,aem,EU)
 else
  kr (aek,J0,jX)
noncomputable def Sn (C:ag):cz:=fun β n ds k=>
 bif Nat.beq n 399 then iB HX [[2,3,4,5,6,7,8,9,0,0,14,15,0]] (@ET C) ds k else
 none
abbrev aen (C:ag) (b:cw):Prop:=cx Try.prog az C (Sn C) 50 (cN Try.prog (az.aZ 50)) (az.sin 50).a9.length b
theorem aeo (C:ag):aen C (.cond 24 (ax [1,1,0,1,0,1,1,1,0,0,1,0] ES) (ax [1,1,0,1,0,1,1,1,0,0,1,1] ES)):=
 iT HX [[2,3,4,5,6,7,8,9,0,0,14,15,0]] (@ET C) (by kernel_rfl) (bh (bs:=[]) (by kernel_rfl) aw) (bh (bs:=[]) (by kernel_rfl) aw) (fun ds=>by kernel_rfl) (fun i β k=>by kernel_rfl) (fun β ds k=>by kernel_rfl)
noncomputable def So (C:ag) (dL:Int) (dM:Bool) (ah ar:Int) (ae:List V):Option (List V):=
 bif (ah:Int)==2 then
  some [.int .i64 1,.int .i64 0,.list aa ([]:List V),.int .i64 2,.int .i64 0,.list aa ([]:List V),.bool true]
 else
  bif (ah:Int)==3 then
  ET C ((ar:Int)==dL) ah ar ae 0 0 0 0 false 1 0 2 0 ([]:List V) ([]:List V) ([]:List V) ([]:List V) (un fun (J0:Int)=>un fun (aep:Int) (EV:List V)=>
   some [.int .i64 J0,.int .i64 aep,.list aa EV,.int .i64 3,.int .i64 ar,.list aa ([]:List V),.bool false])
  else
  bif (ah:Int)==4 then
   bif (ah:Int)==4 then
   (C vR [.int .i64 dL,.bool dM,.int .i64 ah,.int .i64 ar,.list aa ae]).bind fun r4=>
   some [.int .i64 ((V.nth r4 0).toInt),.int .i64 ((V.nth (r4.drop 1) 0).toInt),.list aa ((V.nth ((r4.drop 1).drop 1) 0).toList),.int .i64 ((V.nth (((r4.drop 1).drop 1).drop 1) 0).toInt),.int .i64 ((V.nth ((((r4.drop 1).drop 1).drop 1).drop 1) 0).toInt),.list aa ((V.nth (((((r4.drop 1).drop 1).drop 1).drop 1).drop 1) 0).toList),.bool ((V.nth ((((((r4.drop 1).drop 1).drop 1).drop 1).drop 1).drop 1) 0).toBool)]
   else
   bif (ah:Int)==7 then
    (ae[0]?).bind fun x5=>
    (C nW [.int .i64 dL,.bool dM,.int .i64 ((x5.cell 0).toInt),.int .i64 ((x5.cell 1).toInt),.list aa ((x5.cell 2).toList)]).bind fun r6=>
    (C jQ [.int .i64 7,.list aa ([.agg [.int .i64 ((V.nth (((r6.drop 1).drop 1).drop 1) 0).toInt),.int .i64 ((V.nth ((((r6.drop 1).drop 1).drop 1).drop 1) 0).toInt),.list aa ((V.nth (((((r6.drop 1).drop 1).drop 1).drop 1).drop 1) 0).toList)]]:List V)]).bind fun r7=>
    (C jQ [.int .i64 5,.list aa ([.agg [.int .i64 ((V.nth r6 0).toInt),.int .i64 ((V.nth (r6.drop 1) 0).toInt),.list aa ((V.nth ((r6.drop 1).drop 1) 0).toList)],.agg [.int .i64 ((V.nth r7 0).toInt),.int .i64 ((V.nth (r7.drop 1) 0).toInt),.list aa ((V.nth ((r7.drop 1).drop 1) 0).toList)]]:List V)]).bind fun r8=>
    some [.int .i64 ((V.nth r8 0).toInt),.int .i64 ((V.nth (r8.drop 1) 0).toInt),.list aa ((V.nth ((r8.drop 1).drop 1) 0).toList),.int .i64 ((V.nth r7 0).toInt),.int .i64 ((V.nth (r7.drop 1) 0).toInt),.list aa ((V.nth ((r7.drop 1).drop 1) 0).toList),.bool true]
   else
    bif (ah:Int)==5 then
    (C vS [.int .i64 dL,.bool dM,.int .i64 ah,.int .i64 ar,.list aa ae]).bind fun r9=>
    some [.int .i64 ((V.nth r9 0).toInt),.int .i64 ((V.nth (r9.drop 1) 0).toInt),.list aa ((V.nth ((r9.drop 1).drop 1) 0).toList),.int .i64 ((V.nth (((r9.drop 1).drop 1).drop 1) 0).toInt),.int .i64 ((V.nth ((((r9.drop 1).drop 1).drop 1).drop 1) 0).toInt),.list aa ((V.nth (((((r9.drop 1).drop 1).drop 1).drop 1).drop 1) 0).toList),.bool ((V.nth ((((((r9.drop 1).drop 1).drop 1).drop 1).drop 1).drop 1) 0).toBool)]
    else
    some [.int .i64 1,.int .i64 0,.list aa ([]:List V),.int .i64 1,.int .i64 0,.list aa ([]:List V),.bool false]
  else
   bif (ah:Int)==6 then
   bif (ah:Int)==6 then
    (C vR [.int .i64 dL,.bool dM,.int .i64 ah,.int .i64 ar,.list aa ae]).bind fun dW=>
    some [.int .i64 ((V.nth dW 0).toInt),.int .i64 ((V.nth (dW.drop 1) 0).toInt),.list aa ((V.nth ((dW.drop 1).drop 1) 0).toList),.int .i64 ((V.nth (((dW.drop 1).drop 1).drop 1) 0).toInt),.int .i64 ((V.nth ((((dW.drop 1).drop 1).drop 1).drop 1) 0).toInt),.list aa ((V.nth (((((dW.drop 1).drop 1).drop 1).drop 1).drop 1) 0).toList),.bool ((V.nth ((((((dW.drop 1).drop 1).drop 1).drop 1).drop 1).drop 1) 0).toBool)]
   else
    bif (ah:Int)==7 then
    (ae[0]?).bind fun eJ=>
    (C nW [.int .i64 dL,.bool dM,.int .i64 ((eJ.cell 0).toInt),.int .i64 ((eJ.cell 1).toInt),.list aa ((eJ.cell 2).toList)]).bind fun fA=>
    (C jQ [.int .i64 7,.list aa ([.agg [.int .i64 ((V.nth (((fA.drop 1).drop 1).drop 1) 0).toInt),.int .i64 ((V.nth ((((fA.drop 1).drop 1).drop 1).drop 1) 0).toInt),.list aa ((V.nth (((((fA.drop 1).drop 1).drop 1).drop 1).drop 1) 0).toList)]]:List V)]).bind fun gd=>
    (C jQ [.int .i64 5,.list aa ([.agg [.int .i64 ((V.nth fA 0).toInt),.int .i64 ((V.nth (fA.drop 1) 0).toInt),.list aa ((V.nth ((fA.drop 1).drop 1) 0).toList)],.agg [.int .i64 ((V.nth gd 0).toInt),.int .i64 ((V.nth (gd.drop 1) 0).toInt),.list aa ((V.nth ((gd.drop 1).drop 1) 0).toList)]]:List V)]).bind fun kB=>
    some [.int .i64 ((V.nth kB 0).toInt),.int .i64 ((V.nth (kB.drop 1) 0).toInt),.list aa ((V.nth ((kB.drop 1).drop 1) 0).toList),.int .i64 ((V.nth gd 0).toInt),.int .i64 ((V.nth (gd.drop 1) 0).toInt),.list aa ((V.nth ((gd.drop 1).drop 1) 0).toList),.bool true]
    else
    bif (ah:Int)==5 then
     (C vS [.int .i64 dL,.bool dM,.int .i64 ah,.int .i64 ar,.list aa ae]).bind fun ln=>
     some [.int .i64 ((V.nth ln 0).toInt),.int .i64 ((V.nth (ln.drop 1) 0).toInt),.list aa ((V.nth ((ln.drop 1).drop 1) 0).toList),.int .i64 ((V.nth (((ln.drop 1).drop 1).drop 1) 0).toInt),.int .i64 ((V.nth ((((ln.drop 1).drop 1).drop 1).drop 1) 0).toInt),.list aa ((V.nth (((((ln.drop 1).drop 1).drop 1).drop 1).drop 1) 0).toList),.bool ((V.nth ((((((ln.drop 1).drop 1).drop 1).drop 1).drop 1).drop 1) 0).toBool)]
    else
     some [.int .i64 1,.int .i64 0,.list aa ([]:List V),.int .i64 1,.int .i64 0,.list aa ([]:List V),.bool false]
   else
   bif (ah:Int)==8 then
    (C vR [.int .i64 dL,.bool dM,.int .i64 ah,.int .i64 ar,.list aa ae]).bind fun kD=>
    some [.int .i64 ((V.nth kD 0).toInt),.int .i64 ((V.nth (kD.drop 1) 0).toInt),.list aa ((V.nth ((kD.drop 1).drop 1) 0).toList),.int .i64 ((V.nth (((kD.drop 1).drop 1).drop 1) 0).toInt),.int .i64 ((V.nth ((((kD.drop 1).drop 1).drop 1).drop 1) 0).toInt),.list aa ((V.nth (((((kD.drop 1).drop 1).drop 1).drop 1).drop 1) 0).toList),.bool ((V.nth ((((((kD.drop 1).drop 1).drop 1).drop 1).drop 1).drop 1) 0).toBool)]
   else
    bif (ah:Int)==7 then
    (ae[0]?).bind fun qs=>
    (C nW [.int .i64 dL,.bool dM,.int .i64 ((qs.cell 0).toInt),.int .i64 ((qs.cell 1).toInt),.list aa ((qs.cell 2).toList)]).bind fun iF=>
    (C jQ [.int .i64 7,.list aa ([.agg [.int .i64 ((V.nth (((iF.drop 1).drop 1).drop 1) 0).toInt),.int .i64 ((V.nth ((((iF.drop 1).drop 1).drop 1).drop 1) 0).toInt),.list aa ((V.nth (((((iF.drop 1).drop 1).drop 1).drop 1).drop 1) 0).toList)]]:List V)]).bind fun ep=>
    (C jQ [.int .i64 5,.list aa ([.agg [.int .i64 ((V.nth iF 0).toInt),.int .i64 ((V.nth (iF.drop 1) 0).toInt),.list aa ((V.nth ((iF.drop 1).drop 1) 0).toList)],.agg [.int .i64 ((V.nth ep 0).toInt),.int .i64 ((V.nth (ep.drop 1) 0).toInt),.list aa ((V.nth ((ep.drop 1).drop 1) 0).toList)]]:List V)]).bind fun ja=>
    some [.int .i64 ((V.nth ja 0).toInt),.int .i64 ((V.nth (ja.drop 1) 0).toInt),.list aa ((V.nth ((ja.drop 1).drop 1) 0).toList),.int .i64 ((V.nth ep 0).toInt),.int .i64 ((V.nth (ep.drop 1) 0).toInt),.list aa ((V.nth ((ep.drop 1).drop 1) 0).toList),.bool true]
    else
    bif (ah:Int)==5 then
     (C vS [.int .i64 dL,.bool dM,.int .i64 ah,.int .i64 ar,.list aa ae]).bind fun oj=>
     some [.int .i64 ((V.nth oj 0).toInt),.int .i64 ((V.nth (oj.drop 1) 0).toInt),.list aa ((V.nth ((oj.drop 1).drop 1) 0).toList),.int .i64 ((V.nth (((oj.drop 1).drop 1).drop 1) 0).toInt),.int .i64 ((V.nth ((((oj.drop 1).drop 1).drop 1).drop 1) 0).toInt),.list aa ((V.nth (((((oj.drop 1).drop 1).drop 1).drop 1).drop 1) 0).toList),.bool ((V.nth ((((((oj.drop 1).drop 1).drop 1).drop 1).drop 1).drop 1) 0).toBool)]
    else
     some [.int .i64 1,.int .i64 0,.list aa ([]:List V),.int .i64 1,.int .i64 0,.list aa ([]:List V),.bool false]
theorem aeq {dL:Int} {dM:Bool} {ah ar:Int} {ae:List V} {r:Option (List V)} (h:So CC dL dM ah ar ae=r):CC nW [.int .i64 dL,.bool dM,.int .i64 ah,.int .i64 ar,.list aa ae]=r:=
 ba (key:=50) (L:=Sn CC) (bs:=[.cond 24 (ax [1,1,0,1,0,1,1,1,0,0,1,0] ES) (ax [1,1,0,1,0,1,1,1,0,0,1,1] ES)]) (by kernel_rfl) (bH (aeo CC) aw) (aX (by kernel_rfl) h)
end Go.AM
set_option maxRecDepth 100000
namespace Go.AM
open Go.Proofs Ex
def qC (c:Int) (e:Ex):List V:=bK (aM (bY c e)) (bK (aM e) [.bool e.cZ])
abbrev zE:V:= .agg [.int .i64 0,.int .i64 0,.list aa ([]:List V)]
theorem rY {α:Type} {A:List V} {n:Nat} {z:V} {i:Nat} (h:i=A.length) {K:V→Option α}:(bif (decide (0≤(i:Int)))&&(decide ((i:Int)<((A++List.replicate (n+1) z).length:Int))) then ((A++List.replicate (n+1) z)[((i:Int)).toNat]?).bind K else none)=K z:=by
 refine rV ?_
 rw[h,gN (b7 _)]
 simp
theorem rZ {A:List V} {n:Nat} {z v:V} {i:Nat} (h:i=A.length):(A++List.replicate (n+1) z).set i v=A++[v]++List.replicate n z:=by
 rw[List.replicate_succ,R3 _ _ _ _ h]
theorem aer (a:Ex):V.agg [.int .i64 a.op,.int .i64 a.cp,.list aa (a.kids.map enc)]=a.enc:=(eu a).symm
theorem J1 {c:Int} {e:Ex} (hw:e.wf 6=true):(aM (bY c e)).size≤e.size*e.size:=
 lz (zR _ (uk e hw)) (Sd e 6 hw)
theorem EW {a m:Nat} (h:a≤m):a*a≤m*m:=Nat.mul_le_mul h h
theorem Sp {e:Ex} (hw:e.wf 6=true) (hs:e.size≤1000000):Gd 6 (aM e)∧(aM e).Ok∧(aM e).size≤e.size:=by
 have h1:=ma e hw
 have U:=zR e hw
 exact ⟨h1,rL (by omega) _ h1.2 (by omega),U⟩
def mi (c:Int):List Ex→List Ex
 | []=>[]
 | k::ks=>aM (bY c k)::(if k.cZ=true then mi c ks else [])
def AH (ss:List Ex):Nat→List Ex→List Ex
 | _,[]=>[]
 | i,d::ds=>(if d.op=1 then d else dx 5 0 (d::ss.drop (i+1)))::AH ss (i+1) ds
theorem Sq {c:Int}: ∀(ks pre:List Ex),AH ((pre++ks).map aM) pre.length (mi c ks)=rW c ks
 | [],pre=>rfl
 | k::ks,pre=>by
  have ih:=Sq (c:=c) ks (pre++[k])
  have e1:((pre++k::ks).map aM).drop (pre.length+1)=ks.map aM:=by
   rw[fQ,cH,show pre.length+1=(pre.map aM++[aM k]).length by simp,show pre.map aM++aM k::ks.map aM=(pre.map aM++[aM k])++ks.map aM by simp,List.drop_left]
  unfold mi rW AH EM
  rw[e1]
  refine congrArg _ ?_
  split
  ·rw[←ih];simp
  ·rfl
theorem Sr {c:Int}: ∀ks:List Ex,(mi c ks).length≤ks.length
 | []=>b7 _
 | k::ks=>by
  have:=Sr (c:=c) ks
  unfold mi
  split<;>simp<;>omega
theorem Ss {c:Int}: ∀{ks:List Ex} {d:Ex},d∈mi c ks→∃k∈ks,d=aM (bY c k)
 | k::ks,d,h=>by
  unfold mi at h
  rcases cY.1 h with rfl|h
  ·exact ⟨k,by simp,rfl⟩
  ·split at h
   ·obtain ⟨x,hx,e⟩:=Ss h
    exact ⟨x,by simp[hx],e⟩
   ·cases h
theorem J2: ∀{ks:List Ex},(∀k∈ks,k.wf 6=true)→aL (ks.map aM)≤aL ks
 | [],_=>by simp[aL]
 | k::ks,h=>by
  have a:=zR k (h k (by simp))
  have b:=J2 (ks:=ks) fun k hk=>h k (by simp[hk])
  simp only[cH,aL];omega
theorem J3 {ks:List Ex} {f:Ex→Ex} (h: ∀k∈ks,Gd 6 (f k)∧(f k).Ok):(∀k∈ks.map f,Gd 6 k)∧∀k∈ks.map f,k.Ok:=
 ⟨fun x hx=>by obtain ⟨k,hk,rfl⟩:=gk.1 hx;exact (h k hk).1,fun x hx=>by obtain ⟨k,hk,rfl⟩:=gk.1 hx;exact (h k hk).2⟩
theorem J4 {n:Nat} (h:n≤1000000):Nat.ble (n*40) cC=true:=by rw[dD,qo];omega
theorem EX {n:Nat} (h:n≤1000000):((decide (0≤(n:Int)))&&((decide ((n:Int)≤(n:Int)))&&(Nat.ble (((n:Int).toNat)*40) cC)))=true:=ad2 (by omega) (by omega)
def kG (ks:List Ex):Nat:=(ks.filter Ex.cZ).length
section
variable {c:Int} {nm:Bool} {ks:List Ex}
variable (hn:ks.length≤1000) (ih: ∀k∈ks,CC nW (.int .i64 c:: .bool nm::bK k [])=some (qC c k))
include hn ih
theorem aes {a b c1 c2 c3 c4:Int} {b1:Bool} {l1 l2 l3:List V}: ∀(aH pre:List Ex),ks=pre++aH→
  Loop (EN CC (ks.map enc) (ks.length:Int) c nm a b l1 c1 c2 c3 c4 b1 l2 l3) (((kG pre:Nat):Int),((pre.length:Nat):Int),(pre.map fun k=>aM (bY c k)).map enc++List.replicate aH.length zE,(pre.map aM).map enc++List.replicate aH.length zE)
   = some (((kG ks:Nat):Int),(ks.length:Int),false,(ks.map fun k=>aM (bY c k)).map enc,(ks.map aM).map enc):=by
 intro aH
 induction aH with
 | nil=>
  intro pre e
  rw[dA] at e
  subst e
  refine bd ?_
  simp only[EN,AD,un]
  rw[aB,ai (by omega),cS (by omega)]
  simp
 | cons k aH eV=>
  intro pre e
  have bL:pre.length<ks.length:=by rw[e];simp
  have bZ:idx (ks.map enc) (pre.length:Int)=some k.enc:=by rw[e];exact iW _ _ _
  refine (bU ?_).trans (eV (pre++[k]) (by simp[e]))
  simp only[EN,AD,un]
  refine bT (uj bL) (bs bZ ?_)
  rw[br,bt,bu]
  refine bs (ih k (by rw[e];simp)) ?_
  refine (rY (by simp)).trans ?_
  refine (rY (by simp)).trans ?_
  rw[Int.toNat_natCast]
  have hc:kG (pre++[k])=kG pre+(if k.cZ=true then 1 else 0):=by
   unfold kG
   rw[mu,ca]
   cases hk:k.cZ<;>simp[hk]
  have kj:kG pre≤pre.length:=si _ _
  have uQ:pre.length=((pre.map fun k=>aM (bY c k)).map enc).length:=by simp
  have jz:pre.length=((pre.map aM).map enc).length:=by simp
  rw[List.length_cons,rZ uQ,rZ jz]
  cases hk:k.cZ with
  | true=>
   refine bT hk ?_
   rw[oo (by omega),oo (by omega),hc,hk]
   simp only[dc,fQ,cH,gm,ca,List.length_cons,List.length_nil]
   rw[eu (aM (bY c k)),eu (aM k)]
   rfl
  | false=>
   refine bF hk ?_
   rw[oo (by omega),hc,hk]
   simp only[ai Bool.false_ne_true,fQ,cH,gm,ca,List.length_cons,List.length_nil]
   rw[eu (aM (bY c k)),eu (aM k)]
   rfl
theorem aet {c1 c2 c3 c4:Int} {b1:Bool} {l1 l2:List V} (hs: ∀k∈ks,CC zb (.int .i64 c:: .bool nm::bK k [])=some (gI (aM k))): ∀(aH pre B:List Ex) (b:Bool),ks=pre++aH→B.length≤pre.length→
  Loop (AF CC (ks.map enc) (ks.length:Int) c nm c1 c2 c3 c4 b1 l1 l2) (b,((pre.length:Nat):Int),B.map enc,(pre.map aM).map enc++List.replicate aH.length zE)
   = some (b&&aH.all Ex.cZ,(ks.length:Int),false,(B++(if b=true then mi c aH else [])).map enc,(ks.map aM).map enc):=by
 intro aH
 induction aH with
 | nil=>
  intro pre B b e hB
  rw[dA] at e
  subst e
  refine bd ?_
  simp only[AF,xb,un]
  rw[aB,ai (by omega),cS (by omega)]
  simp[mi]
 | cons k aH eV=>
  intro pre B b e hB
  have bL:pre.length<ks.length:=by rw[e];simp
  have bZ:idx (ks.map enc) (pre.length:Int)=some k.enc:=by rw[e];exact iW _ _ _
  have jz:pre.length=((pre.map aM).map enc).length:=by simp
  cases b with
  | false=>
   refine (bU ?_).trans (eV (pre++[k]) B false (by simp[e]) (by simp;omega))
   simp only[AF,xb,un]
   refine bT (uj bL) (bs bZ (bT rfl ?_))
   rw[br,bt,bu]
   refine bs (hs k (by rw[e];simp)) ?_
   refine (rY (by simp)).trans ?_
   rw[Int.toNat_natCast,List.length_cons,rZ jz,oo (by omega)]
   simp only[fQ,cH,gm,ca,List.length_cons,List.length_nil]
   rw[eu (aM k)]
   rfl
  | true=>
   refine ((bU ?_).trans (eV (pre++[k]) (B++[aM (bY c k)]) k.cZ (by simp[e]) (by simp;omega))).trans ?_
   ·simp only[AF,xb,un]
    refine bT (uj bL) (bs bZ (bF rfl ?_))
    rw[br,bt,bu]
    refine bs (ih k (by rw[e];simp)) ?_
    refine bT (J4 (by simp;omega)) ?_
    refine (rY (by simp)).trans ?_
    rw[Int.toNat_natCast,List.length_cons,rZ jz,oo (by omega)]
    simp only[fQ,cH,gm,ca,List.length_cons,List.length_nil]
    rw[eu (aM k),eu (aM (bY c k))]
    rfl
   ·simp only[mq,List.all_cons,dc]
    rw[show mi c (k::aH)=aM (bY c k)::(if k.cZ=true then mi c aH else []) from rfl,cd]
    rfl
end
theorem aeu {ss D:List Ex} {b b1:Bool} {c1 c2 c3 c4:Int} {l1 l2:List V} (hD:D.length≤ss.length) (hss:ss.length≤1000) (hd: ∀d∈D,Gd 6 d∧d.Ok∧d.size≤500000) (hsg: ∀k∈ss,Gd 6 k∧k.Ok) (aS:aL ss≤500000): ∀(aH pre P:List Ex),D=pre++aH→P.length=pre.length→
  Loop (ER CC b (D.length:Int) c1 c2 c3 c4 b1 (ss.map enc) (D.map enc) l1 l2) (((pre.length:Nat):Int),P.map enc++List.replicate aH.length zE)
   = some ((D.length:Int),false,(P++AH ss pre.length aH).map enc):=by
 intro aH
 induction aH with
 | nil=>
  intro pre P e hP
  rw[dA] at e
  subst e
  refine bd ?_
  simp only[ER,AG,un]
  rw[aB,ai (by omega),cS (by omega)]
  simp[AH]
 | cons d aH eV=>
  intro pre P e hP
  have bL:pre.length<D.length:=by rw[e];simp
  have hm:d∈D:=by rw[e];simp
  have bZ:(D.map enc)[pre.length]? =some d.enc:=by rw[e];simp
  have jz:pre.length=(P.map enc).length:=by simp[hP]
  refine ((bU ?_).trans (eV (pre++[d]) (P++[if d.op=1 then d else dx 5 0 (d::ss.drop (pre.length+1))]) (by simp[e]) (by simp[hP]))).trans ?_
  ·simp only[ER,AG,un]
   refine bT (uj bL) ?_
   refine (rV bZ).trans ?_
   rw[br,bt,bu,eT]
   by_cases h1:d.op=1
   ·rw[aj h1,aj h1]
    refine (rY jz).trans ?_
    rw[Int.toNat_natCast,List.length_cons,rZ jz,oo (by omega)]
    simp only[fQ,cH,gm,ca,List.length_cons,List.length_nil]
    rw[eu d]
   ·rw[ai h1,ai h1,oo (by omega),Int.toNat_natCast,bn]
    refine bT (uz.2 ⟨eg (by omega),eg (by omega)⟩) ?_
    have ht:((ss.map enc).drop (pre.length+1)).take (ss.length-(pre.length+1))=(ss.drop (pre.length+1)).map enc:=by
     rw[←List.map_drop,List.take_of_length_le (by simp)]
    rw[ht]
    refine bT (J4 (by simp;omega)) ?_
    have hg: ∀k∈d::ss.drop (pre.length+1),Gd 6 k∧k.Ok:=fun k hk=>by
     rcases cY.1 hk with rfl|hk
     ·exact ⟨(hd _ hm).1,(hd _ hm).2.1⟩
     ·exact hsg k (List.mem_of_mem_drop hk)
    have hz:aL (d::ss.drop (pre.length+1))≤1000000:=by
     have h1:=(hd d hm).2.2
     have U:=Eb (ss.take (pre.length+1)) (ss.drop (pre.length+1))
     rw[Be] at U
     simp only[aL];omega
    rw[JW,←fQ]
    refine bs (qy (o:=5) (fun k hk=>(hg k hk).1) (fun k hk=>(hg k hk).2) hz (by omega)) ?_
    refine (rY jz).trans ?_
    rw[Int.toNat_natCast,List.length_cons,rZ jz]
    simp only[fQ,cH,gm,ca,List.length_cons,List.length_nil]
    rw[eu (dx 5 0 (d::ss.drop (pre.length+1)))]
    rfl
  ·rw[ca,cd]
   rfl
theorem Su: ∀ks:List Ex,oc ks=ks.all Ex.cZ
 | []=>rfl
 | k::ks=>by simp[oc,Su ks]
theorem Sv: ∀ks:List Ex,l8 ks=decide ((kG ks:Int)>0)
 | []=>by simp[l8,kG]
 | k::ks=>by
  have:=Sv ks
  unfold kG at*
  cases hk:k.cZ
  ·simp[l8,hk,this]
  ·simp[l8,hk]
theorem Sw: ∀ks:List Ex,oc ks=((kG ks:Int)==(ks.length:Int))
 | []=>by simp[oc,kG]
 | k::ks=>by
  have h:=Sw ks
  have hl:kG ks≤ks.length:=si _ _
  unfold kG at*
  rw[oc,h,ox]
  cases hk:k.cZ
  ·simp[hk];omega
  ·simp[hk]
theorem aev {c:Int} {nm:Bool}: ∀e:Ex,e.wf 6=true→e.size≤400→(nm=true→Gd 6 e)→CC nW (.int .i64 c:: .bool nm::bK e [])=some (qC c e):=
 ind fun o l ks ih hw hs kL=>by
  obtain ⟨h1,U⟩:=hG hw
  have hl:=o8 ks
  have Sy:aL ks≤399:=by simp only[size] at hs;omega
  have EY: ∀k∈ks,k.size≤399:=fun k hk=>lz (zN hk) Sy
  have ki: ∀k∈ks,CC nW (.int .i64 c:: .bool nm::bK k [])=some (qC c k):=fun k hk=>ih k hk (U k hk) (by have:=EY k hk;omega) fun h=>(kL h).kids k hk
  have hsm: ∀k∈ks,CC zb (.int .i64 c:: .bool nm::bK k [])=some (gI (aM k)):=fun k hk=>by
   refine aea ?_
   unfold Se
   cases nm with
   | true=>refine bT rfl ?_;rw[Qj k ((kL rfl).kids k hk)];rfl
   | false=>
    refine bF rfl ?_
    have:=EY k hk
    exact bs (R4 (n:=6) (by omega) k (U k hk) (by omega)) rfl
  have dB: ∀k∈ks,(aM (bY c k)).size≤160000:=fun k hk=>by
   have a:=J1 (c:=c) (U k hk)
   have b:=EW (EY k hk)
   omega
  have AI: ∀k∈ks,Gd 6 (aM (bY c k))∧(aM (bY c k)).Ok:=fun k hk=>by
   have a:=ma _ (uk (c:=c) k (U k hk))
   have b:=dB k hk
   exact ⟨a,rL (by omega) _ a.2 (by omega)⟩
  have EZ: ∀k∈ks,Gd 6 (aM k)∧(aM k).Ok:=fun k hk=>by
   have a:=Sp (U k hk) (by have:=EY k hk;omega)
   exact ⟨a.1,a.2.1⟩
  have hnz:=J2 U
  have hbz:aL (ks.map fun k=>aM (bY c k))≤160000:=by
   have a:=JX (f:=fun k=>aM (bY c k)) fun k hk=>J1 (c:=c) (U k hk)
   have b:=EW Sy
   omega
  have J5:(o=4∨o=6∨o=8)→CC vR (.int .i64 c:: .bool nm::bK (.node o l ks) [])=some (qC c (.node o l ks)):=fun ho=>by
   obtain ⟨a1,a2⟩:=J3 AI
   obtain ⟨b1,b2⟩:=J3 EZ
   have ji:l=0:=by rcases eH h1 with h|h<;>omega
   refine aef ?_
   unfold Sh
   simp only[Ex.op,Ex.kids,Ex.cp,bn]
   refine bT (EX (by omega)) (bT (EX (by omega)) ?_)
   have J6:=aes (ks:=ks) (nm:=nm) (c:=c) (by omega) ki (a:=o) (b:=l) (c1:=0) (c2:=0) (c3:=0) (c4:=0) (b1:=false) (l1:=ks.map enc) (l2:=[]) (l3:=[]) ks [] rfl
   rw[Int.toNat_natCast]
   refine bs J6 ?_
   unfold qC
   rw[ad6 ho,l9,ji]
   rcases ho with rfl|rfl|rfl
   ·refine bs (qy a1 a2 (by omega) (.inl rfl)) ?_
    refine bs (qy b1 b2 (by omega) (.inl rfl)) ?_
    refine bT rfl ?_
    rw[←Sv]
    rfl
   ·refine bs (qy a1 a2 (by omega) (.inr (.inr rfl))) ?_
    refine bs (qy b1 b2 (by omega) (.inr (.inr rfl))) ?_
    refine bF rfl (bT rfl ?_)
    rw[←Sw]
    rfl
   ·obtain ⟨k,rfl⟩:=xy.1 (show ks.length=1 by rcases eH h1 with h|h<;>omega)
    refine bs (EJ (AI k (by simp)).1 (.inr rfl)) ?_
    refine bs (EJ (EZ k (by simp)).1 (.inr rfl)) ?_
    refine bF rfl (bF rfl (bT rfl ?_))
    refine congrArg some ?_
    have:(((kG [k]:Nat):Int)==0)=(Ex.node 8 0 [k]).cZ:=by
     simp only[Ex.cZ,kG]
     cases hk:k.cZ<;>simp[hk,l8]
    rw[this]
    rfl
  have aew:o=5→CC vS (.int .i64 c:: .bool nm::bK (.node o l ks) [])=some (qC c (.node o l ks)):=fun ho=>by
   subst ho
   have bx:ks≠[]:=by rintro rfl;rcases eH h1 with h|h<;>simp at h<;>omega
   have ji:l=0:=by rcases eH h1 with h|h<;>omega
   obtain ⟨b1,b2⟩:=J3 EZ
   have hD:=Sr (c:=c) ks
   refine aej ?_
   unfold Sk
   simp only[Ex.op,Ex.kids,Ex.cp,bn]
   refine bT (EX (by omega)) ?_
   rw[Int.toNat_natCast]
   have J6:=aet (ks:=ks) (nm:=nm) (c:=c) (by omega) ki (c1:=0) (c2:=0) (c3:=0) (c4:=0) (b1:=false) (l1:=[]) (l2:=[]) hsm ks [] [] true rfl (b7 _)
   refine bs J6 ?_
   simp only[un,List.nil_append,dc,mq,bn]
   refine bT (EX (by omega)) ?_
   rw[Int.toNat_natCast]
   have bL:=aeu (ss:=ks.map aM) (D:=mi c ks) (b:=ks.all Ex.cZ) (c1:=0) (c2:=0) (c3:=0) (c4:=0) (b1:=false) (l1:=[]) (l2:=[]) (by simp;omega) (by simp;omega) (fun d hd=>by
    obtain ⟨k,hk,rfl⟩:=Ss hd
    have:=dB k hk
    exact ⟨(AI k hk).1,(AI k hk).2,by omega⟩) (fun k hk=>⟨b1 k hk,b2 k hk⟩) (by omega) (mi c ks) [] [] rfl rfl
   have he:=Sq (c:=c) ks []
   rw[List.nil_append] at he
   rw[List.length_nil] at bL he
   rw[he] at bL
   refine bs bL ?_
   simp only[un,List.nil_append]
   have uV:=parts_eq (c:=c) U
   have Sz:=EL (c:=c) U fun k hk=>uk k (U k hk)
   have hcz:aL (iH c ks)≤160000:=by
    have a:=JY (c:=c) (ks:=ks) fun k hk=>Sd k 6 (U k hk)
    have b:=EW (show 1+aL ks≤400 by omega)
    omega
   have hpz:aL (rW c ks)≤160000:=by rw[uV];have:=J2 Sz;omega
   have SA: ∀k∈rW c ks,Gd 6 k∧k.Ok:=fun k hk=>by
    have hz:=zN hk
    rw[uV] at hk
    obtain ⟨x,hx,rfl⟩:=gk.1 hk
    have a:=ma x (Sz x hx)
    exact ⟨a,rL (by omega) _ a.2 (by omega)⟩
   refine bs (qy (fun k hk=>(SA k hk).1) (fun k hk=>(SA k hk).2) (by omega) (.inl rfl)) ?_
   refine bs (qy b1 b2 (by omega) (.inr (.inl rfl))) ?_
   unfold qC
   rw[ad9 bx U,l9,ji,←Su]
   rfl
  refine aeq ?_
  unfold So ET
  simp only[Ex.op,Ex.kids,Ex.cp]
  rcases eH h1 with ⟨rfl,h⟩|⟨rfl,⟨rfl,h⟩|⟨rfl,h⟩|⟨rfl,h⟩|⟨rfl,h⟩|⟨rfl,h⟩|⟨rfl,h⟩|⟨rfl,h⟩⟩
  ·obtain rfl:=pt.1 (show ks.length=0 by omega)
   refine bF rfl (bT rfl ?_)
   unfold qC
   rw[w9,aj rfl,l9,ll (by omega)]
   rw[eT]
   by_cases vr:l=c
   ·rw[aj vr,aj vr];rfl
   ·rw[ai vr,ai vr];rfl
  ·obtain rfl:=pt.1 (show ks.length=0 by omega)
   rfl
  ·obtain rfl:=pt.1 (show ks.length=0 by omega)
   rfl
  ·exact bF rfl (bF rfl (bT rfl (bT rfl (bs (J5 (.inl rfl)) rfl))))
  ·refine bF rfl (bF rfl (bF rfl (bF rfl (bF rfl (bF rfl (bT rfl ?_))))))
   exact bs (aew rfl) rfl
  ·exact bF rfl (bF rfl (bF rfl (bT rfl (bT rfl (bs (J5 (.inr (.inl rfl))) rfl)))))
  ·obtain ⟨k,rfl⟩:=xy.1 (show ks.length=1 by omega)
   refine bF rfl (bF rfl (bF rfl (bF rfl (bF rfl (bT rfl ?_)))))
   refine bs (a:=k.enc) rfl ?_
   rw[br,bt,bu]
   refine bs (ki k (by simp)) ?_
   have hk:=EZ k (by simp)
   have hb:=AI k (by simp)
   have hj:=EJ hk.1 (o:=7) (.inl rfl)
   rw[cH,gm,eu] at hj
   refine bs hj ?_
   have pW:dx 7 0 [aM k]=aM (.node 7 0 [k]):=by rw[l9];rfl
   have J7:=Sp hw (by omega)
   have OT:=dB k (by simp)
   have fI:=qy (n:=6) (ks:=[aM (bY c k),aM (.node 7 0 [k])]) (o:=5) (fun x hx=>by
    rcases cY.1 hx with rfl|hx
    ·exact hb.1
    ·rw[dX.1 hx];exact J7.1) (fun x hx=>by
    rcases cY.1 hx with rfl|hx
    ·exact hb.2
    ·rw[dX.1 hx];exact J7.2.1) (by have:=J7.2.2;simp only[aL];omega) (by omega)
   rw[cH,cH,gm,eu (aM (bY c k)),eu (aM (.node 7 0 [k])),←pW] at fI
   refine bs fI ?_
   unfold qC
   rw[ad7,←pW]
   rfl
  ·exact bF rfl (bF rfl (bF rfl (bF rfl (bT rfl (bs (J5 (.inr (.inr rfl))) rfl)))))
structure Dv where
 L:Int
 es:List Ex
 nx:List (List Int)
 dn:Int
deriving DecidableEq
def Dv.zero:Dv:=⟨0,[],[],0⟩
def kH (e:Ex) (c:Nat):Option Ex:=if (aM (bY c e)).val 6=0 then some (aM (bY c e)) else none
def ni (e:Ex):Nat→Nat→List Ex→List Int→Option (List Ex × List Int)
 | 0,_,es,row=>some (es,row)
 | n+1,x,es,row=>(kH e x).bind fun d=>
  if d∈es then ni e n (x+1) es (row++[(es.idxOf d:Int)])
  else if es.length=512 then none else ni e n (x+1) (es++[d]) (row++[(es.length:Int)])
def proc (s:Dv):Option Dv:=(ni (s.es.getD s.dn.toNat bc) s.L.toNat 0 s.es []).map fun p=>⟨s.L,p.1,s.nx++[p.2],s.dn+1⟩
def r0:Nat→Dv→Option Dv
 | 0,s=>some s
 | n+1,s=>if s.dn<s.es.length then (proc s).bind (r0 n) else some s
def qD (e:Ex) (L:Int):Dv:=⟨L,[aM e],[],0⟩
theorem SB {L:Int} (h:L≤6): ∀e:Ex,e.wf L=true→e.wf 6=true:=ind fun o l ks ih hw=>by
 obtain ⟨h1,U⟩:=hG hw
 refine tK ?_ fun k hk=>ih k hk (U k hk)
 unfold dw at h1⊢
 by_cases ho:o=3
 ·rw[aj ho] at h1⊢
  have:=ly h1
  exact eg (by omega)
 ·rw[ai ho] at h1⊢;exact h1
theorem J8 {e:Ex} {L:Int} (h:e.val L=0):(1≤L∧L≤6)∧e.depth≤40∧e.size≤400∧e.wf L=true:=by
 unfold Ex.val at h
 repeat' split at h
 all_goals first|omega|skip
 next a b c=>exact ⟨a,b.1,b.2,c⟩
theorem val_mk {e:Ex} {L:Int} (h:(1≤L∧L≤6)∧e.depth≤40∧e.size≤400∧e.wf L=true):e.val L=0:=by
 unfold Ex.val
 rw[aj h.1,aj ⟨h.2.1,h.2.2.1⟩,aj h.2.2.2]
theorem E0 {e:Ex} {L:Int} (h:e.val L=0):e.val 6=0:=by
 obtain ⟨h1,U,h3,h4⟩:=J8 h
 exact val_mk ⟨by omega,U,h3,SB h1.2 e h4⟩
theorem J9 {e:Ex} {L:Int} (h:e.val L=0):(aM e).val L=0:=by
 obtain ⟨h1,U,h3,h4⟩:=J8 h
 have:=zR e h4
 have:=abm e h4
 exact val_mk ⟨h1,by omega,by omega,(ma e h4).2⟩
def Nv (e:Ex):Prop:=Gd 6 e∧e.val 6=0
theorem Nv.aM {e:Ex} (h:Nv e):aM e=e:=Qj e h.1
theorem E1 {e d:Ex} {c:Nat} (he:Nv e) (h:kH e c=some d):Nv d∧d=Go.AM.aM (bY c e):=by
 unfold kH at h
 split at h
 ·next hv=>
  cases h
  exact ⟨⟨ma _ (uk e he.1.2),hv⟩,rfl⟩
 ·cases h
structure Es (es:List Ex):Prop where
 le:es.length≤512
 nv: ∀e∈es,Nv e
 nd:es.Nodup
def pg (e:Ex) (es:List Ex) (n:Nat) (row:List Int):Prop:=row.length=n∧∀x,x<n→∃j:Nat,row.getD x 0=j∧j<es.length∧kH e x=some (es.getD j bc)
theorem pg.mono {e:Ex} {es t:List Ex} {n:Nat} {row:List Int} (h:pg e es n row):pg e (es++t) n row:=⟨h.1,fun x hx=>by
 obtain ⟨j,h1,U,h3⟩:=h.2 x hx
 refine ⟨j,h1,by rw[ca];omega,?_⟩
 rw[h3,hY,hY,hX U]⟩
theorem pg.snoc {e:Ex} {es:List Ex} {n j:Nat} {row:List Int} (h:pg e es n row) (h1:j<es.length) (U:kH e n=some (es.getD j bc)):pg e es (n+1) (row++[(j:Int)]):=by
 refine ⟨by rw[ca,h.1];rfl,fun x hx=> ?_⟩
 rcases ov x n with c|c
 ·obtain ⟨i,i1,i2,i3⟩:=h.2 x c
  refine ⟨i,?_,i2,i3⟩
  rw[←i1,hY,hY,hX (by rw[h.1];exact c)]
 ·obtain rfl:x=n:=by omega
  refine ⟨j,?_,h1,U⟩
  rw[hY,gN (by rw[h.1];exact b7 _),h.1]
  simp
theorem Es.snoc {es:List Ex} {d:Ex} (h:Es es) (hd:Nv d) (hn:d∉es) (hl:es.length≠512):Es (es++[d]):=by
 refine ⟨by have:=h.le;simp;omega,fun e he=> ?_,?_⟩
 ·rcases ei.1 he with he|he
  ·exact h.nv e he
  ·rw[dX.1 he];exact hd
 ·rw[Bg]
  refine ⟨h.nd,by simp,fun a ha b hb=> ?_⟩
  rw[dX.1 hb]
  rintro rfl
  exact hn ha
theorem aex {es:List Ex} {d:Ex} (h:d∈es):es.getD (es.idxOf d) bc=d:=by
 have:=List.idxOf_lt_length_iff.2 h
 rw[hY,bG this,Option.getD_some,List.getElem_idxOf]
theorem Ka {e:Ex} (he:Nv e): ∀(n x:Nat) (es:List Ex) (row:List Int) (p:List Ex × List Int),Es es→pg e es x row→ni e n x es row=some p→Es p.1∧pg e p.1 (x+n) p.2∧∃t,p.1=es++t
 | 0,x,es,row,p,h1,U,h=>by
  cases h
  exact ⟨h1,U,[],by simp⟩
 | n+1,x,es,row,p,h1,U,h=>by
  rw[ni] at h
  cases hs:kH e x with
  | none=>rw[hs] at h;cases h
  | some d=>
   rw[hs] at h
   obtain ⟨hd,_⟩:=E1 he hs
   simp only[Option.bind_some] at h
   by_cases hm:d∈es
   ·rw[aj hm] at h
    have:=Ka he n (x+1) es _ p h1 (U.snoc (List.idxOf_lt_length_iff.2 hm) (by rw[hs,aex hm])) h
    rw[show x+(n+1)=x+1+n by omega]
    exact this
   ·rw[ai hm] at h
    by_cases hl:es.length=512
    ·rw[aj hl] at h;cases h
    ·rw[ai hl] at h
     obtain ⟨a,b,t,c⟩:=Ka he n (x+1) (es++[d]) _ p (h1.snoc hd hm hl) (U.mono.snoc (by simp) (by rw[hs,hY];simp)) h
     rw[show x+(n+1)=x+1+n by omega]
     exact ⟨a,b,d::t,by rw[c,cd];rfl⟩
structure Gs (s:Dv):Prop where
 L:1≤s.L∧s.L≤6
 ne:s.es≠[]
 es:Es s.es
 dn:0≤s.dn∧s.dn≤s.es.length
 nl:s.nx.length=s.dn.toNat
 row: ∀q,q<s.dn.toNat→pg (s.es.getD q bc) s.es s.L.toNat (s.nx.getD q [])
theorem AJ {α:Type} {a b:List α} {i:Nat} {z:α} (h:i<a.length):(a++b).getD i z=a.getD i z:=by
 rw[hY,hY,hX h]
theorem SC {α:Type} {a:List α} {i:Nat} {z:α} (h:i<a.length):a.getD i z∈a:=by
 rw[hY,bG h];simp
theorem SD {s t:Dv} (h:proc s=some t): ∃p,ni (s.es.getD s.dn.toNat bc) s.L.toNat 0 s.es []=some p∧t=⟨s.L,p.1,s.nx++[p.2],s.dn+1⟩:=by
 unfold proc at h
 cases hr:ni (s.es.getD s.dn.toNat bc) s.L.toNat 0 s.es [] with
 | none=>rw[hr] at h;cases h
 | some p=>rw[hr] at h;cases h;exact ⟨p,rfl,rfl⟩
theorem SE {s t:Dv} (hs:Gs s) (hd:s.dn<s.es.length) (h:proc s=some t):Gs t∧t.L=s.L∧t.dn=s.dn+1∧∃r,t.es=s.es++r:=by
 obtain ⟨p,hp,rfl⟩:=SD h
 have SF:=hs.dn
 have hq:s.dn.toNat<s.es.length:=by omega
 obtain ⟨a,b,r,c⟩:=Ka (hs.es.nv _ (SC hq)) _ 0 _ _ p hs.es ⟨rfl,fun x hx=>by omega⟩ hp
 have hn:=hs.nl
 refine ⟨⟨hs.L,by rw[c];simp[hs.ne],a,⟨by show 0≤s.dn+1;omega,?_⟩,?_,fun q yr=> ?_⟩,rfl,rfl,r,c⟩
 ·show s.dn+1≤(p.1.length:Int)
  rw[c,ca];omega
 ·show (s.nx++[p.2]).length=(s.dn+1).toNat
  rw[ca,hn];simp;omega
 ·have hq3:q<(s.dn+1).toNat:=yr
  show pg (p.1.getD q bc) p.1 s.L.toNat ((s.nx++[p.2]).getD q [])
  rcases ov q s.dn.toNat with e|e
  ·rw[AJ (by omega),c,AJ (by omega)]
   exact (hs.row q e).mono
  ·obtain rfl:q=s.dn.toNat:=by omega
   rw[hY (l:=s.nx++[p.2]),gN (by omega),hn,Nat.sub_self]
   simp only[List.getElem?_cons_zero,Option.getD_some]
   rw[gj] at b
   have e1:p.1.getD s.dn.toNat bc=s.es.getD s.dn.toNat bc:=by rw[c,AJ (by omega)]
   rw[e1]
   exact b
theorem SG: ∀(n:Nat) (s t:Dv),Gs s→r0 n s=some t→Gs t∧t.L=s.L∧(∃r,t.es=s.es++r)∧(t.dn=t.es.length∨t.dn=s.dn+n)
 | 0,s,t,hs,h=>by cases h;exact ⟨hs,rfl,⟨[],by simp⟩,.inr (by simp)⟩
 | n+1,s,t,hs,h=>by
  rw[r0] at h
  by_cases hd:s.dn<s.es.length
  ·rw[aj hd] at h
   cases hp:proc s with
   | none=>rw[hp] at h;cases h
   | some u=>
    rw[hp] at h
    obtain ⟨a,b,c,r,d⟩:=SE hs hd hp
    obtain ⟨e,f,⟨r2,g⟩,i⟩:=SG n u t a h
    refine ⟨e,f.trans b,⟨r++r2,by rw[g,d,cd]⟩,?_⟩
    rcases i with i|i
    ·exact .inl i
    ·exact .inr (by rw[i,c];omega)
  ·rw[ai hd] at h
   cases h
   exact ⟨hs,rfl,⟨[],by simp⟩,.inl (by have:=hs.dn;omega)⟩
theorem SH {e:Ex} {L:Int} (h:e.val L=0):Gs (qD e L):=by
 obtain ⟨h1,U,h3,h4⟩:=J8 h
 refine ⟨h1,by simp[qD],⟨by simp[qD],fun x hx=> ?_,by simp[qD]⟩,by simp[qD],rfl,fun q hq=>by simp[qD] at hq⟩
 rw[dX.1 hx]
 exact ⟨ma e (SB h1.2 e h4),E0 (J9 h)⟩
def jY:List UInt8→Ex→Option Ex
 | [],e=>some e
 | b::w,e=>(kH e (b.toNat-97)).bind (jY w)
theorem SI: ∀(w v:List UInt8) (e:Ex),jY (w++v) e=(jY w e).bind (jY v)
 | [],v,e=>rfl
 | b::w,v,e=>by
  rw[List.cons_append,jY,jY]
  cases kH e (b.toNat-97) with
  | none=>rfl
  | some d=>exact SI w v d
end Go.AM
set_option maxRecDepth 100000
namespace Go.AM
open Go.Proofs
theorem aey (n:Int):CC vK [.int .i64 n]=some [.bool (decide (1≤n∧n≤6))]:=by
 refine Pu ?_
 unfold I4
 rw[aB]
 split
 ·refine congrArg (fun b=>some [V.bool b]) ?_;rw[uy];omega
 ·have: ¬(1≤n∧n≤6):=by omega
  simp[this]
noncomputable abbrev SJ:Code:=cK Try.prog (az.aZ 52)
noncomputable def AK (C:ag) (w:List UInt8) (letters t18 t19:Int) {β:Type} (kn:Int→Option β) (kr:((Bool) ⊕ (Int × Bool))→Option β):Option β:=
 bif decide ((t19:Int)<t18) then
  (bif decide (0≤t19) then (w[(t19:Int).toNat]?).map fun b=>V.int .u8 b.toNat else none).bind fun x1=>
  bif decide ((x1.toInt:Int)<97) then
  kr (.inl false)
  else
  (bif decide (0≤t19) then (w[(t19:Int).toNat]?).map fun b=>V.int .u8 b.toNat else none).bind fun x2=>
  bif decide (((IntKind.wrap .i64 (IntKind.wrap .u8 (x2.toInt-97))):Int)≥letters) then
   kr (.inl false)
  else
   kn (IntKind.wrap .i64 (t19+1))
 else
  kr (.inr (t19,decide ((t19:Int)<t18)))
noncomputable def E2 (C:ag) (w:List UInt8) (letters t18:Int):(Int)→Option ((Int) ⊕ ((Bool) ⊕ (Int × Bool))):=fun t19=>AK C w letters t18 t19 (fun y=>some (.inl y)) (fun r=>some (.inr r))
noncomputable def SK (C:ag):cz:=fun β n ds k=>
 bif Nat.beq n 65 then cl HY [false,false,false,true] [[0],[1,2,3,0,0]] (@AK C) ds k else
 none
abbrev aez (C:ag) (b:cw):Prop:=cx Try.prog az C (SK C) 52 (cN Try.prog (az.aZ 52)) (az.sin 52).a9.length b
theorem aeA (C:ag):aez C (.loop (ax [1,1,0,1,0,0] SJ)):=
 cy HY [false,false,false,true] [[0],[1,2,3,0,0]] (@AK C) (by kernel_rfl) (bh (bs:=[]) (by kernel_rfl) aw) (fun ds=>by kernel_rfl) (fun i x=>by kernel_rfl) (fun i x β k=>by kernel_rfl) (fun β ds k=>by kernel_rfl)
noncomputable def SL (C:ag) (w:List UInt8) (letters:Int):Option (List V):=
 bif decide ((letters:Int)<1) then
  some [.bool false]
 else
  bif decide ((letters:Int)>6) then
  some [.bool false]
  else
  bif decide (((w.length:Int):Int)>2048) then
   some [.bool false]
  else
   (Loop (E2 C w letters (w.length:Int)) 0).bind (b6 (fun (jR:Bool)=>
    some [.bool jR]) (un fun (l7:Int) (o5:Bool)=>
    some [.bool true]))
theorem aeB {w:List UInt8} {letters:Int} {r:Option (List V)} (h:SL CC w letters=r):CC Dr [.str w,.int .i64 letters]=r:=
 ba (key:=52) (L:=SK CC) (bs:=[.loop (ax [1,1,0,1,0,0] SJ)]) (by kernel_rfl) (bH (aeA CC) aw) (aX (by kernel_rfl) h)
noncomputable abbrev SM:Code:=cK Try.prog (az.aZ 18)
noncomputable def AL (C:ag) (w:List UInt8) (letters i:Int) {β:Type} (kn:Int→Option β) (kr:((Bool) ⊕ (Int × Bool))→Option β):Option β:=
 bif decide ((i:Int)<(w.length:Int)) then
  (bif decide (0≤i) then (w[(i:Int).toNat]?).map fun b=>V.int .u8 b.toNat else none).bind fun x2=>
  bif decide ((x2.toInt:Int)<97) then
  kr (.inl false)
  else
  (bif decide (0≤i) then (w[(i:Int).toNat]?).map fun b=>V.int .u8 b.toNat else none).bind fun x3=>
  bif decide (((IntKind.wrap .i64 (IntKind.wrap .u8 (x3.toInt-97))):Int)≥letters) then
   kr (.inl false)
  else
   kn (IntKind.wrap .i64 (i+1))
 else
  kr (.inr (i,decide ((i:Int)<(w.length:Int))))
noncomputable def E3 (C:ag) (w:List UInt8) (letters:Int):(Int)→Option ((Int) ⊕ ((Bool) ⊕ (Int × Bool))):=fun i=>AL C w letters i (fun y=>some (.inl y)) (fun r=>some (.inr r))
noncomputable def SN (C:ag):cz:=fun β n ds k=>
 bif Nat.beq n 65 then cl HP [false,false,true] [[0],[1,2,0,0]] (@AL C) ds k else
 none
abbrev aeC (C:ag) (b:cw):Prop:=cx Try.prog az C (SN C) 18 (cN Try.prog (az.aZ 18)) (az.sin 18).a9.length b
theorem aeD (C:ag):aeC C (.loop (ax [1,1,0,1,0,0] SM)):=
 cy HP [false,false,true] [[0],[1,2,0,0]] (@AL C) (by kernel_rfl) (bh (bs:=[]) (by kernel_rfl) aw) (fun ds=>by kernel_rfl) (fun i x=>by kernel_rfl) (fun i x β k=>by kernel_rfl) (fun β ds k=>by kernel_rfl)
noncomputable def SO (C:ag) (w:List UInt8) (letters:Int):Option (List V):=
 (C vK [.int .i64 letters]).bind fun r1=>
 bif !((V.nth r1 0).toBool) then
  some [.bool false]
 else
  bif decide (((w.length:Int):Int)>2048) then
  some [.bool false]
  else
  (Loop (E3 C w letters) 0).bind (b6 (fun (l7:Bool)=>
   some [.bool l7]) (un fun (cG:Int) (lj:Bool)=>
   some [.bool true]))
theorem aeE {w:List UInt8} {letters:Int} {r:Option (List V)} (h:SO CC w letters=r):CC Dj [.str w,.int .i64 letters]=r:=
 ba (key:=18) (L:=SN CC) (bs:=[.loop (ax [1,1,0,1,0,0] SM)]) (by kernel_rfl) (bH (aeD CC) aw) (aX (by kernel_rfl) h)
def db (w:List UInt8) (i:Nat):Int:=((w.getD i 0).toNat:Int)-97
def nj (w:List UInt8) (L:Int):Prop:=1≤L∧L≤6∧w.length≤2048∧∀i,i<w.length→0≤db w i∧db w i<L
instance (w:List UInt8) (L:Int):Decidable (nj w L):=by unfold nj;infer_instance
theorem E4 {w:List UInt8} {i:Nat} (h:i<w.length):(bif decide (0≤(i:Int)) then (w[((i:Nat):Int).toNat]?).map (fun b=>V.int .u8 b.toNat) else none)=some (.int .u8 ((w.getD i 0).toNat:Int)):=by
 rw[aB,aj (by omega),Int.toNat_natCast]
 simp[h]
theorem SP (b:UInt8):b.toNat<256:=b.toNat_lt
theorem Kb {w:List UInt8} {i:Nat} (h:0≤db w i):IntKind.wrap .u8 (((w.getD i 0).toNat:Int)-97)=db w i:=by
 have:=SP (w.getD i 0)
 unfold db at*
 exact yY h (by omega)
theorem SQ {w:List UInt8} {i:Nat}:db w i<256:=by
 have:=SP (w.getD i 0)
 unfold db
 omega
theorem aeF {w:List UInt8} {L:Int} (hl:w.length≤2048):Loop (E2 CC w L (w.length:Int)) 0=some (if∀i,i<w.length→0≤db w i∧db w i<L then .inr ((w.length:Int),false) else .inl false):=by
 refine OV (good:=fun i=>0≤db w i∧db w i<L) w.length (fun i=>(i:Int)) (Sum.inl false:Bool ⊕ (Int × Bool)) (Sum.inr ((w.length:Int),false)) (fun i hi=> ?_) ?_
 ·simp only[E2,AK,un]
  rw[aB,aj (by omega),E4 hi]
  simp only[Option.bind_some,V.toInt_int,aB]
  by_cases h1:0≤db w i
  ·have e8:=h1
   unfold db at e8
   rw[ai (by omega),Kb h1,wrap64 (by omega) (by have:= @SQ w i;omega)]
   by_cases U:db w i<L
   ·rw[ai (by omega),aj ⟨h1,U⟩,wrap64 (by omega) (by omega)]
    simp
   ·rw[aj (by omega),ai (fun h=>U h.2)]
  ·have e8:=h1
   unfold db at e8
   rw[aj (by omega),ai (fun h=>h1 h.1)]
 ·simp only[E2,AK,un]
  rw[aB,ai (by omega)]
  simp
theorem aeG {w:List UInt8} {L:Int} (hl:w.length≤2048):Loop (E3 CC w L) 0=some (if∀i,i<w.length→0≤db w i∧db w i<L then .inr ((w.length:Int),false) else .inl false):=by
 refine OV (good:=fun i=>0≤db w i∧db w i<L) w.length (fun i=>(i:Int)) (Sum.inl false:Bool ⊕ (Int × Bool)) (Sum.inr ((w.length:Int),false)) (fun i hi=> ?_) ?_
 ·simp only[E3,AL,un]
  rw[aB,aj (by omega),E4 hi]
  simp only[Option.bind_some,V.toInt_int,aB]
  by_cases h1:0≤db w i
  ·have e8:=h1
   unfold db at e8
   rw[ai (by omega),Kb h1,wrap64 (by omega) (by have:= @SQ w i;omega)]
   by_cases U:db w i<L
   ·rw[ai (by omega),aj ⟨h1,U⟩,wrap64 (by omega) (by omega)]
    simp
   ·rw[aj (by omega),ai (fun h=>U h.2)]
  ·have e8:=h1
   unfold db at e8
   rw[aj (by omega),ai (fun h=>h1 h.1)]
 ·simp only[E3,AL,un]
  rw[aB,ai (by omega)]
  simp
theorem aeH (w:List UInt8) (L:Int):CC Dr [.str w,.int .i64 L]=some [.bool (decide (nj w L))]:=by
 refine aeB ?_
 unfold SL
 simp only[aB]
 by_cases h1:L<1
 ·rw[aj h1,cS (fun h=>by have:=h.1;omega)]
 rw[ai h1]
 by_cases U:L>6
 ·rw[aj U,cS (fun h=>by have:=h.2.1;omega)]
 rw[ai U]
 by_cases h3:(w.length:Int)>2048
 ·rw[aj h3,cS (fun h=>by have:=h.2.2.1;omega)]
 rw[ai h3,aeF (by omega)]
 by_cases h4: ∀i,i<w.length→0≤db w i∧db w i<L
 ·rw[aj h4,eg (show nj w L from ⟨by omega,by omega,by omega,h4⟩)]
  simp[b6,un]
 ·rw[ai h4,cS (fun h=>h4 h.2.2.2)]
  simp[b6,un]
theorem aeI (w:List UInt8) (L:Int):CC Dj [.str w,.int .i64 L]=some [.bool (decide (nj w L))]:=by
 refine aeE ?_
 unfold SO
 rw[aey]
 simp only[Option.bind_some,V.aU,V.dV,gD,aB]
 by_cases h1: ¬(1≤L∧L≤6)
 ·rw[ai h1,cS (fun h=>h1 ⟨h.1,h.2.1⟩)]
 have h1:=Classical.not_not.1 h1
 rw[aj h1]
 by_cases h3:(w.length:Int)>2048
 ·rw[aj h3,cS (fun h=>by have:=h.2.2.1;omega)]
 rw[ai h3,aeG (by omega)]
 by_cases h4: ∀i,i<w.length→0≤db w i∧db w i<L
 ·rw[aj h4,eg (show nj w L from ⟨h1.1,h1.2,by omega,h4⟩)]
  simp[b6,un]
 ·rw[ai h4,cS (fun h=>h4 h.2.2.2)]
  simp[b6,un]
noncomputable def SR (C:ag) (dL dM:Int) (AN:List V) (Kc Kd:Int) (Ke:List V) (Kf:Bool):Option (List V):=
 (C tu [.int .i64 dL,.int .i64 dM,.list aa AN,.int .i64 6]).bind fun r1=>
 bif (((V.nth r1 0).toInt):Int) != 0 then
  some [.int .i64 0,.int .i64 0,.list aa ([]:List V),.int .i64 3]
 else
  some [.int .i64 dL,.int .i64 dM,.list aa AN,.int .i64 0]
theorem aeJ {dL dM:Int} {AN:List V} {Kc Kd:Int} {Ke:List V} {Kf:Bool} {r:Option (List V)} (h:SR CC dL dM AN Kc Kd Ke Kf=r):CC HJ [.int .i64 dL,.int .i64 dM,.list aa AN,.int .i64 Kc,.int .i64 Kd,.list aa Ke,.bool Kf]=r:=
 ba (key:=149) (L:=cb) (bs:=[]) (by kernel_rfl) aw (aX (by kernel_rfl) h)
noncomputable def SS (C:ag) (ah ar:Int) (ae:List V) (cp:Int):Option (List V):=
 (C nW [.int .i64 cp,.bool true,.int .i64 ah,.int .i64 ar,.list aa ae]).bind fun r1=>
 (C HJ [.int .i64 ((V.nth r1 0).toInt),.int .i64 ((V.nth (r1.drop 1) 0).toInt),.list aa ((V.nth ((r1.drop 1).drop 1) 0).toList),.int .i64 ((V.nth (((r1.drop 1).drop 1).drop 1) 0).toInt),.int .i64 ((V.nth ((((r1.drop 1).drop 1).drop 1).drop 1) 0).toInt),.list aa ((V.nth (((((r1.drop 1).drop 1).drop 1).drop 1).drop 1) 0).toList),.bool ((V.nth ((((((r1.drop 1).drop 1).drop 1).drop 1).drop 1).drop 1) 0).toBool)]).bind fun r2=>
 some [.int .i64 ((V.nth r2 0).toInt),.int .i64 ((V.nth (r2.drop 1) 0).toInt),.list aa ((V.nth ((r2.drop 1).drop 1) 0).toList),.int .i64 ((V.nth (r2.drop 3) 0).toInt)]
theorem aeK {ah ar:Int} {ae:List V} {cp:Int} {r:Option (List V)} (h:SS CC ah ar ae cp=r):CC y8 [.int .i64 ah,.int .i64 ar,.list aa ae,.int .i64 cp]=r:=
 ba (key:=53) (L:=cb) (bs:=[]) (by kernel_rfl) aw (aX (by kernel_rfl) h)
end Go.AM
set_option maxRecDepth 100000
namespace Go.AM
open Go.Proofs Ex
abbrev Kg (p:Ex × Int):List V:=bK p.1 [.int .i64 p.2]
def sa (x:Ex):Ex × Int:=if x.val 6=0 then (x,0) else (bc,3)
theorem aeL {x y:Ex} {b:Bool} (hx:x.Ok):CC HJ (bK x (bK y [.bool b]))=some (Kg (sa x)):=by
 refine aeJ ?_
 unfold SR sa
 refine bs (D1 x hx 6) ?_
 by_cases hv:x.val 6=0
 ·rw[aj hv]
  exact bF (by simp[hv]) rfl
 ·rw[ai hv]
  exact bT (by simp[hv]) rfl
theorem aeM {c:Int} {e:Ex} (hv:e.val 6=0):Gd 6 (aM (bY c e))∧(aM (bY c e)).Ok∧(aM (bY c e)).size≤160000:=by
 obtain ⟨_,U,h3⟩:=oa hv
 have a:=ma _ (uk (c:=c) e h3)
 have b:=J1 (c:=c) h3
 have d:=EW U
 exact ⟨a,rL (by omega) _ a.2 (by omega),by omega⟩
theorem SU {e:Ex} (he:Nv e) (c:Int):CC y8 (bK e [.int .i64 c])=some (Kg (sa (aM (bY c e)))):=by
 obtain ⟨_,U,h3⟩:=oa he.2
 refine aeK ?_
 unfold SS
 refine bs (aev (c:=c) (nm:=true) e h3 U fun _=>he.1) ?_
 refine bs (aeL (y:=aM e) (b:=e.cZ) (aeM (c:=c) he.2).2.1) ?_
 unfold sa
 split<;>rfl
section
variable {c:Int} {ks:List Ex} (hn:ks.length≤1000) (ih: ∀k∈ks,CC Oq (bK k [.int .i64 c])=some (gI (bY c k)))
include hn ih
end
end Go.AM
set_option maxRecDepth 100000
namespace Go.AM
open Go.Proofs
noncomputable abbrev SV:Code:=cK Try.prog (az.aZ 28)
noncomputable def xc (C:ag) (w:List UInt8) (t23 kE kF:Int) (ef:List V) (t24 eG ec:Int) (dv:List V) {β:Type} (kn:(Int × Int × Int × (List V))→Option β) (kr:((Int × Int × Int × (List V)) ⊕ (Int × Bool × Int × Int × (List V)))→Option β):Option β:=
 bif decide ((t24:Int)<t23) then
  (bif decide (0≤t24) then (w[(t24:Int).toNat]?).map fun b=>V.int .u8 b.toNat else none).bind fun x4=>
  (C y8 [.int .i64 eG,.int .i64 ec,.list aa dv,.int .i64 (IntKind.wrap .i64 (IntKind.wrap .u8 (x4.toInt-97)))]).bind fun r5=>
  bif (((V.nth (r5.drop 3) 0).toInt):Int) != 0 then
  kr (.inl ((V.nth (r5.drop 3) 0).toInt,0,0,([]:List V)))
  else
  kn (IntKind.wrap .i64 (t24+1),(V.nth r5 0).toInt,(V.nth (r5.drop 1) 0).toInt,(V.nth ((r5.drop 1).drop 1) 0).toList)
 else
  kr (.inr (t24,decide ((t24:Int)<t23),eG,ec,dv))
noncomputable def uo (C:ag) (w:List UInt8) (t23 kE kF:Int) (ef:List V):(Int × Int × Int × (List V))→Option ((Int × Int × Int × (List V)) ⊕ ((Int × Int × Int × (List V)) ⊕ (Int × Bool × Int × Int × (List V)))):=un fun t24=>un fun eG=>un fun ec dv=>xc C w t23 kE kF ef t24 eG ec dv (fun y=>some (.inl y)) (fun r=>some (.inr r))
noncomputable def SW (C:ag):cz:=fun β n ds k=>
 bif Nat.beq n 129 then cl HQ [false,false,true,true,true,true,false,false,false] [[0,0,0,0],[1,2,0,0,0,0,0,7,8,9]] (@xc C) ds k else
 none
abbrev aeN (C:ag) (b:cw):Prop:=cx Try.prog az C (SW C) 28 (cN Try.prog (az.aZ 28)) (az.sin 28).a9.length b
theorem aeO (C:ag):aeN C (.loop (ax [1,1,1,1,0,1,0,0] SV)):=
 cy HQ [false,false,true,true,true,true,false,false,false] [[0,0,0,0],[1,2,0,0,0,0,0,7,8,9]] (@xc C) (by kernel_rfl) (bh (bs:=[]) (by kernel_rfl) aw) (fun ds=>by kernel_rfl) (fun i x=>by kernel_rfl) (fun i x β k=>by kernel_rfl) (fun β ds k=>by kernel_rfl)
noncomputable def SY (C:ag) (ah ar:Int) (ae:List V) (w:List UInt8):Option (List V):=
 (C tu [.int .i64 ah,.int .i64 ar,.list aa ae,.int .i64 6]).bind fun r1=>
 bif (((V.nth r1 0).toInt):Int) != 0 then
  some [.int .i64 0,.int .i64 0,.list aa ([]:List V),.int .i64 ((V.nth r1 0).toInt)]
 else
  (C Dr [.str w,.int .i64 6]).bind fun r2=>
  bif !((V.nth r2 0).toBool) then
  some [.int .i64 0,.int .i64 0,.list aa ([]:List V),.int .i64 1]
  else
  (C y7 [.int .i64 ah,.int .i64 ar,.list aa ae]).bind fun r3=>
  (Loop (uo C w (w.length:Int) 0 0 ([]:List V)) (0,(V.nth r3 0).toInt,(V.nth (r3.drop 1) 0).toInt,(V.nth ((r3.drop 1).drop 1) 0).toList)).bind (b6 (un fun (lj:Int)=>un fun (Kh:Int)=>un fun (Ki:Int) (uq:List V)=>
   some [.int .i64 Kh,.int .i64 Ki,.list aa uq,.int .i64 lj]) (un fun (D0:Int)=>un fun (zz:Bool)=>un fun (aeP:Int)=>un fun (aeQ:Int) (aeR:List V)=>
   some [.int .i64 aeP,.int .i64 aeQ,.list aa aeR,.int .i64 0]))
theorem aeS {ah ar:Int} {ae:List V} {w:List UInt8} {r:Option (List V)} (h:SY CC ah ar ae w=r):CC vJ [.int .i64 ah,.int .i64 ar,.list aa ae,.str w]=r:=
 ba (key:=28) (L:=SW CC) (bs:=[.loop (ax [1,1,1,1,0,1,0,0] SV)]) (by kernel_rfl) (bH (aeO CC) aw) (aX (by kernel_rfl) h)
end Go.AM
set_option maxRecDepth 100000
namespace Go.AM
open Go.Proofs Ex
def xd (w:List UInt8) (e:Ex):Ex × Int:=match jY w e with|some x=>(x,0)|none=>(bc,3)
def sb (e:Ex) (w:List UInt8):Ex × Int:=if e.val 6=0 then (if nj w 6 then xd w (aM e) else (bc,1)) else (bc,e.val 6)
theorem aeT {e:Ex} {c:Nat}:sa (aM (bY c e))=match kH e c with|some d=>(d,0)|none=>(bc,3):=by
 unfold sa kH
 split<;>rfl
theorem Kj {e:Ex} (h:Nv e):e.Ok:=rL (by omega) e h.1.2 (by have:=oa h.2;omega)
theorem SZ {e:Ex} (h:e.val 6=0):Nv (aM e):=⟨ma e (oa h).2.2,J9 h⟩
theorem aeU {w:List UInt8} (hw: ∀i,i<w.length→0≤db w i∧db w i<6) {pre:List UInt8} {b:UInt8} {aH:List UInt8} (e:w=pre++b::aH):w.getD pre.length 0=b∧97≤b.toNat∧db w pre.length=((b.toNat-97:Nat):Int):=by
 have h1:w.getD pre.length 0=b:=by rw[e,hY];simp
 have U:=hw pre.length (by rw[e];simp)
 unfold db at*
 rw[h1] at U⊢
 exact ⟨rfl,by omega,by omega⟩
theorem aeV {w:List UInt8} (hw: ∀i,i<w.length→0≤db w i∧db w i<6) {pre:List UInt8} {b:UInt8} {aH:List UInt8} (e:w=pre++b::aH):IntKind.wrap .i64 (IntKind.wrap .u8 (((w.getD pre.length 0).toNat:Int)-97))=((b.toNat-97:Nat):Int):=by
 have h1:=aeU hw e
 have U:=hw pre.length (by rw[e];simp)
 rw[Kb U.1,wrap64 (by omega) (by omega),h1.2.2]
section
variable {w:List UInt8} (hl:w.length≤2048) (hw: ∀i,i<w.length→0≤db w i∧db w i<6)
include hl hw
theorem aeW {a b:Int} {l:List V}: ∀(aH pre:List UInt8) (x:Ex),w=pre++aH→Nv x→
  (∀y,jY aH x=some y→Loop (uo CC w (w.length:Int) a b l) (((pre.length:Nat):Int),x.op,x.cp,x.kids.map enc)=some (.inr ((w.length:Int),false,y.op,y.cp,y.kids.map enc)))
  ∧(jY aH x=none→Loop (uo CC w (w.length:Int) a b l) (((pre.length:Nat):Int),x.op,x.cp,x.kids.map enc)=some (.inl (3,0,0,[]))):=by
 intro aH
 induction aH with
 | nil=>
  intro pre x e hx
  rw[dA] at e
  subst e
  refine ⟨fun y hy=> ?_,fun hy=>by simp[jY] at hy⟩
  cases hy
  refine bd ?_
  simp only[uo,xc,un]
  rw[aB,ai (by omega),cS (by omega)]
 | cons c aH eV=>
  intro pre x e hx
  have bL:pre.length<w.length:=by rw[e];simp
  have hs:=aeV hw e
  have hb:=SU hx ((c.toNat-97:Nat):Int)
  rw[aeT] at hb
  rw[jY]
  cases bM:kH x (c.toNat-97) with
  | none=>
   rw[bM] at hb
   refine ⟨fun y hy=>(by cases hy),fun _=>bd ?_⟩
   simp only[uo,xc,un]
   refine bT (uj bL) (bs (E4 bL) ?_)
   rw[V.toInt_int,hs]
   refine bs hb ?_
   rfl
  | some d=>
   rw[bM] at hb
   obtain ⟨i1,i2⟩:=eV (pre++[c]) d (by simp[e]) (E1 hx bM).1
   have dG:uo CC w (w.length:Int) a b l (((pre.length:Nat):Int),x.op,x.cp,x.kids.map enc)=some (.inl ((((pre++[c]).length:Nat):Int),d.op,d.cp,d.kids.map enc)):=by
    simp only[uo,xc,un]
    refine bT (uj bL) (bs (E4 bL) ?_)
    rw[V.toInt_int,hs]
    refine bs hb ?_
    refine bF rfl ?_
    rw[oo (by omega),ca]
    rfl
   exact ⟨fun y hy=>(bU dG).trans (i1 y hy),fun hy=>(bU dG).trans (i2 hy)⟩
end
theorem Kk (e:Ex) (h:e.Ok) (w:List UInt8):CC vJ (bK e [.str w])=some (Kg (sb e w)):=by
 refine aeS ?_
 unfold SY sb
 refine bs (D1 e h 6) ?_
 by_cases hv:e.val 6=0
 ·rw[aj hv]
  refine bF (by simp[hv]) (bs (aeH w 6) ?_)
  by_cases hw:nj w 6
  ·rw[aj hw]
   refine bF (by simp[hw]) ?_
   have hn:=R5 e h
   rw[aj hv] at hn
   refine bs hn ?_
   obtain ⟨l1,l2⟩:=aeW hw.2.2.1 hw.2.2.2 (a:=0) (b:=0) (l:=[]) w [] (aM e) rfl (SZ hv)
   unfold xd
   cases hg:jY w (aM e) with
   | none=>exact bs (l2 hg) rfl
   | some y=>exact bs (l1 y hg) rfl
  ·rw[ai hw]
   exact bT (by simp[hw]) rfl
 ·rw[ai hv]
  refine bT (by simp[hv]) rfl
end Go.AM
set_option maxRecDepth 100000
namespace Go.AM
open Go.Proofs
noncomputable def S0 (C:ag) (fX fY:Int) (gG:List V) (fZ ga:Int) (gH:List V):Option (List V):=
 (C vN [.int .i64 fX,.int .i64 fY,.list aa gG,.int .i64 fZ,.int .i64 ga,.list aa gH]).bind fun r1=>
 some [.bool ((((V.nth r1 0).toInt):Int)==0)]
theorem aeX {fX fY:Int} {gG:List V} {fZ ga:Int} {gH:List V} {r:Option (List V)} (h:S0 CC fX fY gG fZ ga gH=r):CC y6 [.int .i64 fX,.int .i64 fY,.list aa gG,.int .i64 fZ,.int .i64 ga,.list aa gH]=r:=
 ba (key:=27) (L:=cb) (bs:=[]) (by kernel_rfl) aw (aX (by kernel_rfl) h)
end Go.AM
set_option maxRecDepth 100000
namespace Go.AM
open Go.Proofs Ex
theorem aeY (a:Ex) (ha:a.Ok) (b:Ex) (hb:b.Ok):CC y6 (bK a (bK b []))=some [.bool (decide (cmp a b=0))]:=by
 refine aeX ?_
 unfold S0
 refine (congrArg (fun o=>Option.bind o _) (aaE a ha b hb)).trans ?_
 simp only[Option.bind_some,V.aU,V.toInt_int]
 congr 3
theorem aeZ {a b:Ex} (ha:a.Ok) (hb:b.Ok):CC y6 (bK a (bK b []))=some [.bool (decide (a=b))]:=by
 rw[aeY a ha b hb]
 refine congrArg (fun x=>some [V.bool x]) ?_
 rw[uy];exact PO
end Go.AM
set_option maxRecDepth 100000
namespace Go.AM
open Go.Proofs
noncomputable def S3 (C:ag) (ah ar:Int) (ae:List V) (cB:Int):Option (List V):=
 (C Dk [.int .i64 ah,.int .i64 ar,.list aa ae]).bind fun r1=>
 bif (V.nth r1 0).toBool then
  (C Dg [.int .i64 ah,.int .i64 ar,.list aa ae]).bind fun r2=>
  some [.bool (decide ((((V.nth r2 0).toInt):Int)≤cB))]
 else
  some [.bool false]
theorem ae0 {ah ar:Int} {ae:List V} {cB:Int} {r:Option (List V)} (h:S3 CC ah ar ae cB=r):CC Di [.int .i64 ah,.int .i64 ar,.list aa ae,.int .i64 cB]=r:=
 ba (key:=17) (L:=cb) (bs:=[]) (by kernel_rfl) aw (aX (by kernel_rfl) h)
end Go.AM
set_option maxRecDepth 100000
namespace Go.AM
open Go.Proofs Ex
theorem ae1 (e:Ex) (h:e.Ok) (m:Int):CC Di (bK e [.int .i64 m])=some [.bool (decide (e.val 6=0∧(e.size:Int)≤m))]:=by
 refine ae0 ?_
 unfold S3
 refine bs (aa4 e h) ?_
 by_cases hv:e.val 6=0
 ·refine bT (eg hv) (bs (aa9 e h (oa hv).2.1) ?_)
  rw[V.aU,V.toInt_int]
  refine congrArg (fun b=>some [V.bool b]) ?_
  rw[uy]
  exact ⟨fun x=>⟨hv,x⟩,fun x=>x.2⟩
 ·refine bF (cS hv) ?_
  rw[cS fun x=>hv x.1]
theorem Kl: ∀(w:List UInt8) (e x:Ex),Nv e→jY w e=some x→Nv x
 | [],e,x,he,h=>by cases h;exact he
 | b::w,e,x,he,h=>by
  rw[jY] at h
  cases hs:kH e (b.toNat-97) with
  | none=>rw[hs] at h;cases h
  | some d=>rw[hs] at h;exact Kl w d x (E1 he hs).1 h
theorem ae2 {w v:List UInt8} {L:Int} (h:nj (w++v) L):nj w L∧nj v L:=by
 obtain ⟨h1,U,h3,h4⟩:=h
 rw[ca] at h3 h4
 refine ⟨⟨h1,U,by omega,fun i hi=> ?_⟩,⟨h1,U,by omega,fun i hi=> ?_⟩⟩
 ·have:=h4 i (by omega)
  unfold db at*
  rwa [AJ hi] at this
 ·have:=h4 (w.length+i) (by omega)
  unfold db at*
  rwa [hY,gN (by omega),Nat.add_sub_cancel_left,←hY] at this
def fD (op:Int):Int:=if op=4 then 1 else if op=6 then 2 else if op=5 then 3 else if op=8 then 4 else if op=7 then 5 else 6
def eh (op least:Int) (t:List UInt8):List UInt8:=if fD op<least then 40::(t++[41]) else t
mutual
def Ex.text:Ex→List UInt8
 | .node o l ks=>
  if o=1 then [48] else if o=2 then [49] else if o=3 then [UInt8.ofNat (97+l).toNat]
  else if o=8 then 33::texts [] 4 true ks else if o=7 then texts [] 5 true ks++[42]
  else if o=4 then texts [124] 2 true ks else if o=6 then texts [38] 3 true ks else texts [] 4 true ks
def Ex.texts (sep:List UInt8) (least:Int) (first:Bool):List Ex→List UInt8
 | []=>[]
 | k::ks=>(if first then [] else sep)++(eh k.op least (text k)++texts sep least false ks)
end
theorem ae3 (op least:Int) (t:List UInt8):(eh op least t).length≤t.length+2:=by
 unfold eh;split<;>simp
theorem S4 (sep:List UInt8) (hs:sep.length≤1) (least:Int): ∀(ks:List Ex) (f:Bool),(∀k∈ks,k.text.length+3≤4*k.size)→(texts sep least f ks).length≤4*aL ks
 | [],f,_=>by simp[texts]
 | k::ks,f,h=>by
  have h1:=h k (by simp)
  have U:=S4 sep hs least ks false fun k hk=>h k (by simp[hk])
  have h3:=ae3 k.op least k.text
  simp only[texts,ca,aL]
  cases f<;>simp<;>omega
theorem S5: ∀e:Ex,e.text.length+3≤4*e.size:=ind fun o l ks ih=>by
 have h:=fun sep hs least=>S4 sep hs least ks true ih
 have h1:=h [] (by simp) 4
 have U:=h [] (by simp) 5
 have h3:=h [124] (by simp) 2
 have h4:=h [38] (by simp) 3
 simp only[text,size]
 repeat' split
 all_goals simp
 all_goals omega
def TX (m:Int) (k:Ex):List UInt8:=eh k.op m k.text
def mb (o:Int) (e:Ex):List Ex:=if e.op=o then e.kids else [e]
theorem AO (sep:List UInt8) (m:Int) (k:Ex) (ks:List Ex):texts sep m false (k::ks)=sep++(TX m k++texts sep m false ks):=by simp[texts,TX]
theorem AP (sep:List UInt8) (m:Int) (k:Ex) (ks:List Ex):texts sep m true (k::ks)=TX m k++texts sep m false ks:=by simp[texts,TX]
theorem S6 (e:Ex):TX 1 e=texts [124] 2 true (mb 4 e):=by
 obtain ⟨o,l,ks⟩:=e
 unfold mb TX
 by_cases h:o=4
 ·subst h;simp[Ex.op,Ex.kids,fD,text,eh]
 ·have hl:2≤fD o:=by
   unfold fD
   repeat' split
   all_goals omega
  rw[ai (show¬(Ex.node o l ks).op=4 from h),AP]
  show eh o 1 _=eh o 2 _++[]
  rw[dA]
  unfold eh
  by_cases U:fD o<1
  ·rw[aj U,aj (by omega)]
  ·rw[ai U,ai (by omega)]
theorem S7 (e:Ex):TX 2 e=texts [38] 3 true (mb 6 e):=by
 obtain ⟨o,l,ks⟩:=e
 unfold mb TX
 by_cases h:o=6
 ·subst h;simp[Ex.op,Ex.kids,fD,text,eh]
 ·have hl:fD o≠2:=by
   unfold fD
   repeat' split
   all_goals omega
  rw[ai (show¬(Ex.node o l ks).op=6 from h),AP]
  show eh o 2 _=eh o 3 _++[]
  rw[dA]
  unfold eh
  by_cases U:fD o<2
  ·rw[aj U,aj (by omega)]
  ·rw[ai U,ai (by omega)]
theorem S8 (e:Ex):TX 3 e=texts [] 4 true (mb 5 e):=by
 obtain ⟨o,l,ks⟩:=e
 unfold mb TX
 by_cases h:o=5
 ·subst h;simp[Ex.op,Ex.kids,fD,text,eh]
 ·have hl:fD o≠3:=by
   unfold fD
   repeat' split
   all_goals omega
  rw[ai (show¬(Ex.node o l ks).op=5 from h),AP]
  show eh o 3 _=eh o 4 _++[]
  rw[dA]
  unfold eh
  by_cases U:fD o<3
  ·rw[aj U,aj (by omega)]
  ·rw[ai U,ai (by omega)]
theorem AQ (l:Int) (k:Ex):TX 4 (.node 8 l [k])=33::TX 4 k:=by
 simp[TX,eh,Ex.op,fD,text,texts]
theorem AR {e:Ex} (h:e.op≠8):TX 4 e=TX 5 e:=by
 unfold TX eh fD
 repeat' split
 all_goals first|rfl|omega
theorem ae4 (l:Int) (k:Ex):TX 5 (.node 7 l [k])=TX 5 k++[42]:=by
 simp[TX,eh,Ex.op,fD,text,texts]
theorem ae5 {e:Ex} (h:e.op≠7):TX 5 e=TX 6 e:=by
 unfold TX eh fD
 repeat' split
 all_goals first|rfl|omega
theorem ph {e:Ex} (h:4≤e.op∧e.op≤8):TX 6 e=40::(TX 1 e++[41]):=by
 unfold TX eh fD
 repeat' split
 all_goals first|rfl|omega
theorem Km {e:Ex} (h:e.wf 6=true):(e= .node 1 0 []∨e= .node 2 0 []∨(∃l:Int,0≤l∧l<6∧e= .node 3 l []))∨(4≤e.op∧e.op≤8):=by
 obtain ⟨o,l,ks⟩:=e
 obtain ⟨h1,U⟩:=hG h
 simp only[Ex.op]
 rcases eH h1 with ⟨rfl,h,h3,h4⟩|⟨rfl,⟨rfl,h⟩|⟨rfl,h⟩|⟨rfl,h⟩|⟨rfl,h⟩|⟨rfl,h⟩|⟨rfl,h⟩|⟨rfl,h⟩⟩
 ·obtain rfl:=pt.1 (show ks.length=0 by omega)
  exact .inl (.inr (.inr ⟨l,h3,h4,rfl⟩))
 ·obtain rfl:=pt.1 (show ks.length=0 by omega)
  exact .inl (.inl rfl)
 ·obtain rfl:=pt.1 (show ks.length=0 by omega)
  exact .inl (.inr (.inl rfl))
 all_goals exact .inr (by omega)
def AS (c:UInt8):Prop:=c=48∨c=49∨c=40∨c=97∨c=98∨c=99∨c=100∨c=101∨c=102
theorem qE {l:Int} (h0:0≤l) (h1:l<6):UInt8.ofNat (97+l).toNat=97∧l=0∨UInt8.ofNat (97+l).toNat=98∧l=1∨UInt8.ofNat (97+l).toNat=99∧l=2∨UInt8.ofNat (97+l).toNat=100∧l=3∨UInt8.ofNat (97+l).toNat=101∧l=4∨UInt8.ofNat (97+l).toNat=102∧l=5:=by
 rcases (show l=0∨l=1∨l=2∨l=3∨l=4∨l=5 by omega) with rfl|rfl|rfl|rfl|rfl|rfl<;>decide
theorem ae6 {e:Ex} (h:e.wf 6=true): ∃c t,TX 6 e=c::t∧AS c:=by
 rcases Km h with (rfl|rfl|⟨l,h0,h1,rfl⟩)|h
 ·exact ⟨48,[],rfl,.inl rfl⟩
 ·exact ⟨49,[],rfl,.inr (.inl rfl)⟩
 ·refine ⟨UInt8.ofNat (97+l).toNat,[],by simp[TX,eh,fD,Ex.op,text],?_⟩
  unfold AS
  rcases qE h0 h1 with h|h|h|h|h|h<;>simp[h.1]
 ·exact ⟨40,_,ph h,.inr (.inr (.inl rfl))⟩
theorem AT {o l:Int} {ks:List Ex} (h:(Ex.node o l ks).wf 6=true) (ho:o=7∨o=8): ∃k,ks=[k]∧k.wf 6=true∧l=0:=by
 obtain ⟨h1,U⟩:=hG h
 rcases eH h1 with h|⟨h0,h⟩
 ·omega
 ·obtain ⟨k,rfl⟩:=xy.1 (show ks.length=1 by omega)
  exact ⟨k,rfl,U k (by simp),h0⟩
def Kn (e:Ex):Nat→Ex
 | 0=>e
 | n+1=> .node 7 0 [Kn e n]
theorem Ko: ∀e:Ex,e.wf 6=true→∃(b:Ex) (n:Nat),e=Kn b n∧b.op≠7∧b.wf 6=true∧TX 5 e=TX 6 b++List.replicate n 42:=ind fun o l ks ih h=>by
 by_cases ho:o=7
 ·subst ho
  obtain ⟨k,rfl,hk,rfl⟩:=AT h (.inl rfl)
  obtain ⟨b,n,h1,U,h3,h4⟩:=ih k (by simp) hk
  exact ⟨b,n+1,by rw[h1];rfl,U,h3,by rw[ae4,h4,List.replicate_succ',cd]⟩
 ·exact ⟨.node o l ks,0,rfl,ho,h,by rw[ae5 (show (Ex.node o l ks).op≠7 from ho)];simp⟩
theorem Kp {e:Ex} (h:e.wf 6=true): ∃c t,TX 5 e=c::t∧AS c:=by
 obtain ⟨b,n,_,_,h3,h4⟩:=Ko e h
 obtain ⟨c,t,h5,h6⟩:=ae6 h3
 exact ⟨c,t++List.replicate n 42,by rw[h4,h5];rfl,h6⟩
theorem ae7 {e:Ex} (h:e.wf 6=true): ∃c t,TX 4 e=c::t∧(c=33∨AS c):=by
 by_cases ho:e.op=8
 ·obtain ⟨o,l,ks⟩:=e
  obtain rfl:o=8:=ho
  obtain ⟨k,rfl,_⟩:=AT h (.inr rfl)
  exact ⟨33,TX 4 k,AQ _ _,.inl rfl⟩
 ·obtain ⟨c,t,h1,U⟩:=Kp h
  exact ⟨c,t,by rw[AR ho,h1],.inr U⟩
def gh (m:Int) (c:UInt8):Prop:=if m=1 then c=41 else if m=2 then c=41∨c=124 else if m=3 then c=41∨c=124∨c=38 else if m=6 then True else c≠42
def fo (m:Int) (r:List UInt8):Prop:= ∀c t,r=c::t→gh m c
theorem S9 {m:Int}:fo m []:=fun c t h=>by cases h
theorem Kq {m:Int} {c:UInt8} {t:List UInt8} (h:gh m c):fo m (c::t):=fun c' t' e=>by cases e;exact h
def jw (m:Int) (e:Ex):Prop:= ∀(e':Ex) (r r':List UInt8),e'.wf 6=true→fo m r→fo m r'→TX m e++r=TX m e'++r'→e=e'∧r=r'
theorem AU {o:Int} {e:Ex} (h:e.wf 6=true): ∀x∈mb o e,x.wf 6=true:=fun x hx=>by
 unfold mb at hx
 split at hx
 ·obtain ⟨o,l,ks⟩:=e
  exact (hG h).2 x hx
 ·rw[dX.1 hx];exact h
theorem Ta {o:Int} {e:Ex} (ho:4≤o∧o≤6) (h:e.wf 6=true): ∃x xs,mb o e=x::xs:=by
 unfold mb
 split
 ·next kU=>
  obtain ⟨o,l,ks⟩:=e
  obtain ⟨h1,U⟩:=hG h
  simp only[Ex.op] at kU
  match ks,h1 with
  | [],h1=>rcases eH h1 with h|⟨_,h⟩<;>simp at h<;>omega
  | x::xs,_=>exact ⟨x,xs,rfl⟩
 ·exact ⟨e,[],rfl⟩
theorem ae8 {o:Int} {e e':Ex} (ho:4≤o∧o≤6) (h:e.wf 6=true) (h':e'.wf 6=true) (he:mb o e=mb o e'):e=e':=by
 have hl: ∀{x:Ex},x.wf 6=true→x.op=o→x.cp=0∧2≤x.kids.length:=fun {x} hx Hg=>by
  obtain ⟨o,l,ks⟩:=x
  obtain ⟨h1,U⟩:=hG hx
  simp only[Ex.op,Ex.cp,Ex.kids] at*
  rcases eH h1 with h|⟨_,h⟩<;>omega
 unfold mb at he
 by_cases h1:e.op=o
 ·obtain ⟨a1,a2⟩:=hl h h1
  rw[aj h1] at he
  by_cases U:e'.op=o
  ·obtain ⟨b1,b2⟩:=hl h' U
   rw[aj U] at he
   obtain ⟨o1,l1,k1⟩:=e
   obtain ⟨o2,l2,k2⟩:=e'
   simp only[Ex.op,Ex.cp,Ex.kids] at*
   subst he h1 U a1 b1
   rfl
  ·rw[ai U] at he
   rw[he] at a2
   simp at a2
 ·rw[ai h1] at he
  by_cases U:e'.op=o
  ·obtain ⟨b1,b2⟩:=hl h' U
   rw[aj U] at he
   rw[←he] at b2
   simp at b2
  ·rw[ai U] at he
   exact (fP he).1
section
variable {sep:List UInt8} {m:Int} (hh: ∀y:Ex,y.wf 6=true→∃c t,sep++TX m y=c::t∧gh m c∧¬gh (m-1) c) (hf: ∀c,gh (m-1) c→gh m c)
include hh hf
theorem E5 {ys:List Ex} {r:List UInt8} (hy: ∀y∈ys,y.wf 6=true) (hr:fo (m-1) r):fo m (texts sep m false ys++r):=by
 cases ys with
 | nil=>exact fun c t e=>hf c (hr c t e)
 | cons y ys=>
  obtain ⟨c,t,h1,U,h3⟩:=hh y (hy y (by simp))
  rw[AO,←cd sep,h1]
  exact Kq U
theorem Tb: ∀(xs ys:List Ex) (r r':List UInt8),(∀x∈xs,x.wf 6=true∧jw m x)→(∀y∈ys,y.wf 6=true)→fo (m-1) r→fo (m-1) r'→texts sep m false xs++r=texts sep m false ys++r'→xs=ys∧r=r'
 | [],[],r,r',_,_,_,_,h=>⟨rfl,h⟩
 | [],y::ys,r,r',_,hy,hr,_,h=>by
  obtain ⟨c,t,h1,U,h3⟩:=hh y (hy y (by simp))
  rw[AO,←cd sep,h1] at h
  exact absurd (hr c _ (by simpa[texts] using h)) h3
 | x::xs,[],r,r',hx,_,_,hr,h=>by
  obtain ⟨c,t,h1,U,h3⟩:=hh x (hx x (by simp)).1
  rw[AO,←cd sep,h1] at h
  exact absurd (hr c _ (by simpa[texts] using h.symm)) h3
 | x::xs,y::ys,r,r',hx,hy,hr,gW,h=>by
  rw[AO,AO,cd,cd,cd,cd] at h
  obtain ⟨rfl,U⟩:=(hx x (by simp)).2 y _ _ (hy y (by simp)) (E5 hh hf (fun z hz=>(hx z (by simp[hz])).1) hr) (E5 hh hf (fun z hz=>hy z (by simp[hz])) gW) (List.append_cancel_left h)
  obtain ⟨rfl,h3⟩:=Tb xs ys r r' (fun z hz=>hx z (by simp[hz])) (fun z hz=>hy z (by simp[hz])) hr gW U
  exact ⟨rfl,h3⟩
theorem Kr {o:Int} (ho:4≤o∧o≤6) (ht: ∀e:Ex,TX (m-1) e=texts sep m true (mb o e)) {e:Ex} (he:e.wf 6=true) (ih: ∀x∈mb o e,jw m x):jw (m-1) e:=by
 intro e' r r' gy hr gW h
 rw[ht,ht] at h
 obtain ⟨x,xs,hx⟩:=Ta ho he
 obtain ⟨y,ys,hy⟩:=Ta ho gy
 have wx:=AU (o:=o) he
 have wy:=AU (o:=o) gy
 rw[hx] at wx ih
 rw[hy] at wy
 rw[hx,hy,AP,AP,cd,cd] at h
 obtain ⟨rfl,U⟩:=ih x (by simp) y _ _ (wy y (by simp)) (E5 hh hf (fun z hz=>wx z (by simp[hz])) hr) (E5 hh hf (fun z hz=>wy z (by simp[hz])) gW) h
 obtain ⟨rfl,h3⟩:=Tb hh hf xs ys r r' (fun z hz=>⟨wx z (by simp[hz]),ih z (by simp[hz])⟩) (fun z hz=>wy z (by simp[hz])) hr gW U
 exact ⟨ae8 ho he gy (by rw[hx,hy]),h3⟩
end
theorem Ks {c:UInt8} (h:AS c):c≠33∧c≠41∧c≠42∧c≠124∧c≠38:=by
 rcases h with rfl|rfl|rfl|rfl|rfl|rfl|rfl|rfl|rfl<;>decide
theorem ae9 {e:Ex} (he:e.wf 6=true) (ih: ∀x∈mb 4 e,jw 2 x):jw 1 e:=
 Kr (sep:=[124]) (m:=2) (fun y _=>⟨124,_,rfl,by simp[gh],by simp[gh]⟩) (fun c h=>by simp[gh] at h⊢;exact .inl h) (o:=4) (by omega) S6 he ih
theorem sj {e:Ex} (he:e.wf 6=true) (ih: ∀x∈mb 6 e,jw 3 x):jw 2 e:=
 Kr (sep:=[38]) (m:=3) (fun y _=>⟨38,_,rfl,by simp[gh],by simp[gh]⟩) (fun c h=>by simp[gh] at h⊢;rcases h with h|h<;>simp[h]) (o:=6) (by omega) S7 he ih
theorem afa {e:Ex} (he:e.wf 6=true) (ih: ∀x∈mb 5 e,jw 4 x):jw 3 e:=
 Kr (sep:=[]) (m:=4) (fun y hy=>by
  obtain ⟨c,t,h1,U⟩:=ae7 hy
  refine ⟨c,t,h1,?_⟩
  rcases U with rfl|U
  ·simp[gh]
  ·have:=Ks U
   simp[gh,this]) (fun c h=>by simp[gh] at h⊢;rcases h with rfl|rfl|rfl<;>decide) (o:=5) (by omega) S8 he ih
theorem afb {e:Ex} (he:e.wf 6=true) (ih8: ∀k,e= .node 8 0 [k]→jw 4 k) (ih:e.op≠8→jw 5 e):jw 4 e:=by
 intro e' r r' gy hr gW h
 by_cases h1:e.op=8
 ·obtain ⟨o,l,ks⟩:=e
  obtain rfl:o=8:=h1
  obtain ⟨k,rfl,hk,rfl⟩:=AT he (.inr rfl)
  rw[AQ] at h
  by_cases U:e'.op=8
  ·obtain ⟨o',l',bD⟩:=e'
   obtain rfl:o'=8:=U
   obtain ⟨k',rfl,cT,rfl⟩:=AT gy (.inr rfl)
   rw[AQ] at h
   obtain ⟨rfl,h3⟩:=ih8 k rfl k' r r' cT hr gW (fP h).2
   exact ⟨rfl,h3⟩
  ·rw[AR U] at h
   obtain ⟨c,t,h3,h4⟩:=Kp gy
   rw[h3] at h
   exact absurd (fP h).1.symm (Ks h4).1
 ·rw[AR h1] at h
  by_cases U:e'.op=8
  ·obtain ⟨o',l',bD⟩:=e'
   obtain rfl:o'=8:=U
   obtain ⟨k',rfl,cT,rfl⟩:=AT gy (.inr rfl)
   rw[AQ] at h
   obtain ⟨c,t,h3,h4⟩:=Kp he
   rw[h3] at h
   exact absurd (fP h).1 (Ks h4).1
  ·rw[AR U] at h
   exact ih h1 e' r r' gy (by simpa[fo,gh] using hr) (by simpa[fo,gh] using gW) h
theorem Tc {r r':List UInt8} (hr:fo 5 r) (gW:fo 5 r'): ∀{n n':Nat},List.replicate n 42++r=List.replicate n' 42++r'→n=n'∧r=r'
 | 0,0,h=>⟨rfl,h⟩
 | 0,n+1,h=>by
  have:=hr 42 (List.replicate n 42++r') (by simpa[List.replicate_succ] using h)
  simp[gh] at this
 | n+1,0,h=>by
  have:=gW 42 (List.replicate n 42++r) (by simpa[List.replicate_succ] using h.symm)
  simp[gh] at this
 | n+1,n'+1,h=>by
  rw[List.replicate_succ,List.replicate_succ] at h
  obtain ⟨rfl,U⟩:=Tc hr gW (fP h).2
  exact ⟨rfl,U⟩
theorem Td (r:List UInt8):fo 6 r:=fun c t _=>by simp[gh]
theorem afc {b:Ex} {n:Nat} {e:Ex} (h1:e=Kn b n) (U:TX 5 e=TX 6 b++List.replicate n 42) (ih:jw 6 b):jw 5 e:=by
 intro e' r r' gy hr gW h
 obtain ⟨b',n',e1,e2,e3,e4⟩:=Ko e' gy
 rw[U,e4,cd,cd] at h
 obtain ⟨rfl,h3⟩:=ih b' _ _ e3 (Td _) (Td _) h
 obtain ⟨rfl,h4⟩:=Tc hr gW h3
 exact ⟨by rw[h1,e1],h4⟩
theorem afd {e:Ex} (he:e.wf 6=true) (ih:4≤e.op∧e.op≤8→jw 1 e):jw 6 e:=by
 intro e' r r' gy hr gW h
 have hl: ∀l:Int,TX 6 (.node 3 l [])=[UInt8.ofNat (97+l).toNat]:=fun l=>by simp[TX,eh,fD,Ex.op,text]
 have t1:TX 6 (.node 1 0 [])=[48]:=rfl
 have t2:TX 6 (.node 2 0 [])=[49]:=rfl
 rcases Km he with (rfl|rfl|⟨l,h0,h1,rfl⟩)|ho<;>rcases Km gy with (rfl|rfl|⟨l',vg,e8,rfl⟩)|iO
 ·exact ⟨rfl,List.append_cancel_left h⟩
 ·rw[t1,t2] at h;cases (fP h).1
 ·rw[t1,hl] at h
  have:=(fP h).1
  rcases qE vg e8 with h|h|h|h|h|h<;>(rw[h.1] at this;cases this)
 ·rw[t1,ph iO] at h;cases (fP h).1
 ·rw[t1,t2] at h;cases (fP h).1
 ·exact ⟨rfl,List.append_cancel_left h⟩
 ·rw[t2,hl] at h
  have:=(fP h).1
  rcases qE vg e8 with h|h|h|h|h|h<;>(rw[h.1] at this;cases this)
 ·rw[t2,ph iO] at h;cases (fP h).1
 ·rw[t1,hl] at h
  have:=(fP h).1
  rcases qE h0 h1 with h|h|h|h|h|h<;>(rw[h.1] at this;cases this)
 ·rw[t2,hl] at h
  have:=(fP h).1
  rcases qE h0 h1 with h|h|h|h|h|h<;>(rw[h.1] at this;cases this)
 ·rw[hl,hl] at h
  obtain ⟨U,h3⟩:=fP h
  refine ⟨?_,h3⟩
  have:l=l':=by
   rcases qE h0 h1 with ⟨a,rfl⟩|⟨a,rfl⟩|⟨a,rfl⟩|⟨a,rfl⟩|⟨a,rfl⟩|⟨a,rfl⟩<;>rcases qE vg e8 with ⟨b,rfl⟩|⟨b,rfl⟩|⟨b,rfl⟩|⟨b,rfl⟩|⟨b,rfl⟩|⟨b,rfl⟩<;>first|rfl|(rw[a,b] at U;cases U)
  rw[this]
 ·rw[hl,ph iO] at h
  have:=(fP h).1
  rcases qE h0 h1 with h|h|h|h|h|h<;>(rw[h.1] at this;cases this)
 ·rw[t1,ph ho] at h;cases (fP h).1
 ·rw[t2,ph ho] at h;cases (fP h).1
 ·rw[hl,ph ho] at h
  have:=(fP h).1
  rcases qE vg e8 with h|h|h|h|h|h<;>(rw[h.1] at this;cases this)
 ·rw[ph ho,ph iO] at h
  have U:(TX 1 e++[41])++r=(TX 1 e'++[41])++r':=(fP h).2
  rw[cd,cd] at U
  obtain ⟨h3,h4⟩:=ih ho e' _ _ gy (Kq (by simp[gh])) (Kq (by simp[gh])) U
  exact ⟨h3,(fP h4).2⟩
theorem E6 {sep:List UInt8} {m:Int}: ∀{xs:List Ex} {f:Bool} {x:Ex},x∈xs→(TX m x).length≤(texts sep m f xs).length
 | y::ys,f,x,h=>by
  simp only[texts,ca]
  rcases cY.1 h with rfl|h
  ·show (eh x.op m x.text).length≤_;omega
  ·have:=E6 (sep:=sep) (m:=m) (f:=false) h
   omega
theorem Te: ∀(n:Nat) (m:Int) (e:Ex),1≤m→m≤6→e.wf 6=true→8*(TX m e).length+(7-m).toNat<n→jw m e
 | 0,m,e,_,_,_,h=>by omega
 | n+1,m,e,h1,h6,he,h=>by
  have ih:=Te n
  rcases (show m=1∨m=2∨m=3∨m=4∨m=5∨m=6 by omega) with rfl|rfl|rfl|rfl|rfl|rfl
  ·refine ae9 he fun x hx=>ih 2 x (by omega) (by omega) (AU he x hx) ?_
   have:=E6 (sep:=[124]) (m:=2) (f:=true) hx
   rw[S6] at h
   omega
  ·refine sj he fun x hx=>ih 3 x (by omega) (by omega) (AU he x hx) ?_
   have:=E6 (sep:=[38]) (m:=3) (f:=true) hx
   rw[S7] at h
   omega
  ·refine afa he fun x hx=>ih 4 x (by omega) (by omega) (AU he x hx) ?_
   have:=E6 (sep:=[]) (m:=4) (f:=true) hx
   rw[S8] at h
   omega
  ·refine afb he (fun k hk=> ?_) fun ho=> ?_
   ·subst hk
    rw[AQ,List.length_cons] at h
    exact ih 4 k (by omega) (by omega) ((hG he).2 k (by simp)) (by omega)
   ·rw[AR ho] at h
    exact ih 5 e (by omega) (by omega) he (by omega)
  ·obtain ⟨b,k,e1,e2,e3,e4⟩:=Ko e he
   refine afc e1 e4 (ih 6 b (by omega) (by omega) e3 ?_)
   rw[e4,ca] at h
   omega
  ·refine afd he fun ho=>ih 1 e (by omega) (by omega) he ?_
   rw[ph ho,List.length_cons,ca] at h
   simp only[List.length_cons,List.length_nil] at h
   omega
theorem Tf (e:Ex):TX 1 e=e.text:=by
 unfold TX eh
 rw[ai]
 unfold fD
 repeat' split
 all_goals omega
theorem Tg {a b:Ex} (ha:a.wf 6=true) (hb:b.wf 6=true) (h:a.text=b.text):a=b:=
 (Te _ 1 a (by omega) (by omega) ha (xk _) b [] [] hb S9 S9 (by rw[Tf,Tf,h])).1
end Go.AM
set_option maxRecDepth 100000
namespace Go.AM
open Go.Proofs
noncomputable def Th (C:ag) (ah ar:Int) (ae:List V):Option (List V):=
 (C za [.int .i64 ah,.int .i64 ar,.list aa ae]).bind fun r1=>
 bif !((V.nth r1 0).toBool) then
  some [.str []]
 else
  (C rA [.int .i64 ah,.int .i64 ar,.list aa ae,.list cM ([]:List V)]).bind fun r2=>
  (C Dt [.list cM ((V.nth r2 0).toList)]).bind fun r3=>
  some [.str ((V.nth r3 0).toStr)]
theorem afe {ah ar:Int} {ae:List V} {r:Option (List V)} (h:Th CC ah ar ae=r):CC vP [.int .i64 ah,.int .i64 ar,.list aa ae]=r:=
 ba (key:=60) (L:=cb) (bs:=[]) (by kernel_rfl) aw (aX (by kernel_rfl) h)
noncomputable abbrev hU:Code:=cK Try.prog (az.aZ 75)
noncomputable def E7 (C:ag) (t5:Int) (t28:Bool) (eG ec:Int) (dv bO:List V) {β:Type} (kr:(List V)→Option β):Option β:=
 bif t28 then
  (C rC [.list aa dv,.str [38],.int .i64 3,.list cM bO]).bind fun r5=>
  kr ((V.nth r5 0).toList)
 else
  bif (t5:Int)==5 then
  (C rC [.list aa dv,.str [],.int .i64 4,.list cM bO]).bind fun r6=>
  kr ((V.nth r6 0).toList)
  else
  bif (t5:Int)==8 then
   (C oY [.int .u8 33,.list cM bO]).bind fun r7=>
   (C rC [.list aa dv,.str [],.int .i64 4,.list cM ((V.nth r7 0).toList)]).bind fun r8=>
   kr ((V.nth r8 0).toList)
  else
   bif (t5:Int)==7 then
   (C rC [.list aa dv,.str [],.int .i64 5,.list cM bO]).bind fun r9=>
   (C oY [.int .u8 42,.list cM ((V.nth r9 0).toList)]).bind fun dW=>
   kr ((V.nth dW 0).toList)
   else
   kr bO
noncomputable def E8 (C:ag) (t5:Int) (t22:Bool) (eG ec:Int) (dv bO:List V) {β:Type} (kr:(List V)→Option β):Option β:=
 bif t22 then
  (C rC [.list aa dv,.str [124],.int .i64 2,.list cM bO]).bind fun r4=>
  kr ((V.nth r4 0).toList)
 else
  E7 C t5 ((t5:Int)==6) eG ec dv bO (fun (ur:List V)=>
   kr ur)
noncomputable def E9 (C:ag) (t5:Int) (t14:Bool) (eG ec:Int) (dv bO:List V) {β:Type} (kr:(List V)→Option β):Option β:=
 bif t14 then
  (C oY [.int .u8 (IntKind.wrap .u8 (97+(IntKind.wrap .u8 ec))),.list cM bO]).bind fun r3=>
  kr ((V.nth r3 0).toList)
 else
  E8 C t5 ((t5:Int)==4) eG ec dv bO (fun (AV:List V)=>
   kr AV)
noncomputable def Fb (C:ag) (t5:Int) (t10:Bool) (eG ec:Int) (dv bO:List V) {β:Type} (kr:(List V)→Option β):Option β:=
 bif t10 then
  (C oY [.int .u8 49,.list cM bO]).bind fun r2=>
  kr ((V.nth r2 0).toList)
 else
  E9 C t5 ((t5:Int)==3) eG ec dv bO (fun (aff:List V)=>
   kr aff)
noncomputable def Fc (C:ag) (t5:Int) (t6:Bool) (eG ec:Int) (dv bO:List V) {β:Type} (kr:(List V)→Option β):Option β:=
 bif t6 then
  (C oY [.int .u8 48,.list cM bO]).bind fun r1=>
  kr ((V.nth r1 0).toList)
 else
  Fb C t5 ((t5:Int)==2) eG ec dv bO (fun (Kt:List V)=>
   kr Kt)
noncomputable def Ti (C:ag):cz:=fun β n ds k=>
 bif Nat.beq n 463 then iB H7 [[0]] (@E7 C) ds k else
 bif Nat.beq n 367 then iB H8 [[0]] (@E8 C) ds k else
 bif Nat.beq n 239 then iB H9 [[0]] (@E9 C) ds k else
 bif Nat.beq n 175 then iB Ia [[0]] (@Fb C) ds k else
 bif Nat.beq n 111 then iB Ib [[0]] (@Fc C) ds k else
 none
abbrev AW (C:ag) (b:cw):Prop:=cx Try.prog az C (Ti C) 75 (cN Try.prog (az.aZ 75)) (az.sin 75).a9.length b
theorem afg (C:ag):AW C (.cond 28 (ax [1,1,0,1,1,1,1,1,1,1,1,1,0] hU) (ax [1,1,0,1,1,1,1,1,1,1,1,1,1] hU)):=
 iT H7 [[0]] (@E7 C) (by kernel_rfl) (bh (bs:=[]) (by kernel_rfl) aw) (bh (bs:=[]) (by kernel_rfl) aw) (fun ds=>by kernel_rfl) (fun i β k=>by kernel_rfl) (fun β ds k=>by kernel_rfl)
theorem afh (C:ag):AW C (.cond 22 (ax [1,1,0,1,1,1,1,1,1,1,0] hU) (ax [1,1,0,1,1,1,1,1,1,1,1] hU)):=
 iT H8 [[0]] (@E8 C) (by kernel_rfl) (bh (bs:=[]) (by kernel_rfl) aw) (bh (bs:=[.cond 28 (ax [1,1,0,1,1,1,1,1,1,1,1,1,0] hU) (ax [1,1,0,1,1,1,1,1,1,1,1,1,1] hU)]) (by kernel_rfl) (bH (afg C) aw)) (fun ds=>by kernel_rfl) (fun i β k=>by kernel_rfl) (fun β ds k=>by kernel_rfl)
theorem afi (C:ag):AW C (.cond 14 (ax [1,1,0,1,1,1,1,1,0] hU) (ax [1,1,0,1,1,1,1,1,1] hU)):=
 iT H9 [[0]] (@E9 C) (by kernel_rfl) (bh (bs:=[]) (by kernel_rfl) aw) (bh (bs:=[.cond 22 (ax [1,1,0,1,1,1,1,1,1,1,0] hU) (ax [1,1,0,1,1,1,1,1,1,1,1] hU)]) (by kernel_rfl) (bH (afh C) aw)) (fun ds=>by kernel_rfl) (fun i β k=>by kernel_rfl) (fun β ds k=>by kernel_rfl)
theorem afj (C:ag):AW C (.cond 10 (ax [1,1,0,1,1,1,0] hU) (ax [1,1,0,1,1,1,1] hU)):=
 iT Ia [[0]] (@Fb C) (by kernel_rfl) (bh (bs:=[]) (by kernel_rfl) aw) (bh (bs:=[.cond 14 (ax [1,1,0,1,1,1,1,1,0] hU) (ax [1,1,0,1,1,1,1,1,1] hU)]) (by kernel_rfl) (bH (afi C) aw)) (fun ds=>by kernel_rfl) (fun i β k=>by kernel_rfl) (fun β ds k=>by kernel_rfl)
theorem afk (C:ag):AW C (.cond 6 (ax [1,1,0,1,0] hU) (ax [1,1,0,1,1] hU)):=
 iT Ib [[0]] (@Fc C) (by kernel_rfl) (bh (bs:=[]) (by kernel_rfl) aw) (bh (bs:=[.cond 10 (ax [1,1,0,1,1,1,0] hU) (ax [1,1,0,1,1,1,1] hU)]) (by kernel_rfl) (bH (afj C) aw)) (fun ds=>by kernel_rfl) (fun i β k=>by kernel_rfl) (fun β ds k=>by kernel_rfl)
noncomputable def Tj (C:ag) (ah ar:Int) (ae bI:List V):Option (List V):=
 Fc C ah ((ah:Int)==1) ah ar ae bI (fun (Ku:List V)=>
  some [.list cM Ku])
theorem afl {ah ar:Int} {ae bI:List V} {r:Option (List V)} (h:Tj CC ah ar ae bI=r):CC rA [.int .i64 ah,.int .i64 ar,.list aa ae,.list cM bI]=r:=
 ba (key:=75) (L:=Ti CC) (bs:=[.cond 6 (ax [1,1,0,1,0] hU) (ax [1,1,0,1,1] hU)]) (by kernel_rfl) (bH (afk CC) aw) (aX (by kernel_rfl) h)
noncomputable abbrev xe:Code:=cK Try.prog (az.aZ 91)
noncomputable def AX (C:ag) (separator:List UInt8) (least:Int) (t10:List V) (t11 t12:Int) (t18:Bool) (ahL ahM:Int) (ahN bO:List V) {β:Type} (kr:(List V)→Option β):Option β:=
 bif t18 then
  (C Dz [.str separator,.list cM bO]).bind fun r2=>
  kr ((V.nth (r2.drop 1) 0).toList)
 else
  kr bO
noncomputable def AY (C:ag) (separator:List UInt8) (least:Int) (t10:List V) (t11 t12:Int) (ef:List V) {β:Type} (kn:(Int × (List V))→Option β) (kr:(Int × Bool × (List V))→Option β):Option β:=
 bif decide ((t12:Int)<t11) then
  (idx t10 t12).bind fun x1=>
  AX C separator least t10 t11 t12 (decide ((t12:Int)>0)) ((x1.cell 0).toInt) ((x1.cell 1).toInt) ((x1.cell 2).toList) ef (fun (EV:List V)=>
   (C DA [.int .i64 ((x1.cell 0).toInt)]).bind fun r4=>
   bif decide ((((V.nth r4 0).toInt):Int)≥least) then
   (C rA [.int .i64 ((x1.cell 0).toInt),.int .i64 ((x1.cell 1).toInt),.list aa ((x1.cell 2).toList),.list cM EV]).bind fun r5=>
   kn (IntKind.wrap .i64 (t12+1),(V.nth r5 0).toList)
   else
   (C oY [.int .u8 40,.list cM EV]).bind fun r6=>
   (C rA [.int .i64 ((x1.cell 0).toInt),.int .i64 ((x1.cell 1).toInt),.list aa ((x1.cell 2).toList),.list cM ((V.nth r6 0).toList)]).bind fun r7=>
   (C oY [.int .u8 41,.list cM ((V.nth r7 0).toList)]).bind fun r8=>
   kn (IntKind.wrap .i64 (t12+1),(V.nth r8 0).toList))
 else
  kr (t12,decide ((t12:Int)<t11),ef)
noncomputable def AZ (C:ag) (separator:List UInt8) (least:Int) (t10:List V) (t11:Int):(Int × (List V))→Option ((Int × (List V)) ⊕ (Int × Bool × (List V))):=un fun t12 ef=>AY C separator least t10 t11 t12 ef (fun y=>some (.inl y)) (fun r=>some (.inr r))
noncomputable def Tk (C:ag):cz:=fun β n ds k=>
 bif Nat.beq n 303 then iB Ie [[1,2,3,4,5,7,8,9,0]] (@AX C) ds k else
 bif Nat.beq n 17 then cl Ig [false,false,false,false,true,true] [[1,2,3,4,0,0,0]] (@AY C) ds k else
 none
abbrev Tl (C:ag) (b:cw):Prop:=cx Try.prog az C (Tk C) 91 (cN Try.prog (az.aZ 91)) (az.sin 91).a9.length b
theorem afm (C:ag):Tl C (.cond 18 (ax [1,0,0,1,1,0,0,1,0,1,0] xe) (ax [1,0,0,1,1,0,0,1,0,1,1] xe)):=
 iT Ie [[1,2,3,4,5,7,8,9,0]] (@AX C) (by kernel_rfl) (bh (bs:=[]) (by kernel_rfl) aw) (bh (bs:=[]) (by kernel_rfl) aw) (fun ds=>by kernel_rfl) (fun i β k=>by kernel_rfl) (fun β ds k=>by kernel_rfl)
theorem afn (C:ag):Tl C (.loop (ax [1,0,0] xe)):=
 cy Ig [false,false,false,false,true,true] [[1,2,3,4,0,0,0]] (@AY C) (by kernel_rfl) (bh (bs:=[.cond 18 (ax [1,0,0,1,1,0,0,1,0,1,0] xe) (ax [1,0,0,1,1,0,0,1,0,1,1] xe)]) (by kernel_rfl) (bH (afm C) aw)) (fun ds=>by kernel_rfl) (fun i x=>by kernel_rfl) (fun i x β k=>by kernel_rfl) (fun β ds k=>by kernel_rfl)
noncomputable def Tm (C:ag) (kids:List V) (separator:List UInt8) (least:Int) (bI:List V):Option (List V):=
 (Loop (AZ C separator least kids (kids.length:Int)) (0,bI)).bind (un fun (rF:Int)=>un fun (D0:Bool) (ur:List V)=>
  some [.list cM ur])
theorem afo {kids:List V} {separator:List UInt8} {least:Int} {bI:List V} {r:Option (List V)} (h:Tm CC kids separator least bI=r):CC rC [.list aa kids,.str separator,.int .i64 least,.list cM bI]=r:=
 ba (key:=91) (L:=Tk CC) (bs:=[.loop (ax [1,0,0] xe)]) (by kernel_rfl) (bH (afn CC) aw) (aX (by kernel_rfl) h)
noncomputable def Tn (C:ag) (op:Int):Option (List V):=
 bif (op:Int)==4 then
  some [.int .i64 1]
 else
  bif (op:Int)==6 then
  some [.int .i64 2]
  else
  bif (op:Int)==5 then
   some [.int .i64 3]
  else
   bif (op:Int)==8 then
   some [.int .i64 4]
   else
   bif (op:Int)==7 then
    some [.int .i64 5]
   else
    some [.int .i64 6]
theorem afp {op:Int} {r:Option (List V)} (h:Tn CC op=r):CC DA [.int .i64 op]=r:=
 ba (key:=104) (L:=cb) (bs:=[]) (by kernel_rfl) aw (aX (by kernel_rfl) h)
noncomputable def To (C:ag) (c:Int) (bI:List V):Option (List V):=
 bif Nat.ble ((bI.length+([.int .u8 c]:List V).length)*1) cC then
  some [.list cM (bI++([.int .u8 c]:List V))]
 else none
theorem afq {c:Int} {bI:List V} {r:Option (List V)} (h:To CC c bI=r):CC oY [.int .u8 c,.list cM bI]=r:=
 ba (key:=90) (L:=cb) (bs:=[]) (by kernel_rfl) aw (aX (by kernel_rfl) h)
noncomputable def Tp (C:ag) (s:List UInt8) (bI:List V):Option (List V):=
 bif Nat.ble ((bI.length+(s.map dg).length)*1) cC then
  some [.int .i64 (s.length:Int),.list cM (bI++(s.map dg))]
 else none
theorem afr {s:List UInt8} {bI:List V} {r:Option (List V)} (h:Tp CC s bI=r):CC Dz [.str s,.list cM bI]=r:=
 ba (key:=103) (L:=cb) (bs:=[]) (by kernel_rfl) aw (aX (by kernel_rfl) h)
noncomputable def Tq (C:ag) (bI:List V):Option (List V):=
 bif Nat.blt 0 bI.length then
  bif decide (0<(bI.length:Int))&&(decide ((bI.length:Int)≤(bI.length:Int))&&(Nat.ble (((bI.length:Int):Int).toNat) mz&&(bI.take (((bI.length:Int):Int).toNat)).all uL)) then
  some [.str (j6 (bI.take (((bI.length:Int):Int).toNat)))]
  else none
 else none
theorem afs {bI:List V} {r:Option (List V)} (h:Tq CC bI=r):CC Dt [.list cM bI]=r:=
 ba (key:=76) (L:=cb) (bs:=[]) (by kernel_rfl) aw (aX (by kernel_rfl) h)
end Go.AM
set_option maxRecDepth 100000
namespace Go.AM
open Go.Proofs Ex
theorem uu (c:UInt8) (b:List UInt8) (h:b.length<2^40):CC oY [.int .u8 c.toNat,.list cM (b.map dg)]=some [.list cM ((b++[c]).map dg)]:=by
 refine afq ?_
 unfold To
 simp only[Hw]
 rw[aj (by simp[cC];omega)]
 simp[dg]
theorem aft (s b:List UInt8) (h:b.length+s.length<2^40):CC Dz [.str s,.list cM (b.map dg)]=some [.int .i64 s.length,.list cM ((b++s).map dg)]:=by
 refine afr ?_
 unfold Tp
 simp only[Hw]
 rw[aj (by simp[cC];omega)]
 simp
theorem afu (b:List UInt8):j6 (b.map dg)=b:=by
 unfold j6
 rw[List.map_map]
 have:((fun x:V=>UInt8.ofNat x.toInt.toNat) ∘ dg)=id:=by
  funext c
  simp[dg]
 rw[this,List.map_id]
theorem afv (b:List UInt8) (h0:b≠[]) (h:b.length<2^40):CC Dt [.list cM (b.map dg)]=some [.str b]:=by
 refine afs ?_
 unfold Tq
 have hp:0<b.length:=by cases b<;>simp at h0⊢
 have h1:Nat.blt 0 (b.map dg).length=true:=by rw[jx];simpa using hp
 have U:(((b.map dg).length:Int)).toNat=(b.map dg).length:=by simp
 have h3:Nat.ble (b.map dg).length mz=true:=Nat.ble_eq_true_of_le (by simp[mz];omega)
 have h4:(b.map dg).all uL=true:=by
  rw[eN]
  intro x hx
  obtain ⟨c,_,rfl⟩:=gk.1 hx
  have:=c.toNat_lt
  simp[uL,dg]
  omega
 rw[h1,U,pn,h3,h4,afu]
 simp[hp]
theorem afw (op:Int):CC DA [.int .i64 op]=some [.int .i64 (fD op)]:=by
 refine afp ?_
 unfold Tn fD
 simp only[eT]
 repeat' split
 all_goals rfl
theorem afx {ks:List Ex} (hlen:ks.length≤maxLen) (ih: ∀k∈ks,∀b:List UInt8,b.length+k.text.length<2^40→CC rA (bK k [.list cM (b.map dg)])=some [.list cM ((b++k.text).map dg)]) (sep:List UInt8) (least:Int):
  ∀(aH pre:List Ex) (b:List UInt8),ks=pre++aH→b.length+(texts sep least pre.isEmpty aH).length<2^40→
  ∃i t,Loop (AZ CC sep least (ks.map enc) ((ks.map enc).length:Int)) (((pre.length:Nat):Int),b.map dg)=some (i,t,(b++texts sep least pre.isEmpty aH).map dg):=by
 intro aH
 induction aH with
 | nil=>
  intro pre b aW hb
  subst aW
  refine ⟨((pre.length:Nat):Int),false,bd ?_⟩
  simp only[AZ,AY,un,dA,bn,aB,texts]
  rw[ai (by omega)]
  simp
 | cons k aH eV=>
  intro pre b aW hb
  have bL:pre.length<ks.length:=by rw[aW];simp
  have hm:k∈ks:=by rw[aW];simp
  have:=qn
  have bZ:idx (ks.map enc) (pre.length:Int)=some k.enc:=by rw[aW];exact iW _ _ _
  generalize gA:(if pre.isEmpty then [] else sep)=sp
  have ht:texts sep least pre.isEmpty (k::aH)=sp++(eh k.op least k.text++texts sep least false aH):=by simp only[texts,gA]
  rw[ht] at hb⊢
  simp only[ca] at hb
  have dG:AZ CC sep least (ks.map enc) ((ks.map enc).length:Int) (((pre.length:Nat):Int),b.map dg)=some (.inl ((((pre++[k]).length:Nat):Int),(b++sp++eh k.op least k.text).map dg)):=by
   have h1: ∀{β:Type} (kr:List V→Option β) (o l:Int) (es:List V),AX CC sep least (ks.map enc) ((ks.length:Nat):Int) ((pre.length:Nat):Int) (decide (((pre.length:Nat):Int)>0)) o l es (b.map dg) kr=kr ((b++sp).map dg):=by
    intro β kr o l es
    unfold AX
    cases pre with
    | nil=>
     simp at gA
     subst gA
     simp
    | cons a pre=>
     simp at gA
     subst gA
     rw[aft _ _ (by omega)]
     have:(0:Int)<((a::pre).length:Int):=by simp only[List.length_cons];omega
     simp[this]
   simp only[AZ,AY,un,bn,aB]
   rw[aj (by omega),bZ]
   simp only[Option.bind_some,br,bt,bu]
   rw[h1,afw]
   simp only[Option.bind_some,V.aU,V.toInt_int,aB]
   unfold eh at hb⊢
   by_cases hl:fD k.op<least
   ·rw[ai (by omega),aj hl]
    rw[aj hl] at hb
    simp only[List.length_cons,ca,List.length_nil] at hb
    rw[show (V.int .u8 40)= .int .u8 (((40:UInt8).toNat:Nat):Int) by rfl,show (V.int .u8 41)= .int .u8 (((41:UInt8).toNat:Nat):Int) by rfl]
    rw[uu _ _ (by simp;omega)]
    simp only[Option.bind_some,V.aU,V.lf]
    rw[ih k hm _ (by simp;omega)]
    simp only[Option.bind_some,V.aU,V.lf]
    rw[uu _ _ (by simp;omega),wrap64 (by omega) (by omega)]
    simp
   ·rw[aj (by omega),ai hl]
    rw[ai hl] at hb
    rw[ih k hm _ (by simp;omega)]
    simp only[Option.bind_some,V.aU,V.lf]
    rw[wrap64 (by omega) (by omega)]
    simp
  rw[bU dG]
  have hE:(pre++[k]).isEmpty=false:=by cases pre<;>rfl
  have h3:=eV (pre++[k]) (b++sp++eh k.op least k.text) (by rw[aW];simp)
  rw[hE] at h3
  obtain ⟨i,t,U⟩:=h3 (by simp only[ca];omega)
  refine ⟨i,t,U.trans ?_⟩
  simp
theorem afy {ks:List Ex} (hlen:ks.length≤maxLen) (ih: ∀k∈ks,∀b:List UInt8,b.length+k.text.length<2^40→CC rA (bK k [.list cM (b.map dg)])=some [.list cM ((b++k.text).map dg)]) (sep:List UInt8) (least:Int) (b:List UInt8)
  (hb:b.length+(texts sep least true ks).length<2^40):CC rC [.list aa (ks.map enc),.str sep,.int .i64 least,.list cM (b.map dg)]=some [.list cM ((b++texts sep least true ks).map dg)]:=by
 refine afo ?_
 unfold Tm
 obtain ⟨i,t,h⟩:=afx hlen ih sep least ks [] b rfl hb
 simp only[List.length_nil,Int.ofNat_zero,Int.natCast_zero,List.isEmpty_nil] at h
 erw [h]
 rfl
theorem afz {l n:Int} (h:dw 3 l n 6=true):0≤l∧l<6:=by
 simp[dw] at h;omega
theorem Tr {o l n letters:Int} (ho:o<1∨8<o):dw o l n letters=false:=by
 have n1:o≠1:=by omega
 have n2:o≠2:=by omega
 have n3:o≠3:=by omega
 have n7:o≠7:=by omega
 have n8:o≠8:=by omega
 have n9: ¬(4≤o∧o≤6∧2≤n):=by omega
 simp[dw,n1,n2,n3,n7,n8,n9]
theorem afA: ∀e:Ex,e.Ok→e.wf 6=true→∀b:List UInt8,b.length+e.text.length<2^40→CC rA (bK e [.list cM (b.map dg)])=some [.list cM ((b++e.text).map dg)]:=
 ind fun o l ks ih au yX b hb=>by
  obtain ⟨w1,w2⟩:=hG yX
  have hw:=fun sep least b=>afy au.len (fun k hk=>ih k hk (au.lZ k hk) (w2 k hk)) sep least b
  refine afl ?_
  unfold Tj Fc Fb E9 E8 E7
  simp only[Ex.op,Ex.cp,Ex.kids]
  rcases zC o with rfl|rfl|rfl|rfl|rfl|rfl|rfl|rfl|ho
  case inr.inr.inr.inr.inr.inr.inr.inr=>rw[Tr ho] at w1;cases w1
  ·simp[text] at hb⊢
   rw[show (V.int .u8 48)= .int .u8 (((48:UInt8).toNat:Nat):Int) by rfl,uu _ _ (by omega)]
   simp
  ·simp[text] at hb⊢
   rw[show (V.int .u8 49)= .int .u8 (((49:UInt8).toNat:Nat):Int) by rfl,uu _ _ (by omega)]
   simp
  ·have hl:=afz w1
   simp[text] at hb⊢
   rw[yY (x:=l) (by omega) (by omega),yY (by omega) (by omega)]
   have:(V.int .u8 (97+l))= .int .u8 (((UInt8.ofNat (97+l).toNat).toNat:Nat):Int):=by
    have:(97+l).toNat<256:=by omega
    simp only[UInt8.toNat_ofNat']
    congr 1
    omega
   rw[this,uu _ _ (by omega)]
   simp
  ·simp[text] at hb⊢
   rw[hw _ _ _ (by omega)]
   simp
  ·simp[text] at hb⊢
   rw[hw _ _ _ (by omega)]
   simp
  ·simp[text] at hb⊢
   rw[hw _ _ _ (by omega)]
   simp
  ·simp[text] at hb⊢
   rw[hw _ _ _ (by omega)]
   simp only[Option.bind_some,V.aU,V.lf]
   rw[show (V.int .u8 42)= .int .u8 (((42:UInt8).toNat:Nat):Int) by rfl,uu _ _ (by simp;omega)]
   simp
  ·simp[text] at hb⊢
   rw[show (V.int .u8 33)= .int .u8 (((33:UInt8).toNat:Nat):Int) by rfl,uu _ _ (by omega)]
   simp only[Option.bind_some,V.aU,V.lf]
   rw[hw _ _ _ (by simp;omega)]
   simp
theorem afB: ∀e:Ex,e.wf 6=true→e.text≠[]:=ind fun o l ks ih h=>by
 obtain ⟨w1,w2⟩:=hG h
 rcases zC o with rfl|rfl|rfl|rfl|rfl|rfl|rfl|rfl|ho
 case inr.inr.inr.inr.inr.inr.inr.inr=>rw[Tr ho] at w1;cases w1
 case inr.inr.inr.inl=>
  intro hh
  match ks,w1,hh with
  | [],w1,_=>simp[dw] at w1
  | [a],w1,_=>simp[dw] at w1
  | a::b::l,_,hh=>simp[text,texts] at hh
 case inr.inr.inr.inr.inr.inl=>
  intro hh
  match ks,w1,hh with
  | [],w1,_=>simp[dw] at w1
  | [a],w1,_=>simp[dw] at w1
  | a::b::l,_,hh=>simp[text,texts] at hh
 case inr.inr.inr.inr.inl=>
  intro hh
  match ks,w1,w2,hh,ih with
  | [],w1,_,_,_=>simp[dw] at w1
  | a::ks,_,w2,hh,ih=>
   have:=ih a (by simp) (w2 a (by simp))
   simp[text,texts,eh] at hh
   split at hh
   ·simp at hh
   ·exact this hh.1
 all_goals simp[text]
theorem afC (e:Ex) (h:e.Ok):CC vP (bK e [])=some [.str (if e.val 6=0 then e.text else [])]:=by
 refine afe ?_
 unfold Th
 rw[Qd e h]
 by_cases hv:e.val 6=0
 ·obtain ⟨_,U,h3⟩:=oa hv
  have hl:=S5 e
  have hw:=afA e h h3 [] (by simp;omega)
  simp only[gm,List.nil_append] at hw
  simp only[Option.bind_some,V.aU,V.dV,hv,qI,pq,cond_false,dc]
  rw[hw]
  simp only[Option.bind_some,V.aU,V.lf]
  rw[afv _ (afB e h3) (by omega)]
  simp
 ·simp[hv]
end Go.AM
set_option maxRecDepth 100000
namespace Go.AM
structure Da where
 L:Nat
 st:Nat
 F:List Bool
 N:List (List Nat)
deriving DecidableEq
namespace Da
def n (d:Da):Nat:=d.F.length
def nx (d:Da) (q x:Nat):Nat:=(d.N.getD q []).getD x 0
def fin (d:Da) (q:Nat):Bool:=d.F.getD q false
def run (d:Da) (q:Nat) (w:List Nat):Nat:=w.foldl d.nx q
def acc (d:Da) (q:Nat) (w:List Nat):Bool:=d.fin (d.run q w)
structure Ok (d:Da):Prop where
 l1:1≤d.L
 l6:d.L≤6
 nN:d.N.length=d.n
 row: ∀r∈d.N,r.length=d.L∧∀q∈r,q<d.n
 s:d.st<d.n
 cB:d.n≤512
end Da
def WL (L:Nat) (w:List Nat):Prop:= ∀x∈w,x<L
theorem WL.nil {L:Nat}:WL L []:=fun _ h=>by cases h
theorem WL.cons {L x:Nat} {w:List Nat} (h:x<L) (hw:WL L w):WL L (x::w):=fun y hy=>by
 rcases cY.1 hy with rfl|hy
 ·exact h
 ·exact hw y hy
theorem WL.tail {L x:Nat} {w:List Nat} (h:WL L (x::w)):WL L w:=fun y hy=>h y (by simp[hy])
theorem WL.app {L:Nat} {v w:List Nat}:WL L (v++w)↔WL L v∧WL L w:=by
 unfold WL
 simp only[ei]
 exact ⟨fun h=>⟨fun x hx=>h x (.inl hx),fun x hx=>h x (.inr hx)⟩,fun h x hx=>hx.elim (h.1 x) (h.2 x)⟩
namespace Da
def Fe (d:Da) (q:Nat) (d':Da) (q':Nat):Prop:= ∀w,WL d.L w→d.acc q w=d'.acc q' w
theorem Fe.nx {d d':Da} {q q' x:Nat} (h:d.Fe q d' q') (hx:x<d.L):d.Fe (d.nx q x) d' (d'.nx q' x):=fun w hw=>h (x::w) (hw.cons hx)
def pos (d:Da) (t:Nat):Nat:=d.nx (t/d.L) (t %d.L)
def mt (d:Da):Nat→Nat
 | 0=>1
 | t+1=>if d.pos t=d.mt t then d.mt t+1 else d.mt t
structure Num (d:Da):Prop where
 le: ∀t,t<d.n*d.L→d.pos t≤d.mt t
 row: ∀q,q<d.n→q<d.mt (q*d.L)
 all:d.mt (d.n*d.L)=d.n
structure Canon (d:Da) (L:Nat) (K:List Nat→Bool):Prop where
 ok:d.Ok
 hL:d.L=L
 st:d.st=0
 num:d.Num
 red: ∀p q,p<d.n→q<d.n→d.Fe p d q→p=q
 ahO: ∀w,WL L w→d.acc 0 w=K w
end Da
section
variable {α:Type} [DecidableEq α]
def afD (S:List α) (a:α):List α:=if a∈S then S else S++[a]
def Ts (next:α→Nat→α) (S:List α) (a:α):Nat→List α
 | 0=>S
 | x+1=>afD (Ts next S a x) (next a x)
def A0 (L:Nat) (next:α→Nat→α) (a0:α):Nat→List α
 | 0=>[a0]
 | i+1=>match (A0 L next a0 i)[i]? with
  | some a=>Ts next (A0 L next a0 i) a L
  | none=>A0 L next a0 i
variable {L:Nat} {next:α→Nat→α} {a0:α}
section
variable {k:Nat} (hd:(A0 L next a0 k).length≤k)
include hd
end
section
variable {k:Nat} (hd:(A0 L next a0 k).length≤k) {fin:α→Bool}
include hd
end
end
namespace Da
end Da
end Go.AM
set_option maxRecDepth 100000
namespace Go.AM
open Go.Proofs
section
variable {α:Type} (ke:α→V)
def lu (i:Nat):List α→List V
 | []=>[]
 | a::S=> .aY [ke a,iV (i:Int)]::lu (i+1) S
where iV (n:Int):V:= .int .i64 n
end
section
variable {α:Type} [DecidableEq α] {ke:α→V}
variable (hk: ∀a b,lC (ke a) (ke b)=decide (a=b))
include hk
theorem Tt (x:α): ∀(S:List α) (i:Nat),kO (ke x) (lu ke i S)=decide (x∈S)
 | [],_=>by simp[lu,kO]
 | a::S,i=>by
  have c: ∀(p q:V),(V.aY [p,q]).comp 0=p:=fun p q=>rfl
  rw[lu,kO,c,hk,Tt x S (i+1)]
  rw[ox]
  simp
theorem Tu (x:α) (z:V): ∀(S:List α) (i:Nat),x∈S→lD (ke x) (lu ke i S) z= .int .i64 ((i+S.idxOf x:Nat):Int)
 | [],_,h=>by cases h
 | a::S,i,h=>by
  have c: ∀(p q:V),(V.aY [p,q]).comp 0=p:=fun p q=>rfl
  have c1: ∀(p q:V),(V.aY [p,q]).comp 1=q:=fun p q=>rfl
  rw[lu,lD,c,c1,hk]
  by_cases e:x=a
  ·subst e
   rw[eg rfl]
   simp[lu.iV]
  ·rw[cS e,cond_false,Tu x z S (i+1) ((cY.1 h).resolve_left e),show (a::S).idxOf x=S.idxOf x+1 from by rw[List.idxOf_cons,show (a==x)=false from Ba.2 fun h=>e h.symm];rfl]
   congr 2
   omega
theorem Tv (x:α): ∀(S:List α) (i:Nat),x∉S→hZ (ke x) (.int .i64 ((i+S.length:Nat):Int)) (lu ke i S)=lu ke i (S++[x])
 | [],i,_=>by simp[lu,hZ,lu.iV]
 | a::S,i,h=>by
  have c: ∀(p q:V),(V.aY [p,q]).comp 0=p:=fun p q=>rfl
  have e:x≠a:=fun e=>h (by simp[e])
  rw[lu,hZ,c,hk,cS e,cond_false,List.cons_append,lu]
  congr 1
  have:=Tv x S (i+1) fun hx=>h (by simp[hx])
  rw[←this]
  simp only[List.length_cons]
  congr 3
  omega
end
noncomputable def Tw (C:ag) (ah ar:Int) (ae:List V) (cV di:Int) (bI ef bO:List V):Option (List V):=
 (C vP [.int .i64 ah,.int .i64 ar,.list aa ae]).bind fun r1=>
 bif Nat.ble (((V.nth r1 0).toStr).length) maxLen&&true then
  bif Nat.ble ((bI.length+([.agg [.int .i64 0,.int .i64 0,.list aa ([]:List V)]]:List V).length)*40) cC then
  bif (decide (0≤(bI.length:Int)))&&(decide ((bI.length:Int)<((bI++([.agg [.int .i64 0,.int .i64 0,.list aa ([]:List V)]]:List V)).length:Int))) then
   ((bI++([.agg [.int .i64 0,.int .i64 0,.list aa ([]:List V)]]:List V))[((bI.length:Int):Int).toNat]?).bind fun x2=>
   some [.int .i64 (bI.length:Int),.int .i64 cV,.int .i64 di,.list dK (hZ (.str ((V.nth r1 0).toStr)) (.int .i64 (bI.length:Int)) bO),.list aa ((bI++([.agg [.int .i64 0,.int .i64 0,.list aa ([]:List V)]]:List V)).set (((bI.length:Int):Int).toNat) (.agg [.int .i64 ah,.int .i64 ar,.list aa ae])),.list c9 ef]
  else none
  else none
 else none
theorem afE {ah ar:Int} {ae:List V} {cV di:Int} {bI ef bO:List V} {r:Option (List V)} (h:Tw CC ah ar ae cV di bI ef bO=r):CC y9 [.int .i64 ah,.int .i64 ar,.list aa ae,.int .i64 cV,.int .i64 di,.list aa bI,.list c9 ef,.list dK bO]=r:=
 ba (key:=57) (L:=cb) (bs:=[]) (by kernel_rfl) aw (aX (by kernel_rfl) h)
noncomputable def Tx (C:ag) (ah ar:Int) (ae:List V) (letters:Int):Option (List V):=
 (C y9 [.int .i64 ah,.int .i64 ar,.list aa ae,.int .i64 letters,.int .i64 0,.list aa ([]:List V),.list c9 ([]:List V),.list dK ([]:List V)]).bind fun r1=>
 some [.int .i64 ((V.nth (r1.drop 1) 0).toInt),.int .i64 ((V.nth ((r1.drop 1).drop 1) 0).toInt),.list aa ((V.nth (((r1.drop 1).drop 2).drop 1) 0).toList),.list c9 ((V.nth ((((r1.drop 1).drop 2).drop 1).drop 1) 0).toList),.list dK ((V.nth ((r1.drop 1).drop 2) 0).toList)]
theorem afF {ah ar:Int} {ae:List V} {letters:Int} {r:Option (List V)} (h:Tx CC ah ar ae letters=r):CC Dn [.int .i64 ah,.int .i64 ar,.list aa ae,.int .i64 letters]=r:=
 ba (key:=40) (L:=cb) (bs:=[]) (by kernel_rfl) aw (aX (by kernel_rfl) h)
noncomputable def Tz (C:ag) (cV di:Int) (bI ef bO:List V):Option (List V):=
 some [.bool ((di:Int)==(bI.length:Int)),.int .i64 cV,.int .i64 di,.list dK bO,.list aa bI,.list c9 ef]
theorem afG {cV di:Int} {bI ef bO:List V} {r:Option (List V)} (h:Tz CC cV di bI ef bO=r):CC Dp [.int .i64 cV,.int .i64 di,.list aa bI,.list c9 ef,.list dK bO]=r:=
 ba (key:=42) (L:=cb) (bs:=[]) (by kernel_rfl) aw (aX (by kernel_rfl) h)
noncomputable abbrev TA:Code:=cK Try.prog (az.aZ 43)
noncomputable def sc (C:ag) (t16 t17 cV di:Int) (bO rows fC jX:List V) {β:Type} (kn:(Int × Int × Int × (List V) × (List V) × (List V) × (List V))→Option β) (kr:((Int × Int × Int × (List V) × (List V) × (List V)) ⊕ (Int × Bool × Int × Int × (List V) × (List V) × (List V) × (List V)))→Option β):Option β:=
 bif decide ((t17:Int)<t16) then
  bif (decide (0≤di))&&(decide (di<(fC.length:Int))) then
  (fC[(di:Int).toNat]?).bind fun x1=>
  (C y8 [.int .i64 ((x1.cell 0).toInt),.int .i64 ((x1.cell 1).toInt),.list aa ((x1.cell 2).toList),.int .i64 t17]).bind fun r2=>
  bif (((V.nth (r2.drop 3) 0).toInt):Int) != 0 then
   kr (.inl ((V.nth (r2.drop 3) 0).toInt,cV,di,bO,fC,jX))
  else
   (C vP [.int .i64 ((V.nth r2 0).toInt),.int .i64 ((V.nth (r2.drop 1) 0).toInt),.list aa ((V.nth ((r2.drop 1).drop 1) 0).toList)]).bind fun r3=>
   bif Nat.ble (((V.nth r3 0).toStr).length) maxLen&&true then
   bif !(kO (.str ((V.nth r3 0).toStr)) bO) then
    bif ((fC.length:Int):Int)==512 then
    kr (.inl (3,cV,di,bO,fC,jX))
    else
    (C y9 [.int .i64 ((V.nth r2 0).toInt),.int .i64 ((V.nth (r2.drop 1) 0).toInt),.list aa ((V.nth ((r2.drop 1).drop 1) 0).toList),.int .i64 cV,.int .i64 di,.list aa fC,.list c9 jX,.list dK bO]).bind fun r4=>
    bif (decide (0≤t17))&&(decide (t17<(rows.length:Int))) then
     (rows[(t17:Int).toNat]?).bind fun x5=>
     kn (IntKind.wrap .i64 (t17+1),(V.nth (r4.drop 1) 0).toInt,(V.nth ((r4.drop 1).drop 1) 0).toInt,(V.nth ((r4.drop 1).drop 2) 0).toList,rows.set ((t17:Int).toNat) (.int .i64 ((V.nth r4 0).toInt)),(V.nth (((r4.drop 1).drop 2).drop 1) 0).toList,(V.nth ((((r4.drop 1).drop 2).drop 1).drop 1) 0).toList)
    else none
   else
    bif (decide (0≤t17))&&(decide (t17<(rows.length:Int))) then
    (rows[(t17:Int).toNat]?).bind fun x6=>
    kn (IntKind.wrap .i64 (t17+1),cV,di,bO,rows.set ((t17:Int).toNat) (.int .i64 ((lD (.str ((V.nth r3 0).toStr)) bO (.int .i64 0)).toInt)),fC,jX)
    else none
   else none
  else none
 else
  kr (.inr (t17,decide ((t17:Int)<t16),cV,di,bO,rows,fC,jX))
noncomputable def ou (C:ag) (t16:Int):(Int × Int × Int × (List V) × (List V) × (List V) × (List V))→Option ((Int × Int × Int × (List V) × (List V) × (List V) × (List V)) ⊕ ((Int × Int × Int × (List V) × (List V) × (List V)) ⊕ (Int × Bool × Int × Int × (List V) × (List V) × (List V) × (List V)))):=un fun t17=>un fun cV=>un fun di=>un fun bO=>un fun rows=>un fun fC jX=>sc C t16 t17 cV di bO rows fC jX (fun y=>some (.inl y)) (fun r=>some (.inr r))
noncomputable def TB (C:ag):cz:=fun β n ds k=>
 bif Nat.beq n 49 then cl HU [false,true,true,true,true,true,true,true] [[0,0,0,0,0,0],[1,0,0,0,0,0,0,0,0]] (@sc C) ds k else
 none
abbrev afH (C:ag) (b:cw):Prop:=cx Try.prog az C (TB C) 43 (cN Try.prog (az.aZ 43)) (az.sin 43).a9.length b
theorem afI (C:ag):afH C (.loop (ax [1,1,0,1,0,0] TA)):=
 cy HU [false,true,true,true,true,true,true,true] [[0,0,0,0,0,0],[1,0,0,0,0,0,0,0,0]] (@sc C) (by kernel_rfl) (bh (bs:=[]) (by kernel_rfl) aw) (fun ds=>by kernel_rfl) (fun i x=>by kernel_rfl) (fun i x β k=>by kernel_rfl) (fun β ds k=>by kernel_rfl)
noncomputable def TC (C:ag) (cV di:Int) (bI ef bO:List V):Option (List V):=
 bif (decide (0≤cV))&&((decide (cV≤cV))&&(Nat.ble (((cV:Int).toNat)*8) cC)) then
  (Loop (ou C ((List.replicate ((cV:Int).toNat) (V.int .i64 0)).length:Int)) (0,cV,di,bO,List.replicate ((cV:Int).toNat) (V.int .i64 0),bI,ef)).bind (b6 (un fun (o6:Int)=>un fun (Kv:Int)=>un fun (uq:Int)=>un fun (A1:List V)=>un fun (ur:List V) (AV:List V)=>
   some [.int .i64 o6,.int .i64 Kv,.int .i64 uq,.list dK A1,.list aa ur,.list c9 AV]) (un fun (O5:Int)=>un fun (zA:Bool)=>un fun (Kw:Int)=>un fun (Kx:Int)=>un fun (Ky:List V)=>un fun (A3:List V)=>un fun (Kz:List V) (A4:List V)=>
   bif Nat.ble ((A4.length+([.list mT A3]:List V).length)*24) cC then
   some [.int .i64 0,.int .i64 Kw,.int .i64 (IntKind.wrap .i64 (Kx+1)),.list dK Ky,.list aa Kz,.list c9 (A4++([.list mT A3]:List V))]
   else none))
 else none
theorem afJ {cV di:Int} {bI ef bO:List V} {r:Option (List V)} (h:TC CC cV di bI ef bO=r):CC vM [.int .i64 cV,.int .i64 di,.list aa bI,.list c9 ef,.list dK bO]=r:=
 ba (key:=43) (L:=TB CC) (bs:=[.loop (ax [1,1,0,1,0,0] TA)]) (by kernel_rfl) (bH (afI CC) aw) (aX (by kernel_rfl) h)
end Go.AM
set_option maxRecDepth 100000
namespace Go.AM
open Go.Proofs Ex
def pj (r:List Int):V:= .list mT (r.map fun n=> .int .i64 n)
def eX (es:List Ex):List V:=lu V.str 0 (es.map Ex.text)
theorem KA (a b:List UInt8):lC (.str a) (.str b)=decide (a=b):=by
 simp only[lC,V.cells,sm,uF,Bool.and_true]
 rw[ox]
 simp
theorem KC {es:List Ex} (h: ∀e∈es,Nv e) {d:Ex} (hd:Nv d):d.text∈es.map Ex.text↔d∈es:=by
 rw[gk]
 constructor
 ·rintro ⟨a,ha,he⟩
  rw[←Tg (h a ha).1.2 hd.1.2 he];exact ha
 ·exact fun hx=>⟨d,hx,rfl⟩
theorem TD {α β:Type} [DecidableEq α] [DecidableEq β] {f:α→β} {d:α}: ∀{es:List α},(∀e∈es,f e=f d→e=d)→(es.map f).idxOf (f d)=es.idxOf d
 | [],_=>rfl
 | e::es,h=>by
  rw[cH,List.idxOf_cons,List.idxOf_cons,TD fun x hx=>h x (by simp[hx])]
  have:(f e==f d)=(e==d):=by
   rw[ox,beq_iff_eq,beq_iff_eq]
   exact ⟨h e (by simp),fun h=>by rw[h]⟩
  rw[this]
theorem Ff {e:Ex} (h:e.val 6=0):(Nat.ble e.text.length maxLen&&true)=true:=by
 have a:=S5 e
 have b:=oa h
 rw[Bool.and_true,dD]
 unfold maxLen
 omega
theorem Fg {e:Ex} (h:Nv e):CC vP (bK e [])=some [.str e.text]:=by
 rw[afC e (afK h),aj h.2]
where afK {e:Ex} (h:Nv e):e.Ok:=rL (by omega) e h.1.2 (by have:=oa h.2;omega)
def xf (s:Dv):List V:=[.int .i64 s.L,.int .i64 s.dn,.list aa (s.es.map enc),.list c9 (s.nx.map pj),.list dK (eX s.es)]
def KD (s:Dv):List V:=[.int .i64 s.L,.int .i64 s.dn,.list dK (eX s.es),.list aa (s.es.map enc),.list c9 (s.nx.map pj)]
theorem afL {es:List Ex} (h: ∀e∈es,Nv e) {d:Ex} (hd:Nv d) (hn:d∉es):hZ (.str d.text) (.int .i64 (es.length:Int)) (eX es)=eX (es++[d]):=by
 have:=Tv (ke:=V.str) KA d.text (es.map Ex.text) 0 fun hx=>hn ((KC h hd).1 hx)
 rw[bn,gj] at this
 unfold eX
 rw[this,fQ]
 rfl
theorem afM {α:Type} (a:List α) (x y:α):(a++[x]).set a.length y=a++[y]:=by
 simp[List.set_append_right]
theorem TE {L dn:Int} {es:List Ex} {d:Ex} {nx:List V} (h: ∀e∈es,Nv e) (hd:Nv d) (hn:d∉es) (hl:es.length≤1000):
  CC y9 (bK d [.int .i64 L,.int .i64 dn,.list aa (es.map enc),.list c9 nx,.list dK (eX es)])=some [.int .i64 (es.length:Int),.int .i64 L,.int .i64 dn,.list dK (eX (es++[d])),.list aa ((es++[d]).map enc),.list c9 nx]:=by
 refine afE ?_
 unfold Tw
 refine bs (Fg hd) ?_
 refine bT (Ff hd.2) ?_
 refine bT (J4 (by simp;omega)) ?_
 refine (rV (i:=(es.map enc).length) (v:= .agg [.int .i64 0,.int .i64 0,.list aa ([]:List V)]) (by simp)).trans ?_
 rw[Int.toNat_natCast,afM]
 have h1:=afL h hd hn
 rw[bn]
 show some [V.int .i64 (es.length:Int),.int .i64 L,.int .i64 dn,.list dK (hZ (.str d.text) (.int .i64 (es.length:Int)) (eX es)),.list aa (es.map enc++[.agg [.int .i64 d.op,.int .i64 d.cp,.list aa (d.kids.map enc)]]),.list c9 nx]=_
 rw[h1,aer,fQ]
 rfl
theorem afN {e:Ex} {L:Int} (h:Nv e):CC Dn (bK e [.int .i64 L])=some (xf ⟨L,[e],[],0⟩):=by
 refine afF ?_
 unfold Tx
 refine bs (TE (L:=L) (dn:=0) (es:=[]) (d:=e) (nx:=[]) (by simp) h (by simp) (by simp)) ?_
 rfl
theorem KE (s:Dv):CC Dp (xf s)=some (.bool (s.dn==s.es.length)::KD s):=by
 refine afG ?_
 unfold Tz
 rw[bn]
 rfl
theorem KF {L dn:Int} {e:Ex} {k:Nat} {nx:List V} (hk:dn=(k:Int)) (he:Nv e): ∀(n x:Nat) (es:List Ex) (row:List Int),L=((x+n:Nat):Int)→x+n≤10→Es es→k<es.length→es.getD k bc=e→row.length=x→
  (∀p,ni e n x es row=some p→Loop (ou CC L) (((x:Nat):Int),L,dn,eX es,(row.map fun n=>V.int .i64 n)++List.replicate n (.int .i64 0),es.map enc,nx)=some (.inr (L,false,L,dn,eX p.1,(p.2.map fun n=>V.int .i64 n),p.1.map enc,nx)))
  ∧(ni e n x es row=none→∃y,Loop (ou CC L) (((x:Nat):Int),L,dn,eX es,(row.map fun n=>V.int .i64 n)++List.replicate n (.int .i64 0),es.map enc,nx)=some (.inl (3,y)))
 | 0,x,es,row,hL,hx,nL,gZ,sY,hr=>by
  refine ⟨fun p hp=> ?_,fun hp=>by simp[ni] at hp⟩
  cases hp
  refine bd ?_
  simp only[ou,sc,un]
  rw[aB,ai (by omega),cS (by omega),show L=((x:Nat):Int) by omega]
  simp
 | n+1,x,es,row,hL,hx,nL,gZ,sY,hr=>by
  subst hk
  have aP:decide ((x:Int)<L)=true:=eg (by omega)
  have bZ:(es.map enc)[k]? =some e.enc:=by
   rw[gl,bG gZ,←sY,hY,bG gZ];rfl
  have hb:=SU he (x:Int)
  have afO:sa (aM (bY x e))=match kH e x with|some d=>(d,0)|none=>(bc,3):=by
   unfold sa kH;split<;>rfl
  rw[afO] at hb
  have Fh:x=(row.map fun n=>V.int .i64 n).length:=by simp[hr]
  rw[ni]
  cases bM:kH e x with
  | none=>
   rw[bM] at hb
   refine ⟨fun p hp=>(by cases hp),fun _=>⟨(L,(k:Int),eX es,es.map enc,nx),bd ?_⟩⟩
   ·simp only[ou,sc,un]
    refine bT aP ((rV bZ).trans ?_)
    rw[br,bt,bu]
    refine bs hb ?_
    exact bT rfl rfl
  | some d=>
   rw[bM] at hb
   have hd:=(E1 he bM).1
   have KG:kO (.str d.text) (eX es)=decide (d∈es):=by
    unfold eX
    rw[Tt KA,uy]
    exact KC nL.nv hd
   simp only[Option.bind_some]
   by_cases hm:d∈es
   ·rw[aj hm]
    have UM:es.idxOf d<es.length:=List.idxOf_lt_length_iff.2 hm
    obtain ⟨i1,i2⟩:=KF (L:=L) (e:=e) (k:=k) (nx:=nx) rfl he n (x+1) es (row++[(es.idxOf d:Int)]) (by omega) (by omega) nL gZ sY (by simp[hr])
    have dG:ou CC L (((x:Nat):Int),L,(k:Int),eX es,(row.map fun n=>V.int .i64 n)++List.replicate (n+1) (.int .i64 0),es.map enc,nx)=some (.inl (((x+1:Nat):Int),L,(k:Int),eX es,((row++[(es.idxOf d:Int)]).map fun n=>V.int .i64 n)++List.replicate n (.int .i64 0),es.map enc,nx)):=by
     simp only[ou,sc,un]
     refine bT aP ((rV bZ).trans ?_)
     rw[br,bt,bu]
     refine bs hb (bF rfl (bs (Fg hd) (bT (Ff hd.2) ?_)))
     refine bF (by rw[V.aU,V.C9,KG,eg hm];rfl) ?_
     refine (rY Fh).trans ?_
     rw[Int.toNat_natCast,rZ Fh,oo (by omega),V.aU,V.C9]
     have hg:lD (.str d.text) (eX es) (.int .i64 0)= .int .i64 (es.idxOf d:Int):=by
      unfold eX
      rw[Tu KA _ _ _ _ ((KC nL.nv hd).2 hm),TD fun x hx=>Tg (nL.nv x hx).1.2 hd.1.2,gj]
     rw[hg,V.toInt_int,fQ]
     rfl
    exact ⟨fun p hp=>(bU dG).trans (i1 p hp),fun hp=>by obtain ⟨y,hy⟩:=i2 hp;exact ⟨y,(bU dG).trans hy⟩⟩
   ·rw[ai hm]
    by_cases Fi:es.length=512
    ·rw[aj Fi]
     refine ⟨fun p hp=>(by cases hp),fun _=>⟨(L,(k:Int),eX es,es.map enc,nx),bd ?_⟩⟩
     ·simp only[ou,sc,un]
      refine bT aP ((rV bZ).trans ?_)
      rw[br,bt,bu]
      refine bs hb (bF rfl (bs (Fg hd) (bT (Ff hd.2) ?_)))
      refine bT (by rw[V.aU,V.C9,KG,cS hm];rfl) ?_
      exact bT (by rw[bn,Fi];rfl) rfl
    ·rw[ai Fi]
     have hl:=nL.le
     obtain ⟨i1,i2⟩:=KF (L:=L) (e:=e) (k:=k) (nx:=nx) rfl he n (x+1) (es++[d]) (row++[(es.length:Int)]) (by omega) (by omega) (nL.snoc hd hm Fi) (by simp;omega) (by rw[AJ gZ,sY]) (by simp[hr])
     have dG:ou CC L (((x:Nat):Int),L,(k:Int),eX es,(row.map fun n=>V.int .i64 n)++List.replicate (n+1) (.int .i64 0),es.map enc,nx)=some (.inl (((x+1:Nat):Int),L,(k:Int),eX (es++[d]),((row++[(es.length:Int)]).map fun n=>V.int .i64 n)++List.replicate n (.int .i64 0),(es++[d]).map enc,nx)):=by
      simp only[ou,sc,un]
      refine bT aP ((rV bZ).trans ?_)
      rw[br,bt,bu]
      refine bs hb (bF rfl (bs (Fg hd) (bT (Ff hd.2) ?_)))
      refine bT (by rw[V.aU,V.C9,KG,cS hm];rfl) ?_
      refine bF (by rw[bn,Ba];omega) ?_
      refine bs (TE nL.nv hd hm (by omega)) ?_
      refine (rY Fh).trans ?_
      rw[Int.toNat_natCast,rZ Fh,oo (by omega),fQ (ahP:=row)]
      rfl
     exact ⟨fun p hp=>(bU dG).trans (i1 p hp),fun hp=>by obtain ⟨y,hy⟩:=i2 hp;exact ⟨y,(bU dG).trans hy⟩⟩
theorem afP {s:Dv} (hs:Gs s) (hd:s.dn<s.es.length):
  (∀t,proc s=some t→CC vM (xf s)=some (.int .i64 0::KD t))∧(proc s=none→∃l,CC vM (xf s)=some (.int .i64 3::l)):=by
 have SF:=hs.dn
 have hL:=hs.L
 have hq:s.dn.toNat<s.es.length:=by omega
 have kX:=hs.nl
 have hle:=hs.es.le
 have hN:((s.L.toNat:Nat):Int)=s.L:=by omega
 obtain ⟨l1,l2⟩:=KF (L:=s.L) (dn:=s.dn) (e:=s.es.getD s.dn.toNat bc) (k:=s.dn.toNat) (nx:=s.nx.map pj) (by omega) (hs.es.nv _ (SC hq)) s.L.toNat 0 s.es [] (by omega) (by omega) hs.es hq rfl rfl
 have hf: ∀{r:Option (List V)},((Loop (ou CC s.L) (((0:Nat):Int),s.L,s.dn,eX s.es,List.replicate s.L.toNat (V.int .i64 0),s.es.map enc,s.nx.map pj)).bind (b6 (un fun (o6:Int)=>un fun (Kv:Int)=>un fun (uq:Int)=>un fun (A1:List V)=>un fun (ur:List V) (AV:List V)=>some [V.int .i64 o6,.int .i64 Kv,.int .i64 uq,.list dK A1,.list aa ur,.list c9 AV]) (un fun (O5:Int)=>un fun (zA:Bool)=>un fun (Kw:Int)=>un fun (Kx:Int)=>un fun (Ky:List V)=>un fun (A3:List V)=>un fun (Kz:List V) (A4:List V)=>bif Nat.ble ((A4.length+([.list mT A3]:List V).length)*24) cC then some [.int .i64 0,.int .i64 Kw,.int .i64 (IntKind.wrap .i64 (Kx+1)),.list dK Ky,.list aa Kz,.list c9 (A4++([.list mT A3]:List V))] else none)))=r→CC vM (xf s)=r:=fun h=>by
  refine afJ ?_
  unfold TC
  refine bT ?_ ?_
  ·refine uz.2 ⟨eg (by omega),uz.2 ⟨eg (by omega),?_⟩⟩
   rw[dD,qo];omega
  ·rw[sf,hN]
   exact h
 refine ⟨fun t ht=>hf ?_,fun ht=> ?_⟩
 ·obtain ⟨p,hp,rfl⟩:=SD ht
  refine bs (l1 p hp) ?_
  simp only[b6,un]
  refine bT (by rw[dD,qo];simp;omega) ?_
  rw[wrap64 (by omega) (by omega)]
  unfold KD
  simp only[fQ]
  rfl
 ·have hr:ni (s.es.getD s.dn.toNat bc) s.L.toNat 0 s.es []=none:=by
   unfold proc at ht
   rwa [Option.map_eq_none_iff] at ht
  obtain ⟨y,hy⟩:=l2 hr
  exact ⟨_,hf (bs hy rfl)⟩
end Go.AM
set_option maxRecDepth 100000
namespace Go.AM
open Go.Proofs
noncomputable abbrev TF:Code:=cK Try.prog (az.aZ 44)
noncomputable def A5 (C:ag) (t22 TG TH:Int) (bO:List V) (Az AA oq ot:Int) (Fj EU TI TJ:List V) (t23:Int) (A6:List V) {β:Type} (kn:(Int × (List V))→Option β) (kr:(Int × Bool × (List V))→Option β):Option β:=
 bif decide ((t23:Int)<t22) then
  bif (decide (0≤t23))&&(decide (t23<(Fj.length:Int))) then
  (Fj[(t23:Int).toNat]?).bind fun x1=>
  (C jP [.int .i64 ((x1.cell 0).toInt),.int .i64 ((x1.cell 1).toInt),.list aa ((x1.cell 2).toList)]).bind fun r2=>
  bif Nat.ble ((A6.length+([.bool ((V.nth r2 0).toBool)]:List V).length)*1) cC then
   kn (IntKind.wrap .i64 (t23+1),A6++([.bool ((V.nth r2 0).toBool)]:List V))
  else none
  else none
 else
  kr (t23,decide ((t23:Int)<t22),A6)
noncomputable def Fk (C:ag) (t22 TG TH:Int) (bO:List V) (Az AA oq ot:Int) (Fj EU TI TJ:List V):(Int × (List V))→Option ((Int × (List V)) ⊕ (Int × Bool × (List V))):=un fun t23 A6=>A5 C t22 TG TH bO Az AA oq ot Fj EU TI TJ t23 A6 (fun y=>some (.inl y)) (fun r=>some (.inr r))
noncomputable def TK (C:ag):cz:=fun β n ds k=>
 bif Nat.beq n 49 then cl HV [false,true,false,false,false,false,false,false,false,false,false,false,false,true] [[1,0,0,3,4,5,6,7,8,9,10,11,12,13,0]] (@A5 C) ds k else
 none
abbrev afQ (C:ag) (b:cw):Prop:=cx Try.prog az C (TK C) 44 (cN Try.prog (az.aZ 44)) (az.sin 44).a9.length b
theorem afR (C:ag):afQ C (.loop (ax [1,1,0,1,0,0] TF)):=
 cy HV [false,true,false,false,false,false,false,false,false,false,false,false,false,true] [[1,0,0,3,4,5,6,7,8,9,10,11,12,13,0]] (@A5 C) (by kernel_rfl) (bh (bs:=[]) (by kernel_rfl) aw) (fun ds=>by kernel_rfl) (fun i x=>by kernel_rfl) (fun i x β k=>by kernel_rfl) (fun β ds k=>by kernel_rfl)
noncomputable def TL (C:ag) (cV di:Int) (bI ef bO:List V):Option (List V):=
 (Loop (Fk C (bI.length:Int) cV di bO 0 0 cV 0 bI ef ([]:List V) ([]:List V)) (0,([]:List V))).bind (un fun (jR:Int)=>un fun (l7:Bool) (b_5:List V)=>
  some [.int .i64 cV,.int .i64 0,.int .i64 cV,.int .i64 di,.list dK bO,.list lg b_5,.list c9 ef,.list aa bI])
theorem afS {cV di:Int} {bI ef bO:List V} {r:Option (List V)} (h:TL CC cV di bI ef bO=r):CC Dq [.int .i64 cV,.int .i64 di,.list aa bI,.list c9 ef,.list dK bO]=r:=
 ba (key:=44) (L:=TK CC) (bs:=[.loop (ax [1,1,0,1,0,0] TF)]) (by kernel_rfl) (bH (afR CC) aw) (aX (by kernel_rfl) h)
noncomputable abbrev TM:Code:=cK Try.prog (az.aZ 14)
noncomputable def xg (C:ag) (kE kF:Int) (ef bO:List V) (cV di:Int) (pf fC jX:List V) {β:Type} (kn:(Int × Int × (List V) × (List V) × (List V))→Option β) (kr:((Int × Int × Int × (List V) × (List V)) ⊕ (Bool × Int × Int × (List V) × (List V) × (List V)))→Option β):Option β:=
 (C Dp [.int .i64 cV,.int .i64 di,.list aa pf,.list c9 fC,.list dK jX]).bind fun r4=>
 bif !((V.nth r4 0).toBool) then
  (C vM [.int .i64 ((V.nth (r4.drop 1) 0).toInt),.int .i64 ((V.nth ((r4.drop 1).drop 1) 0).toInt),.list aa ((V.nth (((r4.drop 1).drop 2).drop 1) 0).toList),.list c9 ((V.nth ((((r4.drop 1).drop 2).drop 1).drop 1) 0).toList),.list dK ((V.nth ((r4.drop 1).drop 2) 0).toList)]).bind fun r5=>
  bif (((V.nth r5 0).toInt):Int) != 0 then
  kr (.inl ((V.nth r5 0).toInt,0,0,([]:List V),([]:List V)))
  else
  kn ((V.nth (r5.drop 1) 0).toInt,(V.nth ((r5.drop 1).drop 1) 0).toInt,(V.nth (((r5.drop 1).drop 2).drop 1) 0).toList,(V.nth ((((r5.drop 1).drop 2).drop 1).drop 1) 0).toList,(V.nth ((r5.drop 1).drop 2) 0).toList)
 else
  kr (.inr (!((V.nth r4 0).toBool),(V.nth (r4.drop 1) 0).toInt,(V.nth ((r4.drop 1).drop 1) 0).toInt,(V.nth (((r4.drop 1).drop 2).drop 1) 0).toList,(V.nth ((((r4.drop 1).drop 2).drop 1).drop 1) 0).toList,(V.nth ((r4.drop 1).drop 2) 0).toList))
noncomputable def uv (C:ag) (kE kF:Int) (ef bO:List V):(Int × Int × (List V) × (List V) × (List V))→Option ((Int × Int × (List V) × (List V) × (List V)) ⊕ ((Int × Int × Int × (List V) × (List V)) ⊕ (Bool × Int × Int × (List V) × (List V) × (List V)))):=un fun cV=>un fun di=>un fun pf=>un fun fC jX=>xg C kE kF ef bO cV di pf fC jX (fun y=>some (.inl y)) (fun r=>some (.inr r))
noncomputable def TN (C:ag):cz:=fun β n ds k=>
 bif Nat.beq n 81 then cl HO [false,false,true,true,false,false,true,true,true] [[0,0,0,0,0],[0,1,2,0,0,5,6,0,0,0]] (@xg C) ds k else
 none
abbrev afT (C:ag) (b:cw):Prop:=cx Try.prog az C (TN C) 14 (cN Try.prog (az.aZ 14)) (az.sin 14).a9.length b
theorem afU (C:ag):afT C (.loop (ax [1,1,1,0,0,0] TM)):=
 cy HO [false,false,true,true,false,false,true,true,true] [[0,0,0,0,0],[0,1,2,0,0,5,6,0,0,0]] (@xg C) (by kernel_rfl) (bh (bs:=[]) (by kernel_rfl) aw) (fun ds=>by kernel_rfl) (fun i x=>by kernel_rfl) (fun i x β k=>by kernel_rfl) (fun β ds k=>by kernel_rfl)
noncomputable def TO (C:ag) (ah ar:Int) (ae:List V) (letters:Int):Option (List V):=
 (C tu [.int .i64 ah,.int .i64 ar,.list aa ae,.int .i64 letters]).bind fun r1=>
 bif (((V.nth r1 0).toInt):Int) != 0 then
  some [.int .i64 0,.int .i64 0,.int .i64 ((V.nth r1 0).toInt),.list lg ([]:List V),.list c9 ([]:List V)]
 else
  (C y7 [.int .i64 ah,.int .i64 ar,.list aa ae]).bind fun r2=>
  (C Dn [.int .i64 ((V.nth r2 0).toInt),.int .i64 ((V.nth (r2.drop 1) 0).toInt),.list aa ((V.nth ((r2.drop 1).drop 1) 0).toList),.int .i64 letters]).bind fun r3=>
  (Loop (uv C 0 0 ([]:List V) ([]:List V)) ((V.nth r3 0).toInt,(V.nth (r3.drop 1) 0).toInt,(V.nth (r3.drop 2) 0).toList,(V.nth ((r3.drop 2).drop 1) 0).toList,(V.nth (((r3.drop 2).drop 1).drop 1) 0).toList)).bind (b6 (un fun (lj:Int)=>un fun (Kh:Int)=>un fun (Ki:Int)=>un fun (uq:List V) (A1:List V)=>
   some [.int .i64 Kh,.int .i64 Ki,.int .i64 lj,.list lg uq,.list c9 A1]) (un fun (zz:Bool)=>un fun (afV:Int)=>un fun (afW:Int)=>un fun (Kt:List V)=>un fun (Ku:List V) (afX:List V)=>
   (C Dq [.int .i64 afV,.int .i64 afW,.list aa Kt,.list c9 Ku,.list dK afX]).bind fun dC=>
   some [.int .i64 ((V.nth dC 0).toInt),.int .i64 ((V.nth (dC.drop 1) 0).toInt),.int .i64 0,.list lg ((V.nth (((dC.drop 2).drop 2).drop 1) 0).toList),.list c9 ((V.nth ((((dC.drop 2).drop 2).drop 1).drop 1) 0).toList)]))
theorem afY {ah ar:Int} {ae:List V} {letters:Int} {r:Option (List V)} (h:TO CC ah ar ae letters=r):CC Dh [.int .i64 ah,.int .i64 ar,.list aa ae,.int .i64 letters]=r:=
 ba (key:=14) (L:=TN CC) (bs:=[.loop (ax [1,1,1,0,0,0] TM)]) (by kernel_rfl) (bH (afU CC) aw) (aX (by kernel_rfl) h)
end Go.AM
set_option maxRecDepth 100000
namespace Go.AM
open Go.Proofs Ex
structure Dv.Ok (d:Dv):Prop where
 es: ∀e∈d.es,e.Ok
 el:d.es.length≤maxLen
 nl:d.nx.length≤maxLen
 rl: ∀r∈d.nx,r.length≤maxLen
abbrev Fl (s:Dv):Int × Int × List V × List V × List V:=(s.L,s.dn,s.es.map enc,s.nx.map pj,eX s.es)
theorem afZ {e:Ex} {L:Int} (h:e.val L=0):Nv (aM e):=⟨ma e (oa (E0 h)).2.2,J9 (E0 h)⟩
structure Fa where
 L:Int
 F:List Bool
 N:List (List Int)
abbrev faE (p:Fa × Int):List V:=[.int .i64 p.1.L,.int .i64 0,.int .i64 p.2,.list lg (p.1.F.map V.bool),.list c9 (p.1.N.map pj)]
def Fa.zero:Fa:=⟨0,[],[]⟩
def af0 (d:Dv):Fa:=⟨d.L,d.es.map Ex.cZ,d.nx⟩
theorem af1 {es:List Ex} (hn:es.length≤1000) (ho: ∀e∈es,Nv e) {a b c1 c2 c3 c4:Int} {l1 l2 l3 l4:List V}: ∀(aH pre:List Ex),es=pre++aH→
  Loop (Fk CC (es.length:Int) a b l1 c1 c2 c3 c4 (es.map enc) l2 l3 l4) (((pre.length:Nat):Int),(pre.map Ex.cZ).map V.bool)=some ((es.length:Int),false,(es.map Ex.cZ).map V.bool):=by
 intro aH
 induction aH with
 | nil=>
  intro pre e
  rw[dA] at e
  subst e
  refine bd ?_
  simp only[Fk,A5,un]
  rw[aB,ai (by omega),cS (by omega)]
 | cons k aH eV=>
  intro pre e
  have bL:pre.length<es.length:=by rw[e];simp
  have hk:k∈es:=by rw[e];simp
  have bZ:(es.map enc)[pre.length]? =some k.enc:=by rw[e];simp
  have hv:=oa (ho k hk).2
  refine (bU ?_).trans (eV (pre++[k]) (by simp[e]))
  simp only[Fk,A5,un]
  refine bT (uj bL) ((rV bZ).trans ?_)
  rw[br,bt,bu]
  refine bs (aa8 (letters:=6) k (rL (by omega) k hv.2.2 (by omega)) hv.2.2) ?_
  refine bT (by rw[dD,qo];simp;omega) ?_
  rw[oo (by omega)]
  simp only[fQ,cH,gm,ca,List.length_cons,List.length_nil]
  rfl
theorem af2 {s:Dv} (hs:Gs s): ∃l,CC Dq (xf s)=some l∧(V.nth l 0).toInt=s.L∧(V.nth (l.drop 1) 0).toInt=0∧(V.nth (((l.drop 2).drop 2).drop 1) 0).toList=(s.es.map Ex.cZ).map V.bool∧(V.nth ((((l.drop 2).drop 2).drop 1).drop 1) 0).toList=s.nx.map pj:=by
 have hl:=hs.es.le
 refine ⟨[.int .i64 s.L,.int .i64 0,.int .i64 s.L,.int .i64 s.dn,.list dK (eX s.es),.list lg ((s.es.map Ex.cZ).map V.bool),.list c9 (s.nx.map pj),.list aa (s.es.map enc)],afS ?_,?_⟩
 ·unfold TL
  rw[bn]
  refine bs (af1 (by omega) hs.es.nv s.es [] rfl) ?_
  simp only[un]
 ·exact ⟨rfl,rfl,rfl,rfl⟩
def A7 (e:Ex) (L:Int):Fa × Int:=if e.val L=0 then (match r0 513 (qD e L) with|some t=>(af0 t,0)|none=>(.zero,3)) else (.zero,e.val L)
theorem TP {a b:Int} {l1 l2:List V}: ∀(n:Nat) (s:Dv),Gs s→513≤s.dn+n→
  (∀t,r0 n s=some t→Loop (uv CC a b l1 l2) (Fl s)=some (.inr (false,t.L,t.dn,t.es.map enc,t.nx.map pj,eX t.es)))∧(r0 n s=none→Loop (uv CC a b l1 l2) (Fl s)=some (.inl (3,0,0,[],[])))
 | 0,s,hs,hn=>by have:=hs.dn;have:=hs.es.le;omega
 | n+1,s,hs,hn=>by
  rw[r0]
  have SF:=hs.dn
  by_cases hd:s.dn<s.es.length
  ·rw[aj hd]
   obtain ⟨p1,p2⟩:=afP hs hd
   have hf:(!(s.dn==(s.es.length:Int)))=true:=by rw[ml,Ba];omega
   cases hp:proc s with
   | none=>
    obtain ⟨l,hl⟩:=p2 hp
    refine ⟨fun t ht=>(by cases ht),fun _=>bd ?_⟩
    simp only[uv,xg,un]
    refine bs (KE s) (bT hf ?_)
    refine bs hl ?_
    rfl
   | some u=>
    obtain ⟨g,_,g2,_⟩:=SE hs hd hp
    obtain ⟨i1,i2⟩:=TP (a:=a) (b:=b) (l1:=l1) (l2:=l2) n u g (by omega)
    have dG:uv CC a b l1 l2 (Fl s)=some (.inl (Fl u)):=by
     simp only[uv,xg,un]
     refine bs (KE s) (bT hf ?_)
     refine bs (p1 u hp) ?_
     rfl
    exact ⟨fun t ht=>(bU dG).trans (i1 t ht),fun ht=>(bU dG).trans (i2 ht)⟩
  ·rw[ai hd]
   refine ⟨fun t ht=> ?_,fun ht=>(by cases ht)⟩
   cases ht
   refine bd ?_
   have hf:(!(s.dn==(s.es.length:Int)))=false:=by rw[Bool.not_eq_false',beq_iff_eq];omega
   simp only[uv,xg,un]
   refine bs (KE s) (bF hf ?_)
   exact congrArg (fun b=>some (Sum.inr (Sum.inr (b,s.L,s.dn,s.es.map enc,s.nx.map pj,eX s.es)))) hf
theorem af3 {e:Ex} (h:e.Ok) (L:Int):CC Dh (bK e [.int .i64 L])=some (faE (A7 e L)):=by
 refine afY ?_
 unfold TO A7
 refine bs (D1 e h L) ?_
 by_cases hv:e.val L=0
 ·rw[aj hv]
  refine bF (by rw[V.aU,V.toInt_int,hv];rfl) ?_
  have hN:=R5 e h
  rw[aj (E0 hv)] at hN
  refine bs hN (bs (afN (L:=L) (afZ hv)) ?_)
  obtain ⟨l1,l2⟩:=TP (a:=0) (b:=0) (l1:=[]) (l2:=[]) 513 (qD e L) (SH hv) (by show 513≤(0:Int)+_;omega)
  cases hp:r0 513 (qD e L) with
  | none=>exact bs (l2 hp) rfl
  | some t=>
   refine bs (l1 t hp) ?_
   obtain ⟨l,a1,a2,a3,a4,a5⟩:=af2 (SG 513 _ _ (SH hv) hp).1
   refine bs a1 ?_
   rw[a2,a3,a4,a5]
   rfl
 ·rw[ai hv]
  refine bT ?_ rfl
  rw[V.aU,V.toInt_int,bne_iff_ne];exact hv
end Go.AM
set_option maxRecDepth 100000
namespace Go.AM
open Go.Proofs
noncomputable def TQ (C:ag):Option (List V):=
 some [.int .i64 7,.int .i64 0,.list aa ([.agg [.int .i64 5,.int .i64 0,.list aa ([.agg [.int .i64 3,.int .i64 0,.list aa ([]:List V)],.agg [.int .i64 3,.int .i64 1,.list aa ([]:List V)]]:List V)]]:List V)]
theorem af4 {r:Option (List V)} (h:TQ CC=r):CC Dm []=r:=
 ba (key:=38) (L:=cb) (bs:=[]) (by kernel_rfl) aw (aX (by kernel_rfl) h)
noncomputable def TR (C:ag):Option (List V):=
 (C Dm []).bind fun r1=>
 (C Dh [.int .i64 ((V.nth r1 0).toInt),.int .i64 ((V.nth (r1.drop 1) 0).toInt),.list aa ((V.nth (r1.drop 2) 0).toList),.int .i64 2]).bind fun r2=>
 bif (((V.nth (r2.drop 2) 0).toInt):Int)==0 then
  bif ((((V.nth (r2.drop 3) 0).toList).length:Int):Int)==3 then
  bif decide (0<(((V.nth (r2.drop 3) 0).toList).length:Int)) then
   (((V.nth (r2.drop 3) 0).toList)[0]?).bind fun x3=>
   bif x3.toBool then
   bif decide (1<(((V.nth (r2.drop 3) 0).toList).length:Int)) then
    (((V.nth (r2.drop 3) 0).toList)[1]?).bind fun x4=>
    some [.bool (!x4.toBool)]
   else none
   else
   some [.bool false]
  else none
  else
  some [.bool false]
 else
  some [.bool false]
theorem af5 {r:Option (List V)} (h:TR CC=r):CC ku []=r:=
 ba (key:=13) (L:=cb) (bs:=[]) (by kernel_rfl) aw (aX (by kernel_rfl) h)
end Go.AM
set_option maxRecDepth 100000
namespace Go.AM
open Go.Proofs Ex
def xh:Ex:= .node 7 0 [.node 5 0 [.node 3 0 [],.node 3 1 []]]
theorem af6:xh.Ok:=by
 refine .node (by omega) (by omega) (by unfold maxLen;simp) fun k hk=> ?_
 rw[dX.1 hk]
 refine .node (by omega) (by omega) (by unfold maxLen;simp) fun k hk=> ?_
 rcases cY.1 hk with rfl|hk
 ·exact .node (by omega) (by omega) (by simp) (by simp)
 ·rw[dX.1 hk]
  exact .node (by omega) (by omega) (by simp) (by simp)
theorem af7:(A7 xh 2).2=0∧(A7 xh 2).1.F=[true,false,false]:=by decide+kernel
theorem xi:CC ku []=some [.bool true]:=by
 refine af5 ?_
 unfold TR
 have eQ:CC Dm []=some (gI xh):=by
  refine af4 ?_
  unfold TQ xh
  simp only[gI,Ex.op,Ex.cp,Ex.kids,cH,gm,eu]
 refine bs eQ ?_
 refine bs (af3 af6 2) ?_
 obtain ⟨h1,U⟩:=af7
 generalize A7 xh 2=p at h1 U
 obtain ⟨⟨L,F,N⟩,f⟩:=p
 simp only at h1 U
 subst h1 U
 rfl
end Go.AM
set_option maxRecDepth 100000
namespace Go.AM
open Go.Proofs
noncomputable def TS (C:ag) (ah ar:Int) (ae:List V) (w v:List UInt8):Option (List V):=
 (C Di [.int .i64 ah,.int .i64 ar,.list aa ae,.int .i64 16]).bind fun r1=>
 bif !((V.nth r1 0).toBool) then
  (C ku []).bind fun r2=>
  some [.bool ((V.nth r2 0).toBool)]
 else
  bif decide (((IntKind.wrap .i64 ((w.length:Int)+(v.length:Int))):Int)>6) then
  (C ku []).bind fun r3=>
  some [.bool ((V.nth r3 0).toBool)]
  else
  bif Nat.ble (w.length+v.length) mz then
   (C Dj [.str (w++v),.int .i64 6]).bind fun r4=>
   bif !((V.nth r4 0).toBool) then
   (C ku []).bind fun r5=>
   some [.bool ((V.nth r5 0).toBool)]
   else
   (C vJ [.int .i64 ah,.int .i64 ar,.list aa ae,.str w]).bind fun r6=>
   bif Nat.ble (w.length+v.length) mz then
    (C vJ [.int .i64 ah,.int .i64 ar,.list aa ae,.str (w++v)]).bind fun r7=>
    bif (((V.nth (r6.drop 3) 0).toInt):Int) != 0 then
    bif (((V.nth (r6.drop 3) 0).toInt):Int)==0 then
     bif (((V.nth (r7.drop 3) 0).toInt):Int)==0 then
     (C ku []).bind fun r8=>
     some [.bool ((V.nth r8 0).toBool)]
     else
     bif (((V.nth (r7.drop 3) 0).toInt):Int)==3 then
      (C ku []).bind fun r9=>
      some [.bool ((V.nth r9 0).toBool)]
     else
      some [.bool false]
    else
     bif (((V.nth (r6.drop 3) 0).toInt):Int)==3 then
     bif (((V.nth (r7.drop 3) 0).toInt):Int)==0 then
      (C ku []).bind fun dW=>
      some [.bool ((V.nth dW 0).toBool)]
     else
      bif (((V.nth (r7.drop 3) 0).toInt):Int)==3 then
      (C ku []).bind fun eM=>
      some [.bool ((V.nth eM 0).toBool)]
      else
      some [.bool false]
     else
     some [.bool false]
    else
    bif (((V.nth (r7.drop 3) 0).toInt):Int) != 0 then
     bif (((V.nth (r6.drop 3) 0).toInt):Int)==0 then
     bif (((V.nth (r7.drop 3) 0).toInt):Int)==0 then
      (C ku []).bind fun fA=>
      some [.bool ((V.nth fA 0).toBool)]
     else
      bif (((V.nth (r7.drop 3) 0).toInt):Int)==3 then
      (C ku []).bind fun gd=>
      some [.bool ((V.nth gd 0).toBool)]
      else
      some [.bool false]
     else
     bif (((V.nth (r6.drop 3) 0).toInt):Int)==3 then
      bif (((V.nth (r7.drop 3) 0).toInt):Int)==0 then
      (C ku []).bind fun kB=>
      some [.bool ((V.nth kB 0).toBool)]
      else
      bif (((V.nth (r7.drop 3) 0).toInt):Int)==3 then
       (C ku []).bind fun ln=>
       some [.bool ((V.nth ln 0).toBool)]
      else
       some [.bool false]
     else
      some [.bool false]
    else
     (C vJ [.int .i64 ((V.nth r6 0).toInt),.int .i64 ((V.nth (r6.drop 1) 0).toInt),.list aa ((V.nth ((r6.drop 1).drop 1) 0).toList),.str v]).bind fun kD=>
     bif (((V.nth (kD.drop 3) 0).toInt):Int)==0 then
     (C y6 [.int .i64 ((V.nth kD 0).toInt),.int .i64 ((V.nth (kD.drop 1) 0).toInt),.list aa ((V.nth ((kD.drop 1).drop 1) 0).toList),.int .i64 ((V.nth r7 0).toInt),.int .i64 ((V.nth (r7.drop 1) 0).toInt),.list aa ((V.nth ((r7.drop 1).drop 1) 0).toList)]).bind fun dC=>
     bif (V.nth dC 0).toBool then
      (C ku []).bind fun iF=>
      some [.bool ((V.nth iF 0).toBool)]
     else
      some [.bool false]
     else
     some [.bool false]
   else none
  else none
theorem af8 {ah ar:Int} {ae:List V} {w v:List UInt8} {r:Option (List V)} (h:TS CC ah ar ae w v=r):CC HH [.int .i64 ah,.int .i64 ar,.list aa ae,.str w,.str v]=r:=
 ba (key:=8) (L:=cb) (bs:=[]) (by kernel_rfl) aw (aX (by kernel_rfl) h)
end Go.AM
set_option maxRecDepth 100000
namespace Go.AM
open Go.Proofs Ex
theorem TZ (e:Ex) (h:e.Ok) (w v:List UInt8) (hwl:w.length≤reachBytes) (qZ:v.length≤reachBytes):CC HH (bK e [.str w,.str v])=some [.bool true]:=by
 refine af8 ?_
 unfold TS
 refine bs (ae1 e h 16) ?_
 by_cases hl:e.val 6=0∧(e.size:Int)≤16
 case neg=>exact bT (by rw[V.aU,V.dV,cS hl];rfl) (bs xi rfl)
 refine bF (by rw[V.aU,V.dV,eg hl];rfl) ?_
 rw[aB]
 by_cases h6:IntKind.wrap .i64 ((w.length:Int)+(v.length:Int))>6
 ·rw[aj h6];exact bs xi rfl
 rw[ai h6]
 rw[wrap64 (by omega) (by unfold reachBytes at*;omega)] at h6
 have TT:Nat.ble (w.length+v.length) mz=true:=by rw[dD];unfold mz;omega
 refine bT TT (bs (aeI (w++v) 6) ?_)
 by_cases hw:nj (w++v) 6
 case neg=>exact bT (by rw[V.aU,V.dV,cS hw];rfl) (bs xi rfl)
 refine bF (by rw[V.aU,V.dV,eg hw];rfl) ?_
 refine bs (Kk e h w) (bT TT (bs (Kk e h (w++v)) ?_))
 obtain ⟨w1,w2⟩:=ae2 hw
 have a1:sb e w=xd w (aM e):=by unfold sb;rw[aj hl.1,aj w1]
 have a2:sb e (w++v)=xd (w++v) (aM e):=by unfold sb;rw[aj hl.1,aj hw]
 rw[a1,a2]
 unfold xd
 rw[SI]
 cases hg:jY w (aM e) with
 | none=>exact bT rfl (bF rfl (bT rfl (bF rfl (bT rfl (bs xi rfl)))))
 | some x=>
  have hx:=Kl w _ x (SZ hl.1) hg
  refine bF rfl ?_
  simp only[Option.bind_some]
  cases sZ:jY v x with
  | none=>exact bT rfl (bT rfl (bF rfl (bT rfl (bs xi rfl))))
  | some y=>
   have hy:=Kl v _ y hx sZ
   have a3:sb x v=(y,0):=by unfold sb xd;rw[aj hx.2,aj w2,hx.aM,sZ]
   have hb:=Kk x (Kj hx) v
   rw[a3] at hb
   exact bF rfl (bs hb (bT rfl (bs (aeZ (Kj hy) (Kj hy)) (bT (eg rfl) (bs xi rfl)))))
end Go.AM
