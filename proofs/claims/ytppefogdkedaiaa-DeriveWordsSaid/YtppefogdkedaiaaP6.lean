/-
  Functions of the program, lifted to plain data.
-/
import Derived.Test.YtppefogdkedaiaaP5
set_option linter.unusedVariables false
set_option linter.unusedSimpArgs false
set_option maxRecDepth 100000
namespace Go.AM
open Go.Proofs
noncomputable abbrev F2:Code:=cC Try.prog (ay.aT 70)
noncomputable def xZ (C:ag) (t20:List V) (t21 oP:Int) (oQ:Bool) (fO fP qZ q0:Int) (ra:Bool) (pN eb:List V) (sK:Bool) (t22:Int) (lT fy:List V) {β:Type} (kn:(Bool × Int × (List V) × (List V))→Option β) (kr:(Bool × Int × Bool × (List V) × (List V))→Option β):Option β:=
 bif decide ((t22:Int)<t21) then
  (idx t20 t22).bind fun x1=>
  bif !sK then
  (C Ao [.int .i64 oP,.bool oQ,.int .i64 ((x1.cell 0).toInt),.int .i64 ((x1.cell 1).toInt),.list aa ((x1.cell 2).toList)]).bind fun r2=>
  bif (decide (0≤t22))&&(decide (t22<(fy.length:Int))) then
   (fy[(t22:Int).toNat]?).bind fun x3=>
   kn (sK,IntKind.wrap .i64 (t22+1),lT,fy.set ((t22:Int).toNat) (.agg [.int .i64 ((V.nth r2 0).toInt),.int .i64 ((V.nth (r2.drop 1) 0).toInt),.list aa ((V.nth ((r2.drop 1).drop 1) 0).toList)]))
  else none
  else
  (C oB [.int .i64 oP,.bool oQ,.int .i64 ((x1.cell 0).toInt),.int .i64 ((x1.cell 1).toInt),.list aa ((x1.cell 2).toList)]).bind fun r4=>
  bif Nat.ble ((lT.length+([.agg [.int .i64 ((V.nth r4 0).toInt),.int .i64 ((V.nth (r4.drop 1) 0).toInt),.list aa ((V.nth ((r4.drop 1).drop 1) 0).toList)]]:List V).length)*40) bU then
   bif (decide (0≤t22))&&(decide (t22<(fy.length:Int))) then
   (fy[(t22:Int).toNat]?).bind fun x5=>
   kn ((V.nth ((((((r4.drop 1).drop 1).drop 1).drop 1).drop 1).drop 1) 0).toBool,IntKind.wrap .i64 (t22+1),lT++([.agg [.int .i64 ((V.nth r4 0).toInt),.int .i64 ((V.nth (r4.drop 1) 0).toInt),.list aa ((V.nth ((r4.drop 1).drop 1) 0).toList)]]:List V),fy.set ((t22:Int).toNat) (.agg [.int .i64 ((V.nth (((r4.drop 1).drop 1).drop 1) 0).toInt),.int .i64 ((V.nth ((((r4.drop 1).drop 1).drop 1).drop 1) 0).toInt),.list aa ((V.nth (((((r4.drop 1).drop 1).drop 1).drop 1).drop 1) 0).toList)]))
   else none
  else none
 else
  kr (sK,t22,decide ((t22:Int)<t21),lT,fy)
noncomputable def BB (C:ag) (t20:List V) (t21 oP:Int) (oQ:Bool) (fO fP qZ q0:Int) (ra:Bool) (pN eb:List V):(Bool × Int × (List V) × (List V))→Option ((Bool × Int × (List V) × (List V)) ⊕ (Bool × Int × Bool × (List V) × (List V))):=un fun sK=>un fun t22=>un fun lT fy=>xZ C t20 t21 oP oQ fO fP qZ q0 ra pN eb sK t22 lT fy (fun y=>some (.inl y)) (fun r=>some (.inr r))
noncomputable def BC (C:ag) (sK:Bool) (t55 fO fP qZ q0:Int) (ra:Bool) (fy F3 pN eb:List V) (t56:Int) (gy:List V) {β:Type} (kn:(Int × (List V))→Option β) (kr:(Int × Bool × (List V))→Option β):Option β:=
 bif decide ((t56:Int)<t55) then
  bif (decide (0≤t56))&&(decide (t56<(F3.length:Int))) then
  (F3[(t56:Int).toNat]?).bind fun eV=>
  bif (((eV.cell 0).toInt):Int)==1 then
   bif (decide (0≤t56))&&(decide (t56<(gy.length:Int))) then
   (gy[(t56:Int).toNat]?).bind fun mB=>
   kn (IntKind.wrap .i64 (t56+1),gy.set ((t56:Int).toNat) (.agg [.int .i64 ((eV.cell 0).toInt),.int .i64 ((eV.cell 1).toInt),.list aa ((eV.cell 2).toList)]))
   else none
  else
   bif (decide (0≤(IntKind.wrap .i64 (t56+1))))&&(decide ((IntKind.wrap .i64 (t56+1))≤(fy.length:Int))) then
   bif Nat.ble ((([.agg [.int .i64 ((eV.cell 0).toInt),.int .i64 ((eV.cell 1).toInt),.list aa ((eV.cell 2).toList)]]:List V).length+((fy.drop ((IntKind.wrap .i64 (t56+1):Int).toNat)).take (fy.length-((IntKind.wrap .i64 (t56+1):Int).toNat))).length)*40) bU then
    (C kh [.int .i64 5,.list aa (([.agg [.int .i64 ((eV.cell 0).toInt),.int .i64 ((eV.cell 1).toInt),.list aa ((eV.cell 2).toList)]]:List V)++((fy.drop ((IntKind.wrap .i64 (t56+1):Int).toNat)).take (fy.length-((IntKind.wrap .i64 (t56+1):Int).toNat))))]).bind fun gz=>
    bif (decide (0≤t56))&&(decide (t56<(gy.length:Int))) then
    (gy[(t56:Int).toNat]?).bind fun nC=>
    kn (IntKind.wrap .i64 (t56+1),gy.set ((t56:Int).toNat) (.agg [.int .i64 ((V.nth gz 0).toInt),.int .i64 ((V.nth (gz.drop 1) 0).toInt),.list aa ((V.nth ((gz.drop 1).drop 1) 0).toList)]))
    else none
   else none
   else none
  else none
 else
  kr (t56,decide ((t56:Int)<t55),gy)
noncomputable def F4 (C:ag) (sK:Bool) (t55 fO fP qZ q0:Int) (ra:Bool) (fy F3 pN eb:List V):(Int × (List V))→Option ((Int × (List V)) ⊕ (Int × Bool × (List V))):=un fun t56 gy=>BC C sK t55 fO fP qZ q0 ra fy F3 pN eb t56 gy (fun y=>some (.inl y)) (fun r=>some (.inr r))
noncomputable def T6 (C:ag):cp:=fun β n ds k=>
 bif Nat.beq n 81 then bW JM [true,false,false,true,false,false,false,false,false,false,false,true,true,false,false] [[0,2,3,0,0,5,6,7,8,9,10,11,0,0,14,15]] (@xZ C) ds k else
 bif Nat.beq n 225 then bW JN [false,false,true,false,false,false,false,false,false,true,false,false,false] [[1,2,0,0,4,5,6,7,8,9,0,11,12,13]] (@BC C) ds k else
 none
abbrev T7 (C:ag) (b:cj):Prop:=cl Try.prog ay C (T6 C) 70 (cH Try.prog (ay.aT 70)) (ay.sin 70).bc.length b
theorem af5 (C:ag):T7 C (.loop (aw [1,1,1,1,0,1,0,0] F2)):=
 ca JM [true,false,false,true,false,false,false,false,false,false,false,true,true,false,false] [[0,2,3,0,0,5,6,7,8,9,10,11,0,0,14,15]] (@xZ C) (by kernel_rfl) (bf (bs:=[]) (by kernel_rfl) ax) (fun ds=>by kernel_rfl) (fun i x=>by kernel_rfl) (fun i x β k=>by kernel_rfl) (fun β ds k=>by kernel_rfl)
theorem af6 (C:ag):T7 C (.loop (aw [1,1,1,1,1,1,0,1,0,0] F2)):=
 ca JN [false,false,true,false,false,false,false,false,false,true,false,false,false] [[1,2,0,0,4,5,6,7,8,9,0,11,12,13]] (@BC C) (by kernel_rfl) (bf (bs:=[]) (by kernel_rfl) ax) (fun ds=>by kernel_rfl) (fun i x=>by kernel_rfl) (fun i x β k=>by kernel_rfl) (fun β ds k=>by kernel_rfl)
noncomputable def T8 (C:ag) (dY:Int) (dZ:Bool) (af aq:Int) (ae:List V):Option (List V):=
 bif (decide (0≤(ae.length:Int)))&&((decide ((ae.length:Int)≤(ae.length:Int)))&&(Nat.ble ((((ae.length:Int):Int).toNat)*40) bU)) then
  (Loop (BB C ae (ae.length:Int) dY dZ 0 0 0 0 false ([]:List V) ([]:List V)) (true,0,([]:List V),List.replicate (((ae.length:Int):Int).toNat) (V.agg [.int .i64 0,.int .i64 0,.list aa ([]:List V)]))).bind (un fun (T9:Bool)=>un fun (pF:Int)=>un fun (QX:Bool)=>un fun (u5:List V) (Ua:List V)=>
   bif (decide (0≤(u5.length:Int)))&&((decide ((u5.length:Int)≤(u5.length:Int)))&&(Nat.ble ((((u5.length:Int):Int).toNat)*40) bU)) then
   (Loop (F4 C T9 (u5.length:Int) 0 0 0 0 false Ua u5 ([]:List V) ([]:List V)) (0,List.replicate (((u5.length:Int):Int).toNat) (V.agg [.int .i64 0,.int .i64 0,.list aa ([]:List V)]))).bind (un fun (xd:Int)=>un fun (KE:Bool) (af7:List V)=>
    (C kh [.int .i64 4,.list aa af7]).bind fun iU=>
    (C kh [.int .i64 5,.list aa Ua]).bind fun c9=>
    some [.int .i64 ((V.nth iU 0).toInt),.int .i64 ((V.nth (iU.drop 1) 0).toInt),.list aa ((V.nth ((iU.drop 1).drop 1) 0).toList),.int .i64 ((V.nth c9 0).toInt),.int .i64 ((V.nth (c9.drop 1) 0).toInt),.list aa ((V.nth ((c9.drop 1).drop 1) 0).toList),.bool T9])
   else none)
 else none
theorem af8 {dY:Int} {dZ:Bool} {af aq:Int} {ae:List V} {r:Option (List V)} (h:T8 CC dY dZ af aq ae=r):CC wQ [.int .i64 dY,.bool dZ,.int .i64 af,.int .i64 aq,.list aa ae]=r:=
 a9 (key:=70) (L:=T6 CC) (bs:=[.loop (aw [1,1,1,1,0,1,0,0] F2),.loop (aw [1,1,1,1,1,1,0,1,0,0] F2)]) (by kernel_rfl) (bA (af5 CC) (bA (af6 CC) ax)) (aZ (by kernel_rfl) h)
noncomputable abbrev F5:Code:=cC Try.prog (ay.aT 50)
noncomputable def F6 (C:ag) (t24:Bool) (dA c7:Int) (cF:List V) (fO fP qZ q0:Int) (ra:Bool) (af9 LL aga agb:Int) (pN eb eH u6:List V) {β:Type} (kr:(Int × Int × (List V))→Option β):Option β:=
 bif t24 then
  kr (aga,agb,u6)
 else
  kr (af9,LL,eH)
noncomputable def Ub (C:ag):cp:=fun β n ds k=>
 bif Nat.beq n 399 then iN JB [[2,3,4,5,6,7,8,9,0,0,14,15,0]] (@F6 C) ds k else
 none
abbrev agc (C:ag) (b:cj):Prop:=cl Try.prog ay C (Ub C) 50 (cH Try.prog (ay.aT 50)) (ay.sin 50).bc.length b
theorem agd (C:ag):agc C (.cond 24 (aw [1,1,0,1,0,1,1,1,0,0,1,0] F5) (aw [1,1,0,1,0,1,1,1,0,0,1,1] F5)):=
 jh JB [[2,3,4,5,6,7,8,9,0,0,14,15,0]] (@F6 C) (by kernel_rfl) (bf (bs:=[]) (by kernel_rfl) ax) (bf (bs:=[]) (by kernel_rfl) ax) (fun ds=>by kernel_rfl) (fun i β k=>by kernel_rfl) (fun β ds k=>by kernel_rfl)
noncomputable def Uc (C:ag) (dY:Int) (dZ:Bool) (af aq:Int) (ae:List V):Option (List V):=
 bif (af:Int)==2 then
  some [.int .i64 1,.int .i64 0,.list aa ([]:List V),.int .i64 2,.int .i64 0,.list aa ([]:List V),.bool true]
 else
  bif (af:Int)==3 then
  F6 C ((aq:Int)==dY) af aq ae 0 0 0 0 false 1 0 2 0 ([]:List V) ([]:List V) ([]:List V) ([]:List V) (un fun (LL:Int)=>un fun (age:Int) (F7:List V)=>
   some [.int .i64 LL,.int .i64 age,.list aa F7,.int .i64 3,.int .i64 aq,.list aa ([]:List V),.bool false])
  else
  bif (af:Int)==4 then
   bif (af:Int)==4 then
   (C wP [.int .i64 dY,.bool dZ,.int .i64 af,.int .i64 aq,.list aa ae]).bind fun r4=>
   some [.int .i64 ((V.nth r4 0).toInt),.int .i64 ((V.nth (r4.drop 1) 0).toInt),.list aa ((V.nth ((r4.drop 1).drop 1) 0).toList),.int .i64 ((V.nth (((r4.drop 1).drop 1).drop 1) 0).toInt),.int .i64 ((V.nth ((((r4.drop 1).drop 1).drop 1).drop 1) 0).toInt),.list aa ((V.nth (((((r4.drop 1).drop 1).drop 1).drop 1).drop 1) 0).toList),.bool ((V.nth ((((((r4.drop 1).drop 1).drop 1).drop 1).drop 1).drop 1) 0).toBool)]
   else
   bif (af:Int)==7 then
    (ae[0]?).bind fun x5=>
    (C oB [.int .i64 dY,.bool dZ,.int .i64 ((x5.cell 0).toInt),.int .i64 ((x5.cell 1).toInt),.list aa ((x5.cell 2).toList)]).bind fun r6=>
    (C kh [.int .i64 7,.list aa ([.agg [.int .i64 ((V.nth (((r6.drop 1).drop 1).drop 1) 0).toInt),.int .i64 ((V.nth ((((r6.drop 1).drop 1).drop 1).drop 1) 0).toInt),.list aa ((V.nth (((((r6.drop 1).drop 1).drop 1).drop 1).drop 1) 0).toList)]]:List V)]).bind fun r7=>
    (C kh [.int .i64 5,.list aa ([.agg [.int .i64 ((V.nth r6 0).toInt),.int .i64 ((V.nth (r6.drop 1) 0).toInt),.list aa ((V.nth ((r6.drop 1).drop 1) 0).toList)],.agg [.int .i64 ((V.nth r7 0).toInt),.int .i64 ((V.nth (r7.drop 1) 0).toInt),.list aa ((V.nth ((r7.drop 1).drop 1) 0).toList)]]:List V)]).bind fun r8=>
    some [.int .i64 ((V.nth r8 0).toInt),.int .i64 ((V.nth (r8.drop 1) 0).toInt),.list aa ((V.nth ((r8.drop 1).drop 1) 0).toList),.int .i64 ((V.nth r7 0).toInt),.int .i64 ((V.nth (r7.drop 1) 0).toInt),.list aa ((V.nth ((r7.drop 1).drop 1) 0).toList),.bool true]
   else
    bif (af:Int)==5 then
    (C wQ [.int .i64 dY,.bool dZ,.int .i64 af,.int .i64 aq,.list aa ae]).bind fun r9=>
    some [.int .i64 ((V.nth r9 0).toInt),.int .i64 ((V.nth (r9.drop 1) 0).toInt),.list aa ((V.nth ((r9.drop 1).drop 1) 0).toList),.int .i64 ((V.nth (((r9.drop 1).drop 1).drop 1) 0).toInt),.int .i64 ((V.nth ((((r9.drop 1).drop 1).drop 1).drop 1) 0).toInt),.list aa ((V.nth (((((r9.drop 1).drop 1).drop 1).drop 1).drop 1) 0).toList),.bool ((V.nth ((((((r9.drop 1).drop 1).drop 1).drop 1).drop 1).drop 1) 0).toBool)]
    else
    some [.int .i64 1,.int .i64 0,.list aa ([]:List V),.int .i64 1,.int .i64 0,.list aa ([]:List V),.bool false]
  else
   bif (af:Int)==6 then
   bif (af:Int)==6 then
    (C wP [.int .i64 dY,.bool dZ,.int .i64 af,.int .i64 aq,.list aa ae]).bind fun cT=>
    some [.int .i64 ((V.nth cT 0).toInt),.int .i64 ((V.nth (cT.drop 1) 0).toInt),.list aa ((V.nth ((cT.drop 1).drop 1) 0).toList),.int .i64 ((V.nth (((cT.drop 1).drop 1).drop 1) 0).toInt),.int .i64 ((V.nth ((((cT.drop 1).drop 1).drop 1).drop 1) 0).toInt),.list aa ((V.nth (((((cT.drop 1).drop 1).drop 1).drop 1).drop 1) 0).toList),.bool ((V.nth ((((((cT.drop 1).drop 1).drop 1).drop 1).drop 1).drop 1) 0).toBool)]
   else
    bif (af:Int)==7 then
    (ae[0]?).bind fun eV=>
    (C oB [.int .i64 dY,.bool dZ,.int .i64 ((eV.cell 0).toInt),.int .i64 ((eV.cell 1).toInt),.list aa ((eV.cell 2).toList)]).bind fun eW=>
    (C kh [.int .i64 7,.list aa ([.agg [.int .i64 ((V.nth (((eW.drop 1).drop 1).drop 1) 0).toInt),.int .i64 ((V.nth ((((eW.drop 1).drop 1).drop 1).drop 1) 0).toInt),.list aa ((V.nth (((((eW.drop 1).drop 1).drop 1).drop 1).drop 1) 0).toList)]]:List V)]).bind fun gz=>
    (C kh [.int .i64 5,.list aa ([.agg [.int .i64 ((V.nth eW 0).toInt),.int .i64 ((V.nth (eW.drop 1) 0).toInt),.list aa ((V.nth ((eW.drop 1).drop 1) 0).toList)],.agg [.int .i64 ((V.nth gz 0).toInt),.int .i64 ((V.nth (gz.drop 1) 0).toInt),.list aa ((V.nth ((gz.drop 1).drop 1) 0).toList)]]:List V)]).bind fun iS=>
    some [.int .i64 ((V.nth iS 0).toInt),.int .i64 ((V.nth (iS.drop 1) 0).toInt),.list aa ((V.nth ((iS.drop 1).drop 1) 0).toList),.int .i64 ((V.nth gz 0).toInt),.int .i64 ((V.nth (gz.drop 1) 0).toInt),.list aa ((V.nth ((gz.drop 1).drop 1) 0).toList),.bool true]
    else
    bif (af:Int)==5 then
     (C wQ [.int .i64 dY,.bool dZ,.int .i64 af,.int .i64 aq,.list aa ae]).bind fun jJ=>
     some [.int .i64 ((V.nth jJ 0).toInt),.int .i64 ((V.nth (jJ.drop 1) 0).toInt),.list aa ((V.nth ((jJ.drop 1).drop 1) 0).toList),.int .i64 ((V.nth (((jJ.drop 1).drop 1).drop 1) 0).toInt),.int .i64 ((V.nth ((((jJ.drop 1).drop 1).drop 1).drop 1) 0).toInt),.list aa ((V.nth (((((jJ.drop 1).drop 1).drop 1).drop 1).drop 1) 0).toList),.bool ((V.nth ((((((jJ.drop 1).drop 1).drop 1).drop 1).drop 1).drop 1) 0).toBool)]
    else
     some [.int .i64 1,.int .i64 0,.list aa ([]:List V),.int .i64 1,.int .i64 0,.list aa ([]:List V),.bool false]
   else
   bif (af:Int)==8 then
    (C wP [.int .i64 dY,.bool dZ,.int .i64 af,.int .i64 aq,.list aa ae]).bind fun kX=>
    some [.int .i64 ((V.nth kX 0).toInt),.int .i64 ((V.nth (kX.drop 1) 0).toInt),.list aa ((V.nth ((kX.drop 1).drop 1) 0).toList),.int .i64 ((V.nth (((kX.drop 1).drop 1).drop 1) 0).toInt),.int .i64 ((V.nth ((((kX.drop 1).drop 1).drop 1).drop 1) 0).toInt),.list aa ((V.nth (((((kX.drop 1).drop 1).drop 1).drop 1).drop 1) 0).toList),.bool ((V.nth ((((((kX.drop 1).drop 1).drop 1).drop 1).drop 1).drop 1) 0).toBool)]
   else
    bif (af:Int)==7 then
    (ae[0]?).bind fun qS=>
    (C oB [.int .i64 dY,.bool dZ,.int .i64 ((qS.cell 0).toInt),.int .i64 ((qS.cell 1).toInt),.list aa ((qS.cell 2).toList)]).bind fun iU=>
    (C kh [.int .i64 7,.list aa ([.agg [.int .i64 ((V.nth (((iU.drop 1).drop 1).drop 1) 0).toInt),.int .i64 ((V.nth ((((iU.drop 1).drop 1).drop 1).drop 1) 0).toInt),.list aa ((V.nth (((((iU.drop 1).drop 1).drop 1).drop 1).drop 1) 0).toList)]]:List V)]).bind fun c9=>
    (C kh [.int .i64 5,.list aa ([.agg [.int .i64 ((V.nth iU 0).toInt),.int .i64 ((V.nth (iU.drop 1) 0).toInt),.list aa ((V.nth ((iU.drop 1).drop 1) 0).toList)],.agg [.int .i64 ((V.nth c9 0).toInt),.int .i64 ((V.nth (c9.drop 1) 0).toInt),.list aa ((V.nth ((c9.drop 1).drop 1) 0).toList)]]:List V)]).bind fun fx=>
    some [.int .i64 ((V.nth fx 0).toInt),.int .i64 ((V.nth (fx.drop 1) 0).toInt),.list aa ((V.nth ((fx.drop 1).drop 1) 0).toList),.int .i64 ((V.nth c9 0).toInt),.int .i64 ((V.nth (c9.drop 1) 0).toInt),.list aa ((V.nth ((c9.drop 1).drop 1) 0).toList),.bool true]
    else
    bif (af:Int)==5 then
     (C wQ [.int .i64 dY,.bool dZ,.int .i64 af,.int .i64 aq,.list aa ae]).bind fun mG=>
     some [.int .i64 ((V.nth mG 0).toInt),.int .i64 ((V.nth (mG.drop 1) 0).toInt),.list aa ((V.nth ((mG.drop 1).drop 1) 0).toList),.int .i64 ((V.nth (((mG.drop 1).drop 1).drop 1) 0).toInt),.int .i64 ((V.nth ((((mG.drop 1).drop 1).drop 1).drop 1) 0).toInt),.list aa ((V.nth (((((mG.drop 1).drop 1).drop 1).drop 1).drop 1) 0).toList),.bool ((V.nth ((((((mG.drop 1).drop 1).drop 1).drop 1).drop 1).drop 1) 0).toBool)]
    else
     some [.int .i64 1,.int .i64 0,.list aa ([]:List V),.int .i64 1,.int .i64 0,.list aa ([]:List V),.bool false]
theorem agf {dY:Int} {dZ:Bool} {af aq:Int} {ae:List V} {r:Option (List V)} (h:Uc CC dY dZ af aq ae=r):CC oB [.int .i64 dY,.bool dZ,.int .i64 af,.int .i64 aq,.list aa ae]=r:=
 a9 (key:=50) (L:=Ub CC) (bs:=[.cond 24 (aw [1,1,0,1,0,1,1,1,0,0,1,0] F5) (aw [1,1,0,1,0,1,1,1,0,0,1,1] F5)]) (by kernel_rfl) (bA (agd CC) ax) (aZ (by kernel_rfl) h)
end Go.AM
set_option maxRecDepth 100000
namespace Go.AM
open Go.Proofs Ex
def rb (c:Int) (e:Ex):List V:=bH (aH (bG c e)) (bH (aH e) [.bool e.cK])
abbrev zE:V:= .agg [.int .i64 0,.int .i64 0,.list aa ([]:List V)]
theorem sL {α:Type} {A:List V} {n:Nat} {z:V} {i:Nat} (h:i=A.length) {K:V→Option α}:(bif (decide (0≤(i:Int)))&&(decide ((i:Int)<((A++List.replicate (n+1) z).length:Int))) then ((A++List.replicate (n+1) z)[((i:Int)).toNat]?).bind K else none)=K z:=by
 refine sH ?_
 rw[h,iv (bY _)]
 simp
theorem sM {A:List V} {n:Nat} {z v:V} {i:Nat} (h:i=A.length):(A++List.replicate (n+1) z).set i v=A++[v]++List.replicate n z:=by
 rw[List.replicate_succ,TO _ _ _ _ h]
theorem agh (a:Ex):V.agg [.int .i64 a.op,.int .i64 a.bm,.list aa (a.kids.map enc)]=a.enc:=(dg a).symm
theorem LM {c:Int} {e:Ex} (hw:e.wf 6=true):(aH (bG c e)).size≤e.size*e.size:=
 la (xq _ (sI e hw)) (LI e 6 hw)
theorem BD {a m:Nat} (h:a≤m):a*a≤m*m:=Nat.mul_le_mul h h
theorem Ud {e:Ex} (hw:e.wf 6=true) (hs:e.size≤1000000):Gd 6 (aH e)∧(aH e).Ok∧(aH e).size≤e.size:=by
 have h1:=lP e hw
 have U:=xq e hw
 exact ⟨h1,pH (by omega) _ h1.2 (by omega),U⟩
def mI (c:Int):List Ex→List Ex
 | []=>[]
 | k::ks=>aH (bG c k)::(if k.cK=true then mI c ks else [])
def BE (ss:List Ex):Nat→List Ex→List Ex
 | _,[]=>[]
 | i,d::ds=>(if d.op=1 then d else dK 5 0 (d::ss.drop (i+1)))::BE ss (i+1) ds
theorem Ue {c:Int}: ∀(ks pre:List Ex),BE ((pre++ks).map aH) pre.length (mI c ks)=sJ c ks
 | [],pre=>rfl
 | k::ks,pre=>by
  have ih:=Ue (c:=c) ks (pre++[k])
  have e1:((pre++k::ks).map aH).drop (pre.length+1)=ks.map aH:=by
   rw[eQ,cz,show pre.length+1=(pre.map aH++[aH k]).length by simp,show pre.map aH++aH k::ks.map aH=(pre.map aH++[aH k])++ks.map aH by simp,List.drop_left]
  unfold mI sJ BE F0
  rw[e1]
  refine congrArg _ ?_
  split
  ·rw[←ih];simp
  ·rfl
theorem Uf {c:Int}: ∀ks:List Ex,(mI c ks).length≤ks.length
 | []=>bY _
 | k::ks=>by
  have:=Uf (c:=c) ks
  unfold mI
  split<;>simp<;>omega
theorem Ug {c:Int}: ∀{ks:List Ex} {d:Ex},d∈mI c ks→∃k∈ks,d=aH (bG c k)
 | k::ks,d,h=>by
  unfold mI at h
  rcases di.1 h with rfl|h
  ·exact ⟨k,by simp,rfl⟩
  ·split at h
   ·obtain ⟨x,hx,e⟩:=Ug h
    exact ⟨x,by simp[hx],e⟩
   ·cases h
theorem LN: ∀{ks:List Ex},(∀k∈ks,k.wf 6=true)→aJ (ks.map aH)≤aJ ks
 | [],_=>by simp[aJ]
 | k::ks,h=>by
  have a:=xq k (h k (by simp))
  have b:=LN (ks:=ks) fun k hk=>h k (by simp[hk])
  simp only[cz,aJ];omega
theorem LO {ks:List Ex} {f:Ex→Ex} (h: ∀k∈ks,Gd 6 (f k)∧(f k).Ok):(∀k∈ks.map f,Gd 6 k)∧∀k∈ks.map f,k.Ok:=
 ⟨fun x hx=>by obtain ⟨k,hk,rfl⟩:=gh.1 hx;exact (h k hk).1,fun x hx=>by obtain ⟨k,hk,rfl⟩:=gh.1 hx;exact (h k hk).2⟩
theorem ya {n:Nat} (h:n≤1000000):Nat.ble (n*40) bU=true:=by rw[dx,ki];omega
theorem F8 {n:Nat} (h:n≤1000000):((decide (0≤(n:Int)))&&((decide ((n:Int)≤(n:Int)))&&(Nat.ble (((n:Int).toNat)*40) bU)))=true:=afR (by omega) (by omega)
def kY (ks:List Ex):Nat:=(ks.filter Ex.cK).length
section
variable {c:Int} {nm:Bool} {ks:List Ex}
variable (hn:ks.length≤1000) (ih: ∀k∈ks,CC oB (.int .i64 c:: .bool nm::bH k [])=some (rb c k))
include hn ih
theorem agi {a b c1 c2 c3 c4:Int} {b1:Bool} {l1 l2 l3:List V}: ∀(av pre:List Ex),ks=pre++av→
  Loop (F1 CC (ks.map enc) (ks.length:Int) c nm a b l1 c1 c2 c3 c4 b1 l2 l3) (((kY pre:Nat):Int),((pre.length:Nat):Int),(pre.map fun k=>aH (bG c k)).map enc++List.replicate av.length zE,(pre.map aH).map enc++List.replicate av.length zE)
   = some (((kY ks:Nat):Int),(ks.length:Int),false,(ks.map fun k=>aH (bG c k)).map enc,(ks.map aH).map enc):=by
 intro av
 induction av with
 | nil=>
  intro pre e
  rw[cP] at e
  subst e
  refine aV ?_
  simp only[F1,Bz,un]
  rw[az,ai (by omega),cr (by omega)]
  simp
 | cons k av dP=>
  intro pre e
  have bE:pre.length<ks.length:=by rw[e];simp
  have bV:idx (ks.map enc) (pre.length:Int)=some k.enc:=by rw[e];exact ga _ _ _
  refine (bQ ?_).trans (dP (pre++[k]) (by simp[e]))
  simp only[F1,Bz,un]
  refine bT (oO bE) (bs bV ?_)
  rw[bd,bj,bh]
  refine bs (ih k (by rw[e];simp)) ?_
  refine (sL (by simp)).trans ?_
  refine (sL (by simp)).trans ?_
  rw[Int.toNat_natCast]
  have hc:kY (pre++[k])=kY pre+(if k.cK=true then 1 else 0):=by
   unfold kY
   rw[mP,bS]
   cases hk:k.cK<;>simp[hk]
  have kO:kY pre≤pre.length:=s0 _ _
  have rJ:pre.length=((pre.map fun k=>aH (bG c k)).map enc).length:=by simp
  have jr:pre.length=((pre.map aH).map enc).length:=by simp
  rw[List.length_cons,sM rJ,sM jr]
  cases hk:k.cK with
  | true=>
   refine bT hk ?_
   rw[lS (by omega),lS (by omega),hc,hk]
   simp only[cI,eQ,cz,fR,bS,List.length_cons,List.length_nil]
   rw[dg (aH (bG c k)),dg (aH k)]
   rfl
  | false=>
   refine bF hk ?_
   rw[lS (by omega),hc,hk]
   simp only[ai Cy,eQ,cz,fR,bS,List.length_cons,List.length_nil]
   rw[dg (aH (bG c k)),dg (aH k)]
   rfl
theorem agj {c1 c2 c3 c4:Int} {b1:Bool} {l1 l2:List V} (hs: ∀k∈ks,CC Ao (.int .i64 c:: .bool nm::bH k [])=some (et (aH k))): ∀(av pre B:List Ex) (b:Bool),ks=pre++av→B.length≤pre.length→
  Loop (BB CC (ks.map enc) (ks.length:Int) c nm c1 c2 c3 c4 b1 l1 l2) (b,((pre.length:Nat):Int),B.map enc,(pre.map aH).map enc++List.replicate av.length zE)
   = some (b&&av.all Ex.cK,(ks.length:Int),false,(B++(if b=true then mI c av else [])).map enc,(ks.map aH).map enc):=by
 intro av
 induction av with
 | nil=>
  intro pre B b e hB
  rw[cP] at e
  subst e
  refine aV ?_
  simp only[BB,xZ,un]
  rw[az,ai (by omega),cr (by omega)]
  simp[mI]
 | cons k av dP=>
  intro pre B b e hB
  have bE:pre.length<ks.length:=by rw[e];simp
  have bV:idx (ks.map enc) (pre.length:Int)=some k.enc:=by rw[e];exact ga _ _ _
  have jr:pre.length=((pre.map aH).map enc).length:=by simp
  cases b with
  | false=>
   refine (bQ ?_).trans (dP (pre++[k]) B false (by simp[e]) (by simp;omega))
   simp only[BB,xZ,un]
   refine bT (oO bE) (bs bV (bT rfl ?_))
   rw[bd,bj,bh]
   refine bs (hs k (by rw[e];simp)) ?_
   refine (sL (by simp)).trans ?_
   rw[Int.toNat_natCast,List.length_cons,sM jr,lS (by omega)]
   simp only[eQ,cz,fR,bS,List.length_cons,List.length_nil]
   rw[dg (aH k)]
   rfl
  | true=>
   refine ((bQ ?_).trans (dP (pre++[k]) (B++[aH (bG c k)]) k.cK (by simp[e]) (by simp;omega))).trans ?_
   ·simp only[BB,xZ,un]
    refine bT (oO bE) (bs bV (bF rfl ?_))
    rw[bd,bj,bh]
    refine bs (ih k (by rw[e];simp)) ?_
    refine bT (ya (by simp;omega)) ?_
    refine (sL (by simp)).trans ?_
    rw[Int.toNat_natCast,List.length_cons,sM jr,lS (by omega)]
    simp only[eQ,cz,fR,bS,List.length_cons,List.length_nil]
    rw[dg (aH k),dg (aH (bG c k))]
    rfl
   ·simp only[lV,List.all_cons,cI]
    rw[show mI c (k::av)=aH (bG c k)::(if k.cK=true then mI c av else []) from rfl,cq]
    rfl
end
theorem agk {ss D:List Ex} {b b1:Bool} {c1 c2 c3 c4:Int} {l1 l2:List V} (hD:D.length≤ss.length) (hss:ss.length≤1000) (hd: ∀d∈D,Gd 6 d∧d.Ok∧d.size≤500000) (hsg: ∀k∈ss,Gd 6 k∧k.Ok) (aX:aJ ss≤500000): ∀(av pre P:List Ex),D=pre++av→P.length=pre.length→
  Loop (F4 CC b (D.length:Int) c1 c2 c3 c4 b1 (ss.map enc) (D.map enc) l1 l2) (((pre.length:Nat):Int),P.map enc++List.replicate av.length zE)
   = some ((D.length:Int),false,(P++BE ss pre.length av).map enc):=by
 intro av
 induction av with
 | nil=>
  intro pre P e hP
  rw[cP] at e
  subst e
  refine aV ?_
  simp only[F4,BC,un]
  rw[az,ai (by omega),cr (by omega)]
  simp[BE]
 | cons d av dP=>
  intro pre P e hP
  have bE:pre.length<D.length:=by rw[e];simp
  have hm:d∈D:=by rw[e];simp
  have bV:(D.map enc)[pre.length]? =some d.enc:=by rw[e];simp
  have jr:pre.length=(P.map enc).length:=by simp[hP]
  refine ((bQ ?_).trans (dP (pre++[d]) (P++[if d.op=1 then d else dK 5 0 (d::ss.drop (pre.length+1))]) (by simp[e]) (by simp[hP]))).trans ?_
  ·simp only[F4,BC,un]
   refine bT (oO bE) ?_
   refine (sH bV).trans ?_
   rw[bd,bj,bh,df]
   by_cases h1:d.op=1
   ·rw[aj h1,aj h1]
    refine (sL jr).trans ?_
    rw[Int.toNat_natCast,List.length_cons,sM jr,lS (by omega)]
    simp only[eQ,cz,fR,bS,List.length_cons,List.length_nil]
    rw[dg d]
   ·rw[ai h1,ai h1,lS (by omega),Int.toNat_natCast,aP]
    refine bT (s4.2 ⟨dj (by omega),dj (by omega)⟩) ?_
    have ht:((ss.map enc).drop (pre.length+1)).take (ss.length-(pre.length+1))=(ss.drop (pre.length+1)).map enc:=by
     rw[←List.map_drop,yL (by simp)]
    rw[ht]
    refine bT (ya (by simp;omega)) ?_
    have hg: ∀k∈d::ss.drop (pre.length+1),Gd 6 k∧k.Ok:=fun k hk=>by
     rcases di.1 hk with rfl|hk
     ·exact ⟨(hd _ hm).1,(hd _ hm).2.1⟩
     ·exact hsg k (List.mem_of_mem_drop hk)
    have hz:aJ (d::ss.drop (pre.length+1))≤1000000:=by
     have h1:=(hd d hm).2.2
     have U:=Fs (ss.take (pre.length+1)) (ss.drop (pre.length+1))
     rw[Cs] at U
     simp only[aJ];omega
    rw[LF,←eQ]
    refine bs (qY (o:=5) (fun k hk=>(hg k hk).1) (fun k hk=>(hg k hk).2) hz (by omega)) ?_
    refine (sL jr).trans ?_
    rw[Int.toNat_natCast,List.length_cons,sM jr]
    simp only[eQ,cz,fR,bS,List.length_cons,List.length_nil]
    rw[dg (dK 5 0 (d::ss.drop (pre.length+1)))]
    rfl
  ·rw[bS,cq]
   rfl
theorem Uh: ∀ks:List Ex,lN ks=ks.all Ex.cK
 | []=>rfl
 | k::ks=>by simp[lN,Uh ks]
theorem Ui: ∀ks:List Ex,km ks=decide ((kY ks:Int)>0)
 | []=>by simp[km,kY]
 | k::ks=>by
  have:=Ui ks
  unfold kY at*
  cases hk:k.cK
  ·simp[km,hk,this]
  ·simp[km,hk]
theorem Uj: ∀ks:List Ex,lN ks=((kY ks:Int)==(ks.length:Int))
 | []=>by simp[lN,kY]
 | k::ks=>by
  have h:=Uj ks
  have hl:kY ks≤ks.length:=s0 _ _
  unfold kY at*
  rw[lN,h,oZ]
  cases hk:k.cK
  ·simp[hk];omega
  ·simp[hk]
theorem agl {c:Int} {nm:Bool}: ∀e:Ex,e.wf 6=true→e.size≤400→(nm=true→Gd 6 e)→CC oB (.int .i64 c:: .bool nm::bH e [])=some (rb c e):=
 ind fun o l ks ih hw hs lg=>by
  obtain ⟨h1,U⟩:=gA hw
  have hl:=ko ks
  have F9:aJ ks≤399:=by simp only[size] at hs;omega
  have u7: ∀k∈ks,k.size≤399:=fun k hk=>la (su hk) F9
  have gM: ∀k∈ks,CC oB (.int .i64 c:: .bool nm::bH k [])=some (rb c k):=fun k hk=>ih k hk (U k hk) (by have:=u7 k hk;omega) fun h=>(lg h).kids k hk
  have hsm: ∀k∈ks,CC Ao (.int .i64 c:: .bool nm::bH k [])=some (et (aH k)):=fun k hk=>by
   refine afZ ?_
   unfold TY
   cases nm with
   | true=>refine bT rfl ?_;rw[RZ k ((lg rfl).kids k hk)];rfl
   | false=>
    refine bF rfl ?_
    have:=u7 k hk
    exact bs (TP (n:=6) (by omega) k (U k hk) (by omega)) rfl
  have dO: ∀k∈ks,(aH (bG c k)).size≤160000:=fun k hk=>by
   have a:=LM (c:=c) (U k hk)
   have b:=BD (u7 k hk)
   omega
  have BF: ∀k∈ks,Gd 6 (aH (bG c k))∧(aH (bG c k)).Ok:=fun k hk=>by
   have a:=lP _ (sI (c:=c) k (U k hk))
   have b:=dO k hk
   exact ⟨a,pH (by omega) _ a.2 (by omega)⟩
  have Ga: ∀k∈ks,Gd 6 (aH k)∧(aH k).Ok:=fun k hk=>by
   have a:=Ud (U k hk) (by have:=u7 k hk;omega)
   exact ⟨a.1,a.2.1⟩
  have hnz:=LN U
  have hbz:aJ (ks.map fun k=>aH (bG c k))≤160000:=by
   have a:=LG (f:=fun k=>aH (bG c k)) fun k hk=>LM (c:=c) (U k hk)
   have b:=BD F9
   omega
  have LP:(o=4∨o=6∨o=8)→CC wP (.int .i64 c:: .bool nm::bH (.node o l ks) [])=some (rb c (.node o l ks)):=fun ho=>by
   obtain ⟨a1,a2⟩:=LO BF
   obtain ⟨b1,b2⟩:=LO Ga
   have jx:l=0:=by rcases ew h1 with h|h<;>omega
   refine af4 ?_
   unfold T4
   simp only[Ex.op,Ex.kids,Ex.bm,aP]
   refine bT (F8 (by omega)) (bT (F8 (by omega)) ?_)
   have LQ:=agi (ks:=ks) (nm:=nm) (c:=c) (by omega) gM (a:=o) (b:=l) (c1:=0) (c2:=0) (c3:=0) (c4:=0) (b1:=false) (l1:=ks.map enc) (l2:=[]) (l3:=[]) ks [] rfl
   rw[Int.toNat_natCast]
   refine bs LQ ?_
   unfold rb
   rw[afV ho,lO,jx]
   rcases ho with rfl|rfl|rfl
   ·refine bs (qY a1 a2 (by omega) (.inl rfl)) ?_
    refine bs (qY b1 b2 (by omega) (.inl rfl)) ?_
    refine bT rfl ?_
    rw[←Ui]
    rfl
   ·refine bs (qY a1 a2 (by omega) (.inr (.inr rfl))) ?_
    refine bs (qY b1 b2 (by omega) (.inr (.inr rfl))) ?_
    refine bF rfl (bT rfl ?_)
    rw[←Uj]
    rfl
   ·obtain ⟨k,rfl⟩:=vi.1 (show ks.length=1 by rcases ew h1 with h|h<;>omega)
    refine bs (FY (BF k (by simp)).1 (.inr rfl)) ?_
    refine bs (FY (Ga k (by simp)).1 (.inr rfl)) ?_
    refine bF rfl (bF rfl (bT rfl ?_))
    refine congrArg some ?_
    have:(((kY [k]:Nat):Int)==0)=(Ex.node 8 0 [k]).cK:=by
     simp only[Ex.cK,kY]
     cases hk:k.cK<;>simp[hk,km]
    rw[this]
    rfl
  have agm:o=5→CC wQ (.int .i64 c:: .bool nm::bH (.node o l ks) [])=some (rb c (.node o l ks)):=fun ho=>by
   subst ho
   have bC:ks≠[]:=by rintro rfl;rcases ew h1 with h|h<;>simp at h<;>omega
   have jx:l=0:=by rcases ew h1 with h|h<;>omega
   obtain ⟨b1,b2⟩:=LO Ga
   have hD:=Uf (c:=c) ks
   refine af8 ?_
   unfold T8
   simp only[Ex.op,Ex.kids,Ex.bm,aP]
   refine bT (F8 (by omega)) ?_
   rw[Int.toNat_natCast]
   have LQ:=agj (ks:=ks) (nm:=nm) (c:=c) (by omega) gM (c1:=0) (c2:=0) (c3:=0) (c4:=0) (b1:=false) (l1:=[]) (l2:=[]) hsm ks [] [] true rfl (bY _)
   refine bs LQ ?_
   simp only[un,List.nil_append,cI,lV,aP]
   refine bT (F8 (by omega)) ?_
   rw[Int.toNat_natCast]
   have bE:=agk (ss:=ks.map aH) (D:=mI c ks) (b:=ks.all Ex.cK) (c1:=0) (c2:=0) (c3:=0) (c4:=0) (b1:=false) (l1:=[]) (l2:=[]) (by simp;omega) (by simp;omega) (fun d hd=>by
    obtain ⟨k,hk,rfl⟩:=Ug hd
    have:=dO k hk
    exact ⟨(BF k hk).1,(BF k hk).2,by omega⟩) (fun k hk=>⟨b1 k hk,b2 k hk⟩) (by omega) (mI c ks) [] [] rfl rfl
   have he:=Ue (c:=c) ks []
   rw[List.nil_append] at he
   rw[List.length_nil] at bE he
   rw[he] at bE
   refine bs bE ?_
   simp only[un,List.nil_append]
   have vH:=parts_eq (c:=c) U
   have Uk:=FZ (c:=c) U fun k hk=>sI k (U k hk)
   have hcz:aJ (gX c ks)≤160000:=by
    have a:=LH (c:=c) (ks:=ks) fun k hk=>LI k 6 (U k hk)
    have b:=BD (show 1+aJ ks≤400 by omega)
    omega
   have hpz:aJ (sJ c ks)≤160000:=by rw[vH];have:=LN Uk;omega
   have Ul: ∀k∈sJ c ks,Gd 6 k∧k.Ok:=fun k hk=>by
    have hz:=su hk
    rw[vH] at hk
    obtain ⟨x,hx,rfl⟩:=gh.1 hk
    have a:=lP x (Uk x hx)
    exact ⟨a,pH (by omega) _ a.2 (by omega)⟩
   refine bs (qY (fun k hk=>(Ul k hk).1) (fun k hk=>(Ul k hk).2) (by omega) (.inl rfl)) ?_
   refine bs (qY b1 b2 (by omega) (.inr (.inl rfl))) ?_
   unfold rb
   rw[afY bC U,lO,jx,←Uh]
   rfl
  refine agf ?_
  unfold Uc F6
  simp only[Ex.op,Ex.kids,Ex.bm]
  rcases ew h1 with ⟨rfl,h⟩|⟨rfl,⟨rfl,h⟩|⟨rfl,h⟩|⟨rfl,h⟩|⟨rfl,h⟩|⟨rfl,h⟩|⟨rfl,h⟩|⟨rfl,h⟩⟩
  ·obtain rfl:=mO.1 (show ks.length=0 by omega)
   refine bF rfl (bT rfl ?_)
   unfold rb
   rw[nM,aj rfl,lO,jH (by omega)]
   rw[df]
   by_cases ox:l=c
   ·rw[aj ox,aj ox];rfl
   ·rw[ai ox,ai ox];rfl
  ·obtain rfl:=mO.1 (show ks.length=0 by omega)
   rfl
  ·obtain rfl:=mO.1 (show ks.length=0 by omega)
   rfl
  ·exact bF rfl (bF rfl (bT rfl (bT rfl (bs (LP (.inl rfl)) rfl))))
  ·refine bF rfl (bF rfl (bF rfl (bF rfl (bF rfl (bF rfl (bT rfl ?_))))))
   exact bs (agm rfl) rfl
  ·exact bF rfl (bF rfl (bF rfl (bT rfl (bT rfl (bs (LP (.inr (.inl rfl))) rfl)))))
  ·obtain ⟨k,rfl⟩:=vi.1 (show ks.length=1 by omega)
   refine bF rfl (bF rfl (bF rfl (bF rfl (bF rfl (bT rfl ?_)))))
   refine bs (a:=k.enc) rfl ?_
   rw[bd,bj,bh]
   refine bs (gM k (by simp)) ?_
   have hk:=Ga k (by simp)
   have hb:=BF k (by simp)
   have hj:=FY hk.1 (o:=7) (.inl rfl)
   rw[cz,fR,dg] at hj
   refine bs hj ?_
   have ph:dK 7 0 [aH k]=aH (.node 7 0 [k]):=by rw[lO];rfl
   have LR:=Ud hw (by omega)
   have hz2:=dO k (by simp)
   have fW:=qY (n:=6) (ks:=[aH (bG c k),aH (.node 7 0 [k])]) (o:=5) (fun x hx=>by
    rcases di.1 hx with rfl|hx
    ·exact hb.1
    ·rw[en.1 hx];exact LR.1) (fun x hx=>by
    rcases di.1 hx with rfl|hx
    ·exact hb.2
    ·rw[en.1 hx];exact LR.2.1) (by have:=LR.2.2;simp only[aJ];omega) (by omega)
   rw[cz,cz,fR,dg (aH (bG c k)),dg (aH (.node 7 0 [k])),←ph] at fW
   refine bs fW ?_
   unfold rb
   rw[afW,←ph]
   rfl
  ·exact bF rfl (bF rfl (bF rfl (bF rfl (bT rfl (bs (LP (.inr (.inr rfl))) rfl)))))
structure Dv where
 L:Int
 es:List Ex
 nx:List (List Int)
 dn:Int
deriving DecidableEq
def Dv.zero:Dv:=⟨0,[],[],0⟩
def kZ (e:Ex) (c:Nat):Option Ex:=if (aH (bG c e)).val 6=0 then some (aH (bG c e)) else none
def nO (e:Ex):Nat→Nat→List Ex→List Int→Option (List Ex × List Int)
 | 0,_,es,row=>some (es,row)
 | n+1,x,es,row=>(kZ e x).bind fun d=>
  if d∈es then nO e n (x+1) es (row++[(es.idxOf d:Int)])
  else if es.length=512 then none else nO e n (x+1) (es++[d]) (row++[(es.length:Int)])
def proc (s:Dv):Option Dv:=(nO (s.es.getD s.dn.toNat ba) s.L.toNat 0 s.es []).map fun p=>⟨s.L,p.1,s.nx++[p.2],s.dn+1⟩
def sN:Nat→Dv→Option Dv
 | 0,s=>some s
 | n+1,s=>if s.dn<s.es.length then (proc s).bind (sN n) else some s
def rf (e:Ex) (L:Int):Dv:=⟨L,[aH e],[],0⟩
theorem Um {L:Int} (h:L≤6): ∀e:Ex,e.wf L=true→e.wf 6=true:=ind fun o l ks ih hw=>by
 obtain ⟨h1,U⟩:=gA hw
 refine uF ?_ fun k hk=>ih k hk (U k hk)
 unfold dJ at h1⊢
 by_cases ho:o=3
 ·rw[aj ho] at h1⊢
  have:=mJ h1
  exact dj (by omega)
 ·rw[ai ho] at h1⊢;exact h1
theorem LU {e:Ex} {L:Int} (h:e.val L=0):(1≤L∧L≤6)∧e.depth≤40∧e.size≤400∧e.wf L=true:=by
 unfold Ex.val at h
 repeat' split at h
 all_goals first|omega|skip
 next a b c=>exact ⟨a,b.1,b.2,c⟩
theorem val_mk {e:Ex} {L:Int} (h:(1≤L∧L≤6)∧e.depth≤40∧e.size≤400∧e.wf L=true):e.val L=0:=by
 unfold Ex.val
 rw[aj h.1,aj ⟨h.2.1,h.2.2.1⟩,aj h.2.2.2]
theorem Gb {e:Ex} {L:Int} (h:e.val L=0):e.val 6=0:=by
 obtain ⟨h1,U,h3,h4⟩:=LU h
 exact val_mk ⟨by omega,U,h3,Um h1.2 e h4⟩
theorem LV {e:Ex} {L:Int} (h:e.val L=0):(aH e).val L=0:=by
 obtain ⟨h1,U,h3,h4⟩:=LU h
 have:=xq e h4
 have:=adh e h4
 exact val_mk ⟨h1,by omega,by omega,(lP e h4).2⟩
def Nv (e:Ex):Prop:=Gd 6 e∧e.val 6=0
theorem Nv.aH {e:Ex} (h:Nv e):aH e=e:=RZ e h.1
theorem BG {e d:Ex} {c:Nat} (he:Nv e) (h:kZ e c=some d):Nv d∧d=Go.AM.aH (bG c e):=by
 unfold kZ at h
 split at h
 ·next hv=>
  cases h
  exact ⟨⟨lP _ (sI e he.1.2),hv⟩,rfl⟩
 ·cases h
structure Es (es:List Ex):Prop where
 le:es.length≤512
 nv: ∀e∈es,Nv e
 nd:es.Nodup
def pO (e:Ex) (es:List Ex) (n:Nat) (row:List Int):Prop:=row.length=n∧∀x,x<n→∃j:Nat,row.getD x 0=j∧j<es.length∧kZ e x=some (es.getD j ba)
theorem pO.mono {e:Ex} {es t:List Ex} {n:Nat} {row:List Int} (h:pO e es n row):pO e (es++t) n row:=⟨h.1,fun x hx=>by
 obtain ⟨j,h1,U,h3⟩:=h.2 x hx
 refine ⟨j,h1,by rw[bS];omega,?_⟩
 rw[h3,jq,jq,iu U]⟩
theorem pO.snoc {e:Ex} {es:List Ex} {n j:Nat} {row:List Int} (h:pO e es n row) (h1:j<es.length) (U:kZ e n=some (es.getD j ba)):pO e es (n+1) (row++[(j:Int)]):=by
 refine ⟨by rw[bS,h.1];rfl,fun x hx=> ?_⟩
 rcases oW x n with c|c
 ·obtain ⟨i,i1,i2,i3⟩:=h.2 x c
  refine ⟨i,?_,i2,i3⟩
  rw[←i1,jq,jq,iu (by rw[h.1];exact c)]
 ·obtain rfl:x=n:=by omega
  refine ⟨j,?_,h1,U⟩
  rw[jq,iv (by rw[h.1];exact bY _),h.1]
  simp
theorem Es.snoc {es:List Ex} {d:Ex} (h:Es es) (hd:Nv d) (hn:d∉es) (hl:es.length≠512):Es (es++[d]):=by
 refine ⟨by have:=h.le;simp;omega,fun e he=> ?_,?_⟩
 ·rcases ez.1 he with he|he
  ·exact h.nv e he
  ·rw[en.1 he];exact hd
 ·rw[Cu]
  refine ⟨h.nd,by simp,fun a ha b hb=> ?_⟩
  rw[en.1 hb]
  rintro rfl
  exact hn ha
theorem agn {es:List Ex} {d:Ex} (h:d∈es):es.getD (es.idxOf d) ba=d:=by
 have:=List.idxOf_lt_length_iff.2 h
 rw[jq,bO this,Option.getD_some,List.getElem_idxOf]
theorem LW {e:Ex} (he:Nv e): ∀(n x:Nat) (es:List Ex) (row:List Int) (p:List Ex × List Int),Es es→pO e es x row→nO e n x es row=some p→Es p.1∧pO e p.1 (x+n) p.2∧∃t,p.1=es++t
 | 0,x,es,row,p,h1,U,h=>by
  cases h
  exact ⟨h1,U,[],by simp⟩
 | n+1,x,es,row,p,h1,U,h=>by
  rw[nO] at h
  cases hs:kZ e x with
  | none=>rw[hs] at h;cases h
  | some d=>
   rw[hs] at h
   obtain ⟨hd,_⟩:=BG he hs
   simp only[Option.bind_some] at h
   by_cases hm:d∈es
   ·rw[aj hm] at h
    have:=LW he n (x+1) es _ p h1 (U.snoc (List.idxOf_lt_length_iff.2 hm) (by rw[hs,agn hm])) h
    rw[show x+(n+1)=x+1+n by omega]
    exact this
   ·rw[ai hm] at h
    by_cases hl:es.length=512
    ·rw[aj hl] at h;cases h
    ·rw[ai hl] at h
     obtain ⟨a,b,t,c⟩:=LW he n (x+1) (es++[d]) _ p (h1.snoc hd hm hl) (U.mono.snoc (by simp) (by rw[hs,jq];simp)) h
     rw[show x+(n+1)=x+1+n by omega]
     exact ⟨a,b,d::t,by rw[c,cq];rfl⟩
structure Gs (s:Dv):Prop where
 L:1≤s.L∧s.L≤6
 ne:s.es≠[]
 es:Es s.es
 dn:0≤s.dn∧s.dn≤s.es.length
 nl:s.nx.length=s.dn.toNat
 row: ∀q,q<s.dn.toNat→pO (s.es.getD q ba) s.es s.L.toNat (s.nx.getD q [])
theorem Gc {α:Type} {a b:List α} {i:Nat} {z:α} (h:i<a.length):(a++b).getD i z=a.getD i z:=by
 rw[jq,jq,iu h]
theorem Un {α:Type} {a:List α} {i:Nat} {z:α} (h:i<a.length):a.getD i z∈a:=by
 rw[jq,bO h];simp
theorem Uo {s t:Dv} (h:proc s=some t): ∃p,nO (s.es.getD s.dn.toNat ba) s.L.toNat 0 s.es []=some p∧t=⟨s.L,p.1,s.nx++[p.2],s.dn+1⟩:=by
 unfold proc at h
 cases hr:nO (s.es.getD s.dn.toNat ba) s.L.toNat 0 s.es [] with
 | none=>rw[hr] at h;cases h
 | some p=>rw[hr] at h;cases h;exact ⟨p,rfl,rfl⟩
theorem Up {s t:Dv} (hs:Gs s) (hd:s.dn<s.es.length) (h:proc s=some t):Gs t∧t.L=s.L∧t.dn=s.dn+1∧∃r,t.es=s.es++r:=by
 obtain ⟨p,hp,rfl⟩:=Uo h
 have Uq:=hs.dn
 have hq:s.dn.toNat<s.es.length:=by omega
 obtain ⟨a,b,r,c⟩:=LW (hs.es.nv _ (Un hq)) _ 0 _ _ p hs.es ⟨rfl,fun x hx=>by omega⟩ hp
 have hn:=hs.nl
 refine ⟨⟨hs.L,by rw[c];simp[hs.ne],a,⟨by show 0≤s.dn+1;omega,?_⟩,?_,fun q zB=> ?_⟩,rfl,rfl,r,c⟩
 ·show s.dn+1≤(p.1.length:Int)
  rw[c,bS];omega
 ·show (s.nx++[p.2]).length=(s.dn+1).toNat
  rw[bS,hn];simp;omega
 ·have hq3:q<(s.dn+1).toNat:=zB
  show pO (p.1.getD q ba) p.1 s.L.toNat ((s.nx++[p.2]).getD q [])
  rcases oW q s.dn.toNat with e|e
  ·rw[Gc (by omega),c,Gc (by omega)]
   exact (hs.row q e).mono
  ·obtain rfl:q=s.dn.toNat:=by omega
   rw[jq (l:=s.nx++[p.2]),iv (by omega),hn,Nat.sub_self]
   simp only[List.getElem?_cons_zero,Option.getD_some]
   rw[gE] at b
   have e1:p.1.getD s.dn.toNat ba=s.es.getD s.dn.toNat ba:=by rw[c,Gc (by omega)]
   rw[e1]
   exact b
theorem Ur: ∀(n:Nat) (s t:Dv),Gs s→sN n s=some t→Gs t∧t.L=s.L∧(∃r,t.es=s.es++r)∧(t.dn=t.es.length∨t.dn=s.dn+n)
 | 0,s,t,hs,h=>by cases h;exact ⟨hs,rfl,⟨[],by simp⟩,.inr (by simp)⟩
 | n+1,s,t,hs,h=>by
  rw[sN] at h
  by_cases hd:s.dn<s.es.length
  ·rw[aj hd] at h
   cases hp:proc s with
   | none=>rw[hp] at h;cases h
   | some u=>
    rw[hp] at h
    obtain ⟨a,b,c,r,d⟩:=Up hs hd hp
    obtain ⟨e,f,⟨r2,g⟩,i⟩:=Ur n u t a h
    refine ⟨e,f.trans b,⟨r++r2,by rw[g,d,cq]⟩,?_⟩
    rcases i with i|i
    ·exact .inl i
    ·exact .inr (by rw[i,c];omega)
  ·rw[ai hd] at h
   cases h
   exact ⟨hs,rfl,⟨[],by simp⟩,.inl (by have:=hs.dn;omega)⟩
theorem Us {e:Ex} {L:Int} (h:e.val L=0):Gs (rf e L):=by
 obtain ⟨h1,U,h3,h4⟩:=LU h
 refine ⟨h1,by simp[rf],⟨by simp[rf],fun x hx=> ?_,by simp[rf]⟩,by simp[rf],rfl,fun q hq=>by simp[rf] at hq⟩
 rw[en.1 hx]
 exact ⟨lP e (Um h1.2 e h4),Gb (LV h)⟩
def k0:List UInt8→Ex→Option Ex
 | [],e=>some e
 | b::w,e=>(kZ e (b.toNat-97)).bind (k0 w)
end Go.AM
set_option maxRecDepth 100000
namespace Go.AM
open Go.Proofs
noncomputable def Ut (C:ag) (dY dZ:Int) (BH:List V) (LX LY:Int) (LZ:List V) (L0:Bool):Option (List V):=
 (C ui [.int .i64 dY,.int .i64 dZ,.list aa BH,.int .i64 6]).bind fun r1=>
 bif (((V.nth r1 0).toInt):Int) != 0 then
  some [.int .i64 0,.int .i64 0,.list aa ([]:List V),.int .i64 3]
 else
  some [.int .i64 dY,.int .i64 dZ,.list aa BH,.int .i64 0]
theorem ago {dY dZ:Int} {BH:List V} {LX LY:Int} {LZ:List V} {L0:Bool} {r:Option (List V)} (h:Ut CC dY dZ BH LX LY LZ L0=r):CC Je [.int .i64 dY,.int .i64 dZ,.list aa BH,.int .i64 LX,.int .i64 LY,.list aa LZ,.bool L0]=r:=
 a9 (key:=149) (L:=cm) (bs:=[]) (by kernel_rfl) ax (aZ (by kernel_rfl) h)
noncomputable def Uu (C:ag) (af aq:Int) (ae:List V) (bm:Int):Option (List V):=
 (C oB [.int .i64 bm,.bool true,.int .i64 af,.int .i64 aq,.list aa ae]).bind fun r1=>
 (C Je [.int .i64 ((V.nth r1 0).toInt),.int .i64 ((V.nth (r1.drop 1) 0).toInt),.list aa ((V.nth ((r1.drop 1).drop 1) 0).toList),.int .i64 ((V.nth (((r1.drop 1).drop 1).drop 1) 0).toInt),.int .i64 ((V.nth ((((r1.drop 1).drop 1).drop 1).drop 1) 0).toInt),.list aa ((V.nth (((((r1.drop 1).drop 1).drop 1).drop 1).drop 1) 0).toList),.bool ((V.nth ((((((r1.drop 1).drop 1).drop 1).drop 1).drop 1).drop 1) 0).toBool)]).bind fun r2=>
 some [.int .i64 ((V.nth r2 0).toInt),.int .i64 ((V.nth (r2.drop 1) 0).toInt),.list aa ((V.nth ((r2.drop 1).drop 1) 0).toList),.int .i64 ((V.nth (r2.drop 3) 0).toInt)]
theorem agp {af aq:Int} {ae:List V} {bm:Int} {r:Option (List V)} (h:Uu CC af aq ae bm=r):CC Aj [.int .i64 af,.int .i64 aq,.list aa ae,.int .i64 bm]=r:=
 a9 (key:=53) (L:=cm) (bs:=[]) (by kernel_rfl) ax (aZ (by kernel_rfl) h)
end Go.AM
set_option maxRecDepth 100000
namespace Go.AM
open Go.Proofs Ex
abbrev BI (p:Ex × Int):List V:=bH p.1 [.int .i64 p.2]
def pP (x:Ex):Ex × Int:=if x.val 6=0 then (x,0) else (ba,3)
def L1 (e:Ex) (c:Int):Ex × Int:=if e.val 6=0 then (if 0≤c∧c<6 then pP (aH (bG c e)) else (ba,1)) else (ba,e.val 6)
theorem agq {x y:Ex} {b:Bool} (hx:x.Ok):CC Je (bH x (bH y [.bool b]))=some (BI (pP x)):=by
 refine ago ?_
 unfold Ut pP
 refine bs (Fj x hx 6) ?_
 by_cases hv:x.val 6=0
 ·rw[aj hv]
  exact bF (by simp[hv]) rfl
 ·rw[ai hv]
  exact bT (by simp[hv]) rfl
theorem Uv {c:Int} {e:Ex} (hv:e.val 6=0):Gd 6 (aH (bG c e))∧(aH (bG c e)).Ok∧(aH (bG c e)).size≤160000:=by
 obtain ⟨_,U,h3⟩:=lM hv
 have a:=lP _ (sI (c:=c) e h3)
 have b:=LM (c:=c) h3
 have d:=BD U
 exact ⟨a,pH (by omega) _ a.2 (by omega),by omega⟩
theorem Uw {e:Ex} (he:Nv e) (c:Int):CC Aj (bH e [.int .i64 c])=some (BI (pP (aH (bG c e)))):=by
 obtain ⟨_,U,h3⟩:=lM he.2
 refine agp ?_
 unfold Uu
 refine bs (agl (c:=c) (nm:=true) e h3 U fun _=>he.1) ?_
 refine bs (agq (y:=aH e) (b:=e.cK) (Uv (c:=c) he.2).2.1) ?_
 unfold pP
 split<;>rfl
end Go.AM
set_option maxRecDepth 100000
namespace Go.AM
open Go.Proofs
theorem agr (n:Int):CC wG [.int .i64 n]=some [.bool (decide (1≤n∧n≤6))]:=by
 refine Rh ?_
 unfold KJ
 rw[az]
 split
 ·refine congrArg (fun b=>some [V.bool b]) ?_;rw[yK];omega
 ·have: ¬(1≤n∧n≤6):=by omega
  simp[this]
noncomputable abbrev Ux:Code:=cC Try.prog (ay.aT 52)
noncomputable def BJ (C:ag) (w:List UInt8) (letters t18 t19:Int) {β:Type} (kn:Int→Option β) (kr:((Bool) ⊕ (Int × Bool))→Option β):Option β:=
 bif decide ((t19:Int)<t18) then
  (bif decide (0≤t19) then (w[(t19:Int).toNat]?).map fun b=>V.int .u8 b.toNat else none).bind fun x1=>
  bif decide ((x1.toInt:Int)<97) then
  kr (.inl false)
  else
  (bif decide (0≤t19) then (w[(t19:Int).toNat]?).map fun b=>V.int .u8 b.toNat else none).bind fun x2=>
  bif decide (((IntKind.wrap .i64 (IntKind.wrap .u8 (x2.toInt-97))):Int)≥letters) then
   kr (.inl false)
  else
   kn (IntKind.wrap .i64 (t19+1))
 else
  kr (.inr (t19,decide ((t19:Int)<t18)))
noncomputable def Ge (C:ag) (w:List UInt8) (letters t18:Int):(Int)→Option ((Int) ⊕ ((Bool) ⊕ (Int × Bool))):=fun t19=>BJ C w letters t18 t19 (fun y=>some (.inl y)) (fun r=>some (.inr r))
noncomputable def Uy (C:ag):cp:=fun β n ds k=>
 bif Nat.beq n 65 then bW JE [false,false,false,true] [[0],[1,2,3,0,0]] (@BJ C) ds k else
 none
abbrev ags (C:ag) (b:cj):Prop:=cl Try.prog ay C (Uy C) 52 (cH Try.prog (ay.aT 52)) (ay.sin 52).bc.length b
theorem agt (C:ag):ags C (.loop (aw [1,1,0,1,0,0] Ux)):=
 ca JE [false,false,false,true] [[0],[1,2,3,0,0]] (@BJ C) (by kernel_rfl) (bf (bs:=[]) (by kernel_rfl) ax) (fun ds=>by kernel_rfl) (fun i x=>by kernel_rfl) (fun i x β k=>by kernel_rfl) (fun β ds k=>by kernel_rfl)
noncomputable def Uz (C:ag) (w:List UInt8) (letters:Int):Option (List V):=
 bif decide ((letters:Int)<1) then
  some [.bool false]
 else
  bif decide ((letters:Int)>6) then
  some [.bool false]
  else
  bif decide (((w.length:Int):Int)>2048) then
   some [.bool false]
  else
   (Loop (Ge C w letters (w.length:Int)) 0).bind (b7 (fun (iP:Bool)=>
    some [.bool iP]) (un fun (kj:Int) (oG:Bool)=>
    some [.bool true]))
theorem agu {w:List UInt8} {letters:Int} {r:Option (List V)} (h:Uz CC w letters=r):CC EE [.str w,.int .i64 letters]=r:=
 a9 (key:=52) (L:=Uy CC) (bs:=[.loop (aw [1,1,0,1,0,0] Ux)]) (by kernel_rfl) (bA (agt CC) ax) (aZ (by kernel_rfl) h)
noncomputable abbrev UA:Code:=cC Try.prog (ay.aT 18)
noncomputable def BK (C:ag) (w:List UInt8) (letters i:Int) {β:Type} (kn:Int→Option β) (kr:((Bool) ⊕ (Int × Bool))→Option β):Option β:=
 bif decide ((i:Int)<(w.length:Int)) then
  (bif decide (0≤i) then (w[(i:Int).toNat]?).map fun b=>V.int .u8 b.toNat else none).bind fun x2=>
  bif decide ((x2.toInt:Int)<97) then
  kr (.inl false)
  else
  (bif decide (0≤i) then (w[(i:Int).toNat]?).map fun b=>V.int .u8 b.toNat else none).bind fun x3=>
  bif decide (((IntKind.wrap .i64 (IntKind.wrap .u8 (x3.toInt-97))):Int)≥letters) then
   kr (.inl false)
  else
   kn (IntKind.wrap .i64 (i+1))
 else
  kr (.inr (i,decide ((i:Int)<(w.length:Int))))
noncomputable def Gf (C:ag) (w:List UInt8) (letters:Int):(Int)→Option ((Int) ⊕ ((Bool) ⊕ (Int × Bool))):=fun i=>BK C w letters i (fun y=>some (.inl y)) (fun r=>some (.inr r))
noncomputable def UB (C:ag):cp:=fun β n ds k=>
 bif Nat.beq n 65 then bW Jo [false,false,true] [[0],[1,2,0,0]] (@BK C) ds k else
 none
abbrev agv (C:ag) (b:cj):Prop:=cl Try.prog ay C (UB C) 18 (cH Try.prog (ay.aT 18)) (ay.sin 18).bc.length b
theorem agw (C:ag):agv C (.loop (aw [1,1,0,1,0,0] UA)):=
 ca Jo [false,false,true] [[0],[1,2,0,0]] (@BK C) (by kernel_rfl) (bf (bs:=[]) (by kernel_rfl) ax) (fun ds=>by kernel_rfl) (fun i x=>by kernel_rfl) (fun i x β k=>by kernel_rfl) (fun β ds k=>by kernel_rfl)
noncomputable def UC (C:ag) (w:List UInt8) (letters:Int):Option (List V):=
 (C wG [.int .i64 letters]).bind fun r1=>
 bif !((V.nth r1 0).toBool) then
  some [.bool false]
 else
  bif decide (((w.length:Int):Int)>2048) then
  some [.bool false]
  else
  (Loop (Gf C w letters) 0).bind (b7 (fun (kj:Bool)=>
   some [.bool kj]) (un fun (cO:Int) (jD:Bool)=>
   some [.bool true]))
theorem agx {w:List UInt8} {letters:Int} {r:Option (List V)} (h:UC CC w letters=r):CC wF [.str w,.int .i64 letters]=r:=
 a9 (key:=18) (L:=UB CC) (bs:=[.loop (aw [1,1,0,1,0,0] UA)]) (by kernel_rfl) (bA (agw CC) ax) (aZ (by kernel_rfl) h)
def dv (w:List UInt8) (i:Nat):Int:=((w.getD i 0).toNat:Int)-97
def oR (w:List UInt8) (L:Int):Prop:=1≤L∧L≤6∧w.length≤2048∧∀i,i<w.length→0≤dv w i∧dv w i<L
instance (w:List UInt8) (L:Int):Decidable (oR w L):=by unfold oR;infer_instance
theorem yb {w:List UInt8} {i:Nat} (h:i<w.length):(bif decide (0≤(i:Int)) then (w[((i:Nat):Int).toNat]?).map (fun b=>V.int .u8 b.toNat) else none)=some (.int .u8 ((w.getD i 0).toNat:Int)):=by
 rw[az,aj (by omega),Int.toNat_natCast]
 simp[h]
theorem UD (b:UInt8):b.toNat<256:=b.toNat_lt
theorem L2 {w:List UInt8} {i:Nat} (h:0≤dv w i):IntKind.wrap .u8 (((w.getD i 0).toNat:Int)-97)=dv w i:=by
 have:=UD (w.getD i 0)
 unfold dv at*
 exact Ac h (by omega)
theorem UE {w:List UInt8} {i:Nat}:dv w i<256:=by
 have:=UD (w.getD i 0)
 unfold dv
 omega
theorem agy {w:List UInt8} {L:Int} (hl:w.length≤2048):Loop (Ge CC w L (w.length:Int)) 0=some (if∀i,i<w.length→0≤dv w i∧dv w i<L then .inr ((w.length:Int),false) else .inl false):=by
 refine QO (good:=fun i=>0≤dv w i∧dv w i<L) w.length (fun i=>(i:Int)) (Sum.inl false:Bool ⊕ (Int × Bool)) (Sum.inr ((w.length:Int),false)) (fun i hi=> ?_) ?_
 ·simp only[Ge,BJ,un]
  rw[az,aj (by omega),yb hi]
  simp only[Option.bind_some,V.toInt_int,az]
  by_cases h1:0≤dv w i
  ·have fm:=h1
   unfold dv at fm
   rw[ai (by omega),L2 h1,wrap64 (by omega) (by have:= @UE w i;omega)]
   by_cases U:dv w i<L
   ·rw[ai (by omega),aj ⟨h1,U⟩,wrap64 (by omega) (by omega)]
    simp
   ·rw[aj (by omega),ai (fun h=>U h.2)]
  ·have fm:=h1
   unfold dv at fm
   rw[aj (by omega),ai (fun h=>h1 h.1)]
 ·simp only[Ge,BJ,un]
  rw[az,ai (by omega)]
  simp
theorem agz {w:List UInt8} {L:Int} (hl:w.length≤2048):Loop (Gf CC w L) 0=some (if∀i,i<w.length→0≤dv w i∧dv w i<L then .inr ((w.length:Int),false) else .inl false):=by
 refine QO (good:=fun i=>0≤dv w i∧dv w i<L) w.length (fun i=>(i:Int)) (Sum.inl false:Bool ⊕ (Int × Bool)) (Sum.inr ((w.length:Int),false)) (fun i hi=> ?_) ?_
 ·simp only[Gf,BK,un]
  rw[az,aj (by omega),yb hi]
  simp only[Option.bind_some,V.toInt_int,az]
  by_cases h1:0≤dv w i
  ·have fm:=h1
   unfold dv at fm
   rw[ai (by omega),L2 h1,wrap64 (by omega) (by have:= @UE w i;omega)]
   by_cases U:dv w i<L
   ·rw[ai (by omega),aj ⟨h1,U⟩,wrap64 (by omega) (by omega)]
    simp
   ·rw[aj (by omega),ai (fun h=>U h.2)]
  ·have fm:=h1
   unfold dv at fm
   rw[aj (by omega),ai (fun h=>h1 h.1)]
 ·simp only[Gf,BK,un]
  rw[az,ai (by omega)]
  simp
theorem agA (w:List UInt8) (L:Int):CC EE [.str w,.int .i64 L]=some [.bool (decide (oR w L))]:=by
 refine agu ?_
 unfold Uz
 simp only[az]
 by_cases h1:L<1
 ·rw[aj h1,cr (fun h=>by have:=h.1;omega)]
 rw[ai h1]
 by_cases U:L>6
 ·rw[aj U,cr (fun h=>by have:=h.2.1;omega)]
 rw[ai U]
 by_cases h3:(w.length:Int)>2048
 ·rw[aj h3,cr (fun h=>by have:=h.2.2.1;omega)]
 rw[ai h3,agy (by omega)]
 by_cases h4: ∀i,i<w.length→0≤dv w i∧dv w i<L
 ·rw[aj h4,dj (show oR w L from ⟨by omega,by omega,by omega,h4⟩)]
  simp[b7,un]
 ·rw[ai h4,cr (fun h=>h4 h.2.2.2)]
  simp[b7,un]
theorem L3 (w:List UInt8) (L:Int):CC wF [.str w,.int .i64 L]=some [.bool (decide (oR w L))]:=by
 refine agx ?_
 unfold UC
 rw[agr]
 simp only[Option.bind_some,V.aW,V.ej,gp,az]
 by_cases h1: ¬(1≤L∧L≤6)
 ·rw[ai h1,cr (fun h=>h1 ⟨h.1,h.2.1⟩)]
 have h1:=Classical.not_not.1 h1
 rw[aj h1]
 by_cases h3:(w.length:Int)>2048
 ·rw[aj h3,cr (fun h=>by have:=h.2.2.1;omega)]
 rw[ai h3,agz (by omega)]
 by_cases h4: ∀i,i<w.length→0≤dv w i∧dv w i<L
 ·rw[aj h4,dj (show oR w L from ⟨h1.1,h1.2,by omega,h4⟩)]
  simp[b7,un]
 ·rw[ai h4,cr (fun h=>h4 h.2.2.2)]
  simp[b7,un]
noncomputable abbrev UF:Code:=cC Try.prog (ay.aT 28)
noncomputable def yc (C:ag) (w:List UInt8) (t23 fO fP:Int) (dw:List V) (t24 dA c7:Int) (cF:List V) {β:Type} (kn:(Int × Int × Int × (List V))→Option β) (kr:((Int × Int × Int × (List V)) ⊕ (Int × Bool × Int × Int × (List V)))→Option β):Option β:=
 bif decide ((t24:Int)<t23) then
  (bif decide (0≤t24) then (w[(t24:Int).toNat]?).map fun b=>V.int .u8 b.toNat else none).bind fun x4=>
  (C Aj [.int .i64 dA,.int .i64 c7,.list aa cF,.int .i64 (IntKind.wrap .i64 (IntKind.wrap .u8 (x4.toInt-97)))]).bind fun r5=>
  bif (((V.nth (r5.drop 3) 0).toInt):Int) != 0 then
  kr (.inl ((V.nth (r5.drop 3) 0).toInt,0,0,([]:List V)))
  else
  kn (IntKind.wrap .i64 (t24+1),(V.nth r5 0).toInt,(V.nth (r5.drop 1) 0).toInt,(V.nth ((r5.drop 1).drop 1) 0).toList)
 else
  kr (.inr (t24,decide ((t24:Int)<t23),dA,c7,cF))
noncomputable def u9 (C:ag) (w:List UInt8) (t23 fO fP:Int) (dw:List V):(Int × Int × Int × (List V))→Option ((Int × Int × Int × (List V)) ⊕ ((Int × Int × Int × (List V)) ⊕ (Int × Bool × Int × Int × (List V)))):=un fun t24=>un fun dA=>un fun c7 cF=>yc C w t23 fO fP dw t24 dA c7 cF (fun y=>some (.inl y)) (fun r=>some (.inr r))
noncomputable def UG (C:ag):cp:=fun β n ds k=>
 bif Nat.beq n 129 then bW Jp [false,false,true,true,true,true,false,false,false] [[0,0,0,0],[1,2,0,0,0,0,0,7,8,9]] (@yc C) ds k else
 none
abbrev agB (C:ag) (b:cj):Prop:=cl Try.prog ay C (UG C) 28 (cH Try.prog (ay.aT 28)) (ay.sin 28).bc.length b
theorem agC (C:ag):agB C (.loop (aw [1,1,1,1,0,1,0,0] UF)):=
 ca Jp [false,false,true,true,true,true,false,false,false] [[0,0,0,0],[1,2,0,0,0,0,0,7,8,9]] (@yc C) (by kernel_rfl) (bf (bs:=[]) (by kernel_rfl) ax) (fun ds=>by kernel_rfl) (fun i x=>by kernel_rfl) (fun i x β k=>by kernel_rfl) (fun β ds k=>by kernel_rfl)
noncomputable def UH (C:ag) (af aq:Int) (ae:List V) (w:List UInt8):Option (List V):=
 (C ui [.int .i64 af,.int .i64 aq,.list aa ae,.int .i64 6]).bind fun r1=>
 bif (((V.nth r1 0).toInt):Int) != 0 then
  some [.int .i64 0,.int .i64 0,.list aa ([]:List V),.int .i64 ((V.nth r1 0).toInt)]
 else
  (C EE [.str w,.int .i64 6]).bind fun r2=>
  bif !((V.nth r2 0).toBool) then
  some [.int .i64 0,.int .i64 0,.list aa ([]:List V),.int .i64 1]
  else
  (C Ai [.int .i64 af,.int .i64 aq,.list aa ae]).bind fun r3=>
  (Loop (u9 C w (w.length:Int) 0 0 ([]:List V)) (0,(V.nth r3 0).toInt,(V.nth (r3.drop 1) 0).toInt,(V.nth ((r3.drop 1).drop 1) 0).toList)).bind (b7 (un fun (jD:Int)=>un fun (BL:Int)=>un fun (BM:Int) (rh:List V)=>
   some [.int .i64 BL,.int .i64 BM,.list aa rh,.int .i64 jD]) (un fun (Ff:Int)=>un fun (xb:Bool)=>un fun (agD:Int)=>un fun (agE:Int) (agF:List V)=>
   some [.int .i64 agD,.int .i64 agE,.list aa agF,.int .i64 0]))
theorem agG {af aq:Int} {ae:List V} {w:List UInt8} {r:Option (List V)} (h:UH CC af aq ae w=r):CC uf [.int .i64 af,.int .i64 aq,.list aa ae,.str w]=r:=
 a9 (key:=28) (L:=UG CC) (bs:=[.loop (aw [1,1,1,1,0,1,0,0] UF)]) (by kernel_rfl) (bA (agC CC) ax) (aZ (by kernel_rfl) h)
end Go.AM
set_option maxRecDepth 100000
namespace Go.AM
open Go.Proofs Ex
def Gg (w:List UInt8) (e:Ex):Ex × Int:=match k0 w e with|some x=>(x,0)|none=>(ba,3)
def yd (e:Ex) (w:List UInt8):Ex × Int:=if e.val 6=0 then (if oR w 6 then Gg w (aH e) else (ba,1)) else (ba,e.val 6)
theorem UI {e:Ex} {c:Nat}:pP (aH (bG c e))=match kZ e c with|some d=>(d,0)|none=>(ba,3):=by
 unfold pP kZ
 split<;>rfl
theorem UJ {e:Ex} (h:Nv e):e.Ok:=pH (by omega) e h.1.2 (by have:=lM h.2;omega)
theorem L4 {e:Ex} (h:e.val 6=0):Nv (aH e):=⟨lP e (lM h).2.2,LV h⟩
theorem UK {w:List UInt8} (hw: ∀i,i<w.length→0≤dv w i∧dv w i<6) {pre:List UInt8} {b:UInt8} {av:List UInt8} (e:w=pre++b::av):w.getD pre.length 0=b∧97≤b.toNat∧dv w pre.length=((b.toNat-97:Nat):Int):=by
 have h1:w.getD pre.length 0=b:=by rw[e,jq];simp
 have U:=hw pre.length (by rw[e];simp)
 unfold dv at*
 rw[h1] at U⊢
 exact ⟨rfl,by omega,by omega⟩
theorem UL {w:List UInt8} (hw: ∀i,i<w.length→0≤dv w i∧dv w i<6) {pre:List UInt8} {b:UInt8} {av:List UInt8} (e:w=pre++b::av):IntKind.wrap .i64 (IntKind.wrap .u8 (((w.getD pre.length 0).toNat:Int)-97))=((b.toNat-97:Nat):Int):=by
 have h1:=UK hw e
 have U:=hw pre.length (by rw[e];simp)
 rw[L2 U.1,wrap64 (by omega) (by omega),h1.2.2]
section
variable {w:List UInt8} (hl:w.length≤2048) (hw: ∀i,i<w.length→0≤dv w i∧dv w i<6)
include hl hw
theorem agH {a b:Int} {l:List V}: ∀(av pre:List UInt8) (x:Ex),w=pre++av→Nv x→
  (∀y,k0 av x=some y→Loop (u9 CC w (w.length:Int) a b l) (((pre.length:Nat):Int),x.op,x.bm,x.kids.map enc)=some (.inr ((w.length:Int),false,y.op,y.bm,y.kids.map enc)))
  ∧(k0 av x=none→Loop (u9 CC w (w.length:Int) a b l) (((pre.length:Nat):Int),x.op,x.bm,x.kids.map enc)=some (.inl (3,0,0,[]))):=by
 intro av
 induction av with
 | nil=>
  intro pre x e hx
  rw[cP] at e
  subst e
  refine ⟨fun y hy=> ?_,fun hy=>by simp[k0] at hy⟩
  cases hy
  refine aV ?_
  simp only[u9,yc,un]
  rw[az,ai (by omega),cr (by omega)]
 | cons c av dP=>
  intro pre x e hx
  have bE:pre.length<w.length:=by rw[e];simp
  have hs:=UL hw e
  have hb:=Uw hx ((c.toNat-97:Nat):Int)
  rw[UI] at hb
  rw[k0]
  cases bI:kZ x (c.toNat-97) with
  | none=>
   rw[bI] at hb
   refine ⟨fun y hy=>(by cases hy),fun _=>aV ?_⟩
   simp only[u9,yc,un]
   refine bT (oO bE) (bs (yb bE) ?_)
   rw[V.toInt_int,hs]
   refine bs hb ?_
   rfl
  | some d=>
   rw[bI] at hb
   obtain ⟨i1,i2⟩:=dP (pre++[c]) d (by simp[e]) (BG hx bI).1
   have dm:u9 CC w (w.length:Int) a b l (((pre.length:Nat):Int),x.op,x.bm,x.kids.map enc)=some (.inl ((((pre++[c]).length:Nat):Int),d.op,d.bm,d.kids.map enc)):=by
    simp only[u9,yc,un]
    refine bT (oO bE) (bs (yb bE) ?_)
    rw[V.toInt_int,hs]
    refine bs hb ?_
    refine bF rfl ?_
    rw[lS (by omega),bS]
    rfl
   exact ⟨fun y hy=>(bQ dm).trans (i1 y hy),fun hy=>(bQ dm).trans (i2 hy)⟩
end
theorem Gh (e:Ex) (h:e.Ok) (w:List UInt8):CC uf (bH e [.str w])=some (BI (yd e w)):=by
 refine agG ?_
 unfold UH yd
 refine bs (Fj e h 6) ?_
 by_cases hv:e.val 6=0
 ·rw[aj hv]
  refine bF (by simp[hv]) (bs (agA w 6) ?_)
  by_cases hw:oR w 6
  ·rw[aj hw]
   refine bF (by simp[hw]) ?_
   have hn:=TQ e h
   rw[aj hv] at hn
   refine bs hn ?_
   obtain ⟨l1,l2⟩:=agH hw.2.2.1 hw.2.2.2 (a:=0) (b:=0) (l:=[]) w [] (aH e) rfl (L4 hv)
   unfold Gg
   cases hg:k0 w (aH e) with
   | none=>exact bs (l2 hg) rfl
   | some y=>exact bs (l1 y hg) rfl
  ·rw[ai hw]
   exact bT (by simp[hw]) rfl
 ·rw[ai hv]
  refine bT (by simp[hv]) rfl
theorem L5:ba.Ok:= .node (by omega) (by omega) (by simp) (by simp)
theorem UM: ∀(w:List UInt8) (e x:Ex),Nv e→k0 w e=some x→Nv x
 | [],e,x,he,h=>by cases h;exact he
 | b::w,e,x,he,h=>by
  rw[k0] at h
  cases hs:kZ e (b.toNat-97) with
  | none=>rw[hs] at h;cases h
  | some d=>rw[hs] at h;exact UM w d x (BG he hs).1 h
theorem agI (e:Ex) (w:List UInt8):(yd e w).1.Ok:=by
 unfold yd
 split
 ·next hv=>
  split
  ·unfold Gg
   cases hg:k0 w (aH e) with
   | none=>exact L5
   | some x=>exact UJ (UM w _ x (L4 hv) hg)
  ·exact L5
 ·exact L5
end Go.AM
set_option maxRecDepth 100000
namespace Go.AM
open Go.Proofs
noncomputable abbrev UN:Code:=cC Try.prog (ay.aT 48)
noncomputable def va (C:ag) (UO UP:Int) (Gi:List V) (UQ UR:Int) (BN:List V) (i:Int) {β:Type} (kn:Int→Option β) (kr:((Int) ⊕ (Int × Bool))→Option β):Option β:=
 bif decide ((i:Int)<(Gi.length:Int)) then
  bif decide ((i:Int)<(BN.length:Int)) then
  (idx Gi i).bind fun x3=>
  (idx BN i).bind fun x4=>
  (C sc [.int .i64 ((x3.cell 0).toInt),.int .i64 ((x3.cell 1).toInt),.list aa ((x3.cell 2).toList),.int .i64 ((x4.cell 0).toInt),.int .i64 ((x4.cell 1).toInt),.list aa ((x4.cell 2).toList)]).bind fun r5=>
  bif (((V.nth r5 0).toInt):Int) != 0 then
   kr (.inl ((V.nth r5 0).toInt))
  else
   kn (IntKind.wrap .i64 (i+1))
  else
  kr (.inr (i,decide ((i:Int)<(BN.length:Int))))
 else
  kr (.inr (i,false))
noncomputable def sO (C:ag) (UO UP:Int) (Gi:List V) (UQ UR:Int) (BN:List V):(Int)→Option ((Int) ⊕ ((Int) ⊕ (Int × Bool))):=fun i=>va C UO UP Gi UQ UR BN i (fun y=>some (.inl y)) (fun r=>some (.inr r))
noncomputable def US (C:ag):cp:=fun β n ds k=>
 bif Nat.beq n 97 then bW JA [true,false,false,false,false,false,false] [[0],[0,0,2,3,4,5,6,7]] (@va C) ds k else
 none
abbrev agJ (C:ag) (b:cj):Prop:=cl Try.prog ay C (US C) 48 (cH Try.prog (ay.aT 48)) (ay.sin 48).bc.length b
theorem agK (C:ag):agJ C (.loop (aw [1,1,0,1,0,0] UN)):=
 ca JA [true,false,false,false,false,false,false] [[0],[0,0,2,3,4,5,6,7]] (@va C) (by kernel_rfl) (bf (bs:=[]) (by kernel_rfl) ax) (fun ds=>by kernel_rfl) (fun i x=>by kernel_rfl) (fun i x β k=>by kernel_rfl) (fun β ds k=>by kernel_rfl)
noncomputable def UT (C:ag) (gr gu:Int) (gT:List V) (gv gx:Int) (gU:List V):Option (List V):=
 bif (gr:Int) != gv then
  (C wO [.bool (decide ((gr:Int)<gv))]).bind fun r1=>
  some [.int .i64 ((V.nth r1 0).toInt)]
 else
  bif (gu:Int) != gx then
  (C wO [.bool (decide ((gu:Int)<gx))]).bind fun r2=>
  some [.int .i64 ((V.nth r2 0).toInt)]
  else
  (Loop (sO C gr gu gT gv gx gU) 0).bind (b7 (fun (jD:Int)=>
   some [.int .i64 jD]) (un fun (i_7:Int) (QX:Bool)=>
   bif ((gT.length:Int):Int)==(gU.length:Int) then
    some [.int .i64 0]
   else
    (C wO [.bool (decide (((gT.length:Int):Int)<(gU.length:Int)))]).bind fun r9=>
    some [.int .i64 ((V.nth r9 0).toInt)]))
theorem agL {gr gu:Int} {gT:List V} {gv gx:Int} {gU:List V} {r:Option (List V)} (h:UT CC gr gu gT gv gx gU=r):CC sc [.int .i64 gr,.int .i64 gu,.list aa gT,.int .i64 gv,.int .i64 gx,.list aa gU]=r:=
 a9 (key:=48) (L:=US CC) (bs:=[.loop (aw [1,1,0,1,0,0] UN)]) (by kernel_rfl) (bA (agK CC) ax) (aZ (by kernel_rfl) h)
noncomputable def agM (C:ag) (less:Bool):Option (List V):=
 bif less then
  some [.int .i64 (-1)]
 else
  some [.int .i64 1]
theorem agN {less:Bool} {r:Option (List V)} (h:agM CC less=r):CC wO [.bool less]=r:=
 a9 (key:=67) (L:=cm) (bs:=[]) (by kernel_rfl) ax (aZ (by kernel_rfl) h)
end Go.AM
set_option maxRecDepth 100000
namespace Go.AM
open Go.Proofs Ex
theorem L6 (b:Bool):CC wO [.bool b]=some [.int .i64 (gb b)]:=by
 refine agN ?_
 cases b<;>rfl
theorem agO {ks bN:List Ex} {a0 a1 b0 b1:Int} (hlen:ks.length≤maxLen) (ih: ∀k∈ks,∀e:Ex,e.Ok→CC sc (bH k (bH e []))=some [.int .i64 (cmp k e)]) (cZ: ∀k∈bN,Ex.Ok k):
  ∀(av pre iQ oH:List Ex),ks=pre++av→bN=oH++iQ→pre.length=oH.length→
  (∃c,Loop (sO CC a0 a1 (ks.map enc) b0 b1 (bN.map enc)) ((pre.length:Nat):Int)=some (.inl c)∧dr av iQ=c)∨
  (∃i b,Loop (sO CC a0 a1 (ks.map enc) b0 b1 (bN.map enc)) ((pre.length:Nat):Int)=some (.inr (i,b))∧dr av iQ=if ks.length=bN.length then 0 else gb (decide (ks.length<bN.length))):=by
 intro av
 induction av with
 | nil=>
  intro pre iQ oH aU jE kV
  subst aU
  refine .inr ⟨((pre.length:Nat):Int),false,aV ?_,?_⟩
  ·simp only[sO,va,cP,aP,az]
   rw[ai (by omega)]
  ·cases iQ with
   | nil=>simp[dr,jE,kV]
   | cons a l=>simp[dr,jE,kV,gb]
 | cons k av dP=>
  intro pre iQ oH aU jE kV
  have bE:pre.length<ks.length:=by rw[aU];simp
  have:=pE
  have bV:idx (ks.map enc) (pre.length:Int)=some k.enc:=by rw[aU];exact ga _ _ _
  cases iQ with
  | nil=>
   have hl:bN.length=pre.length:=by rw[jE,kV];simp
   refine .inr ⟨((pre.length:Nat):Int),false,aV ?_,?_⟩
   ·simp only[sO,va,aP,az]
    rw[aj (by omega),ai (by omega)]
    simp[hl]
   ·rw[ai (by omega)]
    simp[dr,gb,show¬ks.length<bN.length by omega]
  | cons k' iQ=>
   have hl:pre.length<bN.length:=by rw[jE,kV];simp
   have AL:idx (bN.map enc) (pre.length:Int)=some k'.enc:=by rw[jE,kV];exact ga _ _ _
   have e1:=ih k (by rw[aU];simp) k' (cZ k' (by rw[jE];simp))
   by_cases hc:cmp k k'=0
   ·have dm:sO CC a0 a1 (ks.map enc) b0 b1 (bN.map enc) ((pre.length:Nat):Int)=some (.inl (((pre++[k]).length:Nat):Int)):=by
     simp only[sO,va,aP,az]
     rw[aj (by omega),aj (by omega),bV,AL]
     simp only[Option.bind_some,bd,bj,bh]
     rw[e1,hc]
     simp only[Option.bind_some,V.aW,V.toInt_int,r0,cI]
     rw[wrap64 (by omega) (by omega)]
     simp
    rw[bQ dm]
    simp only[dr,hc,ne_eq,mK,fg]
    exact dP (pre++[k]) iQ (oH++[k']) (by rw[aU];simp) (by rw[jE];simp) (by simp[kV])
   ·refine .inl ⟨cmp k k',aV ?_,by simp[dr,hc]⟩
    simp only[sO,va,aP,az]
    rw[aj (by omega),aj (by omega),bV,AL]
    simp only[Option.bind_some,bd,bj,bh]
    rw[e1]
    simp only[Option.bind_some,V.aW,V.toInt_int,r0,ai hc]
theorem L7: ∀a:Ex,a.Ok→∀b:Ex,b.Ok→CC sc (bH a (bH b []))=some [.int .i64 (cmp a b)]:=
 ind fun o l ks ih au b hb=>by
  obtain ⟨o',l',bN⟩:=b
  refine agL ?_
  unfold UT
  rw[uC]
  simp only[Ex.op,Ex.bm,Ex.kids,r0]
  by_cases h1:o=o'
  ·by_cases U:l=l'
   ·rw[aj h1,aj U,ai (by simp[h1]),ai (by simp[U])]
    rcases agO (a0:=o) (a1:=l) (b0:=o') (b1:=l') au.len (fun k hk e he=>ih k hk (au.lL k hk) e he) hb.lL ks [] bN [] rfl rfl rfl with ⟨c,q1,q2⟩|⟨i,b,q1,q2⟩
    ·simp only[List.length_nil,Int.ofNat_zero,Int.natCast_zero] at q1
     erw [q1];rw[q2];rfl
    ·simp only[List.length_nil,Int.ofNat_zero,Int.natCast_zero] at q1
     erw [q1];rw[q2]
     simp only[Option.bind_some,b7,un,aP,df]
     by_cases hl:ks.length=bN.length
     ·rw[aj (by omega),aj hl]
     ·rw[ai (by omega),ai hl,L6]
      simp
   ·rw[aj h1,ai U,ai (by simp[h1]),aj U,L6]
    simp only[Option.bind_some,V.aW,V.toInt_int];rfl
  ·rw[ai h1,aj h1,L6]
   simp only[Option.bind_some,V.aW,V.toInt_int];rfl
end Go.AM
set_option maxRecDepth 100000
namespace Go.AM
open Go.Proofs
noncomputable def UU (C:ag) (gr gu:Int) (gT:List V) (gv gx:Int) (gU:List V):Option (List V):=
 (C sc [.int .i64 gr,.int .i64 gu,.list aa gT,.int .i64 gv,.int .i64 gx,.list aa gU]).bind fun r1=>
 some [.bool ((((V.nth r1 0).toInt):Int)==0)]
theorem agP {gr gu:Int} {gT:List V} {gv gx:Int} {gU:List V} {r:Option (List V)} (h:UU CC gr gu gT gv gx gU=r):CC sb [.int .i64 gr,.int .i64 gu,.list aa gT,.int .i64 gv,.int .i64 gx,.list aa gU]=r:=
 a9 (key:=27) (L:=cm) (bs:=[]) (by kernel_rfl) ax (aZ (by kernel_rfl) h)
end Go.AM
set_option maxRecDepth 100000
namespace Go.AM
open Go.Proofs Ex
theorem agQ (a:Ex) (ha:a.Ok) (b:Ex) (hb:b.Ok):CC sb (bH a (bH b []))=some [.bool (decide (cmp a b=0))]:=by
 refine agP ?_
 unfold UU
 refine (congrArg (fun o=>Option.bind o _) (L7 a ha b hb)).trans ?_
 simp only[Option.bind_some,V.aW,V.toInt_int]
 congr 3
theorem agR {a b:Ex} (ha:a.Ok) (hb:b.Ok):CC sb (bH a (bH b []))=some [.bool (decide (a=b))]:=by
 rw[agQ a ha b hb]
 refine congrArg (fun x=>some [V.bool x]) ?_
 rw[yK];exact Ru
end Go.AM
set_option maxRecDepth 100000
namespace Go.AM
open Go.Proofs
noncomputable abbrev UW:Code:=cC Try.prog (ay.aT 63)
noncomputable def BO (C:ag) (t9:List V) (t10 dA c7:Int) (cF:List V) (all one:Bool) (t11:Int) {β:Type} (kn:(Bool × Bool × Int)→Option β) (kr:(Bool × Bool × Int × Bool)→Option β):Option β:=
 bif decide ((t11:Int)<t10) then
  (idx t9 t11).bind fun x1=>
  (C Am [.int .i64 ((x1.cell 0).toInt),.int .i64 ((x1.cell 1).toInt),.list aa ((x1.cell 2).toList)]).bind fun r2=>
  bif all then
  bif one then
   kn ((V.nth r2 0).toBool,true,IntKind.wrap .i64 (t11+1))
  else
   kn ((V.nth r2 0).toBool,(V.nth r2 0).toBool,IntKind.wrap .i64 (t11+1))
  else
  bif one then
   kn (false,true,IntKind.wrap .i64 (t11+1))
  else
   kn (false,(V.nth r2 0).toBool,IntKind.wrap .i64 (t11+1))
 else
  kr (all,one,t11,decide ((t11:Int)<t10))
noncomputable def Gj (C:ag) (t9:List V) (t10 dA c7:Int) (cF:List V):(Bool × Bool × Int)→Option ((Bool × Bool × Int) ⊕ (Bool × Bool × Int × Bool)):=un fun all=>un fun one t11=>BO C t9 t10 dA c7 cF all one t11 (fun y=>some (.inl y)) (fun r=>some (.inr r))
noncomputable def UX (C:ag):cp:=fun β n ds k=>
 bif Nat.beq n 49 then bW JI [true,true,false,false,true,false,false,false] [[0,0,3,4,0,0,6,7,8]] (@BO C) ds k else
 none
abbrev agS (C:ag) (b:cj):Prop:=cl Try.prog ay C (UX C) 63 (cH Try.prog (ay.aT 63)) (ay.sin 63).bc.length b
theorem agT (C:ag):agS C (.loop (aw [1,1,0,1,0,0] UW)):=
 ca JI [true,true,false,false,true,false,false,false] [[0,0,3,4,0,0,6,7,8]] (@BO C) (by kernel_rfl) (bf (bs:=[]) (by kernel_rfl) ax) (fun ds=>by kernel_rfl) (fun i x=>by kernel_rfl) (fun i x β k=>by kernel_rfl) (fun β ds k=>by kernel_rfl)
noncomputable def UY (C:ag) (af aq:Int) (ae:List V):Option (List V):=
 (Loop (Gj C ae (ae.length:Int) af aq ae) (true,false,0)).bind (un fun (Gk:Bool)=>un fun (ye:Bool)=>un fun (oG:Int) (jD:Bool)=>
  bif (af:Int)==2 then
   bif (af:Int)==2 then
   some [.bool true]
   else
   bif (af:Int)==4 then
    some [.bool ye]
   else
    bif (af:Int)==5 then
    bif (af:Int)==5 then
     some [.bool Gk]
    else
     bif (af:Int)==8 then
     some [.bool (!ye)]
     else
     some [.bool false]
    else
    bif (af:Int)==6 then
     some [.bool Gk]
    else
     bif (af:Int)==8 then
     some [.bool (!ye)]
     else
     some [.bool false]
  else
   bif (af:Int)==7 then
   some [.bool true]
   else
   bif (af:Int)==4 then
    some [.bool ye]
   else
    bif (af:Int)==5 then
    bif (af:Int)==5 then
     some [.bool Gk]
    else
     bif (af:Int)==8 then
     some [.bool (!ye)]
     else
     some [.bool false]
    else
    bif (af:Int)==6 then
     some [.bool Gk]
    else
     bif (af:Int)==8 then
     some [.bool (!ye)]
     else
     some [.bool false])
theorem agU {af aq:Int} {ae:List V} {r:Option (List V)} (h:UY CC af aq ae=r):CC Am [.int .i64 af,.int .i64 aq,.list aa ae]=r:=
 a9 (key:=63) (L:=UX CC) (bs:=[.loop (aw [1,1,0,1,0,0] UW)]) (by kernel_rfl) (bA (agT CC) ax) (aZ (by kernel_rfl) h)
end Go.AM
set_option maxRecDepth 100000
namespace Go.AM
open Go.Proofs Ex
theorem agV: ∀e:Ex,e.Ok→CC Am (bH e [])=some [.bool e.cK]:=
 ind fun o l ks ih au=>by
  have:=pE
  have hlen:=au.len
  refine agU ?_
  have hl:=acN (step:=Gj CC (ks.map enc) ((ks.map enc).length:Int) o l (ks.map enc)) (ks:=ks) (fun (s:Bool × Bool) i=>(s.1,s.2,(i:Int))) (fun s k=>(s.1&&k.cK,s.2||k.cK)) (fun s=>(s.1,s.2,((ks.length:Nat):Int),false)) (fun _ _=>True)
   (fun pre k av s aU hI=>by
    have bE:pre.length<ks.length:=by rw[aU];simp
    have hm:k∈ks:=by rw[aU];simp
    refine ⟨?_,trivial⟩
    simp only[Gj,BO,un,aP,az]
    rw[aj (by omega),show idx (ks.map enc) (pre.length:Int)=some k.enc by rw[aU];exact ga _ _ _]
    simp only[Option.bind_some,bd,bj,bh]
    rw[ih k hm (au.lL k hm)]
    simp only[Option.bind_some,V.aW,V.ej]
    rw[wrap64 (by omega) (by omega)]
    obtain ⟨a,b⟩:=s
    cases a<;>cases b<;>simp)
   (fun s=>by
    simp only[Gj,BO,un,aP,az]
    rw[ai (by omega)]
    simp) ks [] (true,false) rfl trivial
  have hf: ∀(ks:List Ex) (a b:Bool),ks.foldl (fun (s:Bool × Bool) k=>(s.1&&k.cK,s.2||k.cK)) (a,b)=(a&&lN ks,b||km ks):=by
   intro ks
   induction ks with
   | nil=>intro a b;simp[lN,km]
   | cons k ks ih=>intro a b;simp[ih,lN,km,Bool.and_assoc,Bool.or_assoc]
  rw[hf] at hl
  simp only[List.length_nil,Int.ofNat_zero,Int.natCast_zero] at hl
  unfold UY
  simp only[Ex.op,Ex.bm,Ex.kids]
  erw [hl]
  simp only[Option.bind_some,un,cK,lV,Bool.false_or]
  rcases xj o with rfl|rfl|rfl|rfl|rfl|rfl|rfl|rfl|ho
  case inr.inr.inr.inr.inr.inr.inr.inr=>
   have n2:o≠2:=by omega
   have n4:o≠4:=by omega
   have n5:o≠5:=by omega
   have n6:o≠6:=by omega
   have n7:o≠7:=by omega
   have n8:o≠8:=by omega
   simp[n2,n4,n5,n6,n7,n8]
  all_goals simp
end Go.AM
set_option maxRecDepth 100000
namespace Go.AM
open Go.Proofs
noncomputable abbrev UZ:Code:=cC Try.prog (ay.aT 66)
noncomputable def yf (C:ag) (l:List V) (L8 L9:Int) (Ma:List V) (k':Int) {β:Type} (kn:Int→Option β) (kr:(Int × Bool)→Option β):Option β:=
 bif decide ((k':Int)>0) then
  (idx l (IntKind.wrap .i64 (k'-1))).bind fun x1=>
  (C sc [.int .i64 L8,.int .i64 L9,.list aa Ma,.int .i64 ((x1.cell 0).toInt),.int .i64 ((x1.cell 1).toInt),.list aa ((x1.cell 2).toList)]).bind fun r2=>
  bif decide ((((V.nth r2 0).toInt):Int)<0) then
  kn (IntKind.wrap .i64 (k'-1))
  else
  kr (k',decide ((((V.nth r2 0).toInt):Int)<0))
 else
  kr (k',false)
noncomputable def BP (C:ag) (l:List V) (L8 L9:Int) (Ma:List V):(Int)→Option ((Int) ⊕ (Int × Bool)):=fun k'=>yf C l L8 L9 Ma k' (fun y=>some (.inl y)) (fun r=>some (.inr r))
noncomputable def U0 (C:ag):cp:=fun β n ds k=>
 bif Nat.beq n 33 then bW JK [false,true,false,false,false] [[1,0,0,3,4,5]] (@yf C) ds k else
 none
abbrev agW (C:ag) (b:cj):Prop:=cl Try.prog ay C (U0 C) 66 (cH Try.prog (ay.aT 66)) (ay.sin 66).bc.length b
theorem agX (C:ag):agW C (.loop (aw [1,1,0,0,0] UZ)):=
 ca JK [false,true,false,false,false] [[1,0,0,3,4,5]] (@yf C) (by kernel_rfl) (bf (bs:=[]) (by kernel_rfl) ax) (fun ds=>by kernel_rfl) (fun i x=>by kernel_rfl) (fun i x β k=>by kernel_rfl) (fun β ds k=>by kernel_rfl)
noncomputable def U1 (C:ag) (l:List V) (oS im:Int) (oT:List V):Option (List V):=
 (Loop (BP C l oS im oT) (l.length:Int)).bind (un fun (fe:Int) (kj:Bool)=>
  bif decide ((fe:Int)>0) then
   (idx l (IntKind.wrap .i64 (fe-1))).bind fun x5=>
   (C sc [.int .i64 ((x5.cell 0).toInt),.int .i64 ((x5.cell 1).toInt),.list aa ((x5.cell 2).toList),.int .i64 oS,.int .i64 im,.list aa oT]).bind fun r6=>
   bif (((V.nth r6 0).toInt):Int)==0 then
   some [.list aa l]
   else
   bif (decide (0≤fe))&&(decide (fe≤(l.length:Int))) then
    bif Nat.ble ((([]:List V).length+((l.drop 0).take (((fe:Int).toNat)-0)).length)*40) bU then
    bif Nat.ble (((([]:List V)++((l.drop 0).take (((fe:Int).toNat)-0))).length+([.agg [.int .i64 oS,.int .i64 im,.list aa oT]]:List V).length)*40) bU then
     bif (decide (0≤fe))&&(decide (fe≤(l.length:Int))) then
     bif Nat.ble ((((([]:List V)++((l.drop 0).take (((fe:Int).toNat)-0)))++([.agg [.int .i64 oS,.int .i64 im,.list aa oT]]:List V)).length+((l.drop ((fe:Int).toNat)).take (l.length-((fe:Int).toNat))).length)*40) bU then
      some [.list aa (((([]:List V)++((l.drop 0).take (((fe:Int).toNat)-0)))++([.agg [.int .i64 oS,.int .i64 im,.list aa oT]]:List V))++((l.drop ((fe:Int).toNat)).take (l.length-((fe:Int).toNat))))]
     else none
     else none
    else none
    else none
   else none
  else
   bif (decide (0≤fe))&&(decide (fe≤(l.length:Int))) then
   bif Nat.ble ((([]:List V).length+((l.drop 0).take (((fe:Int).toNat)-0)).length)*40) bU then
    bif Nat.ble (((([]:List V)++((l.drop 0).take (((fe:Int).toNat)-0))).length+([.agg [.int .i64 oS,.int .i64 im,.list aa oT]]:List V).length)*40) bU then
    bif (decide (0≤fe))&&(decide (fe≤(l.length:Int))) then
     bif Nat.ble ((((([]:List V)++((l.drop 0).take (((fe:Int).toNat)-0)))++([.agg [.int .i64 oS,.int .i64 im,.list aa oT]]:List V)).length+((l.drop ((fe:Int).toNat)).take (l.length-((fe:Int).toNat))).length)*40) bU then
     some [.list aa (((([]:List V)++((l.drop 0).take (((fe:Int).toNat)-0)))++([.agg [.int .i64 oS,.int .i64 im,.list aa oT]]:List V))++((l.drop ((fe:Int).toNat)).take (l.length-((fe:Int).toNat))))]
     else none
    else none
    else none
   else none
   else none)
theorem agY {l:List V} {oS im:Int} {oT:List V} {r:Option (List V)} (h:U1 CC l oS im oT=r):CC An [.list aa l,.int .i64 oS,.int .i64 im,.list aa oT]=r:=
 a9 (key:=66) (L:=U0 CC) (bs:=[.loop (aw [1,1,0,0,0] UZ)]) (by kernel_rfl) (bA (agX CC) ax) (aZ (by kernel_rfl) h)
noncomputable def U2 (C:ag) (af aq:Int) (ae:List V):Option (List V):=
 bif (af:Int)==8 then
  bif ((ae.length:Int):Int)==1 then
  (ae[0]?).bind fun x1=>
  some [.bool ((((x1.cell 0).toInt):Int)==1)]
  else
  some [.bool false]
 else
  some [.bool false]
theorem agZ {af aq:Int} {ae:List V} {r:Option (List V)} (h:U2 CC af aq ae=r):CC wL [.int .i64 af,.int .i64 aq,.list aa ae]=r:=
 a9 (key:=64) (L:=cm) (bs:=[]) (by kernel_rfl) ax (aZ (by kernel_rfl) h)
end Go.AM
set_option maxRecDepth 100000
namespace Go.AM
open Go.Proofs Ex
theorem ag0 {l:List Ex} {x:Ex} (hl: ∀k∈l,k.Ok) (hx:x.Ok) (hn:l.length≤1000000):
  ∀k,k≤l.length→∃t,Loop (BP CC (l.map enc) x.op x.bm (x.kids.map enc)) (k:Int)=some (((eT l x k:Nat):Int),t):=by
 intro k
 induction k with
 | zero=>
  intro _
  refine ⟨false,aV ?_⟩
  simp only[BP,yf,eT]
  rw[az,ai (by omega)]
 | succ k ih=>
  intro hk
  have e1:IntKind.wrap .i64 (((k+1:Nat):Int)-1)=(k:Int):=by rw[wrap64 (by omega) (by omega)];omega
  have c:=L7 x hx (l.getD k ba) (xl hl (by omega))
  by_cases h:cmp x (l.getD k ba)<0
  ·obtain ⟨t,ht⟩:=ih (by omega)
   refine ⟨t,?_⟩
   rw[eT,aj h,←ht]
   refine bQ ?_
   simp only[BP,yf]
   rw[az,aj (by omega),e1,KN (by omega)]
   simp only[Option.bind_some,bd,bj,bh]
   refine (congrArg (fun o=>Option.bind o _) c).trans ?_
   simp only[Option.bind_some,V.aW,V.toInt_int,az]
   rw[aj h]
  ·refine ⟨false,?_⟩
   rw[eT,ai h]
   refine aV ?_
   simp only[BP,yf]
   rw[az,aj (by omega),e1,KN (by omega)]
   simp only[Option.bind_some,bd,bj,bh]
   refine (congrArg (fun o=>Option.bind o _) c).trans ?_
   simp only[Option.bind_some,V.aW,V.toInt_int,az]
   rw[ai h,cr h]
theorem U3 {l:List Ex} {x:Ex} (hl: ∀k∈l,k.Ok) (hx:x.Ok) (hn:l.length≤1000000):
  CC An (.list aa (l.map enc)::bH x [])=some [.list aa ((dQ l x).map enc)]:=by
 refine agY ?_
 unfold U1
 obtain ⟨t,ht⟩:=ag0 hl hx hn l.length (bY _)
 have hle:=AN l x l.length
 rw[aP]
 refine (congrArg (fun o=>Option.bind o _) ht).trans ?_
 have key:=acx l (eT l x l.length) x
 unfold dQ
 generalize eT l x l.length=k at hle key
 have m1:Nat.ble ((([]:List V).length+(((l.map enc).drop 0).take (k-0)).length)*40) bU=true:=by
  rw[dx,ki];simp only[eP,oX,aP,List.length_nil];omega
 have m2:Nat.ble (((([]:List V)++(((l.map enc).drop 0).take (k-0))).length+([.agg [.int .i64 x.op,.int .i64 x.bm,.list aa (x.kids.map enc)]]:List V).length)*40) bU=true:=by
  rw[dx,ki];simp only[bS,eP,oX,aP,List.length_nil,List.length_singleton];omega
 have m3:Nat.ble ((((([]:List V)++(((l.map enc).drop 0).take (k-0)))++([.agg [.int .i64 x.op,.int .i64 x.bm,.list aa (x.kids.map enc)]]:List V)).length+(((l.map enc).drop k).take ((l.map enc).length-k)).length)*40) bU=true:=by
  rw[dx,ki];simp only[bS,eP,oX,aP,List.length_nil,List.length_singleton];omega
 have t1:(0:Int)≤(k:Int):=by omega
 have t2:(k:Int)≤(l.length:Int):=by omega
 simp only[Option.bind_some,un,az,Int.toNat_natCast]
 rw[aP] at m3 key
 by_cases h0:0<k
 ·rw[aj (by omega)]
  have e1:IntKind.wrap .i64 ((k:Int)-1)=((k-1:Nat):Int):=by rw[wrap64 (by omega) (by omega)];omega
  have c:=L7 (l.getD (k-1) ba) (xl hl (by omega)) x hx
  rw[e1,KN (by omega)]
  simp only[Option.bind_some,bd,bj,bh]
  refine (congrArg (fun o=>Option.bind o _) c).trans ?_
  simp only[Option.bind_some,V.aW,V.toInt_int,df]
  by_cases h1:cmp (l.getD (k-1) ba) x=0
  ·rw[aj h1,aj ⟨h0,h1⟩]
  ·rw[ai h1,ai (fun h=>h1 h.2)]
   simp only[cS,az,t1,t2,cI,m1,m2,m3,cond_true,key,aP]
 ·rw[ai (by omega),ai (fun h=>h0 h.1)]
  simp only[cS,az,t1,t2,cI,m1,m2,m3,cond_true,key,aP]
theorem Mb (e:Ex):CC wL (bH e [])=some [.bool (univ e)]:=by
 obtain ⟨o,l,ks⟩:=e
 refine agZ ?_
 unfold U2 univ
 simp only[Ex.op,Ex.kids,df,aP]
 by_cases h1:o=8
 ·rw[aj h1]
  match ks with
  | []=>simp
  | [k]=>
   obtain ⟨o2,l2,jl⟩:=k
   rw[aj (by simp)]
   simp[h1,bd,Ex.op,Bool.beq_eq_decide_eq]
  | k::k2::ks=>
   rw[ai (by simp<;>omega)]
   simp
 ·rw[ai h1];simp[h1]
end Go.AM
set_option maxRecDepth 100000
namespace Go.AM
open Go.Proofs
noncomputable abbrev U4:Code:=cC Try.prog (ay.aT 65)
noncomputable def BQ (C:ag) (op:Int) (t8:List V) (t9 t10:Int) (outs:List V) {β:Type} (kn:(Int × (List V))→Option β) (kr:(Int × Bool × (List V))→Option β):Option β:=
 bif decide ((t10:Int)<t9) then
  (idx t8 t10).bind fun x1=>
  bif (((x1.cell 0).toInt):Int)==op then
  bif Nat.ble ((outs.length+((x1.cell 2).toList).length)*40) bU then
   kn (IntKind.wrap .i64 (t10+1),outs++((x1.cell 2).toList))
  else none
  else
  bif Nat.ble ((outs.length+([.agg [.int .i64 ((x1.cell 0).toInt),.int .i64 ((x1.cell 1).toInt),.list aa ((x1.cell 2).toList)]]:List V).length)*40) bU then
   kn (IntKind.wrap .i64 (t10+1),outs++([.agg [.int .i64 ((x1.cell 0).toInt),.int .i64 ((x1.cell 1).toInt),.list aa ((x1.cell 2).toList)]]:List V))
  else none
 else
  kr (t10,decide ((t10:Int)<t9),outs)
noncomputable def BR (C:ag) (op:Int) (t8:List V) (t9:Int):(Int × (List V))→Option ((Int × (List V)) ⊕ (Int × Bool × (List V))):=un fun t10 outs=>BQ C op t8 t9 t10 outs (fun y=>some (.inl y)) (fun r=>some (.inr r))
noncomputable def U5 (C:ag):cp:=fun β n ds k=>
 bif Nat.beq n 49 then bW JJ [false,false,false,true,true] [[1,2,3,0,0,0]] (@BQ C) ds k else
 none
abbrev ag1 (C:ag) (b:cj):Prop:=cl Try.prog ay C (U5 C) 65 (cH Try.prog (ay.aT 65)) (ay.sin 65).bc.length b
theorem ag2 (C:ag):ag1 C (.loop (aw [1,1,0,1,0,0] U4)):=
 ca JJ [false,false,false,true,true] [[1,2,3,0,0,0]] (@BQ C) (by kernel_rfl) (bf (bs:=[]) (by kernel_rfl) ax) (fun ds=>by kernel_rfl) (fun i x=>by kernel_rfl) (fun i x β k=>by kernel_rfl) (fun β ds k=>by kernel_rfl)
noncomputable def U6 (C:ag) (op:Int) (kids:List V):Option (List V):=
 (Loop (BR C op kids (kids.length:Int)) (0,([]:List V))).bind (un fun (t_2:Int)=>un fun (iP:Bool) (ag3:List V)=>
  some [.list aa ag3])
theorem ag4 {op:Int} {kids:List V} {r:Option (List V)} (h:U6 CC op kids=r):CC wM [.int .i64 op,.list aa kids]=r:=
 a9 (key:=65) (L:=U5 CC) (bs:=[.loop (aw [1,1,0,1,0,0] U4)]) (by kernel_rfl) (bA (ag2 CC) ax) (aZ (by kernel_rfl) h)
end Go.AM
set_option maxRecDepth 100000
namespace Go.AM
open Go.Proofs Ex
theorem ag5 {op:Int} {ks:List Ex} (hn:ks.length≤1000000) (hl:(bq op ks).length≤1000000):
  ∀(av pre:List Ex),ks=pre++av→
  Loop (BR CC op (ks.map enc) ((ks.map enc).length:Int)) (((pre.length:Nat):Int),(bq op pre).map enc)=some (((ks.map enc).length:Int),false,(bq op ks).map enc):=by
 intro av
 induction av with
 | nil=>
  intro pre e
  rw[cP] at e
  subst e
  refine aV ?_
  simp only[BR,BQ,un,aP]
  rw[az,ai (by omega),cr (by omega)]
 | cons k av ih=>
  intro pre e
  have aO:pre.length<ks.length:=by rw[e];simp
  have hi:idx (ks.map enc) ((pre.length:Nat):Int)=some k.enc:=by rw[e];exact ga pre av k
  have hf:bq op ks=bq op pre++((if k.op=op then k.kids else [k])++bq op av):=by
   rw[e];unfold bq;rw[Cv,lf]
  have zH:bq op (pre++[k])=bq op pre++(if k.op=op then k.kids else [k]):=by
   unfold bq;rw[Cv,lf,List.flatMap_nil,cP]
  rw[hf,bS,bS] at hl
  have bI:BR CC op (ks.map enc) ((ks.map enc).length:Int) (((pre.length:Nat):Int),(bq op pre).map enc)=some (.inl (((pre.length+1:Nat):Int),(bq op (pre++[k])).map enc)):=by
   simp only[BR,BQ,un,aP]
   rw[az,aj (by omega),hi,zH]
   simp only[Option.bind_some,bd,bj,bh,df,Ad,aP,List.length_singleton]
   by_cases h:k.op=op
   ·rw[aj h] at hl⊢
    rw[aj h,aj (by rw[ki];omega),wrap64 (by omega) (by omega),eQ]
    rfl
   ·rw[ai h] at hl⊢
    rw[List.length_singleton] at hl
    rw[ai h,aj (by rw[ki];omega),wrap64 (by omega) (by omega),eQ,←dg]
    rfl
  rw[bQ bI]
  have:=ih (pre++[k]) (by simp[e])
  simpa using this
theorem Mc {op:Int} {ks:List Ex} (hn:ks.length≤1000000) (hl:(bq op ks).length≤1000000):CC wM [.int .i64 op,.list aa (ks.map enc)]=some [.list aa ((bq op ks).map enc)]:=by
 refine ag4 ?_
 unfold U6
 refine (congrArg (fun o=>Option.bind o _) (ag5 hn hl ks [] rfl)).trans ?_
 rfl
end Go.AM
set_option maxRecDepth 100000
namespace Go.AM
open Go.Proofs
noncomputable abbrev sP:Code:=cC Try.prog (ay.aT 47)
noncomputable def BT (C:ag) (t19:List V) (t20 dA c7:Int) (cF:List V) (jM jN:Int) (bJ:List V) (t21:Int) (nL:List V) {β:Type} (kn:(Int × (List V))→Option β) (kr:(Int × Bool × (List V))→Option β):Option β:=
 bif decide ((t21:Int)<t20) then
  (idx t19 t21).bind fun x1=>
  (C uj [.int .i64 ((x1.cell 0).toInt),.int .i64 ((x1.cell 1).toInt),.list aa ((x1.cell 2).toList)]).bind fun r2=>
  bif Nat.ble ((nL.length+([.agg [.int .i64 ((V.nth r2 0).toInt),.int .i64 ((V.nth (r2.drop 1) 0).toInt),.list aa ((V.nth ((r2.drop 1).drop 1) 0).toList)]]:List V).length)*40) bU then
  kn (IntKind.wrap .i64 (t21+1),nL++([.agg [.int .i64 ((V.nth r2 0).toInt),.int .i64 ((V.nth (r2.drop 1) 0).toInt),.list aa ((V.nth ((r2.drop 1).drop 1) 0).toList)]]:List V))
  else none
 else
  kr (t21,decide ((t21:Int)<t20),nL)
noncomputable def Gl (C:ag) (t19:List V) (t20 dA c7:Int) (cF:List V) (jM jN:Int) (bJ:List V):(Int × (List V))→Option ((Int × (List V)) ⊕ (Int × Bool × (List V))):=un fun t21 nL=>BT C t19 t20 dA c7 cF jM jN bJ t21 nL (fun y=>some (.inl y)) (fun r=>some (.inr r))
noncomputable def yg (C:ag) (t95 jM jN BU BV:Int) (BW:List V) (kz kA sQ sR:Int) (Gm eb u6:List V) (t96:Int) (eH:List V) {β:Type} (kn:(Int × (List V))→Option β) (kr:((Unit) ⊕ (Int × Bool × (List V)))→Option β):Option β:=
 bif decide ((t96:Int)<t95) then
  bif (decide (0≤t96))&&(decide (t96<(Gm.length:Int))) then
  (Gm[(t96:Int).toNat]?).bind fun mB=>
  bif (((mB.cell 0).toInt):Int)==1 then
   kr (.inl ())
  else
   bif (((mB.cell 0).toInt):Int) != 2 then
   bif Nat.ble ((eH.length+([.agg [.int .i64 ((mB.cell 0).toInt),.int .i64 ((mB.cell 1).toInt),.list aa ((mB.cell 2).toList)]]:List V).length)*40) bU then
    kn (IntKind.wrap .i64 (t96+1),eH++([.agg [.int .i64 ((mB.cell 0).toInt),.int .i64 ((mB.cell 1).toInt),.list aa ((mB.cell 2).toList)]]:List V))
   else none
   else
   kn (IntKind.wrap .i64 (t96+1),eH)
  else none
 else
  kr (.inr (t96,decide ((t96:Int)<t95),eH))
noncomputable def yh (C:ag) (t95 jM jN BU BV:Int) (BW:List V) (kz kA sQ sR:Int) (Gm eb u6:List V):(Int × (List V))→Option ((Int × (List V)) ⊕ ((Unit) ⊕ (Int × Bool × (List V)))):=un fun t96 eH=>yg C t95 jM jN BU BV BW kz kA sQ sR Gm eb u6 t96 eH (fun y=>some (.inl y)) (fun r=>some (.inr r))
noncomputable def yi (C:ag) (t120 jM jN U7 U8 kz kA sQ sR:Int) (U9 Gn eb eH:List V) (t121:Int) (kB:List V) {β:Type} (kn:(Int × (List V))→Option β) (kr:((Unit) ⊕ (Int × Bool × (List V)))→Option β):Option β:=
 bif decide ((t121:Int)<t120) then
  bif (decide (0≤t121))&&(decide (t121<(Gn.length:Int))) then
  (Gn[(t121:Int).toNat]?).bind fun jk=>
  (C wL [.int .i64 ((jk.cell 0).toInt),.int .i64 ((jk.cell 1).toInt),.list aa ((jk.cell 2).toList)]).bind fun c9=>
  bif (V.nth c9 0).toBool then
   kr (.inl ())
  else
   bif (((jk.cell 0).toInt):Int) != 1 then
   (C An [.list aa kB,.int .i64 ((jk.cell 0).toInt),.int .i64 ((jk.cell 1).toInt),.list aa ((jk.cell 2).toList)]).bind fun fx=>
   kn (IntKind.wrap .i64 (t121+1),(V.nth fx 0).toList)
   else
   kn (IntKind.wrap .i64 (t121+1),kB)
  else none
 else
  kr (.inr (t121,decide ((t121:Int)<t120),kB))
noncomputable def yj (C:ag) (t120 jM jN U7 U8 kz kA sQ sR:Int) (U9 Gn eb eH:List V):(Int × (List V))→Option ((Int × (List V)) ⊕ ((Unit) ⊕ (Int × Bool × (List V)))):=un fun t121 kB=>yi C t120 jM jN U7 U8 kz kA sQ sR U9 Gn eb eH t121 kB (fun y=>some (.inl y)) (fun r=>some (.inr r))
noncomputable def yk (C:ag) (t144 jM jN BU BV:Int) (BW:List V) (kz kA sQ sR:Int) (Gp eb eH:List V) (t145:Int) (kB:List V) {β:Type} (kn:(Int × (List V))→Option β) (kr:((Unit) ⊕ (Int × Bool × (List V)))→Option β):Option β:=
 bif decide ((t145:Int)<t144) then
  bif (decide (0≤t145))&&(decide (t145<(Gp.length:Int))) then
  (Gp[(t145:Int).toNat]?).bind fun nE=>
  bif (((nE.cell 0).toInt):Int)==1 then
   kr (.inl ())
  else
   (C wL [.int .i64 ((nE.cell 0).toInt),.int .i64 ((nE.cell 1).toInt),.list aa ((nE.cell 2).toList)]).bind fun BX=>
   bif !((V.nth BX 0).toBool) then
   (C An [.list aa kB,.int .i64 ((nE.cell 0).toInt),.int .i64 ((nE.cell 1).toInt),.list aa ((nE.cell 2).toList)]).bind fun r28=>
   kn (IntKind.wrap .i64 (t145+1),(V.nth r28 0).toList)
   else
   kn (IntKind.wrap .i64 (t145+1),kB)
  else none
 else
  kr (.inr (t145,decide ((t145:Int)<t144),kB))
noncomputable def yl (C:ag) (t144 jM jN BU BV:Int) (BW:List V) (kz kA sQ sR:Int) (Gp eb eH:List V):(Int × (List V))→Option ((Int × (List V)) ⊕ ((Unit) ⊕ (Int × Bool × (List V)))):=un fun t145 kB=>yk C t144 jM jN BU BV BW kz kA sQ sR Gp eb eH t145 kB (fun y=>some (.inl y)) (fun r=>some (.inr r))
noncomputable def Va (C:ag):cp:=fun β n ds k=>
 bif Nat.beq n 49 then bW Jw [false,false,true,false,false,false,false,false,true,false] [[1,2,0,0,4,5,6,7,8,0,10]] (@BT C) ds k else
 bif Nat.beq n 465 then bW Jx [false,true,false,false,false,false,false,false,false,false,false,false,false,true,false] [[5,6,7],[1,0,0,3,4,5,6,7,8,9,10,11,12,13,0,15]] (@yg C) ds k else
 bif Nat.beq n 609 then bW Jy [false,true,false,false,false,false,false,false,true,false,false,false,false,false,false] [[5,6,15],[1,0,0,3,4,5,6,7,8,0,10,11,12,13,14,15]] (@yi C) ds k else
 bif Nat.beq n 769 then bW Jz [false,true,false,false,false,false,false,false,false,true,false,false,false,false,false] [[5,6,7],[1,0,0,3,4,5,6,7,8,9,0,11,12,13,14,15]] (@yk C) ds k else
 none
abbrev Gq (C:ag) (b:cj):Prop:=cl Try.prog ay C (Va C) 47 (cH Try.prog (ay.aT 47)) (ay.sin 47).bc.length b
theorem ag6 (C:ag):Gq C (.loop (aw [1,1,0,1,0,0] sP)):=
 ca Jw [false,false,true,false,false,false,false,false,true,false] [[1,2,0,0,4,5,6,7,8,0,10]] (@BT C) (by kernel_rfl) (bf (bs:=[]) (by kernel_rfl) ax) (fun ds=>by kernel_rfl) (fun i x=>by kernel_rfl) (fun i x β k=>by kernel_rfl) (fun β ds k=>by kernel_rfl)
theorem ag7 (C:ag):Gq C (.loop (aw [1,1,1,1,1,1,1,0,1,0,1,1,1,1,1,0,1,1,0,0] sP)):=
 ca Jx [false,true,false,false,false,false,false,false,false,false,false,false,false,true,false] [[5,6,7],[1,0,0,3,4,5,6,7,8,9,10,11,12,13,0,15]] (@yg C) (by kernel_rfl) (bf (bs:=[]) (by kernel_rfl) ax) (fun ds=>by kernel_rfl) (fun i x=>by kernel_rfl) (fun i x β k=>by kernel_rfl) (fun β ds k=>by kernel_rfl)
theorem ag8 (C:ag):Gq C (.loop (aw [1,1,1,1,1,1,1,0,1,0,1,1,1,1,1,1,1,0,1,0,0] sP)):=
 ca Jy [false,true,false,false,false,false,false,false,true,false,false,false,false,false,false] [[5,6,15],[1,0,0,3,4,5,6,7,8,0,10,11,12,13,14,15]] (@yi C) (by kernel_rfl) (bf (bs:=[]) (by kernel_rfl) ax) (fun ds=>by kernel_rfl) (fun i x=>by kernel_rfl) (fun i x β k=>by kernel_rfl) (fun β ds k=>by kernel_rfl)
theorem ag9 (C:ag):Gq C (.loop (aw [1,1,1,1,1,1,1,0,1,0,1,1,1,1,1,1,1,1,1,0,1,1,0,0] sP)):=
 ca Jz [false,true,false,false,false,false,false,false,false,true,false,false,false,false,false] [[5,6,7],[1,0,0,3,4,5,6,7,8,9,0,11,12,13,14,15]] (@yk C) (by kernel_rfl) (bf (bs:=[]) (by kernel_rfl) ax) (fun ds=>by kernel_rfl) (fun i x=>by kernel_rfl) (fun i x β k=>by kernel_rfl) (fun β ds k=>by kernel_rfl)
noncomputable def Vb (C:ag) (af aq:Int) (ae:List V):Option (List V):=
 (Loop (Gl C ae (ae.length:Int) af aq ae 0 0 ([]:List V)) (0,([]:List V))).bind (un fun (iP:Int)=>un fun (kj:Bool) (oU:List V)=>
  bif (af:Int)==8 then
   bif decide (0<(oU.length:Int)) then
   (oU[0]?).bind fun x6=>
   bif (((x6.cell 0).toInt):Int)==8 then
    bif decide (0<(oU.length:Int)) then
    (oU[0]?).bind fun x7=>
    (((x7.cell 2).toList)[0]?).bind fun x8=>
    some [.int .i64 ((x8.cell 0).toInt),.int .i64 ((x8.cell 1).toInt),.list aa ((x8.cell 2).toList)]
    else none
   else
    some [.int .i64 af,.int .i64 aq,.list aa oU]
   else none
  else
   bif (af:Int)==7 then
   bif decide (0<(oU.length:Int)) then
    (oU[0]?).bind fun x9=>
    bif (((x9.cell 0).toInt):Int)==1 then
    some [.int .i64 2,.int .i64 0,.list aa ([]:List V)]
    else
    bif (((x9.cell 0).toInt):Int)==2 then
     some [.int .i64 2,.int .i64 0,.list aa ([]:List V)]
    else
     bif (((x9.cell 0).toInt):Int)==7 then
     some [.int .i64 ((x9.cell 0).toInt),.int .i64 ((x9.cell 1).toInt),.list aa ((x9.cell 2).toList)]
     else
     (C wL [.int .i64 ((x9.cell 0).toInt),.int .i64 ((x9.cell 1).toInt),.list aa ((x9.cell 2).toList)]).bind fun cT=>
     bif (V.nth cT 0).toBool then
      some [.int .i64 ((x9.cell 0).toInt),.int .i64 ((x9.cell 1).toInt),.list aa ((x9.cell 2).toList)]
     else
      some [.int .i64 af,.int .i64 aq,.list aa oU]
   else none
   else
   bif (af:Int)==5 then
    (C wM [.int .i64 af,.list aa oU]).bind fun dM=>
    (Loop (yh C (((V.nth dM 0).toList).length:Int) 0 0 1 0 ([]:List V) af aq 2 0 ((V.nth dM 0).toList) ([]:List V) ([]:List V)) (0,([]:List V))).bind (b7 (fun _=>
     some [.int .i64 1,.int .i64 0,.list aa ([]:List V)]) (un fun (KD:Int)=>un fun (xc:Bool) (sS:List V)=>
     bif ((sS.length:Int):Int)==0 then
     some [.int .i64 2,.int .i64 0,.list aa ([]:List V)]
     else
     bif ((sS.length:Int):Int)==1 then
      (sS[0]?).bind fun fb=>
      some [.int .i64 ((fb.cell 0).toInt),.int .i64 ((fb.cell 1).toInt),.list aa ((fb.cell 2).toList)]
     else
      some [.int .i64 af,.int .i64 aq,.list aa sS]))
   else
    bif (af:Int)==4 then
    (C wM [.int .i64 af,.list aa oU]).bind fun dt=>
    (Loop (yj C (((V.nth dt 0).toList).length:Int) 0 0 8 0 af aq 1 0 ([]:List V) ((V.nth dt 0).toList) ([]:List V) ([.agg [.int .i64 1,.int .i64 0,.list aa ([]:List V)]]:List V)) (0,([]:List V))).bind (b7 (fun _=>
     some [.int .i64 8,.int .i64 0,.list aa ([.agg [.int .i64 1,.int .i64 0,.list aa ([]:List V)]]:List V)]) (un fun (Fh:Int)=>un fun (Fi:Bool) (Gr:List V)=>
     bif ((Gr.length:Int):Int)==0 then
      some [.int .i64 1,.int .i64 0,.list aa ([]:List V)]
     else
      bif ((Gr.length:Int):Int)==1 then
      (Gr[0]?).bind fun oL=>
      some [.int .i64 ((oL.cell 0).toInt),.int .i64 ((oL.cell 1).toInt),.list aa ((oL.cell 2).toList)]
      else
      some [.int .i64 af,.int .i64 aq,.list aa Gr]))
    else
    bif (af:Int)==6 then
     (C wM [.int .i64 af,.list aa oU]).bind fun A8=>
     (Loop (yl C (((V.nth A8 0).toList).length:Int) 0 0 1 0 ([]:List V) af aq 8 0 ((V.nth A8 0).toList) ([]:List V) ([.agg [.int .i64 1,.int .i64 0,.list aa ([]:List V)]]:List V)) (0,([]:List V))).bind (b7 (fun _=>
      some [.int .i64 1,.int .i64 0,.list aa ([]:List V)]) (un fun (KH:Int)=>un fun (KI:Bool) (Gt:List V)=>
      bif ((Gt.length:Int):Int)==0 then
      some [.int .i64 8,.int .i64 0,.list aa ([.agg [.int .i64 1,.int .i64 0,.list aa ([]:List V)]]:List V)]
      else
      bif ((Gt.length:Int):Int)==1 then
       (Gt[0]?).bind fun Md=>
       some [.int .i64 ((Md.cell 0).toInt),.int .i64 ((Md.cell 1).toInt),.list aa ((Md.cell 2).toList)]
      else
       some [.int .i64 af,.int .i64 aq,.list aa Gt]))
    else
     some [.int .i64 af,.int .i64 aq,.list aa ([]:List V)])
theorem aha {af aq:Int} {ae:List V} {r:Option (List V)} (h:Vb CC af aq ae=r):CC uj [.int .i64 af,.int .i64 aq,.list aa ae]=r:=
 a9 (key:=47) (L:=Va CC) (bs:=[.loop (aw [1,1,0,1,0,0] sP),.loop (aw [1,1,1,1,1,1,1,0,1,0,1,1,1,1,1,0,1,1,0,0] sP),.loop (aw [1,1,1,1,1,1,1,0,1,0,1,1,1,1,1,1,1,0,1,0,0] sP),.loop (aw [1,1,1,1,1,1,1,0,1,0,1,1,1,1,1,1,1,1,1,0,1,1,0,0] sP)]) (by kernel_rfl) (bA (ag6 CC) (bA (ag7 CC) (bA (ag8 CC) (bA (ag9 CC) ax)))) (aZ (by kernel_rfl) h)
end Go.AM
set_option maxRecDepth 100000
namespace Go.AM
open Go.Proofs Ex
section
variable {f:List Ex} {a1 a2 a3 a4 a5 a6 a7 a8:Int} {b0 b1 b2:List V}
theorem ahb (hn:f.length≤1000000): ∀(av pre acc:List Ex),f=pre++av→acc.length≤pre.length→
  Loop (yh CC ((f.map enc).length:Int) a1 a2 a3 a4 b0 a5 a6 a7 a8 (f.map enc) b1 b2) (((pre.length:Nat):Int),acc.map enc)=
   some (if av.any (fun k=>decide (k.op=1))=true then .inl () else .inr (((f.map enc).length:Int),false,(acc++av.filter fun k=>decide (k.op≠2)).map enc)):=by
 intro av
 induction av with
 | nil=>
  intro pre acc e _
  rw[cP] at e
  subst e
  refine aV ?_
  simp only[yh,yg,un,aP]
  rw[az,ai (by omega),cr (by omega)]
  simp
 | cons k av ih=>
  intro pre acc e ha
  have aO:pre.length<f.length:=by rw[e];simp
  have hg:(f.map enc)[pre.length]? =some k.enc:=by rw[e];simp
  have t1:((pre.length:Nat):Int)<(f.length:Int):=by omega
  have t2:(0:Int)≤((pre.length:Nat):Int):=by omega
  by_cases h1:k.op=1
  ·rw[aj (by simp[h1])]
   refine aV ?_
   simp only[yh,yg,un,aP,cS,az,df,Int.toNat_natCast,t1,t2,cI,hg,Option.bind_some,bd,h1]
  ·have bI:yh CC ((f.map enc).length:Int) a1 a2 a3 a4 b0 a5 a6 a7 a8 (f.map enc) b1 b2 (((pre.length:Nat):Int),acc.map enc)=some (.inl (((pre.length+1:Nat):Int),(if k.op=2 then acc else acc++[k]).map enc)):=by
    simp only[yh,yg,un,aP,cS,az,df,r0,Ad,Int.toNat_natCast,t1,t2,cI,hg,Option.bind_some,bd,bj,bh,List.length_singleton]
    rw[ai h1,wrap64 (by omega) (by omega)]
    by_cases U:k.op=2
    ·rw[aj U,aj U];rfl
    ·rw[ai U,ai U,aj (by rw[ki];omega),eQ,←dg];rfl
   rw[bQ bI]
   have:=ih (pre++[k]) (if k.op=2 then acc else acc++[k]) (by simp[e]) (by split<;>simp<;>omega)
   rw[bS,List.length_singleton] at this
   rw[this]
   congr 1
   by_cases U:k.op=2
   ·simp[h1,U]
   ·simp[h1,U]
end
section
variable {f:List Ex} {a1 a2 a3 a4 a5 a6 a7 a8:Int} {b0 b1 b2:List V}
theorem ahc (hn:f.length≤1000000) (hf: ∀k∈f,k.Ok): ∀(av pre acc:List Ex),f=pre++av→acc.length≤pre.length→(∀k∈acc,k.Ok)→
  Loop (yj CC ((f.map enc).length:Int) a1 a2 a3 a4 a5 a6 a7 a8 b0 (f.map enc) b1 b2) (((pre.length:Nat):Int),acc.map enc)=
   some (if av.any univ=true then .inl () else .inr (((f.map enc).length:Int),false,((av.filter fun k=>decide (k.op≠1)).foldl dQ acc).map enc)):=by
 intro av
 induction av with
 | nil=>
  intro pre acc e _ _
  rw[cP] at e
  subst e
  refine aV ?_
  simp only[yj,yi,un,aP]
  rw[az,ai (by omega),cr (by omega)]
  simp
 | cons k av ih=>
  intro pre acc e ha au
  have j9:k∈f:=by rw[e];simp
  have aO:pre.length<f.length:=by rw[e];simp
  have hg:(f.map enc)[pre.length]? =some k.enc:=by rw[e];simp
  have t1:((pre.length:Nat):Int)<(f.length:Int):=by omega
  have t2:(0:Int)≤((pre.length:Nat):Int):=by omega
  have cu:=Mb k
  have ci:=U3 au (hf k j9) (by omega)
  cases hu:univ k with
  | true=>
   rw[hu] at cu
   rw[aj (by simp[hu])]
   refine aV ?_
   simp only[yj,yi,un,aP,cS,az,Int.toNat_natCast,t1,t2,cI,hg,Option.bind_some,bd,bj,bh]
   refine (congrArg (fun o=>Option.bind o _) cu).trans ?_
   rfl
  | false=>
   rw[hu] at cu
   have bI:yj CC ((f.map enc).length:Int) a1 a2 a3 a4 a5 a6 a7 a8 b0 (f.map enc) b1 b2 (((pre.length:Nat):Int),acc.map enc)=some (.inl (((pre.length+1:Nat):Int),(if k.op=1 then acc else dQ acc k).map enc)):=by
    simp only[yj,yi,un,aP,cS,az,Int.toNat_natCast,t1,t2,cI,hg,Option.bind_some,bd,bj,bh]
    refine (congrArg (fun o=>Option.bind o _) cu).trans ?_
    simp only[Option.bind_some,V.aW,V.ej,cond_false,r0]
    rw[wrap64 (by omega) (by omega)]
    by_cases U:k.op=1
    ·rw[aj U,aj U];rfl
    ·rw[ai U,ai U]
     refine (congrArg (fun o=>Option.bind o _) ci).trans ?_
     simp only[Option.bind_some,V.aW,V.kb]
     rfl
   rw[bQ bI]
   have rJ:=RG acc k
   have:=ih (pre++[k]) (if k.op=1 then acc else dQ acc k) (by simp[e]) (by rw[bS,List.length_singleton];split<;>omega) (by split;exact au;exact RH au (hf k j9))
   rw[bS,List.length_singleton] at this
   rw[this]
   congr 1
   by_cases U:k.op=1
   ·simp[hu,U]
   ·simp[hu,U]
theorem ahd (hn:f.length≤1000000) (hf: ∀k∈f,k.Ok): ∀(av pre acc:List Ex),f=pre++av→acc.length≤pre.length→(∀k∈acc,k.Ok)→
  Loop (yl CC ((f.map enc).length:Int) a1 a2 a3 a4 b0 a5 a6 a7 a8 (f.map enc) b1 b2) (((pre.length:Nat):Int),acc.map enc)=
   some (if av.any (fun k=>decide (k.op=1))=true then .inl () else .inr (((f.map enc).length:Int),false,((av.filter fun k=> !(univ k)).foldl dQ acc).map enc)):=by
 intro av
 induction av with
 | nil=>
  intro pre acc e _ _
  rw[cP] at e
  subst e
  refine aV ?_
  simp only[yl,yk,un,aP]
  rw[az,ai (by omega),cr (by omega)]
  simp
 | cons k av ih=>
  intro pre acc e ha au
  have j9:k∈f:=by rw[e];simp
  have aO:pre.length<f.length:=by rw[e];simp
  have hg:(f.map enc)[pre.length]? =some k.enc:=by rw[e];simp
  have t1:((pre.length:Nat):Int)<(f.length:Int):=by omega
  have t2:(0:Int)≤((pre.length:Nat):Int):=by omega
  have cu:=Mb k
  have ci:=U3 au (hf k j9) (by omega)
  by_cases h1:k.op=1
  ·rw[aj (by simp[h1])]
   refine aV ?_
   simp only[yl,yk,un,aP,cS,az,df,Int.toNat_natCast,t1,t2,cI,hg,Option.bind_some,bd,h1]
  ·have bI:yl CC ((f.map enc).length:Int) a1 a2 a3 a4 b0 a5 a6 a7 a8 (f.map enc) b1 b2 (((pre.length:Nat):Int),acc.map enc)=some (.inl (((pre.length+1:Nat):Int),(if univ k=true then acc else dQ acc k).map enc)):=by
    simp only[yl,yk,un,aP,cS,az,df,Int.toNat_natCast,t1,t2,cI,hg,Option.bind_some,bd,bj,bh]
    rw[ai h1]
    refine (congrArg (fun o=>Option.bind o _) cu).trans ?_
    simp only[Option.bind_some,V.aW,V.ej,gp]
    rw[wrap64 (by omega) (by omega)]
    cases hu:univ k with
    | true=>rw[cond_true,aj rfl];rfl
    | false=>
     rw[cond_false,ai (by simp)]
     refine (congrArg (fun o=>Option.bind o _) ci).trans ?_
     simp only[Option.bind_some,V.aW,V.kb]
     rfl
   rw[bQ bI]
   have rJ:=RG acc k
   have:=ih (pre++[k]) (if univ k=true then acc else dQ acc k) (by simp[e]) (by rw[bS,List.length_singleton];split<;>omega) (by split;exact au;exact RH au (hf k j9))
   rw[bS,List.length_singleton] at this
   rw[this]
   congr 1
   cases hu:univ k<;>simp[h1,hu]
end
theorem ahe {ks:List Ex} {a b c d:Int} {l1 l2:List V} (hn:ks.length≤1000000) (ih: ∀k∈ks,CC uj (bH k [])=some (et (aH k))):
  ∀(av pre:List Ex),ks=pre++av→∃t,Loop (Gl CC (ks.map enc) ((ks.map enc).length:Int) a b l1 c d l2) (((pre.length:Nat):Int),(pre.map aH).map enc)=some (((ks.map enc).length:Int),t,(ks.map aH).map enc):=by
 intro av
 induction av with
 | nil=>
  intro pre e
  rw[cP] at e
  subst e
  refine ⟨false,aV ?_⟩
  simp only[Gl,BT,un,aP]
  rw[az,ai (by omega),cr (by omega)]
 | cons k av dP=>
  intro pre e
  have bE:pre.length<ks.length:=by rw[e];simp
  have bV:idx (ks.map enc) (pre.length:Int)=some k.enc:=by rw[e];exact ga _ _ _
  obtain ⟨t,ht⟩:=dP (pre++[k]) (by simp[e])
  refine ⟨t,(bQ ?_).trans ht⟩
  simp only[Gl,BT,un,aP]
  rw[az,aj (by omega),bV]
  simp only[Option.bind_some,bd,bj,bh]
  refine bs (ih k (by rw[e];simp)) ?_
  refine bT (by simp only[dx,ki,aP,List.length_singleton];omega) ?_
  rw[wrap64 (by omega) (by omega)]
  show some (Sum.inl _)=some (Sum.inl _)
  refine congrArg (fun x=>some (Sum.inl x)) (Prod.ext ?_ ?_)
  ·simp
  ·simp only[eQ,cz,fR]
   rw[dg (aH k)];rfl
theorem Me {op z:Int} {r:List Ex} {lz:List V} {e:Ex} (he:et e=[.int .i64 z,.int .i64 0,.list aa lz]):
  (bif (((r.map enc).length:Int):Int)==0 then some [V.int .i64 z,V.int .i64 0,V.list aa lz] else bif (((r.map enc).length:Int):Int)==1 then ((r.map enc)[0]?).bind fun x=>some [V.int .i64 ((x.cell 0).toInt),V.int .i64 ((x.cell 1).toInt),V.list aa ((x.cell 2).toList)] else some [V.int .i64 op,V.int .i64 0,V.list aa (r.map enc)])=some (et (gV op r e)):=by
 simp only[df,aP]
 match r with
 | []=>rw[aj (by simp),←he];rfl
 | [k]=>rw[ai (by simp),aj (by simp)];simp[gV,et,bd,bj,bh]
 | k::k2::r=>
  rw[ai (by simp only[List.length_cons];omega),ai (by simp only[List.length_cons];omega)]
  rfl
theorem Vc {n:Int} (hn:n≤6): ∀e:Ex,e.wf n=true→e.size≤1000000→CC uj (bH e [])=some (et (aH e)):=
 ind fun o l ks ih hw hs=>by
  obtain ⟨h1,U⟩:=gA hw
  have hl:=ko ks
  simp only[size] at hs
  have h3:=ew h1
  refine aha ?_
  unfold Vb
  obtain ⟨t,ht⟩:=ahe (a:=o) (b:=l) (c:=0) (d:=0) (l1:=ks.map enc) (l2:=[]) (ks:=ks) (by omega) (fun k hk=>ih k hk (U k hk) (by have:=su hk;omega)) ks [] rfl
  refine bs ht ?_
  have hg: ∀k∈ks.map aH,Gd n k:=fun x hx=>by
   obtain ⟨k,hk,rfl⟩:=gh.1 hx
   exact lP k (U k hk)
  have hz:aJ (ks.map aH)≤aJ ks:=by
   clear ht h3 h1 hw ih hl hs hg
   induction ks with
   | nil=>simp[aJ]
   | cons k ks ih=>have a:=xq k (U k (by simp));have b:=ih fun k hk=>U k (by simp[hk]);simp only[cz,aJ];omega
  have au: ∀k∈ks.map aH,k.Ok:=fun k hk=>pH hn k (hg k hk).2 (by have:=su hk;omega)
  have hlen:(ks.map aH).length=ks.length:=by simp
  rw[lO]
  simp only[un,Ex.op,Ex.bm,Ex.kids]
  generalize ks.map aH=ns at*
  have jr:=ko ns
  rcases h3 with ⟨rfl,h4,_⟩|⟨rfl,⟨rfl,h4⟩|⟨rfl,h4⟩|⟨rfl,h4⟩|⟨rfl,h4⟩|⟨rfl,h4⟩|⟨rfl,h4⟩|⟨rfl,h4⟩⟩
  ·obtain rfl:ns=[]:=mO.1 (by omega)
   rw[jH (by omega)]
   exact bF rfl (bF rfl (bF rfl (bF rfl (bF rfl rfl))))
  ·obtain rfl:ns=[]:=mO.1 (by omega)
   rw[jH (by omega)]
   exact bF rfl (bF rfl (bF rfl (bF rfl (bF rfl rfl))))
  ·obtain rfl:ns=[]:=mO.1 (by omega)
   rw[jH (by omega)]
   exact bF rfl (bF rfl (bF rfl (bF rfl (bF rfl rfl))))
  ·refine bF rfl (bF rfl (bF rfl (bT rfl ?_)))
   have a1:=qQ 4 ns
   have a2:=ko (bq 4 ns)
   refine bs (Mc (by omega) (by omega)) ?_
   refine bs (ahc (by omega) (FX au) (bq 4 ns) [] [] rfl (bY _) (by simp)) ?_
   rw[uG]
   cases (bq 4 ns).any univ with
   | true=>simp only[cI];rfl
   | false=>
    simp only[yJ,fg]
    exact Me rfl
  ·refine bF rfl (bF rfl (bT rfl ?_))
   have a1:=qQ 5 ns
   have a2:=ko (bq 5 ns)
   refine bs (Mc (by omega) (by omega)) ?_
   refine bs (ahb (by omega) (bq 5 ns) [] [] rfl (bY _)) ?_
   rw[sw]
   cases (bq 5 ns).any (fun k=>decide (k.op=1)) with
   | true=>simp only[cI];rfl
   | false=>
    simp only[yJ,fg,List.nil_append]
    exact Me rfl
  ·refine bF rfl (bF rfl (bF rfl (bF rfl (bT rfl ?_))))
   have a1:=qQ 6 ns
   have a2:=ko (bq 6 ns)
   refine bs (Mc (by omega) (by omega)) ?_
   refine bs (ahd (by omega) (FX au) (bq 6 ns) [] [] rfl (bY _) (by simp)) ?_
   rw[xm]
   cases (bq 6 ns).any (fun k=>decide (k.op=1)) with
   | true=>simp only[cI];rfl
   | false=>
    simp only[yJ,fg]
    refine Me ?_
    simp[et,iR,ek,Ex.op,Ex.bm,Ex.kids,dg]
  ·match ns,(show ns.length=1 by omega) with
   | [k],_=>
    refine bF rfl (bT rfl (bT rfl (bs (a:=k.enc) rfl ?_)))
    rw[xn,bd,bj,bh,df,df,df]
    by_cases h1:k.op=1
    ·rw[aj h1,aj (.inl h1)];rfl
    ·rw[ai h1]
     by_cases U:k.op=2
     ·rw[aj U,aj (.inr U)];rfl
     ·rw[ai U,ai (show¬(k.op=1∨k.op=2) by omega)]
      by_cases h7:k.op=7
      ·rw[aj h7,aj (.inl h7)];rfl
      ·rw[ai h7]
       refine bs (Mb k) ?_
       cases hu:univ k with
       | true=>rw[aj (.inr rfl)];exact bT rfl rfl
       | false=>
        rw[ai (by rintro (h|h);exact h7 h;cases h)]
        exact bF rfl rfl
  ·match ns,(show ns.length=1 by omega) with
   | [k],_=>
    refine bT rfl (bT rfl (bs (a:=k.enc) rfl ?_))
    rw[xo,bd,df]
    by_cases h8:k.op=8
    ·rw[aj h8,aj h8]
     have hs:=ew (hg k (by simp)).shape
     obtain ⟨o2,l2,jl⟩:=k
     simp only[Ex.op,Ex.kids,Ex.bm] at*
     match jl,(show (jl.length:Int)=1 by omega) with
     | [x],_=>
      refine bT (by simp) (bs (a:=_) rfl (bs (a:=x.enc) (by rw[bh];rfl) ?_))
      rw[bd,bj,bh];rfl
    ·rw[ai h8,ai h8];rfl
end Go.AM
set_option maxRecDepth 100000
namespace Go.AM
open Go.Proofs
noncomputable def Vd (C:ag) (op:Int) (l:List V):Option (List V):=
 bif ((l.length:Int):Int)==1 then
  (l[0]?).bind fun x1=>
  some [.int .i64 ((x1.cell 0).toInt),.int .i64 ((x1.cell 1).toInt),.list aa ((x1.cell 2).toList)]
 else
  some [.int .i64 op,.int .i64 0,.list aa l]
theorem ahf {op:Int} {l:List V} {r:Option (List V)} (h:Vd CC op l=r):CC um [.int .i64 op,.list aa l]=r:=
 a9 (key:=71) (L:=cm) (bs:=[]) (by kernel_rfl) ax (aZ (by kernel_rfl) h)
noncomputable abbrev Gu:Code:=cC Try.prog (ay.aT 51)
noncomputable def BY (C:ag) (bm:Int) (t28:List V) (t29 fO fP kz kA:Int) (dw:List V) (t30:Int) (bJ:List V) {β:Type} (kn:(Int × (List V))→Option β) (kr:(Int × Bool × (List V))→Option β):Option β:=
 bif decide ((t30:Int)<t29) then
  (idx t28 t30).bind fun x1=>
  (C oC [.int .i64 ((x1.cell 0).toInt),.int .i64 ((x1.cell 1).toInt),.list aa ((x1.cell 2).toList),.int .i64 bm]).bind fun r2=>
  bif Nat.ble ((bJ.length+([.agg [.int .i64 ((V.nth r2 0).toInt),.int .i64 ((V.nth (r2.drop 1) 0).toInt),.list aa ((V.nth ((r2.drop 1).drop 1) 0).toList)]]:List V).length)*40) bU then
  kn (IntKind.wrap .i64 (t30+1),bJ++([.agg [.int .i64 ((V.nth r2 0).toInt),.int .i64 ((V.nth (r2.drop 1) 0).toInt),.list aa ((V.nth ((r2.drop 1).drop 1) 0).toList)]]:List V))
  else none
 else
  kr (t30,decide ((t30:Int)<t29),bJ)
noncomputable def ym (C:ag) (bm:Int) (t28:List V) (t29 fO fP kz kA:Int) (dw:List V):(Int × (List V))→Option ((Int × (List V)) ⊕ (Int × Bool × (List V))):=un fun t30 bJ=>BY C bm t28 t29 fO fP kz kA dw t30 bJ (fun y=>some (.inl y)) (fun r=>some (.inr r))
noncomputable def BZ (C:ag) (bm:Int) (t58:List V) (t59 dA c7:Int) (cF:List V) (fO fP:Int) (bJ:List V) (t60:Int) (yn:List V) {β:Type} (kn:(Int × (List V))→Option β) (kr:(Int × (List V))→Option β):Option β:=
 bif decide ((t60:Int)<t59) then
  (idx t58 t60).bind fun x8=>
  (C oC [.int .i64 ((x8.cell 0).toInt),.int .i64 ((x8.cell 1).toInt),.list aa ((x8.cell 2).toList),.int .i64 bm]).bind fun r9=>
  bif (decide (0≤(IntKind.wrap .i64 (t60+1))))&&(decide ((IntKind.wrap .i64 (t60+1))≤(cF.length:Int))) then
  bif Nat.ble ((([.agg [.int .i64 ((V.nth r9 0).toInt),.int .i64 ((V.nth (r9.drop 1) 0).toInt),.list aa ((V.nth ((r9.drop 1).drop 1) 0).toList)]]:List V).length+((cF.drop ((IntKind.wrap .i64 (t60+1):Int).toNat)).take (cF.length-((IntKind.wrap .i64 (t60+1):Int).toNat))).length)*40) bU then
   (C um [.int .i64 5,.list aa (([.agg [.int .i64 ((V.nth r9 0).toInt),.int .i64 ((V.nth (r9.drop 1) 0).toInt),.list aa ((V.nth ((r9.drop 1).drop 1) 0).toList)]]:List V)++((cF.drop ((IntKind.wrap .i64 (t60+1):Int).toNat)).take (cF.length-((IntKind.wrap .i64 (t60+1):Int).toNat))))]).bind fun cT=>
   bif Nat.ble ((yn.length+([.agg [.int .i64 ((V.nth cT 0).toInt),.int .i64 ((V.nth (cT.drop 1) 0).toInt),.list aa ((V.nth ((cT.drop 1).drop 1) 0).toList)]]:List V).length)*40) bU then
   (C Am [.int .i64 ((x8.cell 0).toInt),.int .i64 ((x8.cell 1).toInt),.list aa ((x8.cell 2).toList)]).bind fun dM=>
   bif !((V.nth dM 0).toBool) then
    kr (t60,yn++([.agg [.int .i64 ((V.nth cT 0).toInt),.int .i64 ((V.nth (cT.drop 1) 0).toInt),.list aa ((V.nth ((cT.drop 1).drop 1) 0).toList)]]:List V))
   else
    kn (IntKind.wrap .i64 (t60+1),yn++([.agg [.int .i64 ((V.nth cT 0).toInt),.int .i64 ((V.nth (cT.drop 1) 0).toInt),.list aa ((V.nth ((cT.drop 1).drop 1) 0).toList)]]:List V))
   else none
  else none
  else none
 else
  kr (t60,yn)
noncomputable def vb (C:ag) (bm:Int) (t58:List V) (t59 dA c7:Int) (cF:List V) (fO fP:Int) (bJ:List V):(Int × (List V))→Option ((Int × (List V)) ⊕ (Int × (List V))):=un fun t60 yn=>BZ C bm t58 t59 dA c7 cF fO fP bJ t60 yn (fun y=>some (.inl y)) (fun r=>some (.inr r))
noncomputable def Ve (C:ag):cp:=fun β n ds k=>
 bif Nat.beq n 161 then bW JC [false,false,false,true,false,false,false,false,false,true] [[1,2,3,0,0,5,6,7,8,9,0]] (@BY C) ds k else
 bif Nat.beq n 321 then bW JD [false,false,false,true,false,false,false,false,false,true,false] [[1,2,3,0,5,6,7,8,9,0,11]] (@BZ C) ds k else
 none
abbrev Vf (C:ag) (b:cj):Prop:=cl Try.prog ay C (Ve C) 51 (cH Try.prog (ay.aT 51)) (ay.sin 51).bc.length b
theorem ahg (C:ag):Vf C (.loop (aw [1,0,1,0,1,1,1,0,1,0,1,0,0] Gu)):=
 ca JC [false,false,false,true,false,false,false,false,false,true] [[1,2,3,0,0,5,6,7,8,9,0]] (@BY C) (by kernel_rfl) (bf (bs:=[]) (by kernel_rfl) ax) (fun ds=>by kernel_rfl) (fun i x=>by kernel_rfl) (fun i x β k=>by kernel_rfl) (fun β ds k=>by kernel_rfl)
theorem ahh (C:ag):Vf C (.loop (aw [1,0,1,0,1,1,1,1,1,1,1,0,1,0,1,0,0] Gu)):=
 ca JD [false,false,false,true,false,false,false,false,false,true,false] [[1,2,3,0,5,6,7,8,9,0,11]] (@BZ C) (by kernel_rfl) (bf (bs:=[]) (by kernel_rfl) ax) (fun ds=>by kernel_rfl) (fun i x=>by kernel_rfl) (fun i x β k=>by kernel_rfl) (fun β ds k=>by kernel_rfl)
noncomputable def Vg (C:ag) (af aq:Int) (ae:List V) (bm:Int):Option (List V):=
 bif (af:Int)==3 then
  bif (aq:Int)==bm then
  some [.int .i64 2,.int .i64 0,.list aa ([]:List V)]
  else
  some [.int .i64 1,.int .i64 0,.list aa ([]:List V)]
 else
  bif (af:Int)==4 then
  bif (af:Int)==4 then
   (Loop (ym C bm ae (ae.length:Int) 0 0 af 0 ([]:List V)) (0,([]:List V))).bind (un fun (iP:Int)=>un fun (kj:Bool) (Mf:List V)=>
    some [.int .i64 af,.int .i64 0,.list aa Mf])
  else
   bif (af:Int)==7 then
   (ae[0]?).bind fun x6=>
   (C oC [.int .i64 ((x6.cell 0).toInt),.int .i64 ((x6.cell 1).toInt),.list aa ((x6.cell 2).toList),.int .i64 bm]).bind fun r7=>
   some [.int .i64 5,.int .i64 0,.list aa ([.agg [.int .i64 ((V.nth r7 0).toInt),.int .i64 ((V.nth (r7.drop 1) 0).toInt),.list aa ((V.nth ((r7.drop 1).drop 1) 0).toList)],.agg [.int .i64 af,.int .i64 aq,.list aa ae]]:List V)]
   else
   bif (af:Int)==5 then
    (Loop (vb C bm ae (ae.length:Int) af aq ae 0 0 ([]:List V)) (0,([]:List V))).bind (un fun (Fg:Int) (ahi:List V)=>
     (C um [.int .i64 4,.list aa ahi]).bind fun iS=>
     some [.int .i64 ((V.nth iS 0).toInt),.int .i64 ((V.nth (iS.drop 1) 0).toInt),.list aa ((V.nth ((iS.drop 1).drop 1) 0).toList)])
   else
    some [.int .i64 1,.int .i64 0,.list aa ([]:List V)]
  else
  bif (af:Int)==6 then
   bif (af:Int)==6 then
   (Loop (ym C bm ae (ae.length:Int) 0 0 af 0 ([]:List V)) (0,([]:List V))).bind (un fun (xd:Int)=>un fun (KE:Bool) (B0:List V)=>
    some [.int .i64 af,.int .i64 0,.list aa B0])
   else
   bif (af:Int)==7 then
    (ae[0]?).bind fun jk=>
    (C oC [.int .i64 ((jk.cell 0).toInt),.int .i64 ((jk.cell 1).toInt),.list aa ((jk.cell 2).toList),.int .i64 bm]).bind fun c9=>
    some [.int .i64 5,.int .i64 0,.list aa ([.agg [.int .i64 ((V.nth c9 0).toInt),.int .i64 ((V.nth (c9.drop 1) 0).toInt),.list aa ((V.nth ((c9.drop 1).drop 1) 0).toList)],.agg [.int .i64 af,.int .i64 aq,.list aa ae]]:List V)]
   else
    bif (af:Int)==5 then
    (Loop (vb C bm ae (ae.length:Int) af aq ae 0 0 ([]:List V)) (0,([]:List V))).bind (un fun (KF:Int) (ahj:List V)=>
     (C um [.int .i64 4,.list aa ahj]).bind fun gC=>
     some [.int .i64 ((V.nth gC 0).toInt),.int .i64 ((V.nth (gC.drop 1) 0).toInt),.list aa ((V.nth ((gC.drop 1).drop 1) 0).toList)])
    else
    some [.int .i64 1,.int .i64 0,.list aa ([]:List V)]
  else
   bif (af:Int)==8 then
   (Loop (ym C bm ae (ae.length:Int) 0 0 af 0 ([]:List V)) (0,([]:List V))).bind (un fun (KG:Int)=>un fun (QZ:Bool) (ahk:List V)=>
    some [.int .i64 af,.int .i64 0,.list aa ahk])
   else
   bif (af:Int)==7 then
    (ae[0]?).bind fun nE=>
    (C oC [.int .i64 ((nE.cell 0).toInt),.int .i64 ((nE.cell 1).toInt),.list aa ((nE.cell 2).toList),.int .i64 bm]).bind fun BX=>
    some [.int .i64 5,.int .i64 0,.list aa ([.agg [.int .i64 ((V.nth BX 0).toInt),.int .i64 ((V.nth (BX.drop 1) 0).toInt),.list aa ((V.nth ((BX.drop 1).drop 1) 0).toList)],.agg [.int .i64 af,.int .i64 aq,.list aa ae]]:List V)]
   else
    bif (af:Int)==5 then
    (Loop (vb C bm ae (ae.length:Int) af aq ae 0 0 ([]:List V)) (0,([]:List V))).bind (un fun (aaC:Int) (ahl:List V)=>
     (C um [.int .i64 4,.list aa ahl]).bind fun sB=>
     some [.int .i64 ((V.nth sB 0).toInt),.int .i64 ((V.nth (sB.drop 1) 0).toInt),.list aa ((V.nth ((sB.drop 1).drop 1) 0).toList)])
    else
    some [.int .i64 1,.int .i64 0,.list aa ([]:List V)]
theorem ahm {af aq:Int} {ae:List V} {bm:Int} {r:Option (List V)} (h:Vg CC af aq ae bm=r):CC oC [.int .i64 af,.int .i64 aq,.list aa ae,.int .i64 bm]=r:=
 a9 (key:=51) (L:=Ve CC) (bs:=[.loop (aw [1,0,1,0,1,1,1,0,1,0,1,0,0] Gu),.loop (aw [1,0,1,0,1,1,1,1,1,1,1,0,1,0,1,0,0] Gu)]) (by kernel_rfl) (bA (ahg CC) (bA (ahh CC) ax)) (aZ (by kernel_rfl) h)
noncomputable def Vh (C:ag) (af aq:Int) (ae:List V) (bm:Int):Option (List V):=
 (C wE [.int .i64 af,.int .i64 aq,.list aa ae,.int .i64 6]).bind fun r1=>
 bif (((V.nth r1 0).toInt):Int) != 0 then
  some [.int .i64 0,.int .i64 0,.list aa ([]:List V),.int .i64 ((V.nth r1 0).toInt)]
 else
  bif decide ((bm:Int)<0) then
  some [.int .i64 0,.int .i64 0,.list aa ([]:List V),.int .i64 1]
  else
  bif decide ((bm:Int)≥6) then
   some [.int .i64 0,.int .i64 0,.list aa ([]:List V),.int .i64 1]
  else
   (C oC [.int .i64 af,.int .i64 aq,.list aa ae,.int .i64 bm]).bind fun r2=>
   (C uj [.int .i64 ((V.nth r2 0).toInt),.int .i64 ((V.nth (r2.drop 1) 0).toInt),.list aa ((V.nth ((r2.drop 1).drop 1) 0).toList)]).bind fun r3=>
   (C Ah [.int .i64 ((V.nth r3 0).toInt),.int .i64 ((V.nth (r3.drop 1) 0).toInt),.list aa ((V.nth ((r3.drop 1).drop 1) 0).toList)]).bind fun r4=>
   bif !((V.nth r4 0).toBool) then
   some [.int .i64 0,.int .i64 0,.list aa ([]:List V),.int .i64 3]
   else
   some [.int .i64 ((V.nth r3 0).toInt),.int .i64 ((V.nth (r3.drop 1) 0).toInt),.list aa ((V.nth ((r3.drop 1).drop 1) 0).toList),.int .i64 0]
theorem ahn {af aq:Int} {ae:List V} {bm:Int} {r:Option (List V)} (h:Vh CC af aq ae bm=r):CC Ez [.int .i64 af,.int .i64 aq,.list aa ae,.int .i64 bm]=r:=
 a9 (key:=26) (L:=cm) (bs:=[]) (by kernel_rfl) ax (aZ (by kernel_rfl) h)
end Go.AM
set_option maxRecDepth 100000
namespace Go.AM
open Go.Proofs Ex
theorem Vi {o:Int} {l:List Ex}:CC um [.int .i64 o,.list aa (l.map enc)]=some (et (oneOf o l)):=by
 refine ahf ?_
 unfold Vd
 match l with
 | []=>exact bF rfl rfl
 | [k]=>
  refine bT rfl (bs (a:=k.enc) rfl ?_)
  rw[bd,bj,bh];rfl
 | k::k2::l=>
  refine bF ?_ rfl
  simp only[cz,List.length_cons]
  rw[yD];omega
section
variable {c:Int} {ks:List Ex} (hn:ks.length≤1000) (ih: ∀k∈ks,CC oC (bH k [.int .i64 c])=some (et (bG c k)))
include hn ih
theorem Mg {a b x y:Int} {l:List V}: ∀(av pre:List Ex),ks=pre++av→
  Loop (ym CC c (ks.map enc) (ks.length:Int) a b x y l) (((pre.length:Nat):Int),(pre.map (bG c)).map enc)=some ((ks.length:Int),false,(ks.map (bG c)).map enc):=by
 intro av
 induction av with
 | nil=>
  intro pre e
  rw[cP] at e
  subst e
  refine aV ?_
  simp only[ym,BY,un]
  rw[az,ai (by omega),cr (by omega)]
 | cons k av dP=>
  intro pre e
  have bE:pre.length<ks.length:=by rw[e];simp
  have bV:idx (ks.map enc) (pre.length:Int)=some k.enc:=by rw[e];exact ga _ _ _
  refine (bQ ?_).trans (dP (pre++[k]) (by simp[e]))
  simp only[ym,BY,un]
  refine bT (oO bE) (bs bV ?_)
  rw[bd,bj,bh]
  refine bs (ih k (by rw[e];simp)) ?_
  refine bT (ya (by simp;omega)) ?_
  rw[lS (by omega)]
  simp only[eQ,cz,fR,bS,List.length_cons,List.length_nil]
  rw[dg (bG c k)]
  rfl
theorem aho {a b x y:Int} {l:List V} (hw: ∀k∈ks,k.Ok): ∀(av pre S:List Ex),ks=pre++av→S.length≤pre.length→
  ∃i,Loop (vb CC c (ks.map enc) (ks.length:Int) a b (ks.map enc) x y l) (((pre.length:Nat):Int),S.map enc)=some (i,(S++gX c av).map enc):=by
 intro av
 induction av with
 | nil=>
  intro pre S e hS
  rw[cP] at e
  subst e
  refine ⟨((ks.length:Nat):Int),aV ?_⟩
  simp only[vb,BZ,un]
  rw[az,ai (by omega),gX,cP]
 | cons k av dP=>
  intro pre S e hS
  have bE:pre.length<ks.length:=by rw[e];simp
  have hm:k∈ks:=by rw[e];simp
  have bV:idx (ks.map enc) (pre.length:Int)=some k.enc:=by rw[e];exact ga _ _ _
  have dm: ∀{β:Type} (r:Option β) (K:V→Option β),K=K→True:=fun _ _ _=>trivial
  have hd:((ks.map enc).drop (pre.length+1)).take ((ks.map enc).length-(pre.length+1))=av.map enc:=by
   rw[yL (by simp),←List.map_drop,e,show pre.length+1=(pre++[k]).length by simp,show pre++k::av=(pre++[k])++av by simp,List.drop_left]
  have main:vb CC c (ks.map enc) (ks.length:Int) a b (ks.map enc) x y l (((pre.length:Nat):Int),S.map enc)=some (if k.cK=true then .inl ((((pre++[k]).length:Nat):Int),(S++[oneOf 5 (bG c k::av)]).map enc) else .inr (((pre.length:Nat):Int),(S++[oneOf 5 (bG c k::av)]).map enc)):=by
   simp only[vb,BZ,un]
   refine bT (oO bE) (bs bV ?_)
   rw[bd,bj,bh]
   refine bs (ih k hm) ?_
   rw[lS (by omega),Int.toNat_natCast,hd]
   refine bT (s4.2 ⟨dj (by omega),dj (by rw[aP];omega)⟩) ?_
   have ph:av.length≤1000:=by rw[e] at hn;simp at hn;omega
   refine bT (ya (by simp;omega)) ?_
   have hj:=Vi (o:=5) (l:=bG c k::av)
   rw[cz,dg (bG c k)] at hj
   refine bs hj ?_
   refine bT (ya (by simp;omega)) ?_
   refine bs (agV k (hw k hm)) ?_
   have hr:S.map enc++[(oneOf 5 (bG c k::av)).enc]=(S++[oneOf 5 (bG c k::av)]).map enc:=by simp
   rw[dg] at hr
   cases hk:k.cK with
   | true=>
    refine bF (by simp[hk]) ?_
    rw[aj rfl,←hr,bS]
    rfl
   | false=>
    refine bT (by simp[hk]) ?_
    rw[ai Cy,←hr]
    rfl
  cases hk:k.cK with
  | true=>
   rw[hk,aj rfl] at main
   obtain ⟨i,hi⟩:=dP (pre++[k]) (S++[oneOf 5 (bG c k::av)]) (by simp[e]) (by simp;omega)
   refine ⟨i,(bQ main).trans (hi.trans ?_)⟩
   rw[xY,aj hk,cq];rfl
  | false=>
   rw[hk,ai Cy] at main
   refine ⟨((pre.length:Nat):Int),(aV main).trans ?_⟩
   rw[xY,ai (by rw[hk];exact Cy)]
end
theorem ahp {c:Int}: ∀e:Ex,e.wf 6=true→e.size≤400→CC oC (bH e [.int .i64 c])=some (et (bG c e)):=
 ind fun o l ks ih hw hs=>by
  obtain ⟨h1,U⟩:=gA hw
  have hl:=ko ks
  have F9:aJ ks≤399:=by simp only[size] at hs;omega
  have u7: ∀k∈ks,k.size≤399:=fun k hk=>la (su hk) F9
  have gM: ∀k∈ks,CC oC (bH k [.int .i64 c])=some (et (bG c k)):=fun k hk=>ih k hk (U k hk) (by have:=u7 k hk;omega)
  have au: ∀k∈ks,k.Ok:=fun k hk=>pH (by omega) k (U k hk) (by have:=u7 k hk;omega)
  refine ahm ?_
  unfold Vg
  simp only[Ex.op,Ex.kids,Ex.bm,aP]
  rcases ew h1 with ⟨rfl,h⟩|⟨rfl,⟨rfl,h⟩|⟨rfl,h⟩|⟨rfl,h⟩|⟨rfl,h⟩|⟨rfl,h⟩|⟨rfl,h⟩|⟨rfl,h⟩⟩
  ·refine bT rfl ?_
   rw[nM,aj rfl,df]
   by_cases ox:l=c
   ·rw[aj ox,aj ox];rfl
   ·rw[ai ox,ai ox];rfl
  ·rfl
  ·rfl
  ·refine bF rfl (bT rfl (bT rfl ?_))
   refine bs (Mg (by omega) gM ks [] rfl) ?_
   rw[nM];rfl
  ·refine bF rfl (bF rfl (bF rfl (bF rfl (bF rfl (bT rfl ?_)))))
   obtain ⟨i,hi⟩:=aho (a:=5) (b:=0) (x:=0) (y:=0) (l:=[]) (by omega) gM au ks [] [] rfl (bY _)
   refine bs hi ?_
   rw[nM]
   refine bs Vi ?_
   rfl
  ·refine bF rfl (bF rfl (bT rfl (bT rfl ?_)))
   refine bs (Mg (by omega) gM ks [] rfl) ?_
   rw[nM];rfl
  ·obtain ⟨k,rfl⟩:=vi.1 (show ks.length=1 by omega)
   refine bF rfl (bF rfl (bF rfl (bF rfl (bT rfl (bs (a:=k.enc) rfl ?_)))))
   rw[bd,bj,bh]
   refine bs (gM k (by simp)) ?_
   have hr:et (bG c (.node 7 0 [k]))=[.int .i64 5,.int .i64 0,.list aa [(bG c k).enc,(Ex.node 7 0 [k]).enc]]:=by rw[nM];rfl
   rw[hr,dg (bG c k),dg (.node 7 0 [k])]
   rfl
  ·refine bF rfl (bF rfl (bF rfl (bT rfl ?_)))
   refine bs (Mg (by omega) gM ks [] rfl) ?_
   rw[nM];rfl
theorem Vj {e:Ex} (h:e.wf 6=true):e.val 6=0↔e.depth≤40∧e.size≤400:=by
 constructor
 ·intro hv;have:=lM hv;exact ⟨this.1,this.2.1⟩
 ·intro hv;exact val_mk ⟨by omega,hv.1,hv.2,h⟩
theorem ahq (e:Ex) (h:e.Ok) (c:Int):CC Ez (bH e [.int .i64 c])=some (BI (L1 e c)):=by
 refine ahn ?_
 unfold Vh L1
 refine bs (KK e h 6) ?_
 by_cases hv:e.val 6=0
 ·obtain ⟨_,U,h3⟩:=lM hv
  rw[aj hv]
  refine bF (by simp[hv]) ?_
  by_cases h0:0≤c
  ·refine bF (cr (by omega)) ?_
   by_cases h6:c<6
   ·rw[aj ⟨h0,h6⟩]
    refine bF (cr (by omega)) ?_
    refine bs (ahp (c:=c) e h3 U) ?_
    have hz:=LI (c:=c) e 6 h3
    have hq:=BD U
    obtain ⟨g1,g2,g3⟩:=Uv (c:=c) hv
    refine bs (Vc (n:=6) (by omega) (bG c e) (sI e h3) (by omega)) ?_
    refine bs (Rj _ g2) ?_
    unfold pP
    by_cases hw:(aH (bG c e)).val 6=0
    ·rw[aj hw]
     refine bF ?_ rfl
     have:=(Vj g1.2).1 hw
     simp[this]
    ·rw[ai hw]
     refine bT ?_ rfl
     have: ¬_:=fun h=>hw ((Vj g1.2).2 h)
     rw[V.aW,V.ej,cr this]
     rfl
   ·rw[ai fun h=>h6 h.2]
    exact bT (dj (by omega)) rfl
  ·rw[ai fun h=>h0 h.1]
   exact bT (dj (by omega)) rfl
 ·rw[ai hv]
  refine bT (by simp[hv]) rfl
end Go.AM
set_option maxRecDepth 100000
namespace Go.AM
open Go.Proofs
noncomputable abbrev Vk:Code:=cC Try.prog (ay.aT 29)
noncomputable def yo (C:ag) (w:List UInt8) (fO fP:Int) (dw:List V) (i kz kA:Int) (kB:List V) {β:Type} (kn:(Int × Int × Int × (List V))→Option β) (kr:((Int × Int × Int × (List V)) ⊕ (Int × Bool × Int × Int × (List V)))→Option β):Option β:=
 bif decide ((i:Int)<(w.length:Int)) then
  (bif decide (0≤i) then (w[(i:Int).toNat]?).map fun b=>V.int .u8 b.toNat else none).bind fun x4=>
  (C Ez [.int .i64 kz,.int .i64 kA,.list aa kB,.int .i64 (IntKind.wrap .i64 (IntKind.wrap .u8 (x4.toInt-97)))]).bind fun r5=>
  bif (((V.nth (r5.drop 3) 0).toInt):Int) != 0 then
  kr (.inl ((V.nth (r5.drop 3) 0).toInt,0,0,([]:List V)))
  else
  kn (IntKind.wrap .i64 (i+1),(V.nth r5 0).toInt,(V.nth (r5.drop 1) 0).toInt,(V.nth ((r5.drop 1).drop 1) 0).toList)
 else
  kr (.inr (i,decide ((i:Int)<(w.length:Int)),kz,kA,kB))
noncomputable def vc (C:ag) (w:List UInt8) (fO fP:Int) (dw:List V):(Int × Int × Int × (List V))→Option ((Int × Int × Int × (List V)) ⊕ ((Int × Int × Int × (List V)) ⊕ (Int × Bool × Int × Int × (List V)))):=un fun i=>un fun kz=>un fun kA kB=>yo C w fO fP dw i kz kA kB (fun y=>some (.inl y)) (fun r=>some (.inr r))
noncomputable def Vl (C:ag):cp:=fun β n ds k=>
 bif Nat.beq n 129 then bW Jq [false,true,false,false,true,true,true,false] [[0,0,0,0],[1,0,0,3,4,0,0,0,8]] (@yo C) ds k else
 none
abbrev ahr (C:ag) (b:cj):Prop:=cl Try.prog ay C (Vl C) 29 (cH Try.prog (ay.aT 29)) (ay.sin 29).bc.length b
theorem ahs (C:ag):ahr C (.loop (aw [1,1,1,1,0,1,0,0] Vk)):=
 ca Jq [false,true,false,false,true,true,true,false] [[0,0,0,0],[1,0,0,3,4,0,0,0,8]] (@yo C) (by kernel_rfl) (bf (bs:=[]) (by kernel_rfl) ax) (fun ds=>by kernel_rfl) (fun i x=>by kernel_rfl) (fun i x β k=>by kernel_rfl) (fun β ds k=>by kernel_rfl)
noncomputable def Vm (C:ag) (af aq:Int) (ae:List V) (w:List UInt8):Option (List V):=
 (C wE [.int .i64 af,.int .i64 aq,.list aa ae,.int .i64 6]).bind fun r1=>
 bif (((V.nth r1 0).toInt):Int) != 0 then
  some [.int .i64 0,.int .i64 0,.list aa ([]:List V),.int .i64 ((V.nth r1 0).toInt)]
 else
  (C wF [.str w,.int .i64 6]).bind fun r2=>
  bif !((V.nth r2 0).toBool) then
  some [.int .i64 0,.int .i64 0,.list aa ([]:List V),.int .i64 1]
  else
  (C uj [.int .i64 af,.int .i64 aq,.list aa ae]).bind fun r3=>
  (Loop (vc C w 0 0 ([]:List V)) (0,(V.nth r3 0).toInt,(V.nth (r3.drop 1) 0).toInt,(V.nth ((r3.drop 1).drop 1) 0).toList)).bind (b7 (un fun (jD:Int)=>un fun (BL:Int)=>un fun (BM:Int) (rh:List V)=>
   some [.int .i64 BL,.int .i64 BM,.list aa rh,.int .i64 jD]) (un fun (ad2:Int)=>un fun (xb:Bool)=>un fun (aht:Int)=>un fun (ahu:Int) (ahv:List V)=>
   some [.int .i64 aht,.int .i64 ahu,.list aa ahv,.int .i64 0]))
theorem ahw {af aq:Int} {ae:List V} {w:List UInt8} {r:Option (List V)} (h:Vm CC af aq ae w=r):CC ug [.int .i64 af,.int .i64 aq,.list aa ae,.str w]=r:=
 a9 (key:=29) (L:=Vl CC) (bs:=[.loop (aw [1,1,1,1,0,1,0,0] Vk)]) (by kernel_rfl) (bA (ahs CC) ax) (aZ (by kernel_rfl) h)
end Go.AM
set_option maxRecDepth 100000
namespace Go.AM
open Go.Proofs Ex
section
variable {w:List UInt8} (hl:w.length≤2048) (hw: ∀i,i<w.length→0≤dv w i∧dv w i<6)
include hl hw
theorem ahx {a b:Int} {l:List V}: ∀(av pre:List UInt8) (x:Ex),w=pre++av→Nv x→
  (∀y,k0 av x=some y→Loop (vc CC w a b l) (((pre.length:Nat):Int),x.op,x.bm,x.kids.map enc)=some (.inr ((w.length:Int),false,y.op,y.bm,y.kids.map enc)))
  ∧(k0 av x=none→Loop (vc CC w a b l) (((pre.length:Nat):Int),x.op,x.bm,x.kids.map enc)=some (.inl (3,0,0,[]))):=by
 intro av
 induction av with
 | nil=>
  intro pre x e hx
  rw[cP] at e
  subst e
  refine ⟨fun y hy=> ?_,fun hy=>by simp[k0] at hy⟩
  cases hy
  refine aV ?_
  simp only[vc,yo,un]
  rw[az,ai (by omega),cr (by omega)]
 | cons c av dP=>
  intro pre x e hx
  have bE:pre.length<w.length:=by rw[e];simp
  have hs:=UL hw e
  have hc:=hw pre.length bE
  have ib:=(UK hw e).2.2
  have hb:=ahq x (UJ hx) ((c.toNat-97:Nat):Int)
  unfold L1 at hb
  rw[aj hx.2,aj (by omega),UI] at hb
  rw[k0]
  cases bI:kZ x (c.toNat-97) with
  | none=>
   rw[bI] at hb
   refine ⟨fun y hy=>(by cases hy),fun _=>aV ?_⟩
   simp only[vc,yo,un]
   refine bT (oO bE) (bs (yb bE) ?_)
   rw[V.toInt_int,hs]
   refine bs hb ?_
   rfl
  | some d=>
   rw[bI] at hb
   obtain ⟨i1,i2⟩:=dP (pre++[c]) d (by simp[e]) (BG hx bI).1
   have dm:vc CC w a b l (((pre.length:Nat):Int),x.op,x.bm,x.kids.map enc)=some (.inl ((((pre++[c]).length:Nat):Int),d.op,d.bm,d.kids.map enc)):=by
    simp only[vc,yo,un]
    refine bT (oO bE) (bs (yb bE) ?_)
    rw[V.toInt_int,hs]
    refine bs hb ?_
    refine bF rfl ?_
    rw[lS (by omega),bS]
    rfl
   exact ⟨fun y hy=>(bQ dm).trans (i1 y hy),fun hy=>(bQ dm).trans (i2 hy)⟩
end
theorem Gv (e:Ex) (h:e.Ok) (w:List UInt8):CC ug (bH e [.str w])=some (BI (yd e w)):=by
 refine ahw ?_
 unfold Vm yd
 refine bs (KK e h 6) ?_
 by_cases hv:e.val 6=0
 ·rw[aj hv]
  refine bF (by simp[hv]) (bs (L3 w 6) ?_)
  by_cases hw:oR w 6
  ·rw[aj hw]
   refine bF (by simp[hw]) ?_
   obtain ⟨_,U,h3⟩:=lM hv
   refine bs (Vc (n:=6) (by omega) e h3 (by omega)) ?_
   obtain ⟨l1,l2⟩:=ahx hw.2.2.1 hw.2.2.2 (a:=0) (b:=0) (l:=[]) w [] (aH e) rfl (L4 hv)
   unfold Gg
   cases hg:k0 w (aH e) with
   | none=>exact bs (l2 hg) rfl
   | some y=>exact bs (l1 y hg) rfl
  ·rw[ai hw]
   exact bT (by simp[hw]) rfl
 ·rw[ai hv]
  refine bT (by simp[hv]) rfl
def fQ (op:Int):Int:=if op=4 then 1 else if op=6 then 2 else if op=5 then 3 else if op=8 then 4 else if op=7 then 5 else 6
def ey (op least:Int) (t:List UInt8):List UInt8:=if fQ op<least then 40::(t++[41]) else t
mutual
def Ex.text:Ex→List UInt8
 | .node o l ks=>
  if o=1 then [48] else if o=2 then [49] else if o=3 then [UInt8.ofNat (97+l).toNat]
  else if o=8 then 33::texts [] 4 true ks else if o=7 then texts [] 5 true ks++[42]
  else if o=4 then texts [124] 2 true ks else if o=6 then texts [38] 3 true ks else texts [] 4 true ks
def Ex.texts (sep:List UInt8) (least:Int) (first:Bool):List Ex→List UInt8
 | []=>[]
 | k::ks=>(if first then [] else sep)++(ey k.op least (text k)++texts sep least false ks)
end
theorem ahy (op least:Int) (t:List UInt8):(ey op least t).length≤t.length+2:=by
 unfold ey;split<;>simp
theorem Vn (sep:List UInt8) (hs:sep.length≤1) (least:Int): ∀(ks:List Ex) (f:Bool),(∀k∈ks,k.text.length+3≤4*k.size)→(texts sep least f ks).length≤4*aJ ks
 | [],f,_=>by simp[texts]
 | k::ks,f,h=>by
  have h1:=h k (by simp)
  have U:=Vn sep hs least ks false fun k hk=>h k (by simp[hk])
  have h3:=ahy k.op least k.text
  simp only[texts,bS,aJ]
  cases f<;>simp<;>omega
theorem Vo: ∀e:Ex,e.text.length+3≤4*e.size:=ind fun o l ks ih=>by
 have h:=fun sep hs least=>Vn sep hs least ks true ih
 have h1:=h [] (by simp) 4
 have U:=h [] (by simp) 5
 have h3:=h [124] (by simp) 2
 have h4:=h [38] (by simp) 3
 simp only[text,size]
 repeat' split
 all_goals simp
 all_goals omega
def TX (m:Int) (k:Ex):List UInt8:=ey k.op m k.text
def mb (o:Int) (e:Ex):List Ex:=if e.op=o then e.kids else [e]
theorem B1 (sep:List UInt8) (m:Int) (k:Ex) (ks:List Ex):texts sep m false (k::ks)=sep++(TX m k++texts sep m false ks):=by simp[texts,TX]
theorem B4 (sep:List UInt8) (m:Int) (k:Ex) (ks:List Ex):texts sep m true (k::ks)=TX m k++texts sep m false ks:=by simp[texts,TX]
theorem Vp (e:Ex):TX 1 e=texts [124] 2 true (mb 4 e):=by
 obtain ⟨o,l,ks⟩:=e
 unfold mb TX
 by_cases h:o=4
 ·subst h;simp[Ex.op,Ex.kids,fQ,text,ey]
 ·have hl:2≤fQ o:=by
   unfold fQ
   repeat' split
   all_goals omega
  rw[ai (show¬(Ex.node o l ks).op=4 from h),B4]
  show ey o 1 _=ey o 2 _++[]
  rw[cP]
  unfold ey
  by_cases U:fQ o<1
  ·rw[aj U,aj (by omega)]
  ·rw[ai U,ai (by omega)]
theorem Vq (e:Ex):TX 2 e=texts [38] 3 true (mb 6 e):=by
 obtain ⟨o,l,ks⟩:=e
 unfold mb TX
 by_cases h:o=6
 ·subst h;simp[Ex.op,Ex.kids,fQ,text,ey]
 ·have hl:fQ o≠2:=by
   unfold fQ
   repeat' split
   all_goals omega
  rw[ai (show¬(Ex.node o l ks).op=6 from h),B4]
  show ey o 2 _=ey o 3 _++[]
  rw[cP]
  unfold ey
  by_cases U:fQ o<2
  ·rw[aj U,aj (by omega)]
  ·rw[ai U,ai (by omega)]
theorem Vr (e:Ex):TX 3 e=texts [] 4 true (mb 5 e):=by
 obtain ⟨o,l,ks⟩:=e
 unfold mb TX
 by_cases h:o=5
 ·subst h;simp[Ex.op,Ex.kids,fQ,text,ey]
 ·have hl:fQ o≠3:=by
   unfold fQ
   repeat' split
   all_goals omega
  rw[ai (show¬(Ex.node o l ks).op=5 from h),B4]
  show ey o 3 _=ey o 4 _++[]
  rw[cP]
  unfold ey
  by_cases U:fQ o<3
  ·rw[aj U,aj (by omega)]
  ·rw[ai U,ai (by omega)]
theorem B5 (l:Int) (k:Ex):TX 4 (.node 8 l [k])=33::TX 4 k:=by
 simp[TX,ey,Ex.op,fQ,text,texts]
theorem B6 {e:Ex} (h:e.op≠8):TX 4 e=TX 5 e:=by
 unfold TX ey fQ
 repeat' split
 all_goals first|rfl|omega
theorem ahz (l:Int) (k:Ex):TX 5 (.node 7 l [k])=TX 5 k++[42]:=by
 simp[TX,ey,Ex.op,fQ,text,texts]
theorem ahA {e:Ex} (h:e.op≠7):TX 5 e=TX 6 e:=by
 unfold TX ey fQ
 repeat' split
 all_goals first|rfl|omega
theorem pQ {e:Ex} (h:4≤e.op∧e.op≤8):TX 6 e=40::(TX 1 e++[41]):=by
 unfold TX ey fQ
 repeat' split
 all_goals first|rfl|omega
theorem Mh {e:Ex} (h:e.wf 6=true):(e= .node 1 0 []∨e= .node 2 0 []∨(∃l:Int,0≤l∧l<6∧e= .node 3 l []))∨(4≤e.op∧e.op≤8):=by
 obtain ⟨o,l,ks⟩:=e
 obtain ⟨h1,U⟩:=gA h
 simp only[Ex.op]
 rcases ew h1 with ⟨rfl,h,h3,h4⟩|⟨rfl,⟨rfl,h⟩|⟨rfl,h⟩|⟨rfl,h⟩|⟨rfl,h⟩|⟨rfl,h⟩|⟨rfl,h⟩|⟨rfl,h⟩⟩
 ·obtain rfl:=mO.1 (show ks.length=0 by omega)
  exact .inl (.inr (.inr ⟨l,h3,h4,rfl⟩))
 ·obtain rfl:=mO.1 (show ks.length=0 by omega)
  exact .inl (.inl rfl)
 ·obtain rfl:=mO.1 (show ks.length=0 by omega)
  exact .inl (.inr (.inl rfl))
 all_goals exact .inr (by omega)
def B7 (c:UInt8):Prop:=c=48∨c=49∨c=40∨c=97∨c=98∨c=99∨c=100∨c=101∨c=102
theorem ri {l:Int} (h0:0≤l) (h1:l<6):UInt8.ofNat (97+l).toNat=97∧l=0∨UInt8.ofNat (97+l).toNat=98∧l=1∨UInt8.ofNat (97+l).toNat=99∧l=2∨UInt8.ofNat (97+l).toNat=100∧l=3∨UInt8.ofNat (97+l).toNat=101∧l=4∨UInt8.ofNat (97+l).toNat=102∧l=5:=by
 rcases (show l=0∨l=1∨l=2∨l=3∨l=4∨l=5 by omega) with rfl|rfl|rfl|rfl|rfl|rfl<;>decide
theorem ahB {e:Ex} (h:e.wf 6=true): ∃c t,TX 6 e=c::t∧B7 c:=by
 rcases Mh h with (rfl|rfl|⟨l,h0,h1,rfl⟩)|h
 ·exact ⟨48,[],rfl,.inl rfl⟩
 ·exact ⟨49,[],rfl,.inr (.inl rfl)⟩
 ·refine ⟨UInt8.ofNat (97+l).toNat,[],by simp[TX,ey,fQ,Ex.op,text],?_⟩
  unfold B7
  rcases ri h0 h1 with h|h|h|h|h|h<;>simp[h.1]
 ·exact ⟨40,_,pQ h,.inr (.inr (.inl rfl))⟩
theorem B8 {o l:Int} {ks:List Ex} (h:(Ex.node o l ks).wf 6=true) (ho:o=7∨o=8): ∃k,ks=[k]∧k.wf 6=true∧l=0:=by
 obtain ⟨h1,U⟩:=gA h
 rcases ew h1 with h|⟨h0,h⟩
 ·omega
 ·obtain ⟨k,rfl⟩:=vi.1 (show ks.length=1 by omega)
  exact ⟨k,rfl,U k (by simp),h0⟩
def Mi (e:Ex):Nat→Ex
 | 0=>e
 | n+1=> .node 7 0 [Mi e n]
theorem Mj: ∀e:Ex,e.wf 6=true→∃(b:Ex) (n:Nat),e=Mi b n∧b.op≠7∧b.wf 6=true∧TX 5 e=TX 6 b++List.replicate n 42:=ind fun o l ks ih h=>by
 by_cases ho:o=7
 ·subst ho
  obtain ⟨k,rfl,hk,rfl⟩:=B8 h (.inl rfl)
  obtain ⟨b,n,h1,U,h3,h4⟩:=ih k (by simp) hk
  exact ⟨b,n+1,by rw[h1];rfl,U,h3,by rw[ahz,h4,List.replicate_succ',cq]⟩
 ·exact ⟨.node o l ks,0,rfl,ho,h,by rw[ahA (show (Ex.node o l ks).op≠7 from ho)];simp⟩
theorem Mk {e:Ex} (h:e.wf 6=true): ∃c t,TX 5 e=c::t∧B7 c:=by
 obtain ⟨b,n,_,_,h3,h4⟩:=Mj e h
 obtain ⟨c,t,h5,h6⟩:=ahB h3
 exact ⟨c,t++List.replicate n 42,by rw[h4,h5];rfl,h6⟩
theorem ahC {e:Ex} (h:e.wf 6=true): ∃c t,TX 4 e=c::t∧(c=33∨B7 c):=by
 by_cases ho:e.op=8
 ·obtain ⟨o,l,ks⟩:=e
  obtain rfl:o=8:=ho
  obtain ⟨k,rfl,_⟩:=B8 h (.inr rfl)
  exact ⟨33,TX 4 k,B5 _ _,.inl rfl⟩
 ·obtain ⟨c,t,h1,U⟩:=Mk h
  exact ⟨c,t,by rw[B6 ho,h1],.inr U⟩
def gD (m:Int) (c:UInt8):Prop:=if m=1 then c=41 else if m=2 then c=41∨c=124 else if m=3 then c=41∨c=124∨c=38 else if m=6 then True else c≠42
def fo (m:Int) (r:List UInt8):Prop:= ∀c t,r=c::t→gD m c
theorem Vs {m:Int}:fo m []:=fun c t h=>by cases h
theorem Ml {m:Int} {c:UInt8} {t:List UInt8} (h:gD m c):fo m (c::t):=fun c' t' e=>by cases e;exact h
def jO (m:Int) (e:Ex):Prop:= ∀(e':Ex) (r r':List UInt8),e'.wf 6=true→fo m r→fo m r'→TX m e++r=TX m e'++r'→e=e'∧r=r'
theorem B9 {o:Int} {e:Ex} (h:e.wf 6=true): ∀x∈mb o e,x.wf 6=true:=fun x hx=>by
 unfold mb at hx
 split at hx
 ·obtain ⟨o,l,ks⟩:=e
  exact (gA h).2 x hx
 ·rw[en.1 hx];exact h
theorem Vt {o:Int} {e:Ex} (ho:4≤o∧o≤6) (h:e.wf 6=true): ∃x xs,mb o e=x::xs:=by
 unfold mb
 split
 ·next lu=>
  obtain ⟨o,l,ks⟩:=e
  obtain ⟨h1,U⟩:=gA h
  simp only[Ex.op] at lu
  match ks,h1 with
  | [],h1=>rcases ew h1 with h|⟨_,h⟩<;>simp at h<;>omega
  | x::xs,_=>exact ⟨x,xs,rfl⟩
 ·exact ⟨e,[],rfl⟩
theorem ahD {o:Int} {e e':Ex} (ho:4≤o∧o≤6) (h:e.wf 6=true) (h':e'.wf 6=true) (he:mb o e=mb o e'):e=e':=by
 have hl: ∀{x:Ex},x.wf 6=true→x.op=o→x.bm=0∧2≤x.kids.length:=fun {x} hx IC=>by
  obtain ⟨o,l,ks⟩:=x
  obtain ⟨h1,U⟩:=gA hx
  simp only[Ex.op,Ex.bm,Ex.kids] at*
  rcases ew h1 with h|⟨_,h⟩<;>omega
 unfold mb at he
 by_cases h1:e.op=o
 ·obtain ⟨a1,a2⟩:=hl h h1
  rw[aj h1] at he
  by_cases U:e'.op=o
  ·obtain ⟨b1,b2⟩:=hl h' U
   rw[aj U] at he
   obtain ⟨o1,l1,k1⟩:=e
   obtain ⟨o2,l2,k2⟩:=e'
   simp only[Ex.op,Ex.bm,Ex.kids] at*
   subst he h1 U a1 b1
   rfl
  ·rw[ai U] at he
   rw[he] at a2
   simp at a2
 ·rw[ai h1] at he
  by_cases U:e'.op=o
  ·obtain ⟨b1,b2⟩:=hl h' U
   rw[aj U] at he
   rw[←he] at b2
   simp at b2
  ·rw[ai U] at he
   exact (gg he).1
section
variable {sep:List UInt8} {m:Int} (hh: ∀y:Ex,y.wf 6=true→∃c t,sep++TX m y=c::t∧gD m c∧¬gD (m-1) c) (hf: ∀c,gD (m-1) c→gD m c)
include hh hf
theorem Gw {ys:List Ex} {r:List UInt8} (hy: ∀y∈ys,y.wf 6=true) (hr:fo (m-1) r):fo m (texts sep m false ys++r):=by
 cases ys with
 | nil=>exact fun c t e=>hf c (hr c t e)
 | cons y ys=>
  obtain ⟨c,t,h1,U,h3⟩:=hh y (hy y (by simp))
  rw[B1,←cq sep,h1]
  exact Ml U
theorem Vu: ∀(xs ys:List Ex) (r r':List UInt8),(∀x∈xs,x.wf 6=true∧jO m x)→(∀y∈ys,y.wf 6=true)→fo (m-1) r→fo (m-1) r'→texts sep m false xs++r=texts sep m false ys++r'→xs=ys∧r=r'
 | [],[],r,r',_,_,_,_,h=>⟨rfl,h⟩
 | [],y::ys,r,r',_,hy,hr,_,h=>by
  obtain ⟨c,t,h1,U,h3⟩:=hh y (hy y (by simp))
  rw[B1,←cq sep,h1] at h
  exact absurd (hr c _ (by simpa[texts] using h)) h3
 | x::xs,[],r,r',hx,_,_,hr,h=>by
  obtain ⟨c,t,h1,U,h3⟩:=hh x (hx x (by simp)).1
  rw[B1,←cq sep,h1] at h
  exact absurd (hr c _ (by simpa[texts] using h.symm)) h3
 | x::xs,y::ys,r,r',hx,hy,hr,ic,h=>by
  rw[B1,B1,cq,cq,cq,cq] at h
  obtain ⟨rfl,U⟩:=(hx x (by simp)).2 y _ _ (hy y (by simp)) (Gw hh hf (fun z hz=>(hx z (by simp[hz])).1) hr) (Gw hh hf (fun z hz=>hy z (by simp[hz])) ic) (List.append_cancel_left h)
  obtain ⟨rfl,h3⟩:=Vu xs ys r r' (fun z hz=>hx z (by simp[hz])) (fun z hz=>hy z (by simp[hz])) hr ic U
  exact ⟨rfl,h3⟩
theorem Mm {o:Int} (ho:4≤o∧o≤6) (ht: ∀e:Ex,TX (m-1) e=texts sep m true (mb o e)) {e:Ex} (he:e.wf 6=true) (ih: ∀x∈mb o e,jO m x):jO (m-1) e:=by
 intro e' r r' gN hr ic h
 rw[ht,ht] at h
 obtain ⟨x,xs,hx⟩:=Vt ho he
 obtain ⟨y,ys,hy⟩:=Vt ho gN
 have wx:=B9 (o:=o) he
 have wy:=B9 (o:=o) gN
 rw[hx] at wx ih
 rw[hy] at wy
 rw[hx,hy,B4,B4,cq,cq] at h
 obtain ⟨rfl,U⟩:=ih x (by simp) y _ _ (wy y (by simp)) (Gw hh hf (fun z hz=>wx z (by simp[hz])) hr) (Gw hh hf (fun z hz=>wy z (by simp[hz])) ic) h
 obtain ⟨rfl,h3⟩:=Vu hh hf xs ys r r' (fun z hz=>⟨wx z (by simp[hz]),ih z (by simp[hz])⟩) (fun z hz=>wy z (by simp[hz])) hr ic U
 exact ⟨ahD ho he gN (by rw[hx,hy]),h3⟩
end
theorem Mn {c:UInt8} (h:B7 c):c≠33∧c≠41∧c≠42∧c≠124∧c≠38:=by
 rcases h with rfl|rfl|rfl|rfl|rfl|rfl|rfl|rfl|rfl<;>decide
theorem ahE {e:Ex} (he:e.wf 6=true) (ih: ∀x∈mb 4 e,jO 2 x):jO 1 e:=
 Mm (sep:=[124]) (m:=2) (fun y _=>⟨124,_,rfl,by simp[gD],by simp[gD]⟩) (fun c h=>by simp[gD] at h⊢;exact .inl h) (o:=4) (by omega) Vp he ih
theorem s5 {e:Ex} (he:e.wf 6=true) (ih: ∀x∈mb 6 e,jO 3 x):jO 2 e:=
 Mm (sep:=[38]) (m:=3) (fun y _=>⟨38,_,rfl,by simp[gD],by simp[gD]⟩) (fun c h=>by simp[gD] at h⊢;rcases h with h|h<;>simp[h]) (o:=6) (by omega) Vq he ih
theorem ahF {e:Ex} (he:e.wf 6=true) (ih: ∀x∈mb 5 e,jO 4 x):jO 3 e:=
 Mm (sep:=[]) (m:=4) (fun y hy=>by
  obtain ⟨c,t,h1,U⟩:=ahC hy
  refine ⟨c,t,h1,?_⟩
  rcases U with rfl|U
  ·simp[gD]
  ·have:=Mn U
   simp[gD,this]) (fun c h=>by simp[gD] at h⊢;rcases h with rfl|rfl|rfl<;>decide) (o:=5) (by omega) Vr he ih
theorem ahG {e:Ex} (he:e.wf 6=true) (ih8: ∀k,e= .node 8 0 [k]→jO 4 k) (ih:e.op≠8→jO 5 e):jO 4 e:=by
 intro e' r r' gN hr ic h
 by_cases h1:e.op=8
 ·obtain ⟨o,l,ks⟩:=e
  obtain rfl:o=8:=h1
  obtain ⟨k,rfl,hk,rfl⟩:=B8 he (.inr rfl)
  rw[B5] at h
  by_cases U:e'.op=8
  ·obtain ⟨o',l',bN⟩:=e'
   obtain rfl:o'=8:=U
   obtain ⟨k',rfl,cZ,rfl⟩:=B8 gN (.inr rfl)
   rw[B5] at h
   obtain ⟨rfl,h3⟩:=ih8 k rfl k' r r' cZ hr ic (gg h).2
   exact ⟨rfl,h3⟩
  ·rw[B6 U] at h
   obtain ⟨c,t,h3,h4⟩:=Mk gN
   rw[h3] at h
   exact absurd (gg h).1.symm (Mn h4).1
 ·rw[B6 h1] at h
  by_cases U:e'.op=8
  ·obtain ⟨o',l',bN⟩:=e'
   obtain rfl:o'=8:=U
   obtain ⟨k',rfl,cZ,rfl⟩:=B8 gN (.inr rfl)
   rw[B5] at h
   obtain ⟨c,t,h3,h4⟩:=Mk he
   rw[h3] at h
   exact absurd (gg h).1 (Mn h4).1
  ·rw[B6 U] at h
   exact ih h1 e' r r' gN (by simpa[fo,gD] using hr) (by simpa[fo,gD] using ic) h
theorem Vv {r r':List UInt8} (hr:fo 5 r) (ic:fo 5 r'): ∀{n n':Nat},List.replicate n 42++r=List.replicate n' 42++r'→n=n'∧r=r'
 | 0,0,h=>⟨rfl,h⟩
 | 0,n+1,h=>by
  have:=hr 42 (List.replicate n 42++r') (by simpa[List.replicate_succ] using h)
  simp[gD] at this
 | n+1,0,h=>by
  have:=ic 42 (List.replicate n 42++r) (by simpa[List.replicate_succ] using h.symm)
  simp[gD] at this
 | n+1,n'+1,h=>by
  rw[List.replicate_succ,List.replicate_succ] at h
  obtain ⟨rfl,U⟩:=Vv hr ic (gg h).2
  exact ⟨rfl,U⟩
theorem Vw (r:List UInt8):fo 6 r:=fun c t _=>by simp[gD]
theorem ahH {b:Ex} {n:Nat} {e:Ex} (h1:e=Mi b n) (U:TX 5 e=TX 6 b++List.replicate n 42) (ih:jO 6 b):jO 5 e:=by
 intro e' r r' gN hr ic h
 obtain ⟨b',n',e1,e2,e3,e4⟩:=Mj e' gN
 rw[U,e4,cq,cq] at h
 obtain ⟨rfl,h3⟩:=ih b' _ _ e3 (Vw _) (Vw _) h
 obtain ⟨rfl,h4⟩:=Vv hr ic h3
 exact ⟨by rw[h1,e1],h4⟩
theorem ahI {e:Ex} (he:e.wf 6=true) (ih:4≤e.op∧e.op≤8→jO 1 e):jO 6 e:=by
 intro e' r r' gN hr ic h
 have hl: ∀l:Int,TX 6 (.node 3 l [])=[UInt8.ofNat (97+l).toNat]:=fun l=>by simp[TX,ey,fQ,Ex.op,text]
 have t1:TX 6 (.node 1 0 [])=[48]:=rfl
 have t2:TX 6 (.node 2 0 [])=[49]:=rfl
 rcases Mh he with (rfl|rfl|⟨l,h0,h1,rfl⟩)|ho<;>rcases Mh gN with (rfl|rfl|⟨l',vZ,fm,rfl⟩)|jd
 ·exact ⟨rfl,List.append_cancel_left h⟩
 ·rw[t1,t2] at h;cases (gg h).1
 ·rw[t1,hl] at h
  have:=(gg h).1
  rcases ri vZ fm with h|h|h|h|h|h<;>(rw[h.1] at this;cases this)
 ·rw[t1,pQ jd] at h;cases (gg h).1
 ·rw[t1,t2] at h;cases (gg h).1
 ·exact ⟨rfl,List.append_cancel_left h⟩
 ·rw[t2,hl] at h
  have:=(gg h).1
  rcases ri vZ fm with h|h|h|h|h|h<;>(rw[h.1] at this;cases this)
 ·rw[t2,pQ jd] at h;cases (gg h).1
 ·rw[t1,hl] at h
  have:=(gg h).1
  rcases ri h0 h1 with h|h|h|h|h|h<;>(rw[h.1] at this;cases this)
 ·rw[t2,hl] at h
  have:=(gg h).1
  rcases ri h0 h1 with h|h|h|h|h|h<;>(rw[h.1] at this;cases this)
 ·rw[hl,hl] at h
  obtain ⟨U,h3⟩:=gg h
  refine ⟨?_,h3⟩
  have:l=l':=by
   rcases ri h0 h1 with ⟨a,rfl⟩|⟨a,rfl⟩|⟨a,rfl⟩|⟨a,rfl⟩|⟨a,rfl⟩|⟨a,rfl⟩<;>rcases ri vZ fm with ⟨b,rfl⟩|⟨b,rfl⟩|⟨b,rfl⟩|⟨b,rfl⟩|⟨b,rfl⟩|⟨b,rfl⟩<;>first|rfl|(rw[a,b] at U;cases U)
  rw[this]
 ·rw[hl,pQ jd] at h
  have:=(gg h).1
  rcases ri h0 h1 with h|h|h|h|h|h<;>(rw[h.1] at this;cases this)
 ·rw[t1,pQ ho] at h;cases (gg h).1
 ·rw[t2,pQ ho] at h;cases (gg h).1
 ·rw[hl,pQ ho] at h
  have:=(gg h).1
  rcases ri vZ fm with h|h|h|h|h|h<;>(rw[h.1] at this;cases this)
 ·rw[pQ ho,pQ jd] at h
  have U:(TX 1 e++[41])++r=(TX 1 e'++[41])++r':=(gg h).2
  rw[cq,cq] at U
  obtain ⟨h3,h4⟩:=ih ho e' _ _ gN (Ml (by simp[gD])) (Ml (by simp[gD])) U
  exact ⟨h3,(gg h4).2⟩
theorem Gx {sep:List UInt8} {m:Int}: ∀{xs:List Ex} {f:Bool} {x:Ex},x∈xs→(TX m x).length≤(texts sep m f xs).length
 | y::ys,f,x,h=>by
  simp only[texts,bS]
  rcases di.1 h with rfl|h
  ·show (ey x.op m x.text).length≤_;omega
  ·have:=Gx (sep:=sep) (m:=m) (f:=false) h
   omega
theorem Vx: ∀(n:Nat) (m:Int) (e:Ex),1≤m→m≤6→e.wf 6=true→8*(TX m e).length+(7-m).toNat<n→jO m e
 | 0,m,e,_,_,_,h=>by omega
 | n+1,m,e,h1,h6,he,h=>by
  have ih:=Vx n
  rcases (show m=1∨m=2∨m=3∨m=4∨m=5∨m=6 by omega) with rfl|rfl|rfl|rfl|rfl|rfl
  ·refine ahE he fun x hx=>ih 2 x (by omega) (by omega) (B9 he x hx) ?_
   have:=Gx (sep:=[124]) (m:=2) (f:=true) hx
   rw[Vp] at h
   omega
  ·refine s5 he fun x hx=>ih 3 x (by omega) (by omega) (B9 he x hx) ?_
   have:=Gx (sep:=[38]) (m:=3) (f:=true) hx
   rw[Vq] at h
   omega
  ·refine ahF he fun x hx=>ih 4 x (by omega) (by omega) (B9 he x hx) ?_
   have:=Gx (sep:=[]) (m:=4) (f:=true) hx
   rw[Vr] at h
   omega
  ·refine ahG he (fun k hk=> ?_) fun ho=> ?_
   ·subst hk
    rw[B5,List.length_cons] at h
    exact ih 4 k (by omega) (by omega) ((gA he).2 k (by simp)) (by omega)
   ·rw[B6 ho] at h
    exact ih 5 e (by omega) (by omega) he (by omega)
  ·obtain ⟨b,k,e1,e2,e3,e4⟩:=Mj e he
   refine ahH e1 e4 (ih 6 b (by omega) (by omega) e3 ?_)
   rw[e4,bS] at h
   omega
  ·refine ahI he fun ho=>ih 1 e (by omega) (by omega) he ?_
   rw[pQ ho,List.length_cons,bS] at h
   simp only[List.length_cons,List.length_nil] at h
   omega
theorem Vy (e:Ex):TX 1 e=e.text:=by
 unfold TX ey
 rw[ai]
 unfold fQ
 repeat' split
 all_goals omega
theorem Vz {a b:Ex} (ha:a.wf 6=true) (hb:b.wf 6=true) (h:a.text=b.text):a=b:=
 (Vx _ 1 a (by omega) (by omega) ha (yx _) b [] [] hb Vs Vs (by rw[Vy,Vy,h])).1
end Go.AM
set_option maxRecDepth 100000
namespace Go.AM
open Go.Proofs
noncomputable def VA (C:ag) (af aq:Int) (ae:List V):Option (List V):=
 (C Al [.int .i64 af,.int .i64 aq,.list aa ae]).bind fun r1=>
 bif !((V.nth r1 0).toBool) then
  some [.str []]
 else
  (C sd [.int .i64 af,.int .i64 aq,.list aa ae,.list cV ([]:List V)]).bind fun r2=>
  (C EG [.list cV ((V.nth r2 0).toList)]).bind fun r3=>
  some [.str ((V.nth r3 0).toStr)]
theorem ahJ {af aq:Int} {ae:List V} {r:Option (List V)} (h:VA CC af aq ae=r):CC wK [.int .i64 af,.int .i64 aq,.list aa ae]=r:=
 a9 (key:=60) (L:=cm) (bs:=[]) (by kernel_rfl) ax (aZ (by kernel_rfl) h)
noncomputable abbrev iq:Code:=cC Try.prog (ay.aT 75)
noncomputable def Gy (C:ag) (t5:Int) (t28:Bool) (dA c7:Int) (cF bJ:List V) {β:Type} (kr:(List V)→Option β):Option β:=
 bif t28 then
  (C sf [.list aa cF,.str [38],.int .i64 3,.list cV bJ]).bind fun r5=>
  kr ((V.nth r5 0).toList)
 else
  bif (t5:Int)==5 then
  (C sf [.list aa cF,.str [],.int .i64 4,.list cV bJ]).bind fun r6=>
  kr ((V.nth r6 0).toList)
  else
  bif (t5:Int)==8 then
   (C pB [.int .u8 33,.list cV bJ]).bind fun r7=>
   (C sf [.list aa cF,.str [],.int .i64 4,.list cV ((V.nth r7 0).toList)]).bind fun r8=>
   kr ((V.nth r8 0).toList)
  else
   bif (t5:Int)==7 then
   (C sf [.list aa cF,.str [],.int .i64 5,.list cV bJ]).bind fun r9=>
   (C pB [.int .u8 42,.list cV ((V.nth r9 0).toList)]).bind fun cT=>
   kr ((V.nth cT 0).toList)
   else
   kr bJ
noncomputable def Gz (C:ag) (t5:Int) (t22:Bool) (dA c7:Int) (cF bJ:List V) {β:Type} (kr:(List V)→Option β):Option β:=
 bif t22 then
  (C sf [.list aa cF,.str [124],.int .i64 2,.list cV bJ]).bind fun r4=>
  kr ((V.nth r4 0).toList)
 else
  Gy C t5 ((t5:Int)==6) dA c7 cF bJ (fun (vd:List V)=>
   kr vd)
noncomputable def GA (C:ag) (t5:Int) (t14:Bool) (dA c7:Int) (cF bJ:List V) {β:Type} (kr:(List V)→Option β):Option β:=
 bif t14 then
  (C pB [.int .u8 (IntKind.wrap .u8 (97+(IntKind.wrap .u8 c7))),.list cV bJ]).bind fun r3=>
  kr ((V.nth r3 0).toList)
 else
  Gz C t5 ((t5:Int)==4) dA c7 cF bJ (fun (Cc:List V)=>
   kr Cc)
noncomputable def GB (C:ag) (t5:Int) (t10:Bool) (dA c7:Int) (cF bJ:List V) {β:Type} (kr:(List V)→Option β):Option β:=
 bif t10 then
  (C pB [.int .u8 49,.list cV bJ]).bind fun r2=>
  kr ((V.nth r2 0).toList)
 else
  GA C t5 ((t5:Int)==3) dA c7 cF bJ (fun (ahK:List V)=>
   kr ahK)
noncomputable def GC (C:ag) (t5:Int) (t6:Bool) (dA c7:Int) (cF bJ:List V) {β:Type} (kr:(List V)→Option β):Option β:=
 bif t6 then
  (C pB [.int .u8 48,.list cV bJ]).bind fun r1=>
  kr ((V.nth r1 0).toList)
 else
  GB C t5 ((t5:Int)==2) dA c7 cF bJ (fun (Mo:List V)=>
   kr Mo)
noncomputable def VB (C:ag):cp:=fun β n ds k=>
 bif Nat.beq n 463 then iN JP [[0]] (@Gy C) ds k else
 bif Nat.beq n 367 then iN JQ [[0]] (@Gz C) ds k else
 bif Nat.beq n 239 then iN JR [[0]] (@GA C) ds k else
 bif Nat.beq n 175 then iN JS [[0]] (@GB C) ds k else
 bif Nat.beq n 111 then iN JT [[0]] (@GC C) ds k else
 none
abbrev Cd (C:ag) (b:cj):Prop:=cl Try.prog ay C (VB C) 75 (cH Try.prog (ay.aT 75)) (ay.sin 75).bc.length b
theorem ahL (C:ag):Cd C (.cond 28 (aw [1,1,0,1,1,1,1,1,1,1,1,1,0] iq) (aw [1,1,0,1,1,1,1,1,1,1,1,1,1] iq)):=
 jh JP [[0]] (@Gy C) (by kernel_rfl) (bf (bs:=[]) (by kernel_rfl) ax) (bf (bs:=[]) (by kernel_rfl) ax) (fun ds=>by kernel_rfl) (fun i β k=>by kernel_rfl) (fun β ds k=>by kernel_rfl)
theorem ahM (C:ag):Cd C (.cond 22 (aw [1,1,0,1,1,1,1,1,1,1,0] iq) (aw [1,1,0,1,1,1,1,1,1,1,1] iq)):=
 jh JQ [[0]] (@Gz C) (by kernel_rfl) (bf (bs:=[]) (by kernel_rfl) ax) (bf (bs:=[.cond 28 (aw [1,1,0,1,1,1,1,1,1,1,1,1,0] iq) (aw [1,1,0,1,1,1,1,1,1,1,1,1,1] iq)]) (by kernel_rfl) (bA (ahL C) ax)) (fun ds=>by kernel_rfl) (fun i β k=>by kernel_rfl) (fun β ds k=>by kernel_rfl)
theorem ahN (C:ag):Cd C (.cond 14 (aw [1,1,0,1,1,1,1,1,0] iq) (aw [1,1,0,1,1,1,1,1,1] iq)):=
 jh JR [[0]] (@GA C) (by kernel_rfl) (bf (bs:=[]) (by kernel_rfl) ax) (bf (bs:=[.cond 22 (aw [1,1,0,1,1,1,1,1,1,1,0] iq) (aw [1,1,0,1,1,1,1,1,1,1,1] iq)]) (by kernel_rfl) (bA (ahM C) ax)) (fun ds=>by kernel_rfl) (fun i β k=>by kernel_rfl) (fun β ds k=>by kernel_rfl)
theorem ahO (C:ag):Cd C (.cond 10 (aw [1,1,0,1,1,1,0] iq) (aw [1,1,0,1,1,1,1] iq)):=
 jh JS [[0]] (@GB C) (by kernel_rfl) (bf (bs:=[]) (by kernel_rfl) ax) (bf (bs:=[.cond 14 (aw [1,1,0,1,1,1,1,1,0] iq) (aw [1,1,0,1,1,1,1,1,1] iq)]) (by kernel_rfl) (bA (ahN C) ax)) (fun ds=>by kernel_rfl) (fun i β k=>by kernel_rfl) (fun β ds k=>by kernel_rfl)
theorem ahP (C:ag):Cd C (.cond 6 (aw [1,1,0,1,0] iq) (aw [1,1,0,1,1] iq)):=
 jh JT [[0]] (@GC C) (by kernel_rfl) (bf (bs:=[]) (by kernel_rfl) ax) (bf (bs:=[.cond 10 (aw [1,1,0,1,1,1,0] iq) (aw [1,1,0,1,1,1,1] iq)]) (by kernel_rfl) (bA (ahO C) ax)) (fun ds=>by kernel_rfl) (fun i β k=>by kernel_rfl) (fun β ds k=>by kernel_rfl)
noncomputable def VC (C:ag) (af aq:Int) (ae bR:List V):Option (List V):=
 GC C af ((af:Int)==1) af aq ae bR (fun (sS:List V)=>
  some [.list cV sS])
theorem ahQ {af aq:Int} {ae bR:List V} {r:Option (List V)} (h:VC CC af aq ae bR=r):CC sd [.int .i64 af,.int .i64 aq,.list aa ae,.list cV bR]=r:=
 a9 (key:=75) (L:=VB CC) (bs:=[.cond 6 (aw [1,1,0,1,0] iq) (aw [1,1,0,1,1] iq)]) (by kernel_rfl) (bA (ahP CC) ax) (aZ (by kernel_rfl) h)
noncomputable abbrev yp:Code:=cC Try.prog (ay.aT 91)
noncomputable def Ce (C:ag) (separator:List UInt8) (least:Int) (t10:List V) (t11 t12:Int) (t18:Bool) (akc akd:Int) (ake bJ:List V) {β:Type} (kr:(List V)→Option β):Option β:=
 bif t18 then
  (C EL [.str separator,.list cV bJ]).bind fun r2=>
  kr ((V.nth (r2.drop 1) 0).toList)
 else
  kr bJ
noncomputable def Cf (C:ag) (separator:List UInt8) (least:Int) (t10:List V) (t11 t12:Int) (dw:List V) {β:Type} (kn:(Int × (List V))→Option β) (kr:(Int × Bool × (List V))→Option β):Option β:=
 bif decide ((t12:Int)<t11) then
  (idx t10 t12).bind fun x1=>
  Ce C separator least t10 t11 t12 (decide ((t12:Int)>0)) ((x1.cell 0).toInt) ((x1.cell 1).toInt) ((x1.cell 2).toList) dw (fun (F7:List V)=>
   (C EM [.int .i64 ((x1.cell 0).toInt)]).bind fun r4=>
   bif decide ((((V.nth r4 0).toInt):Int)≥least) then
   (C sd [.int .i64 ((x1.cell 0).toInt),.int .i64 ((x1.cell 1).toInt),.list aa ((x1.cell 2).toList),.list cV F7]).bind fun r5=>
   kn (IntKind.wrap .i64 (t12+1),(V.nth r5 0).toList)
   else
   (C pB [.int .u8 40,.list cV F7]).bind fun r6=>
   (C sd [.int .i64 ((x1.cell 0).toInt),.int .i64 ((x1.cell 1).toInt),.list aa ((x1.cell 2).toList),.list cV ((V.nth r6 0).toList)]).bind fun r7=>
   (C pB [.int .u8 41,.list cV ((V.nth r7 0).toList)]).bind fun r8=>
   kn (IntKind.wrap .i64 (t12+1),(V.nth r8 0).toList))
 else
  kr (t12,decide ((t12:Int)<t11),dw)
noncomputable def Cg (C:ag) (separator:List UInt8) (least:Int) (t10:List V) (t11:Int):(Int × (List V))→Option ((Int × (List V)) ⊕ (Int × Bool × (List V))):=un fun t12 dw=>Cf C separator least t10 t11 t12 dw (fun y=>some (.inl y)) (fun r=>some (.inr r))
noncomputable def VD (C:ag):cp:=fun β n ds k=>
 bif Nat.beq n 303 then iN JV [[1,2,3,4,5,7,8,9,0]] (@Ce C) ds k else
 bif Nat.beq n 17 then bW JW [false,false,false,false,true,true] [[1,2,3,4,0,0,0]] (@Cf C) ds k else
 none
abbrev VE (C:ag) (b:cj):Prop:=cl Try.prog ay C (VD C) 91 (cH Try.prog (ay.aT 91)) (ay.sin 91).bc.length b
theorem ahR (C:ag):VE C (.cond 18 (aw [1,0,0,1,1,0,0,1,0,1,0] yp) (aw [1,0,0,1,1,0,0,1,0,1,1] yp)):=
 jh JV [[1,2,3,4,5,7,8,9,0]] (@Ce C) (by kernel_rfl) (bf (bs:=[]) (by kernel_rfl) ax) (bf (bs:=[]) (by kernel_rfl) ax) (fun ds=>by kernel_rfl) (fun i β k=>by kernel_rfl) (fun β ds k=>by kernel_rfl)
theorem ahS (C:ag):VE C (.loop (aw [1,0,0] yp)):=
 ca JW [false,false,false,false,true,true] [[1,2,3,4,0,0,0]] (@Cf C) (by kernel_rfl) (bf (bs:=[.cond 18 (aw [1,0,0,1,1,0,0,1,0,1,0] yp) (aw [1,0,0,1,1,0,0,1,0,1,1] yp)]) (by kernel_rfl) (bA (ahR C) ax)) (fun ds=>by kernel_rfl) (fun i x=>by kernel_rfl) (fun i x β k=>by kernel_rfl) (fun β ds k=>by kernel_rfl)
noncomputable def VF (C:ag) (kids:List V) (separator:List UInt8) (least:Int) (bR:List V):Option (List V):=
 (Loop (Cg C separator least kids (kids.length:Int)) (0,bR)).bind (un fun (sk:Int)=>un fun (Ff:Bool) (vd:List V)=>
  some [.list cV vd])
theorem ahT {kids:List V} {separator:List UInt8} {least:Int} {bR:List V} {r:Option (List V)} (h:VF CC kids separator least bR=r):CC sf [.list aa kids,.str separator,.int .i64 least,.list cV bR]=r:=
 a9 (key:=91) (L:=VD CC) (bs:=[.loop (aw [1,0,0] yp)]) (by kernel_rfl) (bA (ahS CC) ax) (aZ (by kernel_rfl) h)
noncomputable def VG (C:ag) (op:Int):Option (List V):=
 bif (op:Int)==4 then
  some [.int .i64 1]
 else
  bif (op:Int)==6 then
  some [.int .i64 2]
  else
  bif (op:Int)==5 then
   some [.int .i64 3]
  else
   bif (op:Int)==8 then
   some [.int .i64 4]
   else
   bif (op:Int)==7 then
    some [.int .i64 5]
   else
    some [.int .i64 6]
theorem ahU {op:Int} {r:Option (List V)} (h:VG CC op=r):CC EM [.int .i64 op]=r:=
 a9 (key:=104) (L:=cm) (bs:=[]) (by kernel_rfl) ax (aZ (by kernel_rfl) h)
noncomputable def VH (C:ag) (c:Int) (bR:List V):Option (List V):=
 bif Nat.ble ((bR.length+([.int .u8 c]:List V).length)*1) bU then
  some [.list cV (bR++([.int .u8 c]:List V))]
 else none
theorem ahV {c:Int} {bR:List V} {r:Option (List V)} (h:VH CC c bR=r):CC pB [.int .u8 c,.list cV bR]=r:=
 a9 (key:=90) (L:=cm) (bs:=[]) (by kernel_rfl) ax (aZ (by kernel_rfl) h)
noncomputable def VI (C:ag) (s:List UInt8) (bR:List V):Option (List V):=
 bif Nat.ble ((bR.length+(s.map dz).length)*1) bU then
  some [.int .i64 (s.length:Int),.list cV (bR++(s.map dz))]
 else none
theorem ahW {s:List UInt8} {bR:List V} {r:Option (List V)} (h:VI CC s bR=r):CC EL [.str s,.list cV bR]=r:=
 a9 (key:=103) (L:=cm) (bs:=[]) (by kernel_rfl) ax (aZ (by kernel_rfl) h)
noncomputable def VJ (C:ag) (bR:List V):Option (List V):=
 bif Nat.blt 0 bR.length then
  bif decide (0<(bR.length:Int))&&(decide ((bR.length:Int)≤(bR.length:Int))&&(Nat.ble (((bR.length:Int):Int).toNat) rC&&(bR.take (((bR.length:Int):Int).toNat)).all vy)) then
  some [.str (kF (bR.take (((bR.length:Int):Int).toNat)))]
  else none
 else none
theorem ahX {bR:List V} {r:Option (List V)} (h:VJ CC bR=r):CC EG [.list cV bR]=r:=
 a9 (key:=76) (L:=cm) (bs:=[]) (by kernel_rfl) ax (aZ (by kernel_rfl) h)
end Go.AM
set_option maxRecDepth 100000
namespace Go.AM
open Go.Proofs Ex
theorem ve (c:UInt8) (b:List UInt8) (h:b.length<2^40):CC pB [.int .u8 c.toNat,.list cV (b.map dz)]=some [.list cV ((b++[c]).map dz)]:=by
 refine ahV ?_
 unfold VH
 simp only[Ad]
 rw[aj (by simp[bU];omega)]
 simp[dz]
theorem ahY (s b:List UInt8) (h:b.length+s.length<2^40):CC EL [.str s,.list cV (b.map dz)]=some [.int .i64 s.length,.list cV ((b++s).map dz)]:=by
 refine ahW ?_
 unfold VI
 simp only[Ad]
 rw[aj (by simp[bU];omega)]
 simp
theorem ahZ (b:List UInt8):kF (b.map dz)=b:=by
 unfold kF
 rw[List.map_map]
 have:((fun x:V=>UInt8.ofNat x.toInt.toNat) ∘ dz)=id:=by
  funext c
  simp[dz]
 rw[this,List.map_id]
theorem ah0 (b:List UInt8) (h0:b≠[]) (h:b.length<2^40):CC EG [.list cV (b.map dz)]=some [.str b]:=by
 refine ahX ?_
 unfold VJ
 have hp:0<b.length:=by cases b<;>simp at h0⊢
 have h1:Nat.blt 0 (b.map dz).length=true:=by rw[jQ];simpa using hp
 have U:(((b.map dz).length:Int)).toNat=(b.map dz).length:=by simp
 have h3:Nat.ble (b.map dz).length rC=true:=Nat.ble_eq_true_of_le (by simp[rC];omega)
 have h4:(b.map dz).all vy=true:=by
  rw[fh]
  intro x hx
  obtain ⟨c,_,rfl⟩:=gh.1 hx
  have:=c.toNat_lt
  simp[vy,dz]
  omega
 rw[h1,U,pU,h3,h4,ahZ]
 simp[hp]
theorem ah1 (op:Int):CC EM [.int .i64 op]=some [.int .i64 (fQ op)]:=by
 refine ahU ?_
 unfold VG fQ
 simp only[df]
 repeat' split
 all_goals rfl
theorem ah2 {ks:List Ex} (hlen:ks.length≤maxLen) (ih: ∀k∈ks,∀b:List UInt8,b.length+k.text.length<2^40→CC sd (bH k [.list cV (b.map dz)])=some [.list cV ((b++k.text).map dz)]) (sep:List UInt8) (least:Int):
  ∀(av pre:List Ex) (b:List UInt8),ks=pre++av→b.length+(texts sep least pre.isEmpty av).length<2^40→
  ∃i t,Loop (Cg CC sep least (ks.map enc) ((ks.map enc).length:Int)) (((pre.length:Nat):Int),b.map dz)=some (i,t,(b++texts sep least pre.isEmpty av).map dz):=by
 intro av
 induction av with
 | nil=>
  intro pre b aU hb
  subst aU
  refine ⟨((pre.length:Nat):Int),false,aV ?_⟩
  simp only[Cg,Cf,un,cP,aP,az,texts]
  rw[ai (by omega)]
  simp
 | cons k av dP=>
  intro pre b aU hb
  have bE:pre.length<ks.length:=by rw[aU];simp
  have hm:k∈ks:=by rw[aU];simp
  have:=pE
  have bV:idx (ks.map enc) (pre.length:Int)=some k.enc:=by rw[aU];exact ga _ _ _
  generalize gP:(if pre.isEmpty then [] else sep)=sp
  have ht:texts sep least pre.isEmpty (k::av)=sp++(ey k.op least k.text++texts sep least false av):=by simp only[texts,gP]
  rw[ht] at hb⊢
  simp only[bS] at hb
  have dm:Cg CC sep least (ks.map enc) ((ks.map enc).length:Int) (((pre.length:Nat):Int),b.map dz)=some (.inl ((((pre++[k]).length:Nat):Int),(b++sp++ey k.op least k.text).map dz)):=by
   have h1: ∀{β:Type} (kr:List V→Option β) (o l:Int) (es:List V),Ce CC sep least (ks.map enc) ((ks.length:Nat):Int) ((pre.length:Nat):Int) (decide (((pre.length:Nat):Int)>0)) o l es (b.map dz) kr=kr ((b++sp).map dz):=by
    intro β kr o l es
    unfold Ce
    cases pre with
    | nil=>
     simp at gP
     subst gP
     simp
    | cons a pre=>
     simp at gP
     subst gP
     rw[ahY _ _ (by omega)]
     have:(0:Int)<((a::pre).length:Int):=by simp only[List.length_cons];omega
     simp[this]
   simp only[Cg,Cf,un,aP,az]
   rw[aj (by omega),bV]
   simp only[Option.bind_some,bd,bj,bh]
   rw[h1,ah1]
   simp only[Option.bind_some,V.aW,V.toInt_int,az]
   unfold ey at hb⊢
   by_cases hl:fQ k.op<least
   ·rw[ai (by omega),aj hl]
    rw[aj hl] at hb
    simp only[List.length_cons,bS,List.length_nil] at hb
    rw[show (V.int .u8 40)= .int .u8 (((40:UInt8).toNat:Nat):Int) by rfl,show (V.int .u8 41)= .int .u8 (((41:UInt8).toNat:Nat):Int) by rfl]
    rw[ve _ _ (by simp;omega)]
    simp only[Option.bind_some,V.aW,V.kb]
    rw[ih k hm _ (by simp;omega)]
    simp only[Option.bind_some,V.aW,V.kb]
    rw[ve _ _ (by simp;omega),wrap64 (by omega) (by omega)]
    simp
   ·rw[aj (by omega),ai hl]
    rw[ai hl] at hb
    rw[ih k hm _ (by simp;omega)]
    simp only[Option.bind_some,V.aW,V.kb]
    rw[wrap64 (by omega) (by omega)]
    simp
  rw[bQ dm]
  have hE:(pre++[k]).isEmpty=false:=by cases pre<;>rfl
  have h3:=dP (pre++[k]) (b++sp++ey k.op least k.text) (by rw[aU];simp)
  rw[hE] at h3
  obtain ⟨i,t,U⟩:=h3 (by simp only[bS];omega)
  refine ⟨i,t,U.trans ?_⟩
  simp
theorem ah3 {ks:List Ex} (hlen:ks.length≤maxLen) (ih: ∀k∈ks,∀b:List UInt8,b.length+k.text.length<2^40→CC sd (bH k [.list cV (b.map dz)])=some [.list cV ((b++k.text).map dz)]) (sep:List UInt8) (least:Int) (b:List UInt8)
  (hb:b.length+(texts sep least true ks).length<2^40):CC sf [.list aa (ks.map enc),.str sep,.int .i64 least,.list cV (b.map dz)]=some [.list cV ((b++texts sep least true ks).map dz)]:=by
 refine ahT ?_
 unfold VF
 obtain ⟨i,t,h⟩:=ah2 hlen ih sep least ks [] b rfl hb
 simp only[List.length_nil,Int.ofNat_zero,Int.natCast_zero,List.isEmpty_nil] at h
 erw [h]
 rfl
theorem ah4 {l n:Int} (h:dJ 3 l n 6=true):0≤l∧l<6:=by
 simp[dJ] at h;omega
theorem VK {o l n letters:Int} (ho:o<1∨8<o):dJ o l n letters=false:=by
 have n1:o≠1:=by omega
 have n2:o≠2:=by omega
 have n3:o≠3:=by omega
 have n7:o≠7:=by omega
 have n8:o≠8:=by omega
 have n9: ¬(4≤o∧o≤6∧2≤n):=by omega
 simp[dJ,n1,n2,n3,n7,n8,n9]
theorem ah5: ∀e:Ex,e.Ok→e.wf 6=true→∀b:List UInt8,b.length+e.text.length<2^40→CC sd (bH e [.list cV (b.map dz)])=some [.list cV ((b++e.text).map dz)]:=
 ind fun o l ks ih au Ab b hb=>by
  obtain ⟨w1,w2⟩:=gA Ab
  have hw:=fun sep least b=>ah3 au.len (fun k hk=>ih k hk (au.lL k hk) (w2 k hk)) sep least b
  refine ahQ ?_
  unfold VC GC GB GA Gz Gy
  simp only[Ex.op,Ex.bm,Ex.kids]
  rcases xj o with rfl|rfl|rfl|rfl|rfl|rfl|rfl|rfl|ho
  case inr.inr.inr.inr.inr.inr.inr.inr=>rw[VK ho] at w1;cases w1
  ·simp[text] at hb⊢
   rw[show (V.int .u8 48)= .int .u8 (((48:UInt8).toNat:Nat):Int) by rfl,ve _ _ (by omega)]
   simp
  ·simp[text] at hb⊢
   rw[show (V.int .u8 49)= .int .u8 (((49:UInt8).toNat:Nat):Int) by rfl,ve _ _ (by omega)]
   simp
  ·have hl:=ah4 w1
   simp[text] at hb⊢
   rw[Ac (x:=l) (by omega) (by omega),Ac (by omega) (by omega)]
   have:(V.int .u8 (97+l))= .int .u8 (((UInt8.ofNat (97+l).toNat).toNat:Nat):Int):=by
    have:(97+l).toNat<256:=by omega
    simp only[UInt8.toNat_ofNat']
    congr 1
    omega
   rw[this,ve _ _ (by omega)]
   simp
  ·simp[text] at hb⊢
   rw[hw _ _ _ (by omega)]
   simp
  ·simp[text] at hb⊢
   rw[hw _ _ _ (by omega)]
   simp
  ·simp[text] at hb⊢
   rw[hw _ _ _ (by omega)]
   simp
  ·simp[text] at hb⊢
   rw[hw _ _ _ (by omega)]
   simp only[Option.bind_some,V.aW,V.kb]
   rw[show (V.int .u8 42)= .int .u8 (((42:UInt8).toNat:Nat):Int) by rfl,ve _ _ (by simp;omega)]
   simp
  ·simp[text] at hb⊢
   rw[show (V.int .u8 33)= .int .u8 (((33:UInt8).toNat:Nat):Int) by rfl,ve _ _ (by omega)]
   simp only[Option.bind_some,V.aW,V.kb]
   rw[hw _ _ _ (by simp;omega)]
   simp
theorem ah6: ∀e:Ex,e.wf 6=true→e.text≠[]:=ind fun o l ks ih h=>by
 obtain ⟨w1,w2⟩:=gA h
 rcases xj o with rfl|rfl|rfl|rfl|rfl|rfl|rfl|rfl|ho
 case inr.inr.inr.inr.inr.inr.inr.inr=>rw[VK ho] at w1;cases w1
 case inr.inr.inr.inl=>
  intro hh
  match ks,w1,hh with
  | [],w1,_=>simp[dJ] at w1
  | [a],w1,_=>simp[dJ] at w1
  | a::b::l,_,hh=>simp[text,texts] at hh
 case inr.inr.inr.inr.inr.inl=>
  intro hh
  match ks,w1,hh with
  | [],w1,_=>simp[dJ] at w1
  | [a],w1,_=>simp[dJ] at w1
  | a::b::l,_,hh=>simp[text,texts] at hh
 case inr.inr.inr.inr.inl=>
  intro hh
  match ks,w1,w2,hh,ih with
  | [],w1,_,_,_=>simp[dJ] at w1
  | a::ks,_,w2,hh,ih=>
   have:=ih a (by simp) (w2 a (by simp))
   simp[text,texts,ey] at hh
   split at hh
   ·simp at hh
   ·exact this hh.1
 all_goals simp[text]
theorem ah7 (e:Ex) (h:e.Ok):CC wK (bH e [])=some [.str (if e.val 6=0 then e.text else [])]:=by
 refine ahJ ?_
 unfold VA
 rw[RT e h]
 by_cases hv:e.val 6=0
 ·obtain ⟨_,U,h3⟩:=lM hv
  have hl:=Vo e
  have hw:=ah5 e h h3 [] (by simp;omega)
  simp only[fR,List.nil_append] at hw
  simp only[Option.bind_some,V.aW,V.ej,hv,rm,pW,cond_false,cI]
  rw[hw]
  simp only[Option.bind_some,V.aW,V.kb]
  rw[ah0 _ (ah6 e h3) (by omega)]
  simp
 ·simp[hv]
end Go.AM
set_option maxRecDepth 100000
namespace Go.AM
structure Da where
 L:Nat
 st:Nat
 F:List Bool
 N:List (List Nat)
deriving DecidableEq
namespace Da
def n (d:Da):Nat:=d.F.length
def nx (d:Da) (q x:Nat):Nat:=(d.N.getD q []).getD x 0
def fin (d:Da) (q:Nat):Bool:=d.F.getD q false
def run (d:Da) (q:Nat) (w:List Nat):Nat:=w.foldl d.nx q
def acc (d:Da) (q:Nat) (w:List Nat):Bool:=d.fin (d.run q w)
structure Ok (d:Da):Prop where
 l1:1≤d.L
 l6:d.L≤6
 nN:d.N.length=d.n
 row: ∀r∈d.N,r.length=d.L∧∀q∈r,q<d.n
 s:d.st<d.n
 cX:d.n≤512
end Da
def WL (L:Nat) (w:List Nat):Prop:= ∀x∈w,x<L
theorem WL.nil {L:Nat}:WL L []:=fun _ h=>by cases h
theorem WL.cons {L x:Nat} {w:List Nat} (h:x<L) (hw:WL L w):WL L (x::w):=fun y hy=>by
 rcases di.1 hy with rfl|hy
 ·exact h
 ·exact hw y hy
theorem WL.tail {L x:Nat} {w:List Nat} (h:WL L (x::w)):WL L w:=fun y hy=>h y (by simp[hy])
theorem WL.app {L:Nat} {v w:List Nat}:WL L (v++w)↔WL L v∧WL L w:=by
 unfold WL
 simp only[ez]
 exact ⟨fun h=>⟨fun x hx=>h x (.inl hx),fun x hx=>h x (.inr hx)⟩,fun h x hx=>hx.elim (h.1 x) (h.2 x)⟩
namespace Da
def GD (d:Da) (q:Nat) (d':Da) (q':Nat):Prop:= ∀w,WL d.L w→d.acc q w=d'.acc q' w
theorem GD.nx {d d':Da} {q q' x:Nat} (h:d.GD q d' q') (hx:x<d.L):d.GD (d.nx q x) d' (d'.nx q' x):=fun w hw=>h (x::w) (hw.cons hx)
def pos (d:Da) (t:Nat):Nat:=d.nx (t/d.L) (t %d.L)
def mt (d:Da):Nat→Nat
 | 0=>1
 | t+1=>if d.pos t=d.mt t then d.mt t+1 else d.mt t
structure Num (d:Da):Prop where
 le: ∀t,t<d.n*d.L→d.pos t≤d.mt t
 row: ∀q,q<d.n→q<d.mt (q*d.L)
 all:d.mt (d.n*d.L)=d.n
structure Canon (d:Da) (L:Nat) (K:List Nat→Bool):Prop where
 ok:d.Ok
 hL:d.L=L
 st:d.st=0
 num:d.Num
 red: ∀p q,p<d.n→q<d.n→d.GD p d q→p=q
 akf: ∀w,WL L w→d.acc 0 w=K w
end Da
section
variable {α:Type} [DecidableEq α]
def ah8 (S:List α) (a:α):List α:=if a∈S then S else S++[a]
def VL (next:α→Nat→α) (S:List α) (a:α):Nat→List α
 | 0=>S
 | x+1=>ah8 (VL next S a x) (next a x)
def Ch (L:Nat) (next:α→Nat→α) (a0:α):Nat→List α
 | 0=>[a0]
 | i+1=>match (Ch L next a0 i)[i]? with
  | some a=>VL next (Ch L next a0 i) a L
  | none=>Ch L next a0 i
variable {L:Nat} {next:α→Nat→α} {a0:α}
section
variable {k:Nat} (hd:(Ch L next a0 k).length≤k)
include hd
end
section
variable {k:Nat} (hd:(Ch L next a0 k).length≤k) {fin:α→Bool}
include hd
end
end
namespace Da
end Da
end Go.AM
set_option maxRecDepth 100000
namespace Go.AM
open Go.Proofs
section
variable {α:Type} (ke:α→V)
def lU (i:Nat):List α→List V
 | []=>[]
 | a::S=> .bn [ke a,iV (i:Int)]::lU (i+1) S
where iV (n:Int):V:= .int .i64 n
end
section
variable {α:Type} [DecidableEq α] {ke:α→V}
variable (hk: ∀a b,lY (ke a) (ke b)=decide (a=b))
include hk
theorem VM (x:α): ∀(S:List α) (i:Nat),lk (ke x) (lU ke i S)=decide (x∈S)
 | [],_=>by simp[lU,lk]
 | a::S,i=>by
  have c: ∀(p q:V),(V.bn [p,q]).comp 0=p:=fun p q=>rfl
  rw[lU,lk,c,hk,VM x S (i+1)]
  rw[oZ]
  simp
theorem VN (x:α) (z:V): ∀(S:List α) (i:Nat),x∈S→lZ (ke x) (lU ke i S) z= .int .i64 ((i+S.idxOf x:Nat):Int)
 | [],_,h=>by cases h
 | a::S,i,h=>by
  have c: ∀(p q:V),(V.bn [p,q]).comp 0=p:=fun p q=>rfl
  have c1: ∀(p q:V),(V.bn [p,q]).comp 1=q:=fun p q=>rfl
  rw[lU,lZ,c,c1,hk]
  by_cases e:x=a
  ·subst e
   rw[dj rfl]
   simp[lU.iV]
  ·rw[cr e,cond_false,VN x z S (i+1) ((di.1 h).resolve_left e),show (a::S).idxOf x=S.idxOf x+1 from by rw[List.idxOf_cons,show (a==x)=false from yD.2 fun h=>e h.symm];rfl]
   congr 2
   omega
theorem VO (x:α): ∀(S:List α) (i:Nat),x∉S→iw (ke x) (.int .i64 ((i+S.length:Nat):Int)) (lU ke i S)=lU ke i (S++[x])
 | [],i,_=>by simp[lU,iw,lU.iV]
 | a::S,i,h=>by
  have c: ∀(p q:V),(V.bn [p,q]).comp 0=p:=fun p q=>rfl
  have e:x≠a:=fun e=>h (by simp[e])
  rw[lU,iw,c,hk,cr e,cond_false,List.cons_append,lU]
  congr 1
  have:=VO x S (i+1) fun hx=>h (by simp[hx])
  rw[←this]
  simp only[List.length_cons]
  congr 3
  omega
end
noncomputable def VP (C:ag) (af aq:Int) (ae:List V) (da dB:Int) (bR dw bJ:List V):Option (List V):=
 (C wK [.int .i64 af,.int .i64 aq,.list aa ae]).bind fun r1=>
 bif Nat.ble (((V.nth r1 0).toStr).length) maxLen&&true then
  bif Nat.ble ((bR.length+([.agg [.int .i64 0,.int .i64 0,.list aa ([]:List V)]]:List V).length)*40) bU then
  bif (decide (0≤(bR.length:Int)))&&(decide ((bR.length:Int)<((bR++([.agg [.int .i64 0,.int .i64 0,.list aa ([]:List V)]]:List V)).length:Int))) then
   ((bR++([.agg [.int .i64 0,.int .i64 0,.list aa ([]:List V)]]:List V))[((bR.length:Int):Int).toNat]?).bind fun x2=>
   some [.int .i64 (bR.length:Int),.int .i64 da,.int .i64 dB,.list dX (iw (.str ((V.nth r1 0).toStr)) (.int .i64 (bR.length:Int)) bJ),.list aa ((bR++([.agg [.int .i64 0,.int .i64 0,.list aa ([]:List V)]]:List V)).set (((bR.length:Int):Int).toNat) (.agg [.int .i64 af,.int .i64 aq,.list aa ae])),.list dq dw]
  else none
  else none
 else none
theorem ah9 {af aq:Int} {ae:List V} {da dB:Int} {bR dw bJ:List V} {r:Option (List V)} (h:VP CC af aq ae da dB bR dw bJ=r):CC Ak [.int .i64 af,.int .i64 aq,.list aa ae,.int .i64 da,.int .i64 dB,.list aa bR,.list dq dw,.list dX bJ]=r:=
 a9 (key:=57) (L:=cm) (bs:=[]) (by kernel_rfl) ax (aZ (by kernel_rfl) h)
noncomputable def VQ (C:ag) (af aq:Int) (ae:List V) (letters:Int):Option (List V):=
 (C Ak [.int .i64 af,.int .i64 aq,.list aa ae,.int .i64 letters,.int .i64 0,.list aa ([]:List V),.list dq ([]:List V),.list dX ([]:List V)]).bind fun r1=>
 some [.int .i64 ((V.nth (r1.drop 1) 0).toInt),.int .i64 ((V.nth ((r1.drop 1).drop 1) 0).toInt),.list aa ((V.nth (((r1.drop 1).drop 2).drop 1) 0).toList),.list dq ((V.nth ((((r1.drop 1).drop 2).drop 1).drop 1) 0).toList),.list dX ((V.nth ((r1.drop 1).drop 2) 0).toList)]
theorem aia {af aq:Int} {ae:List V} {letters:Int} {r:Option (List V)} (h:VQ CC af aq ae letters=r):CC EB [.int .i64 af,.int .i64 aq,.list aa ae,.int .i64 letters]=r:=
 a9 (key:=40) (L:=cm) (bs:=[]) (by kernel_rfl) ax (aZ (by kernel_rfl) h)
noncomputable def VR (C:ag) (da dB:Int) (bR dw bJ:List V):Option (List V):=
 some [.bool ((dB:Int)==(bR.length:Int)),.int .i64 da,.int .i64 dB,.list dX bJ,.list aa bR,.list dq dw]
theorem aib {da dB:Int} {bR dw bJ:List V} {r:Option (List V)} (h:VR CC da dB bR dw bJ=r):CC EC [.int .i64 da,.int .i64 dB,.list aa bR,.list dq dw,.list dX bJ]=r:=
 a9 (key:=42) (L:=cm) (bs:=[]) (by kernel_rfl) ax (aZ (by kernel_rfl) h)
noncomputable abbrev VT:Code:=cC Try.prog (ay.aT 43)
noncomputable def sU (C:ag) (t16 t17 da dB:Int) (bJ rows eb eH:List V) {β:Type} (kn:(Int × Int × Int × (List V) × (List V) × (List V) × (List V))→Option β) (kr:((Int × Int × Int × (List V) × (List V) × (List V)) ⊕ (Int × Bool × Int × Int × (List V) × (List V) × (List V) × (List V)))→Option β):Option β:=
 bif decide ((t17:Int)<t16) then
  bif (decide (0≤dB))&&(decide (dB<(eb.length:Int))) then
  (eb[(dB:Int).toNat]?).bind fun x1=>
  (C Aj [.int .i64 ((x1.cell 0).toInt),.int .i64 ((x1.cell 1).toInt),.list aa ((x1.cell 2).toList),.int .i64 t17]).bind fun r2=>
  bif (((V.nth (r2.drop 3) 0).toInt):Int) != 0 then
   kr (.inl ((V.nth (r2.drop 3) 0).toInt,da,dB,bJ,eb,eH))
  else
   (C wK [.int .i64 ((V.nth r2 0).toInt),.int .i64 ((V.nth (r2.drop 1) 0).toInt),.list aa ((V.nth ((r2.drop 1).drop 1) 0).toList)]).bind fun r3=>
   bif Nat.ble (((V.nth r3 0).toStr).length) maxLen&&true then
   bif !(lk (.str ((V.nth r3 0).toStr)) bJ) then
    bif ((eb.length:Int):Int)==512 then
    kr (.inl (3,da,dB,bJ,eb,eH))
    else
    (C Ak [.int .i64 ((V.nth r2 0).toInt),.int .i64 ((V.nth (r2.drop 1) 0).toInt),.list aa ((V.nth ((r2.drop 1).drop 1) 0).toList),.int .i64 da,.int .i64 dB,.list aa eb,.list dq eH,.list dX bJ]).bind fun r4=>
    bif (decide (0≤t17))&&(decide (t17<(rows.length:Int))) then
     (rows[(t17:Int).toNat]?).bind fun x5=>
     kn (IntKind.wrap .i64 (t17+1),(V.nth (r4.drop 1) 0).toInt,(V.nth ((r4.drop 1).drop 1) 0).toInt,(V.nth ((r4.drop 1).drop 2) 0).toList,rows.set ((t17:Int).toNat) (.int .i64 ((V.nth r4 0).toInt)),(V.nth (((r4.drop 1).drop 2).drop 1) 0).toList,(V.nth ((((r4.drop 1).drop 2).drop 1).drop 1) 0).toList)
    else none
   else
    bif (decide (0≤t17))&&(decide (t17<(rows.length:Int))) then
    (rows[(t17:Int).toNat]?).bind fun x6=>
    kn (IntKind.wrap .i64 (t17+1),da,dB,bJ,rows.set ((t17:Int).toNat) (.int .i64 ((lZ (.str ((V.nth r3 0).toStr)) bJ (.int .i64 0)).toInt)),eb,eH)
    else none
   else none
  else none
 else
  kr (.inr (t17,decide ((t17:Int)<t16),da,dB,bJ,rows,eb,eH))
noncomputable def oV (C:ag) (t16:Int):(Int × Int × Int × (List V) × (List V) × (List V) × (List V))→Option ((Int × Int × Int × (List V) × (List V) × (List V) × (List V)) ⊕ ((Int × Int × Int × (List V) × (List V) × (List V)) ⊕ (Int × Bool × Int × Int × (List V) × (List V) × (List V) × (List V)))):=un fun t17=>un fun da=>un fun dB=>un fun bJ=>un fun rows=>un fun eb eH=>sU C t16 t17 da dB bJ rows eb eH (fun y=>some (.inl y)) (fun r=>some (.inr r))
noncomputable def VU (C:ag):cp:=fun β n ds k=>
 bif Nat.beq n 49 then bW Ju [false,true,true,true,true,true,true,true] [[0,0,0,0,0,0],[1,0,0,0,0,0,0,0,0]] (@sU C) ds k else
 none
abbrev aic (C:ag) (b:cj):Prop:=cl Try.prog ay C (VU C) 43 (cH Try.prog (ay.aT 43)) (ay.sin 43).bc.length b
theorem aid (C:ag):aic C (.loop (aw [1,1,0,1,0,0] VT)):=
 ca Ju [false,true,true,true,true,true,true,true] [[0,0,0,0,0,0],[1,0,0,0,0,0,0,0,0]] (@sU C) (by kernel_rfl) (bf (bs:=[]) (by kernel_rfl) ax) (fun ds=>by kernel_rfl) (fun i x=>by kernel_rfl) (fun i x β k=>by kernel_rfl) (fun β ds k=>by kernel_rfl)
noncomputable def VV (C:ag) (da dB:Int) (bR dw bJ:List V):Option (List V):=
 bif (decide (0≤da))&&((decide (da≤da))&&(Nat.ble (((da:Int).toNat)*8) bU)) then
  (Loop (oV C ((List.replicate ((da:Int).toNat) (V.int .i64 0)).length:Int)) (0,da,dB,bJ,List.replicate ((da:Int).toNat) (V.int .i64 0),bR,dw)).bind (b7 (un fun (pF:Int)=>un fun (Mp:Int)=>un fun (rh:Int)=>un fun (Ci:List V)=>un fun (vd:List V) (Cc:List V)=>
   some [.int .i64 pF,.int .i64 Mp,.int .i64 rh,.list dX Ci,.list aa vd,.list dq Cc]) (un fun (KD:Int)=>un fun (xc:Bool)=>un fun (Mq:Int)=>un fun (Mr:Int)=>un fun (B0:List V)=>un fun (Cj:List V)=>un fun (Ms:List V) (Ck:List V)=>
   bif Nat.ble ((Ck.length+([.list nq Cj]:List V).length)*24) bU then
   some [.int .i64 0,.int .i64 Mq,.int .i64 (IntKind.wrap .i64 (Mr+1)),.list dX B0,.list aa Ms,.list dq (Ck++([.list nq Cj]:List V))]
   else none))
 else none
theorem aie {da dB:Int} {bR dw bJ:List V} {r:Option (List V)} (h:VV CC da dB bR dw bJ=r):CC wI [.int .i64 da,.int .i64 dB,.list aa bR,.list dq dw,.list dX bJ]=r:=
 a9 (key:=43) (L:=VU CC) (bs:=[.loop (aw [1,1,0,1,0,0] VT)]) (by kernel_rfl) (bA (aid CC) ax) (aZ (by kernel_rfl) h)
end Go.AM
set_option maxRecDepth 100000
namespace Go.AM
open Go.Proofs Ex
def pR (r:List Int):V:= .list nq (r.map fun n=> .int .i64 n)
def ff (es:List Ex):List V:=lU V.str 0 (es.map Ex.text)
theorem Mt (a b:List UInt8):lY (.str a) (.str b)=decide (a=b):=by
 simp only[lY,V.cells,s7,vo,Bool.and_true]
 rw[oZ]
 simp
theorem Mu {es:List Ex} (h: ∀e∈es,Nv e) {d:Ex} (hd:Nv d):d.text∈es.map Ex.text↔d∈es:=by
 rw[gh]
 constructor
 ·rintro ⟨a,ha,he⟩
  rw[←Vz (h a ha).1.2 hd.1.2 he];exact ha
 ·exact fun hx=>⟨d,hx,rfl⟩
theorem VW {α β:Type} [DecidableEq α] [DecidableEq β] {f:α→β} {d:α}: ∀{es:List α},(∀e∈es,f e=f d→e=d)→(es.map f).idxOf (f d)=es.idxOf d
 | [],_=>rfl
 | e::es,h=>by
  rw[cz,List.idxOf_cons,List.idxOf_cons,VW fun x hx=>h x (by simp[hx])]
  have:(f e==f d)=(e==d):=by
   rw[oZ,beq_iff_eq,beq_iff_eq]
   exact ⟨h e (by simp),fun h=>by rw[h]⟩
  rw[this]
theorem GF {e:Ex} (h:e.val 6=0):(Nat.ble e.text.length maxLen&&true)=true:=by
 have a:=Vo e
 have b:=lM h
 rw[Bool.and_true,dx]
 unfold maxLen
 omega
theorem GG {e:Ex} (h:Nv e):CC wK (bH e [])=some [.str e.text]:=by
 rw[ah7 e (aif h),aj h.2]
where aif {e:Ex} (h:Nv e):e.Ok:=pH (by omega) e h.1.2 (by have:=lM h.2;omega)
def yq (s:Dv):List V:=[.int .i64 s.L,.int .i64 s.dn,.list aa (s.es.map enc),.list dq (s.nx.map pR),.list dX (ff s.es)]
def Mv (s:Dv):List V:=[.int .i64 s.L,.int .i64 s.dn,.list dX (ff s.es),.list aa (s.es.map enc),.list dq (s.nx.map pR)]
theorem aih {es:List Ex} (h: ∀e∈es,Nv e) {d:Ex} (hd:Nv d) (hn:d∉es):iw (.str d.text) (.int .i64 (es.length:Int)) (ff es)=ff (es++[d]):=by
 have:=VO (ke:=V.str) Mt d.text (es.map Ex.text) 0 fun hx=>hn ((Mu h hd).1 hx)
 rw[aP,gE] at this
 unfold ff
 rw[this,eQ]
 rfl
theorem aii {α:Type} (a:List α) (x y:α):(a++[x]).set a.length y=a++[y]:=by
 simp[List.set_append_right]
theorem VX {L dn:Int} {es:List Ex} {d:Ex} {nx:List V} (h: ∀e∈es,Nv e) (hd:Nv d) (hn:d∉es) (hl:es.length≤1000):
  CC Ak (bH d [.int .i64 L,.int .i64 dn,.list aa (es.map enc),.list dq nx,.list dX (ff es)])=some [.int .i64 (es.length:Int),.int .i64 L,.int .i64 dn,.list dX (ff (es++[d])),.list aa ((es++[d]).map enc),.list dq nx]:=by
 refine ah9 ?_
 unfold VP
 refine bs (GG hd) ?_
 refine bT (GF hd.2) ?_
 refine bT (ya (by simp;omega)) ?_
 refine (sH (i:=(es.map enc).length) (v:= .agg [.int .i64 0,.int .i64 0,.list aa ([]:List V)]) (by simp)).trans ?_
 rw[Int.toNat_natCast,aii]
 have h1:=aih h hd hn
 rw[aP]
 show some [V.int .i64 (es.length:Int),.int .i64 L,.int .i64 dn,.list dX (iw (.str d.text) (.int .i64 (es.length:Int)) (ff es)),.list aa (es.map enc++[.agg [.int .i64 d.op,.int .i64 d.bm,.list aa (d.kids.map enc)]]),.list dq nx]=_
 rw[h1,agh,eQ]
 rfl
theorem aij {e:Ex} {L:Int} (h:Nv e):CC EB (bH e [.int .i64 L])=some (yq ⟨L,[e],[],0⟩):=by
 refine aia ?_
 unfold VQ
 refine bs (VX (L:=L) (dn:=0) (es:=[]) (d:=e) (nx:=[]) (by simp) h (by simp) (by simp)) ?_
 rfl
theorem Mw (s:Dv):CC EC (yq s)=some (.bool (s.dn==s.es.length)::Mv s):=by
 refine aib ?_
 unfold VR
 rw[aP]
 rfl
theorem Mx {L dn:Int} {e:Ex} {k:Nat} {nx:List V} (hk:dn=(k:Int)) (he:Nv e): ∀(n x:Nat) (es:List Ex) (row:List Int),L=((x+n:Nat):Int)→x+n≤10→Es es→k<es.length→es.getD k ba=e→row.length=x→
  (∀p,nO e n x es row=some p→Loop (oV CC L) (((x:Nat):Int),L,dn,ff es,(row.map fun n=>V.int .i64 n)++List.replicate n (.int .i64 0),es.map enc,nx)=some (.inr (L,false,L,dn,ff p.1,(p.2.map fun n=>V.int .i64 n),p.1.map enc,nx)))
  ∧(nO e n x es row=none→∃y,Loop (oV CC L) (((x:Nat):Int),L,dn,ff es,(row.map fun n=>V.int .i64 n)++List.replicate n (.int .i64 0),es.map enc,nx)=some (.inl (3,y)))
 | 0,x,es,row,hL,hx,oo,ik,tK,hr=>by
  refine ⟨fun p hp=> ?_,fun hp=>by simp[nO] at hp⟩
  cases hp
  refine aV ?_
  simp only[oV,sU,un]
  rw[az,ai (by omega),cr (by omega),show L=((x:Nat):Int) by omega]
  simp
 | n+1,x,es,row,hL,hx,oo,ik,tK,hr=>by
  subst hk
  have aO:decide ((x:Int)<L)=true:=dj (by omega)
  have bV:(es.map enc)[k]? =some e.enc:=by
   rw[gF,bO ik,←tK,jq,bO ik];rfl
  have hb:=Uw he (x:Int)
  have aik:pP (aH (bG x e))=match kZ e x with|some d=>(d,0)|none=>(ba,3):=by
   unfold pP kZ;split<;>rfl
  rw[aik] at hb
  have GH:x=(row.map fun n=>V.int .i64 n).length:=by simp[hr]
  rw[nO]
  cases bI:kZ e x with
  | none=>
   rw[bI] at hb
   refine ⟨fun p hp=>(by cases hp),fun _=>⟨(L,(k:Int),ff es,es.map enc,nx),aV ?_⟩⟩
   ·simp only[oV,sU,un]
    refine bT aO ((sH bV).trans ?_)
    rw[bd,bj,bh]
    refine bs hb ?_
    exact bT rfl rfl
  | some d=>
   rw[bI] at hb
   have hd:=(BG he bI).1
   have My:lk (.str d.text) (ff es)=decide (d∈es):=by
    unfold ff
    rw[VM Mt,yK]
    exact Mu oo.nv hd
   simp only[Option.bind_some]
   by_cases hm:d∈es
   ·rw[aj hm]
    have W4:es.idxOf d<es.length:=List.idxOf_lt_length_iff.2 hm
    obtain ⟨i1,i2⟩:=Mx (L:=L) (e:=e) (k:=k) (nx:=nx) rfl he n (x+1) es (row++[(es.idxOf d:Int)]) (by omega) (by omega) oo ik tK (by simp[hr])
    have dm:oV CC L (((x:Nat):Int),L,(k:Int),ff es,(row.map fun n=>V.int .i64 n)++List.replicate (n+1) (.int .i64 0),es.map enc,nx)=some (.inl (((x+1:Nat):Int),L,(k:Int),ff es,((row++[(es.idxOf d:Int)]).map fun n=>V.int .i64 n)++List.replicate n (.int .i64 0),es.map enc,nx)):=by
     simp only[oV,sU,un]
     refine bT aO ((sH bV).trans ?_)
     rw[bd,bj,bh]
     refine bs hb (bF rfl (bs (GG hd) (bT (GF hd.2) ?_)))
     refine bF (by rw[V.aW,V.Eo,My,dj hm];rfl) ?_
     refine (sL GH).trans ?_
     rw[Int.toNat_natCast,sM GH,lS (by omega),V.aW,V.Eo]
     have hg:lZ (.str d.text) (ff es) (.int .i64 0)= .int .i64 (es.idxOf d:Int):=by
      unfold ff
      rw[VN Mt _ _ _ _ ((Mu oo.nv hd).2 hm),VW fun x hx=>Vz (oo.nv x hx).1.2 hd.1.2,gE]
     rw[hg,V.toInt_int,eQ]
     rfl
    exact ⟨fun p hp=>(bQ dm).trans (i1 p hp),fun hp=>by obtain ⟨y,hy⟩:=i2 hp;exact ⟨y,(bQ dm).trans hy⟩⟩
   ·rw[ai hm]
    by_cases GI:es.length=512
    ·rw[aj GI]
     refine ⟨fun p hp=>(by cases hp),fun _=>⟨(L,(k:Int),ff es,es.map enc,nx),aV ?_⟩⟩
     ·simp only[oV,sU,un]
      refine bT aO ((sH bV).trans ?_)
      rw[bd,bj,bh]
      refine bs hb (bF rfl (bs (GG hd) (bT (GF hd.2) ?_)))
      refine bT (by rw[V.aW,V.Eo,My,cr hm];rfl) ?_
      exact bT (by rw[aP,GI];rfl) rfl
    ·rw[ai GI]
     have hl:=oo.le
     obtain ⟨i1,i2⟩:=Mx (L:=L) (e:=e) (k:=k) (nx:=nx) rfl he n (x+1) (es++[d]) (row++[(es.length:Int)]) (by omega) (by omega) (oo.snoc hd hm GI) (by simp;omega) (by rw[Gc ik,tK]) (by simp[hr])
     have dm:oV CC L (((x:Nat):Int),L,(k:Int),ff es,(row.map fun n=>V.int .i64 n)++List.replicate (n+1) (.int .i64 0),es.map enc,nx)=some (.inl (((x+1:Nat):Int),L,(k:Int),ff (es++[d]),((row++[(es.length:Int)]).map fun n=>V.int .i64 n)++List.replicate n (.int .i64 0),(es++[d]).map enc,nx)):=by
      simp only[oV,sU,un]
      refine bT aO ((sH bV).trans ?_)
      rw[bd,bj,bh]
      refine bs hb (bF rfl (bs (GG hd) (bT (GF hd.2) ?_)))
      refine bT (by rw[V.aW,V.Eo,My,cr hm];rfl) ?_
      refine bF (by rw[aP,yD];omega) ?_
      refine bs (VX oo.nv hd hm (by omega)) ?_
      refine (sL GH).trans ?_
      rw[Int.toNat_natCast,sM GH,lS (by omega),eQ (l₁:=row)]
      rfl
     exact ⟨fun p hp=>(bQ dm).trans (i1 p hp),fun hp=>by obtain ⟨y,hy⟩:=i2 hp;exact ⟨y,(bQ dm).trans hy⟩⟩
theorem ail {s:Dv} (hs:Gs s) (hd:s.dn<s.es.length):
  (∀t,proc s=some t→CC wI (yq s)=some (.int .i64 0::Mv t))∧(proc s=none→∃l,CC wI (yq s)=some (.int .i64 3::l)):=by
 have Uq:=hs.dn
 have hL:=hs.L
 have hq:s.dn.toNat<s.es.length:=by omega
 have lC:=hs.nl
 have hle:=hs.es.le
 have hN:((s.L.toNat:Nat):Int)=s.L:=by omega
 obtain ⟨l1,l2⟩:=Mx (L:=s.L) (dn:=s.dn) (e:=s.es.getD s.dn.toNat ba) (k:=s.dn.toNat) (nx:=s.nx.map pR) (by omega) (hs.es.nv _ (Un hq)) s.L.toNat 0 s.es [] (by omega) (by omega) hs.es hq rfl rfl
 have hf: ∀{r:Option (List V)},((Loop (oV CC s.L) (((0:Nat):Int),s.L,s.dn,ff s.es,List.replicate s.L.toNat (V.int .i64 0),s.es.map enc,s.nx.map pR)).bind (b7 (un fun (pF:Int)=>un fun (Mp:Int)=>un fun (rh:Int)=>un fun (Ci:List V)=>un fun (vd:List V) (Cc:List V)=>some [V.int .i64 pF,.int .i64 Mp,.int .i64 rh,.list dX Ci,.list aa vd,.list dq Cc]) (un fun (KD:Int)=>un fun (xc:Bool)=>un fun (Mq:Int)=>un fun (Mr:Int)=>un fun (B0:List V)=>un fun (Cj:List V)=>un fun (Ms:List V) (Ck:List V)=>bif Nat.ble ((Ck.length+([.list nq Cj]:List V).length)*24) bU then some [.int .i64 0,.int .i64 Mq,.int .i64 (IntKind.wrap .i64 (Mr+1)),.list dX B0,.list aa Ms,.list dq (Ck++([.list nq Cj]:List V))] else none)))=r→CC wI (yq s)=r:=fun h=>by
  refine aie ?_
  unfold VV
  refine bT ?_ ?_
  ·refine s4.2 ⟨dj (by omega),s4.2 ⟨dj (by omega),?_⟩⟩
   rw[dx,ki];omega
  ·rw[sW,hN]
   exact h
 refine ⟨fun t ht=>hf ?_,fun ht=> ?_⟩
 ·obtain ⟨p,hp,rfl⟩:=Uo ht
  refine bs (l1 p hp) ?_
  simp only[b7,un]
  refine bT (by rw[dx,ki];simp;omega) ?_
  rw[wrap64 (by omega) (by omega)]
  unfold Mv
  simp only[eQ]
  rfl
 ·have hr:nO (s.es.getD s.dn.toNat ba) s.L.toNat 0 s.es []=none:=by
   unfold proc at ht
   rwa [Option.map_eq_none_iff] at ht
  obtain ⟨y,hy⟩:=l2 hr
  exact ⟨_,hf (bs hy rfl)⟩
end Go.AM
set_option maxRecDepth 100000
namespace Go.AM
open Go.Proofs
noncomputable abbrev VY:Code:=cC Try.prog (ay.aT 44)
noncomputable def Cl (C:ag) (t22 VZ V0:Int) (bJ:List V) (jM jN oP oQ:Int) (GJ u6 V1 V2:List V) (t23:Int) (Cm:List V) {β:Type} (kn:(Int × (List V))→Option β) (kr:(Int × Bool × (List V))→Option β):Option β:=
 bif decide ((t23:Int)<t22) then
  bif (decide (0≤t23))&&(decide (t23<(GJ.length:Int))) then
  (GJ[(t23:Int).toNat]?).bind fun x1=>
  (C kg [.int .i64 ((x1.cell 0).toInt),.int .i64 ((x1.cell 1).toInt),.list aa ((x1.cell 2).toList)]).bind fun r2=>
  bif Nat.ble ((Cm.length+([.bool ((V.nth r2 0).toBool)]:List V).length)*1) bU then
   kn (IntKind.wrap .i64 (t23+1),Cm++([.bool ((V.nth r2 0).toBool)]:List V))
  else none
  else none
 else
  kr (t23,decide ((t23:Int)<t22),Cm)
noncomputable def GK (C:ag) (t22 VZ V0:Int) (bJ:List V) (jM jN oP oQ:Int) (GJ u6 V1 V2:List V):(Int × (List V))→Option ((Int × (List V)) ⊕ (Int × Bool × (List V))):=un fun t23 Cm=>Cl C t22 VZ V0 bJ jM jN oP oQ GJ u6 V1 V2 t23 Cm (fun y=>some (.inl y)) (fun r=>some (.inr r))
noncomputable def V3 (C:ag):cp:=fun β n ds k=>
 bif Nat.beq n 49 then bW Jv [false,true,false,false,false,false,false,false,false,false,false,false,false,true] [[1,0,0,3,4,5,6,7,8,9,10,11,12,13,0]] (@Cl C) ds k else
 none
abbrev aim (C:ag) (b:cj):Prop:=cl Try.prog ay C (V3 C) 44 (cH Try.prog (ay.aT 44)) (ay.sin 44).bc.length b
theorem ain (C:ag):aim C (.loop (aw [1,1,0,1,0,0] VY)):=
 ca Jv [false,true,false,false,false,false,false,false,false,false,false,false,false,true] [[1,0,0,3,4,5,6,7,8,9,10,11,12,13,0]] (@Cl C) (by kernel_rfl) (bf (bs:=[]) (by kernel_rfl) ax) (fun ds=>by kernel_rfl) (fun i x=>by kernel_rfl) (fun i x β k=>by kernel_rfl) (fun β ds k=>by kernel_rfl)
noncomputable def V4 (C:ag) (da dB:Int) (bR dw bJ:List V):Option (List V):=
 (Loop (GK C (bR.length:Int) da dB bJ 0 0 da 0 bR dw ([]:List V) ([]:List V)) (0,([]:List V))).bind (un fun (iP:Int)=>un fun (kj:Bool) (Mf:List V)=>
  some [.int .i64 da,.int .i64 0,.int .i64 da,.int .i64 dB,.list dX bJ,.list lJ Mf,.list dq dw,.list aa bR])
theorem aio {da dB:Int} {bR dw bJ:List V} {r:Option (List V)} (h:V4 CC da dB bR dw bJ=r):CC ED [.int .i64 da,.int .i64 dB,.list aa bR,.list dq dw,.list dX bJ]=r:=
 a9 (key:=44) (L:=V3 CC) (bs:=[.loop (aw [1,1,0,1,0,0] VY)]) (by kernel_rfl) (bA (ain CC) ax) (aZ (by kernel_rfl) h)
noncomputable abbrev V5:Code:=cC Try.prog (ay.aT 14)
noncomputable def yr (C:ag) (fO fP:Int) (dw bJ:List V) (da dB:Int) (pN eb eH:List V) {β:Type} (kn:(Int × Int × (List V) × (List V) × (List V))→Option β) (kr:((Int × Int × Int × (List V) × (List V)) ⊕ (Bool × Int × Int × (List V) × (List V) × (List V)))→Option β):Option β:=
 (C EC [.int .i64 da,.int .i64 dB,.list aa pN,.list dq eb,.list dX eH]).bind fun r4=>
 bif !((V.nth r4 0).toBool) then
  (C wI [.int .i64 ((V.nth (r4.drop 1) 0).toInt),.int .i64 ((V.nth ((r4.drop 1).drop 1) 0).toInt),.list aa ((V.nth (((r4.drop 1).drop 2).drop 1) 0).toList),.list dq ((V.nth ((((r4.drop 1).drop 2).drop 1).drop 1) 0).toList),.list dX ((V.nth ((r4.drop 1).drop 2) 0).toList)]).bind fun r5=>
  bif (((V.nth r5 0).toInt):Int) != 0 then
  kr (.inl ((V.nth r5 0).toInt,0,0,([]:List V),([]:List V)))
  else
  kn ((V.nth (r5.drop 1) 0).toInt,(V.nth ((r5.drop 1).drop 1) 0).toInt,(V.nth (((r5.drop 1).drop 2).drop 1) 0).toList,(V.nth ((((r5.drop 1).drop 2).drop 1).drop 1) 0).toList,(V.nth ((r5.drop 1).drop 2) 0).toList)
 else
  kr (.inr (!((V.nth r4 0).toBool),(V.nth (r4.drop 1) 0).toInt,(V.nth ((r4.drop 1).drop 1) 0).toInt,(V.nth (((r4.drop 1).drop 2).drop 1) 0).toList,(V.nth ((((r4.drop 1).drop 2).drop 1).drop 1) 0).toList,(V.nth ((r4.drop 1).drop 2) 0).toList))
noncomputable def vf (C:ag) (fO fP:Int) (dw bJ:List V):(Int × Int × (List V) × (List V) × (List V))→Option ((Int × Int × (List V) × (List V) × (List V)) ⊕ ((Int × Int × Int × (List V) × (List V)) ⊕ (Bool × Int × Int × (List V) × (List V) × (List V)))):=un fun da=>un fun dB=>un fun pN=>un fun eb eH=>yr C fO fP dw bJ da dB pN eb eH (fun y=>some (.inl y)) (fun r=>some (.inr r))
noncomputable def V6 (C:ag):cp:=fun β n ds k=>
 bif Nat.beq n 81 then bW Jn [false,false,true,true,false,false,true,true,true] [[0,0,0,0,0],[0,1,2,0,0,5,6,0,0,0]] (@yr C) ds k else
 none
abbrev aip (C:ag) (b:cj):Prop:=cl Try.prog ay C (V6 C) 14 (cH Try.prog (ay.aT 14)) (ay.sin 14).bc.length b
theorem aiq (C:ag):aip C (.loop (aw [1,1,1,0,0,0] V5)):=
 ca Jn [false,false,true,true,false,false,true,true,true] [[0,0,0,0,0],[0,1,2,0,0,5,6,0,0,0]] (@yr C) (by kernel_rfl) (bf (bs:=[]) (by kernel_rfl) ax) (fun ds=>by kernel_rfl) (fun i x=>by kernel_rfl) (fun i x β k=>by kernel_rfl) (fun β ds k=>by kernel_rfl)
noncomputable def V7 (C:ag) (af aq:Int) (ae:List V) (letters:Int):Option (List V):=
 (C ui [.int .i64 af,.int .i64 aq,.list aa ae,.int .i64 letters]).bind fun r1=>
 bif (((V.nth r1 0).toInt):Int) != 0 then
  some [.int .i64 0,.int .i64 0,.int .i64 ((V.nth r1 0).toInt),.list lJ ([]:List V),.list dq ([]:List V)]
 else
  (C Ai [.int .i64 af,.int .i64 aq,.list aa ae]).bind fun r2=>
  (C EB [.int .i64 ((V.nth r2 0).toInt),.int .i64 ((V.nth (r2.drop 1) 0).toInt),.list aa ((V.nth ((r2.drop 1).drop 1) 0).toList),.int .i64 letters]).bind fun r3=>
  (Loop (vf C 0 0 ([]:List V) ([]:List V)) ((V.nth r3 0).toInt,(V.nth (r3.drop 1) 0).toInt,(V.nth (r3.drop 2) 0).toList,(V.nth ((r3.drop 2).drop 1) 0).toList,(V.nth (((r3.drop 2).drop 1).drop 1) 0).toList)).bind (b7 (un fun (jD:Int)=>un fun (BL:Int)=>un fun (BM:Int)=>un fun (rh:List V) (Ci:List V)=>
   some [.int .i64 BL,.int .i64 BM,.int .i64 jD,.list lJ rh,.list dq Ci]) (un fun (xb:Bool)=>un fun (air:Int)=>un fun (ais:Int)=>un fun (Mo:List V)=>un fun (sS:List V) (ait:List V)=>
   (C ED [.int .i64 air,.int .i64 ais,.list aa Mo,.list dq sS,.list dX ait]).bind fun dt=>
   some [.int .i64 ((V.nth dt 0).toInt),.int .i64 ((V.nth (dt.drop 1) 0).toInt),.int .i64 0,.list lJ ((V.nth (((dt.drop 2).drop 2).drop 1) 0).toList),.list dq ((V.nth ((((dt.drop 2).drop 2).drop 1).drop 1) 0).toList)]))
theorem aiu {af aq:Int} {ae:List V} {letters:Int} {r:Option (List V)} (h:V7 CC af aq ae letters=r):CC Ew [.int .i64 af,.int .i64 aq,.list aa ae,.int .i64 letters]=r:=
 a9 (key:=14) (L:=V6 CC) (bs:=[.loop (aw [1,1,1,0,0,0] V5)]) (by kernel_rfl) (bA (aiq CC) ax) (aZ (by kernel_rfl) h)
end Go.AM
set_option maxRecDepth 100000
namespace Go.AM
open Go.Proofs Ex
structure Dv.Ok (d:Dv):Prop where
 es: ∀e∈d.es,e.Ok
 el:d.es.length≤maxLen
 nl:d.nx.length≤maxLen
 rl: ∀r∈d.nx,r.length≤maxLen
abbrev GL (s:Dv):Int × Int × List V × List V × List V:=(s.L,s.dn,s.es.map enc,s.nx.map pR,ff s.es)
theorem aiv {e:Ex} {L:Int} (h:e.val L=0):Nv (aH e):=⟨lP e (lM (Gb h)).2.2,LV (Gb h)⟩
structure Fa where
 L:Int
 F:List Bool
 N:List (List Int)
abbrev faE (p:Fa × Int):List V:=[.int .i64 p.1.L,.int .i64 0,.int .i64 p.2,.list lJ (p.1.F.map V.bool),.list dq (p.1.N.map pR)]
def Fa.zero:Fa:=⟨0,[],[]⟩
def aiw (d:Dv):Fa:=⟨d.L,d.es.map Ex.cK,d.nx⟩
theorem aix {es:List Ex} (hn:es.length≤1000) (ho: ∀e∈es,Nv e) {a b c1 c2 c3 c4:Int} {l1 l2 l3 l4:List V}: ∀(av pre:List Ex),es=pre++av→
  Loop (GK CC (es.length:Int) a b l1 c1 c2 c3 c4 (es.map enc) l2 l3 l4) (((pre.length:Nat):Int),(pre.map Ex.cK).map V.bool)=some ((es.length:Int),false,(es.map Ex.cK).map V.bool):=by
 intro av
 induction av with
 | nil=>
  intro pre e
  rw[cP] at e
  subst e
  refine aV ?_
  simp only[GK,Cl,un]
  rw[az,ai (by omega),cr (by omega)]
 | cons k av dP=>
  intro pre e
  have bE:pre.length<es.length:=by rw[e];simp
  have hk:k∈es:=by rw[e];simp
  have bV:(es.map enc)[pre.length]? =some k.enc:=by rw[e];simp
  have hv:=lM (ho k hk).2
  refine (bQ ?_).trans (dP (pre++[k]) (by simp[e]))
  simp only[GK,Cl,un]
  refine bT (oO bE) ((sH bV).trans ?_)
  rw[bd,bj,bh]
  refine bs (ac1 (letters:=6) k (pH (by omega) k hv.2.2 (by omega)) hv.2.2) ?_
  refine bT (by rw[dx,ki];simp;omega) ?_
  rw[lS (by omega)]
  simp only[eQ,cz,fR,bS,List.length_cons,List.length_nil]
  rfl
theorem aiy {s:Dv} (hs:Gs s): ∃l,CC ED (yq s)=some l∧(V.nth l 0).toInt=s.L∧(V.nth (l.drop 1) 0).toInt=0∧(V.nth (((l.drop 2).drop 2).drop 1) 0).toList=(s.es.map Ex.cK).map V.bool∧(V.nth ((((l.drop 2).drop 2).drop 1).drop 1) 0).toList=s.nx.map pR:=by
 have hl:=hs.es.le
 refine ⟨[.int .i64 s.L,.int .i64 0,.int .i64 s.L,.int .i64 s.dn,.list dX (ff s.es),.list lJ ((s.es.map Ex.cK).map V.bool),.list dq (s.nx.map pR),.list aa (s.es.map enc)],aio ?_,?_⟩
 ·unfold V4
  rw[aP]
  refine bs (aix (by omega) hs.es.nv s.es [] rfl) ?_
  simp only[un]
 ·exact ⟨rfl,rfl,rfl,rfl⟩
def Cn (e:Ex) (L:Int):Fa × Int:=if e.val L=0 then (match sN 513 (rf e L) with|some t=>(aiw t,0)|none=>(.zero,3)) else (.zero,e.val L)
theorem V8 {a b:Int} {l1 l2:List V}: ∀(n:Nat) (s:Dv),Gs s→513≤s.dn+n→
  (∀t,sN n s=some t→Loop (vf CC a b l1 l2) (GL s)=some (.inr (false,t.L,t.dn,t.es.map enc,t.nx.map pR,ff t.es)))∧(sN n s=none→Loop (vf CC a b l1 l2) (GL s)=some (.inl (3,0,0,[],[])))
 | 0,s,hs,hn=>by have:=hs.dn;have:=hs.es.le;omega
 | n+1,s,hs,hn=>by
  rw[sN]
  have Uq:=hs.dn
  by_cases hd:s.dn<s.es.length
  ·rw[aj hd]
   obtain ⟨p1,p2⟩:=ail hs hd
   have hf:(!(s.dn==(s.es.length:Int)))=true:=by rw[mL,yD];omega
   cases hp:proc s with
   | none=>
    obtain ⟨l,hl⟩:=p2 hp
    refine ⟨fun t ht=>(by cases ht),fun _=>aV ?_⟩
    simp only[vf,yr,un]
    refine bs (Mw s) (bT hf ?_)
    refine bs hl ?_
    rfl
   | some u=>
    obtain ⟨g,_,g2,_⟩:=Up hs hd hp
    obtain ⟨i1,i2⟩:=V8 (a:=a) (b:=b) (l1:=l1) (l2:=l2) n u g (by omega)
    have dm:vf CC a b l1 l2 (GL s)=some (.inl (GL u)):=by
     simp only[vf,yr,un]
     refine bs (Mw s) (bT hf ?_)
     refine bs (p1 u hp) ?_
     rfl
    exact ⟨fun t ht=>(bQ dm).trans (i1 t ht),fun ht=>(bQ dm).trans (i2 ht)⟩
  ·rw[ai hd]
   refine ⟨fun t ht=> ?_,fun ht=>(by cases ht)⟩
   cases ht
   refine aV ?_
   have hf:(!(s.dn==(s.es.length:Int)))=false:=by rw[Bool.not_eq_false',beq_iff_eq];omega
   simp only[vf,yr,un]
   refine bs (Mw s) (bF hf ?_)
   exact congrArg (fun b=>some (Sum.inr (Sum.inr (b,s.L,s.dn,s.es.map enc,s.nx.map pR,ff s.es)))) hf
theorem aiz {e:Ex} (h:e.Ok) (L:Int):CC Ew (bH e [.int .i64 L])=some (faE (Cn e L)):=by
 refine aiu ?_
 unfold V7 Cn
 refine bs (Fj e h L) ?_
 by_cases hv:e.val L=0
 ·rw[aj hv]
  refine bF (by rw[V.aW,V.toInt_int,hv];rfl) ?_
  have hN:=TQ e h
  rw[aj (Gb hv)] at hN
  refine bs hN (bs (aij (L:=L) (aiv hv)) ?_)
  obtain ⟨l1,l2⟩:=V8 (a:=0) (b:=0) (l1:=[]) (l2:=[]) 513 (rf e L) (Us hv) (by show 513≤(0:Int)+_;omega)
  cases hp:sN 513 (rf e L) with
  | none=>exact bs (l2 hp) rfl
  | some t=>
   refine bs (l1 t hp) ?_
   obtain ⟨l,a1,a2,a3,a4,a5⟩:=aiy (Ur 513 _ _ (Us hv) hp).1
   refine bs a1 ?_
   rw[a2,a3,a4,a5]
   rfl
 ·rw[ai hv]
  refine bT ?_ rfl
  rw[V.aW,V.toInt_int,bne_iff_ne];exact hv
end Go.AM
set_option maxRecDepth 100000
namespace Go.AM
open Go.Proofs
noncomputable def V9 (C:ag):Option (List V):=
 some [.int .i64 7,.int .i64 0,.list aa ([.agg [.int .i64 5,.int .i64 0,.list aa ([.agg [.int .i64 3,.int .i64 0,.list aa ([]:List V)],.agg [.int .i64 3,.int .i64 1,.list aa ([]:List V)]]:List V)]]:List V)]
theorem aiA {r:Option (List V)} (h:V9 CC=r):CC EA []=r:=
 a9 (key:=38) (L:=cm) (bs:=[]) (by kernel_rfl) ax (aZ (by kernel_rfl) h)
noncomputable def Wa (C:ag):Option (List V):=
 (C EA []).bind fun r1=>
 (C Ew [.int .i64 ((V.nth r1 0).toInt),.int .i64 ((V.nth (r1.drop 1) 0).toInt),.list aa ((V.nth (r1.drop 2) 0).toList),.int .i64 2]).bind fun r2=>
 bif (((V.nth (r2.drop 2) 0).toInt):Int)==0 then
  bif ((((V.nth (r2.drop 3) 0).toList).length:Int):Int)==3 then
  bif decide (0<(((V.nth (r2.drop 3) 0).toList).length:Int)) then
   (((V.nth (r2.drop 3) 0).toList)[0]?).bind fun x3=>
   bif x3.toBool then
   bif decide (1<(((V.nth (r2.drop 3) 0).toList).length:Int)) then
    (((V.nth (r2.drop 3) 0).toList)[1]?).bind fun x4=>
    some [.bool (!x4.toBool)]
   else none
   else
   some [.bool false]
  else none
  else
  some [.bool false]
 else
  some [.bool false]
theorem aiB {r:Option (List V)} (h:Wa CC=r):CC qN []=r:=
 a9 (key:=13) (L:=cm) (bs:=[]) (by kernel_rfl) ax (aZ (by kernel_rfl) h)
end Go.AM
set_option maxRecDepth 100000
namespace Go.AM
open Go.Proofs Ex
def yu:Ex:= .node 7 0 [.node 5 0 [.node 3 0 [],.node 3 1 []]]
theorem aiC:yu.Ok:=by
 refine .node (by omega) (by omega) (by unfold maxLen;simp) fun k hk=> ?_
 rw[en.1 hk]
 refine .node (by omega) (by omega) (by unfold maxLen;simp) fun k hk=> ?_
 rcases di.1 hk with rfl|hk
 ·exact .node (by omega) (by omega) (by simp) (by simp)
 ·rw[en.1 hk]
  exact .node (by omega) (by omega) (by simp) (by simp)
theorem aiD:(Cn yu 2).2=0∧(Cn yu 2).1.F=[true,false,false]:=by decide+kernel
theorem yv:CC qN []=some [.bool true]:=by
 refine aiB ?_
 unfold Wa
 have e7:CC EA []=some (et yu):=by
  refine aiA ?_
  unfold V9 yu
  simp only[et,Ex.op,Ex.bm,Ex.kids,cz,fR,dg]
 refine bs e7 ?_
 refine bs (aiz aiC 2) ?_
 obtain ⟨h1,U⟩:=aiD
 generalize Cn yu 2=p at h1 U
 obtain ⟨⟨L,F,N⟩,f⟩:=p
 simp only at h1 U
 subst h1 U
 rfl
end Go.AM
set_option maxRecDepth 100000
namespace Go.AM
open Go.Proofs
noncomputable def Wb (C:ag) (af aq:Int) (ae:List V) (w:List UInt8):Option (List V):=
 (C Ey [.int .i64 af,.int .i64 aq,.list aa ae]).bind fun r1=>
 bif (V.nth r1 0).toBool then
  (C Ev [.int .i64 af,.int .i64 aq,.list aa ae]).bind fun r2=>
  bif decide ((((V.nth r2 0).toInt):Int)>20) then
  (C wF [.str w,.int .i64 6]).bind fun r3=>
  bif (V.nth r3 0).toBool then
   (C qN []).bind fun r4=>
   some [.bool ((V.nth r4 0).toBool)]
  else
   (C uf [.int .i64 af,.int .i64 aq,.list aa ae,.str w]).bind fun r5=>
   (C ug [.int .i64 af,.int .i64 aq,.list aa ae,.str w]).bind fun r6=>
   bif (((V.nth (r5.drop 3) 0).toInt):Int)==((V.nth (r6.drop 3) 0).toInt) then
   (C sb [.int .i64 ((V.nth r5 0).toInt),.int .i64 ((V.nth (r5.drop 1) 0).toInt),.list aa ((V.nth ((r5.drop 1).drop 1) 0).toList),.int .i64 ((V.nth r6 0).toInt),.int .i64 ((V.nth (r6.drop 1) 0).toInt),.list aa ((V.nth ((r6.drop 1).drop 1) 0).toList)]).bind fun r7=>
   bif (V.nth r7 0).toBool then
    (C qN []).bind fun r8=>
    some [.bool ((V.nth r8 0).toBool)]
   else
    some [.bool false]
   else
   some [.bool false]
  else
  bif decide (((w.length:Int):Int)>4) then
   (C wF [.str w,.int .i64 6]).bind fun r9=>
   bif (V.nth r9 0).toBool then
   (C qN []).bind fun cT=>
   some [.bool ((V.nth cT 0).toBool)]
   else
   (C uf [.int .i64 af,.int .i64 aq,.list aa ae,.str w]).bind fun dM=>
   (C ug [.int .i64 af,.int .i64 aq,.list aa ae,.str w]).bind fun eW=>
   bif (((V.nth (dM.drop 3) 0).toInt):Int)==((V.nth (eW.drop 3) 0).toInt) then
    (C sb [.int .i64 ((V.nth dM 0).toInt),.int .i64 ((V.nth (dM.drop 1) 0).toInt),.list aa ((V.nth ((dM.drop 1).drop 1) 0).toList),.int .i64 ((V.nth eW 0).toInt),.int .i64 ((V.nth (eW.drop 1) 0).toInt),.list aa ((V.nth ((eW.drop 1).drop 1) 0).toList)]).bind fun gz=>
    bif (V.nth gz 0).toBool then
    (C qN []).bind fun iS=>
    some [.bool ((V.nth iS 0).toBool)]
    else
    some [.bool false]
   else
    some [.bool false]
  else
   (C uf [.int .i64 af,.int .i64 aq,.list aa ae,.str w]).bind fun jJ=>
   (C ug [.int .i64 af,.int .i64 aq,.list aa ae,.str w]).bind fun kX=>
   bif (((V.nth (jJ.drop 3) 0).toInt):Int)==((V.nth (kX.drop 3) 0).toInt) then
   (C sb [.int .i64 ((V.nth jJ 0).toInt),.int .i64 ((V.nth (jJ.drop 1) 0).toInt),.list aa ((V.nth ((jJ.drop 1).drop 1) 0).toList),.int .i64 ((V.nth kX 0).toInt),.int .i64 ((V.nth (kX.drop 1) 0).toInt),.list aa ((V.nth ((kX.drop 1).drop 1) 0).toList)]).bind fun dt=>
   bif (V.nth dt 0).toBool then
    (C qN []).bind fun iU=>
    some [.bool ((V.nth iU 0).toBool)]
   else
    some [.bool false]
   else
   some [.bool false]
 else
  (C uf [.int .i64 af,.int .i64 aq,.list aa ae,.str w]).bind fun c9=>
  (C ug [.int .i64 af,.int .i64 aq,.list aa ae,.str w]).bind fun fx=>
  bif (((V.nth (c9.drop 3) 0).toInt):Int)==((V.nth (fx.drop 3) 0).toInt) then
  (C sb [.int .i64 ((V.nth c9 0).toInt),.int .i64 ((V.nth (c9.drop 1) 0).toInt),.list aa ((V.nth ((c9.drop 1).drop 1) 0).toList),.int .i64 ((V.nth fx 0).toInt),.int .i64 ((V.nth (fx.drop 1) 0).toInt),.list aa ((V.nth ((fx.drop 1).drop 1) 0).toList)]).bind fun mG=>
  bif (V.nth mG 0).toBool then
   (C qN []).bind fun gC=>
   some [.bool ((V.nth gC 0).toBool)]
  else
   some [.bool false]
  else
  some [.bool false]
theorem aiE {af aq:Int} {ae:List V} {w:List UInt8} {r:Option (List V)} (h:Wb CC af aq ae w=r):CC Jc [.int .i64 af,.int .i64 aq,.list aa ae,.str w]=r:=
 a9 (key:=7) (L:=cm) (bs:=[]) (by kernel_rfl) ax (aZ (by kernel_rfl) h)
end Go.AM
set_option maxRecDepth 100000
namespace Go.AM
open Go.Proofs Ex
theorem Wg (e:Ex) (h:e.Ok) (w:List UInt8):CC Jc (bH e [.str w])=some [.bool true]:=by
 refine aiE ?_
 unfold Wb
 have hk:=agI e w
 have hs:=agR hk hk
 refine bs (acX e h) ?_
 by_cases hv:e.val 6=0
 ·refine bT (dj hv) (bs (ac2 e h (lM hv).2.1) ?_)
  rw[V.aW,V.toInt_int,az,az]
  by_cases h1:(e.size:Int)>20
  ·rw[aj h1]
   refine bs (L3 w 6) ?_
   by_cases hw:oR w 6
   ·exact bT (dj hw) (bs yv rfl)
   ·refine bF (cr hw) ?_
    exact bs (Gh e h w) (bs (Gv e h w) (bT (sX _) (bs hs (bT (dj rfl) (bs yv rfl)))))
  ·rw[ai h1]
   by_cases U:(w.length:Int)>4
   ·rw[aj U]
    refine bs (L3 w 6) ?_
    by_cases hw:oR w 6
    ·exact bT (dj hw) (bs yv rfl)
    ·refine bF (cr hw) ?_
     exact bs (Gh e h w) (bs (Gv e h w) (bT (sX _) (bs hs (bT (dj rfl) (bs yv rfl)))))
   ·rw[ai U]
    exact bs (Gh e h w) (bs (Gv e h w) (bT (sX _) (bs hs (bT (dj rfl) (bs yv rfl)))))
 ·refine bF (cr hv) ?_
  exact bs (Gh e h w) (bs (Gv e h w) (bT (sX _) (bs hs (bT (dj rfl) (bs yv rfl)))))
end Go.AM
