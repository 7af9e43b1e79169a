/-
  Functions of the program, lifted to plain data.
-/
import Derived.Test.YtppefogdkedaiaaP5
set_option linter.unusedVariables false
set_option linter.unusedSimpArgs false
set_option maxRecDepth 100000
namespace Go.AM
open Go.Proofs
noncomputable abbrev FP:Code:=cJ Try.prog (ax.aV 70)
noncomputable def ya (C:ag) (t20:List V) (t21 lI:Int) (lJ:Bool) (kS kT qV qW:Int) (qX:Bool) (ig eE:List V) (sI:Bool) (t22:Int) (lK fq:List V) {β:Type} (kn:(Bool × Int × (List V) × (List V))→Option β) (kr:(Bool × Int × Bool × (List V) × (List V))→Option β):Option β:=
 bif decide ((t22:Int)<t21) then
  (idx t20 t22).bind fun x1=>
  bif !sI then
  (C z7 [.int .i64 lI,.bool lJ,.int .i64 ((x1.cell 0).toInt),.int .i64 ((x1.cell 1).toInt),.list aa ((x1.cell 2).toList)]).bind fun r2=>
  bif (decide (0≤t22))&&(decide (t22<(fq.length:Int))) then
   (fq[(t22:Int).toNat]?).bind fun x3=>
   kn (sI,IntKind.wrap .i64 (t22+1),lK,fq.set ((t22:Int).toNat) (.agg [.int .i64 ((V.nth r2 0).toInt),.int .i64 ((V.nth (r2.drop 1) 0).toInt),.list aa ((V.nth ((r2.drop 1).drop 1) 0).toList)]))
  else none
  else
  (C oz [.int .i64 lI,.bool lJ,.int .i64 ((x1.cell 0).toInt),.int .i64 ((x1.cell 1).toInt),.list aa ((x1.cell 2).toList)]).bind fun r4=>
  bif Nat.ble ((lK.length+([.agg [.int .i64 ((V.nth r4 0).toInt),.int .i64 ((V.nth (r4.drop 1) 0).toInt),.list aa ((V.nth ((r4.drop 1).drop 1) 0).toList)]]:List V).length)*40) cI then
   bif (decide (0≤t22))&&(decide (t22<(fq.length:Int))) then
   (fq[(t22:Int).toNat]?).bind fun x5=>
   kn ((V.nth ((((((r4.drop 1).drop 1).drop 1).drop 1).drop 1).drop 1) 0).toBool,IntKind.wrap .i64 (t22+1),lK++([.agg [.int .i64 ((V.nth r4 0).toInt),.int .i64 ((V.nth (r4.drop 1) 0).toInt),.list aa ((V.nth ((r4.drop 1).drop 1) 0).toList)]]:List V),fq.set ((t22:Int).toNat) (.agg [.int .i64 ((V.nth (((r4.drop 1).drop 1).drop 1) 0).toInt),.int .i64 ((V.nth ((((r4.drop 1).drop 1).drop 1).drop 1) 0).toInt),.list aa ((V.nth (((((r4.drop 1).drop 1).drop 1).drop 1).drop 1) 0).toList)]))
   else none
  else none
 else
  kr (sI,t22,decide ((t22:Int)<t21),lK,fq)
noncomputable def Bs (C:ag) (t20:List V) (t21 lI:Int) (lJ:Bool) (kS kT qV qW:Int) (qX:Bool) (ig eE:List V):(Bool × Int × (List V) × (List V))→Option ((Bool × Int × (List V) × (List V)) ⊕ (Bool × Int × Bool × (List V) × (List V))):=un fun sI=>un fun t22=>un fun lK fq=>ya C t20 t21 lI lJ kS kT qV qW qX ig eE sI t22 lK fq (fun y=>some (.inl y)) (fun r=>some (.inr r))
noncomputable def Bt (C:ag) (sI:Bool) (t55 kS kT qV qW:Int) (qX:Bool) (fq FQ ig eE:List V) (t56:Int) (gq:List V) {β:Type} (kn:(Int × (List V))→Option β) (kr:(Int × Bool × (List V))→Option β):Option β:=
 bif decide ((t56:Int)<t55) then
  bif (decide (0≤t56))&&(decide (t56<(FQ.length:Int))) then
  (FQ[(t56:Int).toNat]?).bind fun eC=>
  bif (((eC.cell 0).toInt):Int)==1 then
   bif (decide (0≤t56))&&(decide (t56<(gq.length:Int))) then
   (gq[(t56:Int).toNat]?).bind fun xk=>
   kn (IntKind.wrap .i64 (t56+1),gq.set ((t56:Int).toNat) (.agg [.int .i64 ((eC.cell 0).toInt),.int .i64 ((eC.cell 1).toInt),.list aa ((eC.cell 2).toList)]))
   else none
  else
   bif (decide (0≤(IntKind.wrap .i64 (t56+1))))&&(decide ((IntKind.wrap .i64 (t56+1))≤(fq.length:Int))) then
   bif Nat.ble ((([.agg [.int .i64 ((eC.cell 0).toInt),.int .i64 ((eC.cell 1).toInt),.list aa ((eC.cell 2).toList)]]:List V).length+((fq.drop ((IntKind.wrap .i64 (t56+1):Int).toNat)).take (fq.length-((IntKind.wrap .i64 (t56+1):Int).toNat))).length)*40) cI then
    (C ka [.int .i64 5,.list aa (([.agg [.int .i64 ((eC.cell 0).toInt),.int .i64 ((eC.cell 1).toInt),.list aa ((eC.cell 2).toList)]]:List V)++((fq.drop ((IntKind.wrap .i64 (t56+1):Int).toNat)).take (fq.length-((IntKind.wrap .i64 (t56+1):Int).toNat))))]).bind fun gp=>
    bif (decide (0≤t56))&&(decide (t56<(gq.length:Int))) then
    (gq[(t56:Int).toNat]?).bind fun nz=>
    kn (IntKind.wrap .i64 (t56+1),gq.set ((t56:Int).toNat) (.agg [.int .i64 ((V.nth gp 0).toInt),.int .i64 ((V.nth (gp.drop 1) 0).toInt),.list aa ((V.nth ((gp.drop 1).drop 1) 0).toList)]))
    else none
   else none
   else none
  else none
 else
  kr (t56,decide ((t56:Int)<t55),gq)
noncomputable def FR (C:ag) (sI:Bool) (t55 kS kT qV qW:Int) (qX:Bool) (fq FQ ig eE:List V):(Int × (List V))→Option ((Int × (List V)) ⊕ (Int × Bool × (List V))):=un fun t56 gq=>Bt C sI t55 kS kT qV qW qX fq FQ ig eE t56 gq (fun y=>some (.inl y)) (fun r=>some (.inr r))
noncomputable def Tk (C:ag):cz:=fun β n ds k=>
 bif Nat.beq n 81 then cf Jm [true,false,false,true,false,false,false,false,false,false,false,true,true,false,false] [[0,2,3,0,0,5,6,7,8,9,10,11,0,0,14,15]] (@ya C) ds k else
 bif Nat.beq n 225 then cf Jn [false,false,true,false,false,false,false,false,false,true,false,false,false] [[1,2,0,0,4,5,6,7,8,9,0,11,12,13]] (@Bt C) ds k else
 none
abbrev Tl (C:ag) (b:cv):Prop:=cw Try.prog ax C (Tk C) 70 (cM Try.prog (ax.aV 70)) (ax.sin 70).a8.length b
theorem afa (C:ag):Tl C (.loop (aw [1,1,1,1,0,1,0,0] FP)):=
 cm Jm [true,false,false,true,false,false,false,false,false,false,false,true,true,false,false] [[0,2,3,0,0,5,6,7,8,9,10,11,0,0,14,15]] (@ya C) (by kernel_rfl) (bf (bs:=[]) (by kernel_rfl) av) (fun ds=>by kernel_rfl) (fun i x=>by kernel_rfl) (fun i x β k=>by kernel_rfl) (fun β ds k=>by kernel_rfl)
theorem afb (C:ag):Tl C (.loop (aw [1,1,1,1,1,1,0,1,0,0] FP)):=
 cm Jn [false,false,true,false,false,false,false,false,false,true,false,false,false] [[1,2,0,0,4,5,6,7,8,9,0,11,12,13]] (@Bt C) (by kernel_rfl) (bf (bs:=[]) (by kernel_rfl) av) (fun ds=>by kernel_rfl) (fun i x=>by kernel_rfl) (fun i x β k=>by kernel_rfl) (fun β ds k=>by kernel_rfl)
noncomputable def Tm (C:ag) (cd:Int) (bS:Bool) (ai ar:Int) (af:List V):Option (List V):=
 bif (decide (0≤(af.length:Int)))&&((decide ((af.length:Int)≤(af.length:Int)))&&(Nat.ble ((((af.length:Int):Int).toNat)*40) cI)) then
  (Loop (Bs C af (af.length:Int) cd bS 0 0 0 0 false ([]:List V) ([]:List V)) (true,0,([]:List V),List.replicate (((af.length:Int):Int).toNat) (V.agg [.int .i64 0,.int .i64 0,.list aa ([]:List V)]))).bind (un fun (Tn:Bool)=>un fun (pr:Int)=>un fun (Qh:Bool)=>un fun (u0:List V) (To:List V)=>
   bif (decide (0≤(u0.length:Int)))&&((decide ((u0.length:Int)≤(u0.length:Int)))&&(Nat.ble ((((u0.length:Int):Int).toNat)*40) cI)) then
   (Loop (FR C Tn (u0.length:Int) 0 0 0 0 false To u0 ([]:List V) ([]:List V)) (0,List.replicate (((u0.length:Int):Int).toNat) (V.agg [.int .i64 0,.int .i64 0,.list aa ([]:List V)]))).bind (un fun (xd:Int)=>un fun (Kg:Bool) (afc:List V)=>
    (C ka [.int .i64 4,.list aa afc]).bind fun jI=>
    (C ka [.int .i64 5,.list aa To]).bind fun et=>
    some [.int .i64 ((V.nth jI 0).toInt),.int .i64 ((V.nth (jI.drop 1) 0).toInt),.list aa ((V.nth ((jI.drop 1).drop 1) 0).toList),.int .i64 ((V.nth et 0).toInt),.int .i64 ((V.nth (et.drop 1) 0).toInt),.list aa ((V.nth ((et.drop 1).drop 1) 0).toList),.bool Tn])
   else none)
 else none
theorem afd {cd:Int} {bS:Bool} {ai ar:Int} {af:List V} {r:Option (List V)} (h:Tm CC cd bS ai ar af=r):CC wR [.int .i64 cd,.bool bS,.int .i64 ai,.int .i64 ar,.list aa af]=r:=
 aY (key:=70) (L:=Tk CC) (bs:=[.loop (aw [1,1,1,1,0,1,0,0] FP),.loop (aw [1,1,1,1,1,1,0,1,0,0] FP)]) (by kernel_rfl) (bD (afa CC) (bD (afb CC) av)) (aW (by kernel_rfl) h)
noncomputable abbrev FT:Code:=cJ Try.prog (ax.aV 50)
noncomputable def FU (C:ag) (t24:Bool) (gn e8:Int) (ef:List V) (kS kT qV qW:Int) (qX:Bool) (afe Lk aff afg:Int) (ig eE gQ FV:List V) {β:Type} (kr:(Int × Int × (List V))→Option β):Option β:=
 bif t24 then
  kr (aff,afg,FV)
 else
  kr (afe,Lk,gQ)
noncomputable def Tp (C:ag):cz:=fun β n ds k=>
 bif Nat.beq n 399 then iK Jg [[2,3,4,5,6,7,8,9,0,0,14,15,0]] (@FU C) ds k else
 none
abbrev afh (C:ag) (b:cv):Prop:=cw Try.prog ax C (Tp C) 50 (cM Try.prog (ax.aV 50)) (ax.sin 50).a8.length b
theorem afi (C:ag):afh C (.cond 24 (aw [1,1,0,1,0,1,1,1,0,0,1,0] FT) (aw [1,1,0,1,0,1,1,1,0,0,1,1] FT)):=
 jf Jg [[2,3,4,5,6,7,8,9,0,0,14,15,0]] (@FU C) (by kernel_rfl) (bf (bs:=[]) (by kernel_rfl) av) (bf (bs:=[]) (by kernel_rfl) av) (fun ds=>by kernel_rfl) (fun i β k=>by kernel_rfl) (fun β ds k=>by kernel_rfl)
noncomputable def Tq (C:ag) (cd:Int) (bS:Bool) (ai ar:Int) (af:List V):Option (List V):=
 bif (ai:Int)==2 then
  some [.int .i64 1,.int .i64 0,.list aa ([]:List V),.int .i64 2,.int .i64 0,.list aa ([]:List V),.bool true]
 else
  bif (ai:Int)==3 then
  FU C ((ar:Int)==cd) ai ar af 0 0 0 0 false 1 0 2 0 ([]:List V) ([]:List V) ([]:List V) ([]:List V) (un fun (Lk:Int)=>un fun (afj:Int) (FW:List V)=>
   some [.int .i64 Lk,.int .i64 afj,.list aa FW,.int .i64 3,.int .i64 ar,.list aa ([]:List V),.bool false])
  else
  bif (ai:Int)==4 then
   bif (ai:Int)==4 then
   (C wQ [.int .i64 cd,.bool bS,.int .i64 ai,.int .i64 ar,.list aa af]).bind fun r4=>
   some [.int .i64 ((V.nth r4 0).toInt),.int .i64 ((V.nth (r4.drop 1) 0).toInt),.list aa ((V.nth ((r4.drop 1).drop 1) 0).toList),.int .i64 ((V.nth (((r4.drop 1).drop 1).drop 1) 0).toInt),.int .i64 ((V.nth ((((r4.drop 1).drop 1).drop 1).drop 1) 0).toInt),.list aa ((V.nth (((((r4.drop 1).drop 1).drop 1).drop 1).drop 1) 0).toList),.bool ((V.nth ((((((r4.drop 1).drop 1).drop 1).drop 1).drop 1).drop 1) 0).toBool)]
   else
   bif (ai:Int)==7 then
    (af[0]?).bind fun x5=>
    (C oz [.int .i64 cd,.bool bS,.int .i64 ((x5.cell 0).toInt),.int .i64 ((x5.cell 1).toInt),.list aa ((x5.cell 2).toList)]).bind fun r6=>
    (C ka [.int .i64 7,.list aa ([.agg [.int .i64 ((V.nth (((r6.drop 1).drop 1).drop 1) 0).toInt),.int .i64 ((V.nth ((((r6.drop 1).drop 1).drop 1).drop 1) 0).toInt),.list aa ((V.nth (((((r6.drop 1).drop 1).drop 1).drop 1).drop 1) 0).toList)]]:List V)]).bind fun r7=>
    (C ka [.int .i64 5,.list aa ([.agg [.int .i64 ((V.nth r6 0).toInt),.int .i64 ((V.nth (r6.drop 1) 0).toInt),.list aa ((V.nth ((r6.drop 1).drop 1) 0).toList)],.agg [.int .i64 ((V.nth r7 0).toInt),.int .i64 ((V.nth (r7.drop 1) 0).toInt),.list aa ((V.nth ((r7.drop 1).drop 1) 0).toList)]]:List V)]).bind fun r8=>
    some [.int .i64 ((V.nth r8 0).toInt),.int .i64 ((V.nth (r8.drop 1) 0).toInt),.list aa ((V.nth ((r8.drop 1).drop 1) 0).toList),.int .i64 ((V.nth r7 0).toInt),.int .i64 ((V.nth (r7.drop 1) 0).toInt),.list aa ((V.nth ((r7.drop 1).drop 1) 0).toList),.bool true]
   else
    bif (ai:Int)==5 then
    (C wR [.int .i64 cd,.bool bS,.int .i64 ai,.int .i64 ar,.list aa af]).bind fun r9=>
    some [.int .i64 ((V.nth r9 0).toInt),.int .i64 ((V.nth (r9.drop 1) 0).toInt),.list aa ((V.nth ((r9.drop 1).drop 1) 0).toList),.int .i64 ((V.nth (((r9.drop 1).drop 1).drop 1) 0).toInt),.int .i64 ((V.nth ((((r9.drop 1).drop 1).drop 1).drop 1) 0).toInt),.list aa ((V.nth (((((r9.drop 1).drop 1).drop 1).drop 1).drop 1) 0).toList),.bool ((V.nth ((((((r9.drop 1).drop 1).drop 1).drop 1).drop 1).drop 1) 0).toBool)]
    else
    some [.int .i64 1,.int .i64 0,.list aa ([]:List V),.int .i64 1,.int .i64 0,.list aa ([]:List V),.bool false]
  else
   bif (ai:Int)==6 then
   bif (ai:Int)==6 then
    (C wQ [.int .i64 cd,.bool bS,.int .i64 ai,.int .i64 ar,.list aa af]).bind fun dW=>
    some [.int .i64 ((V.nth dW 0).toInt),.int .i64 ((V.nth (dW.drop 1) 0).toInt),.list aa ((V.nth ((dW.drop 1).drop 1) 0).toList),.int .i64 ((V.nth (((dW.drop 1).drop 1).drop 1) 0).toInt),.int .i64 ((V.nth ((((dW.drop 1).drop 1).drop 1).drop 1) 0).toInt),.list aa ((V.nth (((((dW.drop 1).drop 1).drop 1).drop 1).drop 1) 0).toList),.bool ((V.nth ((((((dW.drop 1).drop 1).drop 1).drop 1).drop 1).drop 1) 0).toBool)]
   else
    bif (ai:Int)==7 then
    (af[0]?).bind fun eC=>
    (C oz [.int .i64 cd,.bool bS,.int .i64 ((eC.cell 0).toInt),.int .i64 ((eC.cell 1).toInt),.list aa ((eC.cell 2).toList)]).bind fun fK=>
    (C ka [.int .i64 7,.list aa ([.agg [.int .i64 ((V.nth (((fK.drop 1).drop 1).drop 1) 0).toInt),.int .i64 ((V.nth ((((fK.drop 1).drop 1).drop 1).drop 1) 0).toInt),.list aa ((V.nth (((((fK.drop 1).drop 1).drop 1).drop 1).drop 1) 0).toList)]]:List V)]).bind fun gp=>
    (C ka [.int .i64 5,.list aa ([.agg [.int .i64 ((V.nth fK 0).toInt),.int .i64 ((V.nth (fK.drop 1) 0).toInt),.list aa ((V.nth ((fK.drop 1).drop 1) 0).toList)],.agg [.int .i64 ((V.nth gp 0).toInt),.int .i64 ((V.nth (gp.drop 1) 0).toInt),.list aa ((V.nth ((gp.drop 1).drop 1) 0).toList)]]:List V)]).bind fun kP=>
    some [.int .i64 ((V.nth kP 0).toInt),.int .i64 ((V.nth (kP.drop 1) 0).toInt),.list aa ((V.nth ((kP.drop 1).drop 1) 0).toList),.int .i64 ((V.nth gp 0).toInt),.int .i64 ((V.nth (gp.drop 1) 0).toInt),.list aa ((V.nth ((gp.drop 1).drop 1) 0).toList),.bool true]
    else
    bif (ai:Int)==5 then
     (C wR [.int .i64 cd,.bool bS,.int .i64 ai,.int .i64 ar,.list aa af]).bind fun lF=>
     some [.int .i64 ((V.nth lF 0).toInt),.int .i64 ((V.nth (lF.drop 1) 0).toInt),.list aa ((V.nth ((lF.drop 1).drop 1) 0).toList),.int .i64 ((V.nth (((lF.drop 1).drop 1).drop 1) 0).toInt),.int .i64 ((V.nth ((((lF.drop 1).drop 1).drop 1).drop 1) 0).toInt),.list aa ((V.nth (((((lF.drop 1).drop 1).drop 1).drop 1).drop 1) 0).toList),.bool ((V.nth ((((((lF.drop 1).drop 1).drop 1).drop 1).drop 1).drop 1) 0).toBool)]
    else
     some [.int .i64 1,.int .i64 0,.list aa ([]:List V),.int .i64 1,.int .i64 0,.list aa ([]:List V),.bool false]
   else
   bif (ai:Int)==8 then
    (C wQ [.int .i64 cd,.bool bS,.int .i64 ai,.int .i64 ar,.list aa af]).bind fun fa=>
    some [.int .i64 ((V.nth fa 0).toInt),.int .i64 ((V.nth (fa.drop 1) 0).toInt),.list aa ((V.nth ((fa.drop 1).drop 1) 0).toList),.int .i64 ((V.nth (((fa.drop 1).drop 1).drop 1) 0).toInt),.int .i64 ((V.nth ((((fa.drop 1).drop 1).drop 1).drop 1) 0).toInt),.list aa ((V.nth (((((fa.drop 1).drop 1).drop 1).drop 1).drop 1) 0).toList),.bool ((V.nth ((((((fa.drop 1).drop 1).drop 1).drop 1).drop 1).drop 1) 0).toBool)]
   else
    bif (ai:Int)==7 then
    (af[0]?).bind fun qO=>
    (C oz [.int .i64 cd,.bool bS,.int .i64 ((qO.cell 0).toInt),.int .i64 ((qO.cell 1).toInt),.list aa ((qO.cell 2).toList)]).bind fun jI=>
    (C ka [.int .i64 7,.list aa ([.agg [.int .i64 ((V.nth (((jI.drop 1).drop 1).drop 1) 0).toInt),.int .i64 ((V.nth ((((jI.drop 1).drop 1).drop 1).drop 1) 0).toInt),.list aa ((V.nth (((((jI.drop 1).drop 1).drop 1).drop 1).drop 1) 0).toList)]]:List V)]).bind fun et=>
    (C ka [.int .i64 5,.list aa ([.agg [.int .i64 ((V.nth jI 0).toInt),.int .i64 ((V.nth (jI.drop 1) 0).toInt),.list aa ((V.nth ((jI.drop 1).drop 1) 0).toList)],.agg [.int .i64 ((V.nth et 0).toInt),.int .i64 ((V.nth (et.drop 1) 0).toInt),.list aa ((V.nth ((et.drop 1).drop 1) 0).toList)]]:List V)]).bind fun jm=>
    some [.int .i64 ((V.nth jm 0).toInt),.int .i64 ((V.nth (jm.drop 1) 0).toInt),.list aa ((V.nth ((jm.drop 1).drop 1) 0).toList),.int .i64 ((V.nth et 0).toInt),.int .i64 ((V.nth (et.drop 1) 0).toInt),.list aa ((V.nth ((et.drop 1).drop 1) 0).toList),.bool true]
    else
    bif (ai:Int)==5 then
     (C wR [.int .i64 cd,.bool bS,.int .i64 ai,.int .i64 ar,.list aa af]).bind fun oI=>
     some [.int .i64 ((V.nth oI 0).toInt),.int .i64 ((V.nth (oI.drop 1) 0).toInt),.list aa ((V.nth ((oI.drop 1).drop 1) 0).toList),.int .i64 ((V.nth (((oI.drop 1).drop 1).drop 1) 0).toInt),.int .i64 ((V.nth ((((oI.drop 1).drop 1).drop 1).drop 1) 0).toInt),.list aa ((V.nth (((((oI.drop 1).drop 1).drop 1).drop 1).drop 1) 0).toList),.bool ((V.nth ((((((oI.drop 1).drop 1).drop 1).drop 1).drop 1).drop 1) 0).toBool)]
    else
     some [.int .i64 1,.int .i64 0,.list aa ([]:List V),.int .i64 1,.int .i64 0,.list aa ([]:List V),.bool false]
theorem afk {cd:Int} {bS:Bool} {ai ar:Int} {af:List V} {r:Option (List V)} (h:Tq CC cd bS ai ar af=r):CC oz [.int .i64 cd,.bool bS,.int .i64 ai,.int .i64 ar,.list aa af]=r:=
 aY (key:=50) (L:=Tp CC) (bs:=[.cond 24 (aw [1,1,0,1,0,1,1,1,0,0,1,0] FT) (aw [1,1,0,1,0,1,1,1,0,0,1,1] FT)]) (by kernel_rfl) (bD (afi CC) av) (aW (by kernel_rfl) h)
end Go.AM
set_option maxRecDepth 100000
namespace Go.AM
open Go.Proofs Ex
def qY (c:Int) (e:Ex):List V:=bM (aM (cl c e)) (bM (aM e) [.bool e.db])
theorem Ll {c:Int} {e:Ex} (hw:e.wf 6=true):(aM (cl c e)).size≤e.size*e.size:=
 lN (AJ _ (uZ e hw)) (Tf e 6 hw)
theorem FX {a m:Nat} (h:a≤m):a*a≤m*m:=Nat.mul_le_mul h h
theorem Tr {e:Ex} (hw:e.wf 6=true) (hs:e.size≤1000000):Gd 6 (aM e)∧(aM e).Ok∧(aM e).size≤e.size:=by
 have h1:=lD e hw
 have U:=AJ e hw
 exact ⟨h1,qN (by omega) _ h1.2 (by omega),U⟩
def mE (c:Int):List Ex→List Ex
 | []=>[]
 | k::ks=>aM (cl c k)::(if k.db=true then mE c ks else [])
def Bu (ss:List Ex):Nat→List Ex→List Ex
 | _,[]=>[]
 | i,d::ds=>(if d.op=1 then d else dC 5 0 (d::ss.drop (i+1)))::Bu ss (i+1) ds
theorem Ts {c:Int}: ∀(ks pre:List Ex),Bu ((pre++ks).map aM) pre.length (mE c ks)=sH c ks
 | [],pre=>rfl
 | k::ks,pre=>by
  have ih:=Ts (c:=c) ks (pre++[k])
  have e1:((pre++k::ks).map aM).drop (pre.length+1)=ks.map aM:=by
   rw[gf,cQ,show pre.length+1=(pre.map aM++[aM k]).length by simp,show pre.map aM++aM k::ks.map aM=(pre.map aM++[aM k])++ks.map aM by simp,List.drop_left]
  unfold mE sH Bu FN
  rw[e1]
  refine congrArg _ ?_
  split
  ·rw[←ih];simp
  ·rfl
theorem Tt {c:Int}: ∀ks:List Ex,(mE c ks).length≤ks.length
 | []=>ch _
 | k::ks=>by
  have:=Tt (c:=c) ks
  unfold mE
  split<;>simp<;>omega
theorem Tu {c:Int}: ∀{ks:List Ex} {d:Ex},d∈mE c ks→∃k∈ks,d=aM (cl c k)
 | k::ks,d,h=>by
  unfold mE at h
  rcases dg.1 h with rfl|h
  ·exact ⟨k,by simp,rfl⟩
  ·split at h
   ·obtain ⟨x,hx,e⟩:=Tu h
    exact ⟨x,by simp[hx],e⟩
   ·cases h
theorem Lm: ∀{ks:List Ex},(∀k∈ks,k.wf 6=true)→aL (ks.map aM)≤aL ks
 | [],_=>by simp[aL]
 | k::ks,h=>by
  have a:=AJ k (h k (by simp))
  have b:=Lm (ks:=ks) fun k hk=>h k (by simp[hk])
  simp only[cQ,aL];omega
theorem Ln {ks:List Ex} {f:Ex→Ex} (h: ∀k∈ks,Gd 6 (f k)∧(f k).Ok):(∀k∈ks.map f,Gd 6 k)∧∀k∈ks.map f,k.Ok:=
 ⟨fun x hx=>by obtain ⟨k,hk,rfl⟩:=gz.1 hx;exact (h k hk).1,fun x hx=>by obtain ⟨k,hk,rfl⟩:=gz.1 hx;exact (h k hk).2⟩
def kU (ks:List Ex):Nat:=(ks.filter Ex.db).length
section
variable {c:Int} {nm:Bool} {ks:List Ex}
variable (hn:ks.length≤1000) (ih: ∀k∈ks,CC oz (.int .i64 c:: .bool nm::bM k [])=some (qY c k))
include hn ih
theorem afl {a b c1 c2 c3 c4:Int} {b1:Bool} {l1 l2 l3:List V}: ∀(aI pre:List Ex),ks=pre++aI→
  Loop (FO CC (ks.map enc) (ks.length:Int) c nm a b l1 c1 c2 c3 c4 b1 l2 l3) (((kU pre:Nat):Int),((pre.length:Nat):Int),(pre.map fun k=>aM (cl c k)).map enc++List.replicate aI.length zE,(pre.map aM).map enc++List.replicate aI.length zE)
   = some (((kU ks:Nat):Int),(ks.length:Int),false,(ks.map fun k=>aM (cl c k)).map enc,(ks.map aM).map enc):=by
 intro aI
 induction aI with
 | nil=>
  intro pre e
  rw[dJ] at e
  subst e
  refine bc ?_
  simp only[FO,Bq,un]
  rw[aA,ah (by omega),bL (by omega)]
  simp
 | cons k aI fE=>
  intro pre e
  have bZ:pre.length<ks.length:=by rw[e];simp
  have bY:idx (ks.map enc) (pre.length:Int)=some k.enc:=by rw[e];exact jh _ _ _
  refine (bV ?_).trans (fE (pre++[k]) (by simp[e]))
  simp only[FO,Bq,un]
  refine bT (oK bZ) (bs bY ?_)
  rw[bh,bj,bm]
  refine bs (ih k (by rw[e];simp)) ?_
  refine (sF (by simp)).trans ?_
  refine (sF (by simp)).trans ?_
  rw[Int.toNat_natCast]
  have hc:kU (pre++[k])=kU pre+(if k.db=true then 1 else 0):=by
   unfold kU
   rw[mN,cx]
   cases hk:k.db<;>simp[hk]
  have kH:kU pre≤pre.length:=sV _ _
  have vC:pre.length=((pre.map fun k=>aM (cl c k)).map enc).length:=by simp
  have jP:pre.length=((pre.map aM).map enc).length:=by simp
  rw[List.length_cons,sG vC,sG jP]
  cases hk:k.db with
  | true=>
   refine bT hk ?_
   rw[pE (by omega),pE (by omega),hc,hk]
   simp only[dj,gf,cQ,gA,cx,List.length_cons,List.length_nil]
   rw[eF (aM (cl c k)),eF (aM k)]
   rfl
  | false=>
   refine bF hk ?_
   rw[pE (by omega),hc,hk]
   simp only[ah Bool.false_ne_true,gf,cQ,gA,cx,List.length_cons,List.length_nil]
   rw[eF (aM (cl c k)),eF (aM k)]
   rfl
theorem afm {c1 c2 c3 c4:Int} {b1:Bool} {l1 l2:List V} (hs: ∀k∈ks,CC z7 (.int .i64 c:: .bool nm::bM k [])=some (ib (aM k))): ∀(aI pre B:List Ex) (b:Bool),ks=pre++aI→B.length≤pre.length→
  Loop (Bs CC (ks.map enc) (ks.length:Int) c nm c1 c2 c3 c4 b1 l1 l2) (b,((pre.length:Nat):Int),B.map enc,(pre.map aM).map enc++List.replicate aI.length zE)
   = some (b&&aI.all Ex.db,(ks.length:Int),false,(B++(if b=true then mE c aI else [])).map enc,(ks.map aM).map enc):=by
 intro aI
 induction aI with
 | nil=>
  intro pre B b e hB
  rw[dJ] at e
  subst e
  refine bc ?_
  simp only[Bs,ya,un]
  rw[aA,ah (by omega),bL (by omega)]
  simp[mE]
 | cons k aI fE=>
  intro pre B b e hB
  have bZ:pre.length<ks.length:=by rw[e];simp
  have bY:idx (ks.map enc) (pre.length:Int)=some k.enc:=by rw[e];exact jh _ _ _
  have jP:pre.length=((pre.map aM).map enc).length:=by simp
  cases b with
  | false=>
   refine (bV ?_).trans (fE (pre++[k]) B false (by simp[e]) (by simp;omega))
   simp only[Bs,ya,un]
   refine bT (oK bZ) (bs bY (bT rfl ?_))
   rw[bh,bj,bm]
   refine bs (hs k (by rw[e];simp)) ?_
   refine (sF (by simp)).trans ?_
   rw[Int.toNat_natCast,List.length_cons,sG jP,pE (by omega)]
   simp only[gf,cQ,gA,cx,List.length_cons,List.length_nil]
   rw[eF (aM k)]
   rfl
  | true=>
   refine ((bV ?_).trans (fE (pre++[k]) (B++[aM (cl c k)]) k.db (by simp[e]) (by simp;omega))).trans ?_
   ·simp only[Bs,ya,un]
    refine bT (oK bZ) (bs bY (bF rfl ?_))
    rw[bh,bj,bm]
    refine bs (ih k (by rw[e];simp)) ?_
    refine bT (Lg (by simp;omega)) ?_
    refine (sF (by simp)).trans ?_
    rw[Int.toNat_natCast,List.length_cons,sG jP,pE (by omega)]
    simp only[gf,cQ,gA,cx,List.length_cons,List.length_nil]
    rw[eF (aM k),eF (aM (cl c k))]
    rfl
   ·simp only[mL,List.all_cons,dj]
    rw[show mE c (k::aI)=aM (cl c k)::(if k.db=true then mE c aI else []) from rfl,cr]
    rfl
end
theorem afn {ss D:List Ex} {b b1:Bool} {c1 c2 c3 c4:Int} {l1 l2:List V} (hD:D.length≤ss.length) (hss:ss.length≤1000) (hd: ∀d∈D,Gd 6 d∧d.Ok∧d.size≤500000) (hsg: ∀k∈ss,Gd 6 k∧k.Ok) (aU:aL ss≤500000): ∀(aI pre P:List Ex),D=pre++aI→P.length=pre.length→
  Loop (FR CC b (D.length:Int) c1 c2 c3 c4 b1 (ss.map enc) (D.map enc) l1 l2) (((pre.length:Nat):Int),P.map enc++List.replicate aI.length zE)
   = some ((D.length:Int),false,(P++Bu ss pre.length aI).map enc):=by
 intro aI
 induction aI with
 | nil=>
  intro pre P e hP
  rw[dJ] at e
  subst e
  refine bc ?_
  simp only[FR,Bt,un]
  rw[aA,ah (by omega),bL (by omega)]
  simp[Bu]
 | cons d aI fE=>
  intro pre P e hP
  have bZ:pre.length<D.length:=by rw[e];simp
  have hm:d∈D:=by rw[e];simp
  have bY:(D.map enc)[pre.length]? =some d.enc:=by rw[e];simp
  have jP:pre.length=(P.map enc).length:=by simp[hP]
  refine ((bV ?_).trans (fE (pre++[d]) (P++[if d.op=1 then d else dC 5 0 (d::ss.drop (pre.length+1))]) (by simp[e]) (by simp[hP]))).trans ?_
  ·simp only[FR,Bt,un]
   refine bT (oK bZ) ?_
   refine (sE bY).trans ?_
   rw[bh,bj,bm,eL]
   by_cases h1:d.op=1
   ·rw[aj h1,aj h1]
    refine (sF jP).trans ?_
    rw[Int.toNat_natCast,List.length_cons,sG jP,pE (by omega)]
    simp only[gf,cQ,gA,cx,List.length_cons,List.length_nil]
    rw[eF d]
   ·rw[ah h1,ah h1,pE (by omega),Int.toNat_natCast,a9]
    refine bT (vg.2 ⟨cZ (by omega),cZ (by omega)⟩) ?_
    have ht:((ss.map enc).drop (pre.length+1)).take (ss.length-(pre.length+1))=(ss.drop (pre.length+1)).map enc:=by
     rw[←List.map_drop,List.take_of_length_le (by simp)]
    rw[ht]
    refine bT (Lg (by simp;omega)) ?_
    have hg: ∀k∈d::ss.drop (pre.length+1),Gd 6 k∧k.Ok:=fun k hk=>by
     rcases dg.1 hk with rfl|hk
     ·exact ⟨(hd _ hm).1,(hd _ hm).2.1⟩
     ·exact hsg k (List.mem_of_mem_drop hk)
    have hz:aL (d::ss.drop (pre.length+1))≤1000000:=by
     have h1:=(hd d hm).2.2
     have U:=Fb (ss.take (pre.length+1)) (ss.drop (pre.length+1))
     rw[Cd] at U
     simp only[aL];omega
    rw[Ld,←gf]
    refine bs (qU (o:=5) (fun k hk=>(hg k hk).1) (fun k hk=>(hg k hk).2) hz (by omega)) ?_
    refine (sF jP).trans ?_
    rw[Int.toNat_natCast,List.length_cons,sG jP]
    simp only[gf,cQ,gA,cx,List.length_cons,List.length_nil]
    rw[eF (dC 5 0 (d::ss.drop (pre.length+1)))]
    rfl
  ·rw[cx,cr]
   rfl
theorem Tv: ∀ks:List Ex,oC ks=ks.all Ex.db
 | []=>rfl
 | k::ks=>by simp[oC,Tv ks]
theorem Tw: ∀ks:List Ex,mw ks=decide ((kU ks:Int)>0)
 | []=>by simp[mw,kU]
 | k::ks=>by
  have:=Tw ks
  unfold kU at*
  cases hk:k.db
  ·simp[mw,hk,this]
  ·simp[mw,hk]
theorem Tx: ∀ks:List Ex,oC ks=((kU ks:Int)==(ks.length:Int))
 | []=>by simp[oC,kU]
 | k::ks=>by
  have h:=Tx ks
  have hl:kU ks≤ks.length:=sV _ _
  unfold kU at*
  rw[oC,h,nS]
  cases hk:k.db
  ·simp[hk];omega
  ·simp[hk]
theorem afo {c:Int} {nm:Bool}: ∀e:Ex,e.wf 6=true→e.size≤400→(nm=true→Gd 6 e)→CC oz (.int .i64 c:: .bool nm::bM e [])=some (qY c e):=
 ind fun o l ks ih hw hs kY=>by
  obtain ⟨h1,U⟩:=hZ hw
  have hl:=pw ks
  have Tz:aL ks≤399:=by simp only[size] at hs;omega
  have FY: ∀k∈ks,k.size≤399:=fun k hk=>lN (Ax hk) Tz
  have kG: ∀k∈ks,CC oz (.int .i64 c:: .bool nm::bM k [])=some (qY c k):=fun k hk=>ih k hk (U k hk) (by have:=FY k hk;omega) fun h=>(kY h).kids k hk
  have hsm: ∀k∈ks,CC z7 (.int .i64 c:: .bool nm::bM k [])=some (ib (aM k)):=fun k hk=>by
   refine ae4 ?_
   unfold Tg
   cases nm with
   | true=>refine bT rfl ?_;rw[KF k ((kY rfl).kids k hk)];rfl
   | false=>
    refine bF rfl ?_
    have:=FY k hk
    exact bs (S8 (n:=6) (by omega) k (U k hk) (by omega)) rfl
  have dF: ∀k∈ks,(aM (cl c k)).size≤160000:=fun k hk=>by
   have a:=Ll (c:=c) (U k hk)
   have b:=FX (FY k hk)
   omega
  have Bv: ∀k∈ks,Gd 6 (aM (cl c k))∧(aM (cl c k)).Ok:=fun k hk=>by
   have a:=lD _ (uZ (c:=c) k (U k hk))
   have b:=dF k hk
   exact ⟨a,qN (by omega) _ a.2 (by omega)⟩
  have FZ: ∀k∈ks,Gd 6 (aM k)∧(aM k).Ok:=fun k hk=>by
   have a:=Tr (U k hk) (by have:=FY k hk;omega)
   exact ⟨a.1,a.2.1⟩
  have hnz:=Lm U
  have hbz:aL (ks.map fun k=>aM (cl c k))≤160000:=by
   have a:=Lh (f:=fun k=>aM (cl c k)) fun k hk=>Ll (c:=c) (U k hk)
   have b:=FX Tz
   omega
  have Lo:(o=4∨o=6∨o=8)→CC wQ (.int .i64 c:: .bool nm::bM (.node o l ks) [])=some (qY c (.node o l ks)):=fun ho=>by
   obtain ⟨a1,a2⟩:=Ln Bv
   obtain ⟨b1,b2⟩:=Ln FZ
   have jw:l=0:=by rcases eQ h1 with h|h<;>omega
   refine ae9 ?_
   unfold Tj
   simp only[Ex.op,Ex.kids,Ex.cO,a9]
   refine bT (FK (by omega)) (bT (FK (by omega)) ?_)
   have Lp:=afl (ks:=ks) (nm:=nm) (c:=c) (by omega) kG (a:=o) (b:=l) (c1:=0) (c2:=0) (c3:=0) (c4:=0) (b1:=false) (l1:=ks.map enc) (l2:=[]) (l3:=[]) ks [] rfl
   rw[Int.toNat_natCast]
   refine bs Lp ?_
   unfold qY
   rw[ae0 ho,my,jw]
   rcases ho with rfl|rfl|rfl
   ·refine bs (qU a1 a2 (by omega) (.inl rfl)) ?_
    refine bs (qU b1 b2 (by omega) (.inl rfl)) ?_
    refine bT rfl ?_
    rw[←Tw]
    rfl
   ·refine bs (qU a1 a2 (by omega) (.inr (.inr rfl))) ?_
    refine bs (qU b1 b2 (by omega) (.inr (.inr rfl))) ?_
    refine bF rfl (bT rfl ?_)
    rw[←Tx]
    rfl
   ·obtain ⟨k,rfl⟩:=yB.1 (show ks.length=1 by rcases eQ h1 with h|h<;>omega)
    refine bs (FJ (Bv k (by simp)).1 (.inr rfl)) ?_
    refine bs (FJ (FZ k (by simp)).1 (.inr rfl)) ?_
    refine bF rfl (bF rfl (bT rfl ?_))
    refine congrArg some ?_
    have:(((kU [k]:Nat):Int)==0)=(Ex.node 8 0 [k]).db:=by
     simp only[Ex.db,kU]
     cases hk:k.db<;>simp[hk,mw]
    rw[this]
    rfl
  have afp:o=5→CC wR (.int .i64 c:: .bool nm::bM (.node o l ks) [])=some (qY c (.node o l ks)):=fun ho=>by
   subst ho
   have bu:ks≠[]:=by rintro rfl;rcases eQ h1 with h|h<;>simp at h<;>omega
   have jw:l=0:=by rcases eQ h1 with h|h<;>omega
   obtain ⟨b1,b2⟩:=Ln FZ
   have hD:=Tt (c:=c) ks
   refine afd ?_
   unfold Tm
   simp only[Ex.op,Ex.kids,Ex.cO,a9]
   refine bT (FK (by omega)) ?_
   rw[Int.toNat_natCast]
   have Lp:=afm (ks:=ks) (nm:=nm) (c:=c) (by omega) kG (c1:=0) (c2:=0) (c3:=0) (c4:=0) (b1:=false) (l1:=[]) (l2:=[]) hsm ks [] [] true rfl (ch _)
   refine bs Lp ?_
   simp only[un,List.nil_append,dj,mL,a9]
   refine bT (FK (by omega)) ?_
   rw[Int.toNat_natCast]
   have bZ:=afn (ss:=ks.map aM) (D:=mE c ks) (b:=ks.all Ex.db) (c1:=0) (c2:=0) (c3:=0) (c4:=0) (b1:=false) (l1:=[]) (l2:=[]) (by simp;omega) (by simp;omega) (fun d hd=>by
    obtain ⟨k,hk,rfl⟩:=Tu hd
    have:=dF k hk
    exact ⟨(Bv k hk).1,(Bv k hk).2,by omega⟩) (fun k hk=>⟨b1 k hk,b2 k hk⟩) (by omega) (mE c ks) [] [] rfl rfl
   have he:=Ts (c:=c) ks []
   rw[List.nil_append] at he
   rw[List.length_nil] at bZ he
   rw[he] at bZ
   refine bs bZ ?_
   simp only[un,List.nil_append]
   have vH:=parts_eq (c:=c) U
   have TA:=FM (c:=c) U fun k hk=>uZ k (U k hk)
   have hcz:aL (iS c ks)≤160000:=by
    have a:=Li (c:=c) (ks:=ks) fun k hk=>Tf k 6 (U k hk)
    have b:=FX (show 1+aL ks≤400 by omega)
    omega
   have hpz:aL (sH c ks)≤160000:=by rw[vH];have:=Lm TA;omega
   have TB: ∀k∈sH c ks,Gd 6 k∧k.Ok:=fun k hk=>by
    have hz:=Ax hk
    rw[vH] at hk
    obtain ⟨x,hx,rfl⟩:=gz.1 hk
    have a:=lD x (TA x hx)
    exact ⟨a,qN (by omega) _ a.2 (by omega)⟩
   refine bs (qU (fun k hk=>(TB k hk).1) (fun k hk=>(TB k hk).2) (by omega) (.inl rfl)) ?_
   refine bs (qU b1 b2 (by omega) (.inr (.inl rfl))) ?_
   unfold qY
   rw[ae3 bu U,my,jw,←Tv]
   rfl
  refine afk ?_
  unfold Tq FU
  simp only[Ex.op,Ex.kids,Ex.cO]
  rcases eQ h1 with ⟨rfl,h⟩|⟨rfl,⟨rfl,h⟩|⟨rfl,h⟩|⟨rfl,h⟩|⟨rfl,h⟩|⟨rfl,h⟩|⟨rfl,h⟩|⟨rfl,h⟩⟩
  ·obtain rfl:=pP.1 (show ks.length=0 by omega)
   refine bF rfl (bT rfl ?_)
   unfold qY
   rw[xZ,aj rfl,my,lC (by omega)]
   rw[eL]
   by_cases wj:l=c
   ·rw[aj wj,aj wj];rfl
   ·rw[ah wj,ah wj];rfl
  ·obtain rfl:=pP.1 (show ks.length=0 by omega)
   rfl
  ·obtain rfl:=pP.1 (show ks.length=0 by omega)
   rfl
  ·exact bF rfl (bF rfl (bT rfl (bT rfl (bs (Lo (.inl rfl)) rfl))))
  ·refine bF rfl (bF rfl (bF rfl (bF rfl (bF rfl (bF rfl (bT rfl ?_))))))
   exact bs (afp rfl) rfl
  ·exact bF rfl (bF rfl (bF rfl (bT rfl (bT rfl (bs (Lo (.inr (.inl rfl))) rfl)))))
  ·obtain ⟨k,rfl⟩:=yB.1 (show ks.length=1 by omega)
   refine bF rfl (bF rfl (bF rfl (bF rfl (bF rfl (bT rfl ?_)))))
   refine bs (a:=k.enc) rfl ?_
   rw[bh,bj,bm]
   refine bs (kG k (by simp)) ?_
   have hk:=FZ k (by simp)
   have hb:=Bv k (by simp)
   have hj:=FJ hk.1 (o:=7) (.inl rfl)
   rw[cQ,gA,eF] at hj
   refine bs hj ?_
   have qk:dC 7 0 [aM k]=aM (.node 7 0 [k]):=by rw[my];rfl
   have Lq:=Tr hw (by omega)
   have hz2:=dF k (by simp)
   have fT:=qU (n:=6) (ks:=[aM (cl c k),aM (.node 7 0 [k])]) (o:=5) (fun x hx=>by
    rcases dg.1 hx with rfl|hx
    ·exact hb.1
    ·rw[dX.1 hx];exact Lq.1) (fun x hx=>by
    rcases dg.1 hx with rfl|hx
    ·exact hb.2
    ·rw[dX.1 hx];exact Lq.2.1) (by have:=Lq.2.2;simp only[aL];omega) (by omega)
   rw[cQ,cQ,gA,eF (aM (cl c k)),eF (aM (.node 7 0 [k])),←qk] at fT
   refine bs fT ?_
   unfold qY
   rw[ae1,←qk]
   rfl
  ·exact bF rfl (bF rfl (bF rfl (bF rfl (bT rfl (bs (Lo (.inr (.inr rfl))) rfl)))))
structure Dv where
 L:Int
 es:List Ex
 nx:List (List Int)
 dn:Int
deriving DecidableEq
def Dv.zero:Dv:=⟨0,[],[],0⟩
def qZ (e:Ex) (c:Nat):Option Ex:=if (aM (cl c e)).val 6=0 then some (aM (cl c e)) else none
def nG (e:Ex):Nat→Nat→List Ex→List Int→Option (List Ex × List Int)
 | 0,_,es,row=>some (es,row)
 | n+1,x,es,row=>(qZ e x).bind fun d=>
  if d∈es then nG e n (x+1) es (row++[(es.idxOf d:Int)])
  else if es.length=512 then none else nG e n (x+1) (es++[d]) (row++[(es.length:Int)])
def proc (s:Dv):Option Dv:=(nG (s.es.getD s.dn.toNat aJ) s.L.toNat 0 s.es []).map fun p=>⟨s.L,p.1,s.nx++[p.2],s.dn+1⟩
def ee:Nat→Dv→Option Dv
 | 0,s=>some s
 | n+1,s=>if s.dn<s.es.length then (proc s).bind (ee n) else some s
def nH:Nat→Dv→Option Dv
 | 0,s=>some s
 | n+1,s=>if s.dn<s.es.length then (proc s).bind (nH n) else none
def eV (e:Ex) (L:Int):Dv:=⟨L,[aM e],[],0⟩
def mF (d:Dv):Bool:=decide (d.es≠[]∧d.es.length≤512∧(d.es.getD 0 aJ).val d.L=0∧0≤d.dn∧nH d.dn.toNat (eV (d.es.getD 0 aJ) d.L)=some d)
def F0 (d:Dv) (b:Int):Dv × Int:=if mF d=true then (if b<0 then (.zero,1) else match ee b.toNat d with|none=>(.zero,3)|some t=>(t,0)) else (.zero,8)
theorem TC {L:Int} (h:L≤6): ∀e:Ex,e.wf L=true→e.wf 6=true:=ind fun o l ks ih hw=>by
 obtain ⟨h1,U⟩:=hZ hw
 refine uA ?_ fun k hk=>ih k hk (U k hk)
 unfold dB at h1⊢
 by_cases ho:o=3
 ·rw[aj ho] at h1⊢
  have:=gy h1
  exact cZ (by omega)
 ·rw[ah ho] at h1⊢;exact h1
theorem F1 {e:Ex} {L:Int} (h:e.val L=0):(1≤L∧L≤6)∧e.depth≤40∧e.size≤400∧e.wf L=true:=by
 unfold Ex.val at h
 repeat' split at h
 all_goals first|omega|skip
 next a b c=>exact ⟨a,b.1,b.2,c⟩
theorem val_mk {e:Ex} {L:Int} (h:(1≤L∧L≤6)∧e.depth≤40∧e.size≤400∧e.wf L=true):e.val L=0:=by
 unfold Ex.val
 rw[aj h.1,aj ⟨h.2.1,h.2.2.1⟩,aj h.2.2.2]
theorem u3 {e:Ex} {L:Int} (h:e.val L=0):e.val 6=0:=by
 obtain ⟨h1,U,h3,h4⟩:=F1 h
 exact val_mk ⟨by omega,U,h3,TC h1.2 e h4⟩
theorem F2 {e:Ex} {L:Int} (h:e.val L=0):(aM e).val L=0:=by
 obtain ⟨h1,U,h3,h4⟩:=F1 h
 have:=AJ e h4
 have:=aci e h4
 exact val_mk ⟨h1,by omega,by omega,(lD e h4).2⟩
def Nv (e:Ex):Prop:=Gd 6 e∧e.val 6=0
theorem Nv.aM {e:Ex} (h:Nv e):aM e=e:=KF e h.1
theorem TD {e d:Ex} {c:Nat} (he:Nv e) (h:qZ e c=some d):Nv d∧d=Go.AM.aM (cl c e):=by
 unfold qZ at h
 split at h
 ·next hv=>
  cases h
  exact ⟨⟨lD _ (uZ e he.1.2),hv⟩,rfl⟩
 ·cases h
structure Es (es:List Ex):Prop where
 le:es.length≤512
 nv: ∀e∈es,Nv e
 nd:es.Nodup
def pF (e:Ex) (es:List Ex) (n:Nat) (row:List Int):Prop:=row.length=n∧∀x,x<n→∃j:Nat,row.getD x 0=j∧j<es.length∧qZ e x=some (es.getD j aJ)
theorem pF.mono {e:Ex} {es t:List Ex} {n:Nat} {row:List Int} (h:pF e es n row):pF e (es++t) n row:=⟨h.1,fun x hx=>by
 obtain ⟨j,h1,U,h3⟩:=h.2 x hx
 refine ⟨j,h1,by rw[cx];omega,?_⟩
 rw[h3,gB,gB,ik U]⟩
theorem pF.snoc {e:Ex} {es:List Ex} {n j:Nat} {row:List Int} (h:pF e es n row) (h1:j<es.length) (U:qZ e n=some (es.getD j aJ)):pF e es (n+1) (row++[(j:Int)]):=by
 refine ⟨by rw[cx,h.1];rfl,fun x hx=> ?_⟩
 rcases oN x n with c|c
 ·obtain ⟨i,i1,i2,i3⟩:=h.2 x c
  refine ⟨i,?_,i2,i3⟩
  rw[←i1,gB,gB,ik (by rw[h.1];exact c)]
 ·obtain rfl:x=n:=by omega
  refine ⟨j,?_,h1,U⟩
  rw[gB,il (by rw[h.1];exact ch _),h.1]
  simp
theorem Es.snoc {es:List Ex} {d:Ex} (h:Es es) (hd:Nv d) (hn:d∉es) (hl:es.length≠512):Es (es++[d]):=by
 refine ⟨by have:=h.le;simp;omega,fun e he=> ?_,?_⟩
 ·rcases ei.1 he with he|he
  ·exact h.nv e he
  ·rw[dX.1 he];exact hd
 ·rw[Cf]
  refine ⟨h.nd,by simp,fun a ha b hb=> ?_⟩
  rw[dX.1 hb]
  rintro rfl
  exact hn ha
theorem afq {es:List Ex} {d:Ex} (h:d∈es):es.getD (es.idxOf d) aJ=d:=by
 have:=List.idxOf_lt_length_iff.2 h
 rw[gB,bz this,Option.getD_some,List.getElem_idxOf]
theorem Lr {e:Ex} (he:Nv e): ∀(n x:Nat) (es:List Ex) (row:List Int) (p:List Ex × List Int),Es es→pF e es x row→nG e n x es row=some p→Es p.1∧pF e p.1 (x+n) p.2∧∃t,p.1=es++t
 | 0,x,es,row,p,h1,U,h=>by
  cases h
  exact ⟨h1,U,[],by simp⟩
 | n+1,x,es,row,p,h1,U,h=>by
  rw[nG] at h
  cases hs:qZ e x with
  | none=>rw[hs] at h;cases h
  | some d=>
   rw[hs] at h
   obtain ⟨hd,_⟩:=TD he hs
   simp only[Option.bind_some] at h
   by_cases hm:d∈es
   ·rw[aj hm] at h
    have:=Lr he n (x+1) es _ p h1 (U.snoc (List.idxOf_lt_length_iff.2 hm) (by rw[hs,afq hm])) h
    rw[show x+(n+1)=x+1+n by omega]
    exact this
   ·rw[ah hm] at h
    by_cases hl:es.length=512
    ·rw[aj hl] at h;cases h
    ·rw[ah hl] at h
     obtain ⟨a,b,t,c⟩:=Lr he n (x+1) (es++[d]) _ p (h1.snoc hd hm hl) (U.mono.snoc (by simp) (by rw[hs,gB];simp)) h
     rw[show x+(n+1)=x+1+n by omega]
     exact ⟨a,b,d::t,by rw[c,cr];rfl⟩
structure Gs (s:Dv):Prop where
 L:1≤s.L∧s.L≤6
 ne:s.es≠[]
 es:Es s.es
 dn:0≤s.dn∧s.dn≤s.es.length
 nl:s.nx.length=s.dn.toNat
 row: ∀q,q<s.dn.toNat→pF (s.es.getD q aJ) s.es s.L.toNat (s.nx.getD q [])
theorem F3 {α:Type} {a b:List α} {i:Nat} {z:α} (h:i<a.length):(a++b).getD i z=a.getD i z:=by
 rw[gB,gB,ik h]
theorem q0 {α:Type} {a:List α} {i:Nat} {z:α} (h:i<a.length):a.getD i z∈a:=by
 rw[gB,bz h];simp
theorem TE {s t:Dv} (h:proc s=some t): ∃p,nG (s.es.getD s.dn.toNat aJ) s.L.toNat 0 s.es []=some p∧t=⟨s.L,p.1,s.nx++[p.2],s.dn+1⟩:=by
 unfold proc at h
 cases hr:nG (s.es.getD s.dn.toNat aJ) s.L.toNat 0 s.es [] with
 | none=>rw[hr] at h;cases h
 | some p=>rw[hr] at h;cases h;exact ⟨p,rfl,rfl⟩
theorem Bw {s t:Dv} (hs:Gs s) (hd:s.dn<s.es.length) (h:proc s=some t):Gs t∧t.L=s.L∧t.dn=s.dn+1∧∃r,t.es=s.es++r:=by
 obtain ⟨p,hp,rfl⟩:=TE h
 have F4:=hs.dn
 have hq:s.dn.toNat<s.es.length:=by omega
 obtain ⟨a,b,r,c⟩:=Lr (hs.es.nv _ (q0 hq)) _ 0 _ _ p hs.es ⟨rfl,fun x hx=>by omega⟩ hp
 have hn:=hs.nl
 refine ⟨⟨hs.L,by rw[c];simp[hs.ne],a,⟨by show 0≤s.dn+1;omega,?_⟩,?_,fun q zn=> ?_⟩,rfl,rfl,r,c⟩
 ·show s.dn+1≤(p.1.length:Int)
  rw[c,cx];omega
 ·show (s.nx++[p.2]).length=(s.dn+1).toNat
  rw[cx,hn];simp;omega
 ·have hq3:q<(s.dn+1).toNat:=zn
  show pF (p.1.getD q aJ) p.1 s.L.toNat ((s.nx++[p.2]).getD q [])
  rcases oN q s.dn.toNat with e|e
  ·rw[F3 (by omega),c,F3 (by omega)]
   exact (hs.row q e).mono
  ·obtain rfl:q=s.dn.toNat:=by omega
   rw[gB (l:=s.nx++[p.2]),il (by omega),hn,Nat.sub_self]
   simp only[List.getElem?_cons_zero,Option.getD_some]
   rw[ga] at b
   have e1:p.1.getD s.dn.toNat aJ=s.es.getD s.dn.toNat aJ:=by rw[c,F3 (by omega)]
   rw[e1]
   exact b
theorem u4: ∀(n:Nat) (s t:Dv),Gs s→ee n s=some t→Gs t∧t.L=s.L∧(∃r,t.es=s.es++r)∧(t.dn=t.es.length∨t.dn=s.dn+n)
 | 0,s,t,hs,h=>by cases h;exact ⟨hs,rfl,⟨[],by simp⟩,.inr (by simp)⟩
 | n+1,s,t,hs,h=>by
  rw[ee] at h
  by_cases hd:s.dn<s.es.length
  ·rw[aj hd] at h
   cases hp:proc s with
   | none=>rw[hp] at h;cases h
   | some u=>
    rw[hp] at h
    obtain ⟨a,b,c,r,d⟩:=Bw hs hd hp
    obtain ⟨e,f,⟨r2,g⟩,i⟩:=u4 n u t a h
    refine ⟨e,f.trans b,⟨r++r2,by rw[g,d,cr]⟩,?_⟩
    rcases i with i|i
    ·exact .inl i
    ·exact .inr (by rw[i,c];omega)
  ·rw[ah hd] at h
   cases h
   exact ⟨hs,rfl,⟨[],by simp⟩,.inl (by have:=hs.dn;omega)⟩
theorem afr {n:Nat} {s:Dv} (h: ¬s.dn<s.es.length):ee n s=some s:=by
 cases n with
 | zero=>rfl
 | succ n=>rw[ee,ah h]
theorem Ls: ∀(m n:Nat) (s:Dv),ee (m+n) s=(ee m s).bind (ee n)
 | 0,n,s=>by rw[ga];rfl
 | m+1,n,s=>by
  rw[show m+1+n=(m+n)+1 by omega,ee,ee]
  by_cases hd:s.dn<s.es.length
  ·rw[aj hd,aj hd]
   cases hp:proc s with
   | none=>rfl
   | some u=>exact Ls m n u
  ·rw[ah hd,ah hd]
   exact (afr hd).symm
theorem TF: ∀(n:Nat) (s t:Dv),Gs s→ee n s=some t→∃k:Nat,nH k s=some t∧t.dn=s.dn+k
 | 0,s,t,_,h=>⟨0,h,by cases h;simp⟩
 | n+1,s,t,hs,h=>by
  rw[ee] at h
  by_cases hd:s.dn<s.es.length
  ·rw[aj hd] at h
   cases hp:proc s with
   | none=>rw[hp] at h;cases h
   | some u=>
    rw[hp] at h
    obtain ⟨a,b,c,_⟩:=Bw hs hd hp
    obtain ⟨k,h1,U⟩:=TF n u t a h
    refine ⟨k+1,?_,by rw[U,c];omega⟩
    rw[nH,aj hd,hp];exact h1
  ·rw[ah hd] at h
   cases h
   exact ⟨0,rfl,by simp⟩
theorem Lt: ∀(n:Nat) (s t:Dv),nH n s=some t→ee n s=some t
 | 0,s,t,h=>h
 | n+1,s,t,h=>by
  rw[nH] at h
  by_cases hd:s.dn<s.es.length
  ·rw[aj hd] at h
   rw[ee,aj hd]
   cases hp:proc s with
   | none=>rw[hp] at h;cases h
   | some u=>rw[hp] at h;exact Lt n u t h
  ·rw[ah hd] at h;cases h
theorem yb {e:Ex} {L:Int} (h:e.val L=0):Gs (eV e L):=by
 obtain ⟨h1,U,h3,h4⟩:=F1 h
 refine ⟨h1,by simp[eV],⟨by simp[eV],fun x hx=> ?_,by simp[eV]⟩,by simp[eV],rfl,fun q hq=>by simp[eV] at hq⟩
 rw[dX.1 hx]
 exact ⟨lD e (TC h1.2 e h4),u3 (F2 h)⟩
theorem afs {e:Ex} {L:Int} (h:e.val L=0):aM (aM e)=aM e:=KF _ (lD e (F1 h).2.2.2)
theorem Lu {e:Ex} {L:Int} (h:e.val L=0) {n:Nat} {t:Dv} (ht:ee n (eV e L)=some t):mF t=true:=by
 have hs:=yb h
 obtain ⟨g,g1,⟨r,g2⟩,_⟩:=u4 n _ _ hs ht
 obtain ⟨k,k1,k2⟩:=TF n _ _ hs ht
 have e0:t.es.getD 0 aJ=aM e:=by rw[g2];rfl
 have e1:t.L=L:=g1
 have e2:eV (aM e) L=eV e L:=by unfold eV;rw[afs h]
 refine cZ ⟨g.ne,g.es.le,by rw[e0,e1];exact F2 h,g.dn.1,?_⟩
 rw[e0,e1,e2]
 have:t.dn.toNat=k:=by
  rw[k2];show ((0:Int)+k).toNat=k;omega
 rw[this];exact k1
theorem TG {d:Dv} (h:mF d=true):Gs d∧∃n,ee n (eV (d.es.getD 0 aJ) d.L)=some d:=by
 obtain ⟨h1,U,h3,h4,h5⟩:=gy h
 have:=Lt _ _ _ h5
 exact ⟨(u4 _ _ _ (yb h3) this).1,_,this⟩
theorem aft {d t:Dv} {n:Nat} (h:mF d=true) (ht:ee n d=some t):mF t=true:=by
 obtain ⟨g,m,hm⟩:=TG h
 have hv:=(gy h).2.2.1
 refine Lu hv (n:=m+n) ?_
 rw[Ls,hm];exact ht
end Go.AM
set_option maxRecDepth 100000
namespace Go.AM
open Go.Proofs
noncomputable def TH (C:ag) (cd bS:Int) (fb:List V) (fM Lv:Int) (Lw:List V) (Lx:Bool):Option (List V):=
 (C sb [.int .i64 cd,.int .i64 bS,.list aa fb,.int .i64 6]).bind fun r1=>
 bif (((V.nth r1 0).toInt):Int) != 0 then
  some [.int .i64 0,.int .i64 0,.list aa ([]:List V),.int .i64 3]
 else
  some [.int .i64 cd,.int .i64 bS,.list aa fb,.int .i64 0]
theorem afu {cd bS:Int} {fb:List V} {fM Lv:Int} {Lw:List V} {Lx:Bool} {r:Option (List V)} (h:TH CC cd bS fb fM Lv Lw Lx=r):CC IX [.int .i64 cd,.int .i64 bS,.list aa fb,.int .i64 fM,.int .i64 Lv,.list aa Lw,.bool Lx]=r:=
 aY (key:=149) (L:=cg) (bs:=[]) (by kernel_rfl) av (aW (by kernel_rfl) h)
noncomputable def TI (C:ag) (ai ar:Int) (af:List V) (cO:Int):Option (List V):=
 (C oz [.int .i64 cO,.bool true,.int .i64 ai,.int .i64 ar,.list aa af]).bind fun r1=>
 (C IX [.int .i64 ((V.nth r1 0).toInt),.int .i64 ((V.nth (r1.drop 1) 0).toInt),.list aa ((V.nth ((r1.drop 1).drop 1) 0).toList),.int .i64 ((V.nth (((r1.drop 1).drop 1).drop 1) 0).toInt),.int .i64 ((V.nth ((((r1.drop 1).drop 1).drop 1).drop 1) 0).toInt),.list aa ((V.nth (((((r1.drop 1).drop 1).drop 1).drop 1).drop 1) 0).toList),.bool ((V.nth ((((((r1.drop 1).drop 1).drop 1).drop 1).drop 1).drop 1) 0).toBool)]).bind fun r2=>
 some [.int .i64 ((V.nth r2 0).toInt),.int .i64 ((V.nth (r2.drop 1) 0).toInt),.list aa ((V.nth ((r2.drop 1).drop 1) 0).toList),.int .i64 ((V.nth (r2.drop 3) 0).toInt)]
theorem afv {ai ar:Int} {af:List V} {cO:Int} {r:Option (List V)} (h:TI CC ai ar af cO=r):CC Em [.int .i64 ai,.int .i64 ar,.list aa af,.int .i64 cO]=r:=
 aY (key:=53) (L:=cg) (bs:=[]) (by kernel_rfl) av (aW (by kernel_rfl) h)
end Go.AM
set_option maxRecDepth 100000
namespace Go.AM
open Go.Proofs Ex
abbrev TJ (p:Ex × Int):List V:=bM p.1 [.int .i64 p.2]
def yc (x:Ex):Ex × Int:=if x.val 6=0 then (x,0) else (aJ,3)
theorem afw {x y:Ex} {b:Bool} (hx:x.Ok):CC IX (bM x (bM y [.bool b]))=some (TJ (yc x)):=by
 refine afu ?_
 unfold TH yc
 refine bs (uw x hx 6) ?_
 by_cases hv:x.val 6=0
 ·rw[aj hv]
  exact bF (by simp[hv]) rfl
 ·rw[ah hv]
  exact bT (by simp[hv]) rfl
theorem afx {c:Int} {e:Ex} (hv:e.val 6=0):Gd 6 (aM (cl c e))∧(aM (cl c e)).Ok∧(aM (cl c e)).size≤160000:=by
 obtain ⟨_,U,h3⟩:=nr hv
 have a:=lD _ (uZ (c:=c) e h3)
 have b:=Ll (c:=c) h3
 have d:=FX U
 exact ⟨a,qN (by omega) _ a.2 (by omega),by omega⟩
theorem afy {e:Ex} (he:Nv e) (c:Int):CC Em (bM e [.int .i64 c])=some (TJ (yc (aM (cl c e)))):=by
 obtain ⟨_,U,h3⟩:=nr he.2
 refine afv ?_
 unfold TI
 refine bs (afo (c:=c) (nm:=true) e h3 U fun _=>he.1) ?_
 refine bs (afw (y:=aM e) (b:=e.db) (afx (c:=c) he.2).2.1) ?_
 unfold yc
 split<;>rfl
def fN (op:Int):Int:=if op=4 then 1 else if op=6 then 2 else if op=5 then 3 else if op=8 then 4 else if op=7 then 5 else 6
def eh (op least:Int) (t:List UInt8):List UInt8:=if fN op<least then 40::(t++[41]) else t
mutual
def Ex.text:Ex→List UInt8
 | .node o l ks=>
  if o=1 then [48] else if o=2 then [49] else if o=3 then [UInt8.ofNat (97+l).toNat]
  else if o=8 then 33::texts [] 4 true ks else if o=7 then texts [] 5 true ks++[42]
  else if o=4 then texts [124] 2 true ks else if o=6 then texts [38] 3 true ks else texts [] 4 true ks
def Ex.texts (sep:List UInt8) (least:Int) (first:Bool):List Ex→List UInt8
 | []=>[]
 | k::ks=>(if first then [] else sep)++(eh k.op least (text k)++texts sep least false ks)
end
theorem afz (op least:Int) (t:List UInt8):(eh op least t).length≤t.length+2:=by
 unfold eh;split<;>simp
theorem TK (sep:List UInt8) (hs:sep.length≤1) (least:Int): ∀(ks:List Ex) (f:Bool),(∀k∈ks,k.text.length+3≤4*k.size)→(texts sep least f ks).length≤4*aL ks
 | [],f,_=>by simp[texts]
 | k::ks,f,h=>by
  have h1:=h k (by simp)
  have U:=TK sep hs least ks false fun k hk=>h k (by simp[hk])
  have h3:=afz k.op least k.text
  simp only[texts,cx,aL]
  cases f<;>simp<;>omega
theorem TL: ∀e:Ex,e.text.length+3≤4*e.size:=ind fun o l ks ih=>by
 have h:=fun sep hs least=>TK sep hs least ks true ih
 have h1:=h [] (by simp) 4
 have U:=h [] (by simp) 5
 have h3:=h [124] (by simp) 2
 have h4:=h [38] (by simp) 3
 simp only[text,size]
 repeat' split
 all_goals simp
 all_goals omega
def TX (m:Int) (k:Ex):List UInt8:=eh k.op m k.text
def mb (o:Int) (e:Ex):List Ex:=if e.op=o then e.kids else [e]
theorem Bx (sep:List UInt8) (m:Int) (k:Ex) (ks:List Ex):texts sep m false (k::ks)=sep++(TX m k++texts sep m false ks):=by simp[texts,TX]
theorem By (sep:List UInt8) (m:Int) (k:Ex) (ks:List Ex):texts sep m true (k::ks)=TX m k++texts sep m false ks:=by simp[texts,TX]
theorem TM (e:Ex):TX 1 e=texts [124] 2 true (mb 4 e):=by
 obtain ⟨o,l,ks⟩:=e
 unfold mb TX
 by_cases h:o=4
 ·subst h;simp[Ex.op,Ex.kids,fN,text,eh]
 ·have hl:2≤fN o:=by
   unfold fN
   repeat' split
   all_goals omega
  rw[ah (show¬(Ex.node o l ks).op=4 from h),By]
  show eh o 1 _=eh o 2 _++[]
  rw[dJ]
  unfold eh
  by_cases U:fN o<1
  ·rw[aj U,aj (by omega)]
  ·rw[ah U,ah (by omega)]
theorem TN (e:Ex):TX 2 e=texts [38] 3 true (mb 6 e):=by
 obtain ⟨o,l,ks⟩:=e
 unfold mb TX
 by_cases h:o=6
 ·subst h;simp[Ex.op,Ex.kids,fN,text,eh]
 ·have hl:fN o≠2:=by
   unfold fN
   repeat' split
   all_goals omega
  rw[ah (show¬(Ex.node o l ks).op=6 from h),By]
  show eh o 2 _=eh o 3 _++[]
  rw[dJ]
  unfold eh
  by_cases U:fN o<2
  ·rw[aj U,aj (by omega)]
  ·rw[ah U,ah (by omega)]
theorem TO (e:Ex):TX 3 e=texts [] 4 true (mb 5 e):=by
 obtain ⟨o,l,ks⟩:=e
 unfold mb TX
 by_cases h:o=5
 ·subst h;simp[Ex.op,Ex.kids,fN,text,eh]
 ·have hl:fN o≠3:=by
   unfold fN
   repeat' split
   all_goals omega
  rw[ah (show¬(Ex.node o l ks).op=5 from h),By]
  show eh o 3 _=eh o 4 _++[]
  rw[dJ]
  unfold eh
  by_cases U:fN o<3
  ·rw[aj U,aj (by omega)]
  ·rw[ah U,ah (by omega)]
theorem Bz (l:Int) (k:Ex):TX 4 (.node 8 l [k])=33::TX 4 k:=by
 simp[TX,eh,Ex.op,fN,text,texts]
theorem BA {e:Ex} (h:e.op≠8):TX 4 e=TX 5 e:=by
 unfold TX eh fN
 repeat' split
 all_goals first|rfl|omega
theorem afA (l:Int) (k:Ex):TX 5 (.node 7 l [k])=TX 5 k++[42]:=by
 simp[TX,eh,Ex.op,fN,text,texts]
theorem afB {e:Ex} (h:e.op≠7):TX 5 e=TX 6 e:=by
 unfold TX eh fN
 repeat' split
 all_goals first|rfl|omega
theorem pG {e:Ex} (h:4≤e.op∧e.op≤8):TX 6 e=40::(TX 1 e++[41]):=by
 unfold TX eh fN
 repeat' split
 all_goals first|rfl|omega
theorem Ly {e:Ex} (h:e.wf 6=true):(e= .node 1 0 []∨e= .node 2 0 []∨(∃l:Int,0≤l∧l<6∧e= .node 3 l []))∨(4≤e.op∧e.op≤8):=by
 obtain ⟨o,l,ks⟩:=e
 obtain ⟨h1,U⟩:=hZ h
 simp only[Ex.op]
 rcases eQ h1 with ⟨rfl,h,h3,h4⟩|⟨rfl,⟨rfl,h⟩|⟨rfl,h⟩|⟨rfl,h⟩|⟨rfl,h⟩|⟨rfl,h⟩|⟨rfl,h⟩|⟨rfl,h⟩⟩
 ·obtain rfl:=pP.1 (show ks.length=0 by omega)
  exact .inl (.inr (.inr ⟨l,h3,h4,rfl⟩))
 ·obtain rfl:=pP.1 (show ks.length=0 by omega)
  exact .inl (.inl rfl)
 ·obtain rfl:=pP.1 (show ks.length=0 by omega)
  exact .inl (.inr (.inl rfl))
 all_goals exact .inr (by omega)
def BB (c:UInt8):Prop:=c=48∨c=49∨c=40∨c=97∨c=98∨c=99∨c=100∨c=101∨c=102
theorem ra {l:Int} (h0:0≤l) (h1:l<6):UInt8.ofNat (97+l).toNat=97∧l=0∨UInt8.ofNat (97+l).toNat=98∧l=1∨UInt8.ofNat (97+l).toNat=99∧l=2∨UInt8.ofNat (97+l).toNat=100∧l=3∨UInt8.ofNat (97+l).toNat=101∧l=4∨UInt8.ofNat (97+l).toNat=102∧l=5:=by
 rcases (show l=0∨l=1∨l=2∨l=3∨l=4∨l=5 by omega) with rfl|rfl|rfl|rfl|rfl|rfl<;>decide
theorem afC {e:Ex} (h:e.wf 6=true): ∃c t,TX 6 e=c::t∧BB c:=by
 rcases Ly h with (rfl|rfl|⟨l,h0,h1,rfl⟩)|h
 ·exact ⟨48,[],rfl,.inl rfl⟩
 ·exact ⟨49,[],rfl,.inr (.inl rfl)⟩
 ·refine ⟨UInt8.ofNat (97+l).toNat,[],by simp[TX,eh,fN,Ex.op,text],?_⟩
  unfold BB
  rcases ra h0 h1 with h|h|h|h|h|h<;>simp[h.1]
 ·exact ⟨40,_,pG h,.inr (.inr (.inl rfl))⟩
theorem BC {o l:Int} {ks:List Ex} (h:(Ex.node o l ks).wf 6=true) (ho:o=7∨o=8): ∃k,ks=[k]∧k.wf 6=true∧l=0:=by
 obtain ⟨h1,U⟩:=hZ h
 rcases eQ h1 with h|⟨h0,h⟩
 ·omega
 ·obtain ⟨k,rfl⟩:=yB.1 (show ks.length=1 by omega)
  exact ⟨k,rfl,U k (by simp),h0⟩
def LA (e:Ex):Nat→Ex
 | 0=>e
 | n+1=> .node 7 0 [LA e n]
theorem LB: ∀e:Ex,e.wf 6=true→∃(b:Ex) (n:Nat),e=LA b n∧b.op≠7∧b.wf 6=true∧TX 5 e=TX 6 b++List.replicate n 42:=ind fun o l ks ih h=>by
 by_cases ho:o=7
 ·subst ho
  obtain ⟨k,rfl,hk,rfl⟩:=BC h (.inl rfl)
  obtain ⟨b,n,h1,U,h3,h4⟩:=ih k (by simp) hk
  exact ⟨b,n+1,by rw[h1];rfl,U,h3,by rw[afA,h4,List.replicate_succ',cr]⟩
 ·exact ⟨.node o l ks,0,rfl,ho,h,by rw[afB (show (Ex.node o l ks).op≠7 from ho)];simp⟩
theorem LC {e:Ex} (h:e.wf 6=true): ∃c t,TX 5 e=c::t∧BB c:=by
 obtain ⟨b,n,_,_,h3,h4⟩:=LB e h
 obtain ⟨c,t,h5,h6⟩:=afC h3
 exact ⟨c,t++List.replicate n 42,by rw[h4,h5];rfl,h6⟩
theorem afD {e:Ex} (h:e.wf 6=true): ∃c t,TX 4 e=c::t∧(c=33∨BB c):=by
 by_cases ho:e.op=8
 ·obtain ⟨o,l,ks⟩:=e
  obtain rfl:o=8:=ho
  obtain ⟨k,rfl,_⟩:=BC h (.inr rfl)
  exact ⟨33,TX 4 k,Bz _ _,.inl rfl⟩
 ·obtain ⟨c,t,h1,U⟩:=LC h
  exact ⟨c,t,by rw[BA ho,h1],.inr U⟩
def gx (m:Int) (c:UInt8):Prop:=if m=1 then c=41 else if m=2 then c=41∨c=124 else if m=3 then c=41∨c=124∨c=38 else if m=6 then True else c≠42
def fo (m:Int) (r:List UInt8):Prop:= ∀c t,r=c::t→gx m c
theorem TP {m:Int}:fo m []:=fun c t h=>by cases h
theorem LD {m:Int} {c:UInt8} {t:List UInt8} (h:gx m c):fo m (c::t):=fun c' t' e=>by cases e;exact h
def jJ (m:Int) (e:Ex):Prop:= ∀(e':Ex) (r r':List UInt8),e'.wf 6=true→fo m r→fo m r'→TX m e++r=TX m e'++r'→e=e'∧r=r'
theorem BD {o:Int} {e:Ex} (h:e.wf 6=true): ∀x∈mb o e,x.wf 6=true:=fun x hx=>by
 unfold mb at hx
 split at hx
 ·obtain ⟨o,l,ks⟩:=e
  exact (hZ h).2 x hx
 ·rw[dX.1 hx];exact h
theorem TQ {o:Int} {e:Ex} (ho:4≤o∧o≤6) (h:e.wf 6=true): ∃x xs,mb o e=x::xs:=by
 unfold mb
 split
 ·next lg=>
  obtain ⟨o,l,ks⟩:=e
  obtain ⟨h1,U⟩:=hZ h
  simp only[Ex.op] at lg
  match ks,h1 with
  | [],h1=>rcases eQ h1 with h|⟨_,h⟩<;>simp at h<;>omega
  | x::xs,_=>exact ⟨x,xs,rfl⟩
 ·exact ⟨e,[],rfl⟩
theorem afE {o:Int} {e e':Ex} (ho:4≤o∧o≤6) (h:e.wf 6=true) (h':e'.wf 6=true) (he:mb o e=mb o e'):e=e':=by
 have hl: ∀{x:Ex},x.wf 6=true→x.op=o→x.cO=0∧2≤x.kids.length:=fun {x} hx Il=>by
  obtain ⟨o,l,ks⟩:=x
  obtain ⟨h1,U⟩:=hZ hx
  simp only[Ex.op,Ex.cO,Ex.kids] at*
  rcases eQ h1 with h|⟨_,h⟩<;>omega
 unfold mb at he
 by_cases h1:e.op=o
 ·obtain ⟨a1,a2⟩:=hl h h1
  rw[aj h1] at he
  by_cases U:e'.op=o
  ·obtain ⟨b1,b2⟩:=hl h' U
   rw[aj U] at he
   obtain ⟨o1,l1,k1⟩:=e
   obtain ⟨o2,l2,k2⟩:=e'
   simp only[Ex.op,Ex.cO,Ex.kids] at*
   subst he h1 U a1 b1
   rfl
  ·rw[ah U] at he
   rw[he] at a2
   simp at a2
 ·rw[ah h1] at he
  by_cases U:e'.op=o
  ·obtain ⟨b1,b2⟩:=hl h' U
   rw[aj U] at he
   rw[←he] at b2
   simp at b2
  ·rw[ah U] at he
   exact (gd he).1
section
variable {sep:List UInt8} {m:Int} (hh: ∀y:Ex,y.wf 6=true→∃c t,sep++TX m y=c::t∧gx m c∧¬gx (m-1) c) (hf: ∀c,gx (m-1) c→gx m c)
include hh hf
theorem F5 {ys:List Ex} {r:List UInt8} (hy: ∀y∈ys,y.wf 6=true) (hr:fo (m-1) r):fo m (texts sep m false ys++r):=by
 cases ys with
 | nil=>exact fun c t e=>hf c (hr c t e)
 | cons y ys=>
  obtain ⟨c,t,h1,U,h3⟩:=hh y (hy y (by simp))
  rw[Bx,←cr sep,h1]
  exact LD U
theorem TR: ∀(xs ys:List Ex) (r r':List UInt8),(∀x∈xs,x.wf 6=true∧jJ m x)→(∀y∈ys,y.wf 6=true)→fo (m-1) r→fo (m-1) r'→texts sep m false xs++r=texts sep m false ys++r'→xs=ys∧r=r'
 | [],[],r,r',_,_,_,_,h=>⟨rfl,h⟩
 | [],y::ys,r,r',_,hy,hr,_,h=>by
  obtain ⟨c,t,h1,U,h3⟩:=hh y (hy y (by simp))
  rw[Bx,←cr sep,h1] at h
  exact absurd (hr c _ (by simpa[texts] using h)) h3
 | x::xs,[],r,r',hx,_,_,hr,h=>by
  obtain ⟨c,t,h1,U,h3⟩:=hh x (hx x (by simp)).1
  rw[Bx,←cr sep,h1] at h
  exact absurd (hr c _ (by simpa[texts] using h.symm)) h3
 | x::xs,y::ys,r,r',hx,hy,hr,hG,h=>by
  rw[Bx,Bx,cr,cr,cr,cr] at h
  obtain ⟨rfl,U⟩:=(hx x (by simp)).2 y _ _ (hy y (by simp)) (F5 hh hf (fun z hz=>(hx z (by simp[hz])).1) hr) (F5 hh hf (fun z hz=>hy z (by simp[hz])) hG) (List.append_cancel_left h)
  obtain ⟨rfl,h3⟩:=TR xs ys r r' (fun z hz=>hx z (by simp[hz])) (fun z hz=>hy z (by simp[hz])) hr hG U
  exact ⟨rfl,h3⟩
theorem LF {o:Int} (ho:4≤o∧o≤6) (ht: ∀e:Ex,TX (m-1) e=texts sep m true (mb o e)) {e:Ex} (he:e.wf 6=true) (ih: ∀x∈mb o e,jJ m x):jJ (m-1) e:=by
 intro e' r r' gI hr hG h
 rw[ht,ht] at h
 obtain ⟨x,xs,hx⟩:=TQ ho he
 obtain ⟨y,ys,hy⟩:=TQ ho gI
 have wx:=BD (o:=o) he
 have wy:=BD (o:=o) gI
 rw[hx] at wx ih
 rw[hy] at wy
 rw[hx,hy,By,By,cr,cr] at h
 obtain ⟨rfl,U⟩:=ih x (by simp) y _ _ (wy y (by simp)) (F5 hh hf (fun z hz=>wx z (by simp[hz])) hr) (F5 hh hf (fun z hz=>wy z (by simp[hz])) hG) h
 obtain ⟨rfl,h3⟩:=TR hh hf xs ys r r' (fun z hz=>⟨wx z (by simp[hz]),ih z (by simp[hz])⟩) (fun z hz=>wy z (by simp[hz])) hr hG U
 exact ⟨afE ho he gI (by rw[hx,hy]),h3⟩
end
theorem LG {c:UInt8} (h:BB c):c≠33∧c≠41∧c≠42∧c≠124∧c≠38:=by
 rcases h with rfl|rfl|rfl|rfl|rfl|rfl|rfl|rfl|rfl<;>decide
theorem afF {e:Ex} (he:e.wf 6=true) (ih: ∀x∈mb 4 e,jJ 2 x):jJ 1 e:=
 LF (sep:=[124]) (m:=2) (fun y _=>⟨124,_,rfl,by simp[gx],by simp[gx]⟩) (fun c h=>by simp[gx] at h⊢;exact .inl h) (o:=4) (by omega) TM he ih
theorem sX {e:Ex} (he:e.wf 6=true) (ih: ∀x∈mb 6 e,jJ 3 x):jJ 2 e:=
 LF (sep:=[38]) (m:=3) (fun y _=>⟨38,_,rfl,by simp[gx],by simp[gx]⟩) (fun c h=>by simp[gx] at h⊢;rcases h with h|h<;>simp[h]) (o:=6) (by omega) TN he ih
theorem afG {e:Ex} (he:e.wf 6=true) (ih: ∀x∈mb 5 e,jJ 4 x):jJ 3 e:=
 LF (sep:=[]) (m:=4) (fun y hy=>by
  obtain ⟨c,t,h1,U⟩:=afD hy
  refine ⟨c,t,h1,?_⟩
  rcases U with rfl|U
  ·simp[gx]
  ·have:=LG U
   simp[gx,this]) (fun c h=>by simp[gx] at h⊢;rcases h with rfl|rfl|rfl<;>decide) (o:=5) (by omega) TO he ih
theorem afH {e:Ex} (he:e.wf 6=true) (ih8: ∀k,e= .node 8 0 [k]→jJ 4 k) (ih:e.op≠8→jJ 5 e):jJ 4 e:=by
 intro e' r r' gI hr hG h
 by_cases h1:e.op=8
 ·obtain ⟨o,l,ks⟩:=e
  obtain rfl:o=8:=h1
  obtain ⟨k,rfl,hk,rfl⟩:=BC he (.inr rfl)
  rw[Bz] at h
  by_cases U:e'.op=8
  ·obtain ⟨o',l',bI⟩:=e'
   obtain rfl:o'=8:=U
   obtain ⟨k',rfl,c6,rfl⟩:=BC gI (.inr rfl)
   rw[Bz] at h
   obtain ⟨rfl,h3⟩:=ih8 k rfl k' r r' c6 hr hG (gd h).2
   exact ⟨rfl,h3⟩
  ·rw[BA U] at h
   obtain ⟨c,t,h3,h4⟩:=LC gI
   rw[h3] at h
   exact absurd (gd h).1.symm (LG h4).1
 ·rw[BA h1] at h
  by_cases U:e'.op=8
  ·obtain ⟨o',l',bI⟩:=e'
   obtain rfl:o'=8:=U
   obtain ⟨k',rfl,c6,rfl⟩:=BC gI (.inr rfl)
   rw[Bz] at h
   obtain ⟨c,t,h3,h4⟩:=LC he
   rw[h3] at h
   exact absurd (gd h).1 (LG h4).1
  ·rw[BA U] at h
   exact ih h1 e' r r' gI (by simpa[fo,gx] using hr) (by simpa[fo,gx] using hG) h
theorem TS {r r':List UInt8} (hr:fo 5 r) (hG:fo 5 r'): ∀{n n':Nat},List.replicate n 42++r=List.replicate n' 42++r'→n=n'∧r=r'
 | 0,0,h=>⟨rfl,h⟩
 | 0,n+1,h=>by
  have:=hr 42 (List.replicate n 42++r') (by simpa[List.replicate_succ] using h)
  simp[gx] at this
 | n+1,0,h=>by
  have:=hG 42 (List.replicate n 42++r) (by simpa[List.replicate_succ] using h.symm)
  simp[gx] at this
 | n+1,n'+1,h=>by
  rw[List.replicate_succ,List.replicate_succ] at h
  obtain ⟨rfl,U⟩:=TS hr hG (gd h).2
  exact ⟨rfl,U⟩
theorem TT (r:List UInt8):fo 6 r:=fun c t _=>by simp[gx]
theorem afI {b:Ex} {n:Nat} {e:Ex} (h1:e=LA b n) (U:TX 5 e=TX 6 b++List.replicate n 42) (ih:jJ 6 b):jJ 5 e:=by
 intro e' r r' gI hr hG h
 obtain ⟨b',n',e1,e2,e3,e4⟩:=LB e' gI
 rw[U,e4,cr,cr] at h
 obtain ⟨rfl,h3⟩:=ih b' _ _ e3 (TT _) (TT _) h
 obtain ⟨rfl,h4⟩:=TS hr hG h3
 exact ⟨by rw[h1,e1],h4⟩
theorem afJ {e:Ex} (he:e.wf 6=true) (ih:4≤e.op∧e.op≤8→jJ 1 e):jJ 6 e:=by
 intro e' r r' gI hr hG h
 have hl: ∀l:Int,TX 6 (.node 3 l [])=[UInt8.ofNat (97+l).toNat]:=fun l=>by simp[TX,eh,fN,Ex.op,text]
 have t1:TX 6 (.node 1 0 [])=[48]:=rfl
 have t2:TX 6 (.node 2 0 [])=[49]:=rfl
 rcases Ly he with (rfl|rfl|⟨l,h0,h1,rfl⟩)|ho<;>rcases Ly gI with (rfl|rfl|⟨l',vZ,jx,rfl⟩)|jb
 ·exact ⟨rfl,List.append_cancel_left h⟩
 ·rw[t1,t2] at h;cases (gd h).1
 ·rw[t1,hl] at h
  have:=(gd h).1
  rcases ra vZ jx with h|h|h|h|h|h<;>(rw[h.1] at this;cases this)
 ·rw[t1,pG jb] at h;cases (gd h).1
 ·rw[t1,t2] at h;cases (gd h).1
 ·exact ⟨rfl,List.append_cancel_left h⟩
 ·rw[t2,hl] at h
  have:=(gd h).1
  rcases ra vZ jx with h|h|h|h|h|h<;>(rw[h.1] at this;cases this)
 ·rw[t2,pG jb] at h;cases (gd h).1
 ·rw[t1,hl] at h
  have:=(gd h).1
  rcases ra h0 h1 with h|h|h|h|h|h<;>(rw[h.1] at this;cases this)
 ·rw[t2,hl] at h
  have:=(gd h).1
  rcases ra h0 h1 with h|h|h|h|h|h<;>(rw[h.1] at this;cases this)
 ·rw[hl,hl] at h
  obtain ⟨U,h3⟩:=gd h
  refine ⟨?_,h3⟩
  have:l=l':=by
   rcases ra h0 h1 with ⟨a,rfl⟩|⟨a,rfl⟩|⟨a,rfl⟩|⟨a,rfl⟩|⟨a,rfl⟩|⟨a,rfl⟩<;>rcases ra vZ jx with ⟨b,rfl⟩|⟨b,rfl⟩|⟨b,rfl⟩|⟨b,rfl⟩|⟨b,rfl⟩|⟨b,rfl⟩<;>first|rfl|(rw[a,b] at U;cases U)
  rw[this]
 ·rw[hl,pG jb] at h
  have:=(gd h).1
  rcases ra h0 h1 with h|h|h|h|h|h<;>(rw[h.1] at this;cases this)
 ·rw[t1,pG ho] at h;cases (gd h).1
 ·rw[t2,pG ho] at h;cases (gd h).1
 ·rw[hl,pG ho] at h
  have:=(gd h).1
  rcases ra vZ jx with h|h|h|h|h|h<;>(rw[h.1] at this;cases this)
 ·rw[pG ho,pG jb] at h
  have U:(TX 1 e++[41])++r=(TX 1 e'++[41])++r':=(gd h).2
  rw[cr,cr] at U
  obtain ⟨h3,h4⟩:=ih ho e' _ _ gI (LD (by simp[gx])) (LD (by simp[gx])) U
  exact ⟨h3,(gd h4).2⟩
theorem F6 {sep:List UInt8} {m:Int}: ∀{xs:List Ex} {f:Bool} {x:Ex},x∈xs→(TX m x).length≤(texts sep m f xs).length
 | y::ys,f,x,h=>by
  simp only[texts,cx]
  rcases dg.1 h with rfl|h
  ·show (eh x.op m x.text).length≤_;omega
  ·have:=F6 (sep:=sep) (m:=m) (f:=false) h
   omega
theorem TU: ∀(n:Nat) (m:Int) (e:Ex),1≤m→m≤6→e.wf 6=true→8*(TX m e).length+(7-m).toNat<n→jJ m e
 | 0,m,e,_,_,_,h=>by omega
 | n+1,m,e,h1,h6,he,h=>by
  have ih:=TU n
  rcases (show m=1∨m=2∨m=3∨m=4∨m=5∨m=6 by omega) with rfl|rfl|rfl|rfl|rfl|rfl
  ·refine afF he fun x hx=>ih 2 x (by omega) (by omega) (BD he x hx) ?_
   have:=F6 (sep:=[124]) (m:=2) (f:=true) hx
   rw[TM] at h
   omega
  ·refine sX he fun x hx=>ih 3 x (by omega) (by omega) (BD he x hx) ?_
   have:=F6 (sep:=[38]) (m:=3) (f:=true) hx
   rw[TN] at h
   omega
  ·refine afG he fun x hx=>ih 4 x (by omega) (by omega) (BD he x hx) ?_
   have:=F6 (sep:=[]) (m:=4) (f:=true) hx
   rw[TO] at h
   omega
  ·refine afH he (fun k hk=> ?_) fun ho=> ?_
   ·subst hk
    rw[Bz,List.length_cons] at h
    exact ih 4 k (by omega) (by omega) ((hZ he).2 k (by simp)) (by omega)
   ·rw[BA ho] at h
    exact ih 5 e (by omega) (by omega) he (by omega)
  ·obtain ⟨b,k,e1,e2,e3,e4⟩:=LB e he
   refine afI e1 e4 (ih 6 b (by omega) (by omega) e3 ?_)
   rw[e4,cx] at h
   omega
  ·refine afJ he fun ho=>ih 1 e (by omega) (by omega) he ?_
   rw[pG ho,List.length_cons,cx] at h
   simp only[List.length_cons,List.length_nil] at h
   omega
theorem TV (e:Ex):TX 1 e=e.text:=by
 unfold TX eh
 rw[ah]
 unfold fN
 repeat' split
 all_goals omega
theorem TW {a b:Ex} (ha:a.wf 6=true) (hb:b.wf 6=true) (h:a.text=b.text):a=b:=
 (TU _ 1 a (by omega) (by omega) ha (yk _) b [] [] hb TP TP (by rw[TV,TV,h])).1
end Go.AM
set_option maxRecDepth 100000
namespace Go.AM
open Go.Proofs
noncomputable def TY (C:ag) (ai ar:Int) (af:List V):Option (List V):=
 (C z5 [.int .i64 ai,.int .i64 ar,.list aa af]).bind fun r1=>
 bif !((V.nth r1 0).toBool) then
  some [.str []]
 else
  (C sd [.int .i64 ai,.int .i64 ar,.list aa af,.list cV ([]:List V)]).bind fun r2=>
  (C Eo [.list cV ((V.nth r2 0).toList)]).bind fun r3=>
  some [.str ((V.nth r3 0).toStr)]
theorem afK {ai ar:Int} {af:List V} {r:Option (List V)} (h:TY CC ai ar af=r):CC wO [.int .i64 ai,.int .i64 ar,.list aa af]=r:=
 aY (key:=60) (L:=cg) (bs:=[]) (by kernel_rfl) av (aW (by kernel_rfl) h)
noncomputable abbrev ij:Code:=cJ Try.prog (ax.aV 75)
noncomputable def F7 (C:ag) (t5:Int) (t28:Bool) (gn e8:Int) (ef bx:List V) {β:Type} (kr:(List V)→Option β):Option β:=
 bif t28 then
  (C sf [.list aa ef,.str [38],.int .i64 3,.list cV bx]).bind fun r5=>
  kr ((V.nth r5 0).toList)
 else
  bif (t5:Int)==5 then
  (C sf [.list aa ef,.str [],.int .i64 4,.list cV bx]).bind fun r6=>
  kr ((V.nth r6 0).toList)
  else
  bif (t5:Int)==8 then
   (C pj [.int .u8 33,.list cV bx]).bind fun r7=>
   (C sf [.list aa ef,.str [],.int .i64 4,.list cV ((V.nth r7 0).toList)]).bind fun r8=>
   kr ((V.nth r8 0).toList)
  else
   bif (t5:Int)==7 then
   (C sf [.list aa ef,.str [],.int .i64 5,.list cV bx]).bind fun r9=>
   (C pj [.int .u8 42,.list cV ((V.nth r9 0).toList)]).bind fun dW=>
   kr ((V.nth dW 0).toList)
   else
   kr bx
noncomputable def F8 (C:ag) (t5:Int) (t22:Bool) (gn e8:Int) (ef bx:List V) {β:Type} (kr:(List V)→Option β):Option β:=
 bif t22 then
  (C sf [.list aa ef,.str [124],.int .i64 2,.list cV bx]).bind fun r4=>
  kr ((V.nth r4 0).toList)
 else
  F7 C t5 ((t5:Int)==6) gn e8 ef bx (fun (u5:List V)=>
   kr u5)
noncomputable def F9 (C:ag) (t5:Int) (t14:Bool) (gn e8:Int) (ef bx:List V) {β:Type} (kr:(List V)→Option β):Option β:=
 bif t14 then
  (C pj [.int .u8 (IntKind.wrap .u8 (97+(IntKind.wrap .u8 e8))),.list cV bx]).bind fun r3=>
  kr ((V.nth r3 0).toList)
 else
  F8 C t5 ((t5:Int)==4) gn e8 ef bx (fun (BE:List V)=>
   kr BE)
noncomputable def Ga (C:ag) (t5:Int) (t10:Bool) (gn e8:Int) (ef bx:List V) {β:Type} (kr:(List V)→Option β):Option β:=
 bif t10 then
  (C pj [.int .u8 49,.list cV bx]).bind fun r2=>
  kr ((V.nth r2 0).toList)
 else
  F9 C t5 ((t5:Int)==3) gn e8 ef bx (fun (u6:List V)=>
   kr u6)
noncomputable def Gb (C:ag) (t5:Int) (t6:Bool) (gn e8:Int) (ef bx:List V) {β:Type} (kr:(List V)→Option β):Option β:=
 bif t6 then
  (C pj [.int .u8 48,.list cV bx]).bind fun r1=>
  kr ((V.nth r1 0).toList)
 else
  Ga C t5 ((t5:Int)==2) gn e8 ef bx (fun (rb:List V)=>
   kr rb)
noncomputable def TZ (C:ag):cz:=fun β n ds k=>
 bif Nat.beq n 463 then iK Jp [[0]] (@F7 C) ds k else
 bif Nat.beq n 367 then iK Jq [[0]] (@F8 C) ds k else
 bif Nat.beq n 239 then iK Jr [[0]] (@F9 C) ds k else
 bif Nat.beq n 175 then iK Js [[0]] (@Ga C) ds k else
 bif Nat.beq n 111 then iK Jt [[0]] (@Gb C) ds k else
 none
abbrev BF (C:ag) (b:cv):Prop:=cw Try.prog ax C (TZ C) 75 (cM Try.prog (ax.aV 75)) (ax.sin 75).a8.length b
theorem afL (C:ag):BF C (.cond 28 (aw [1,1,0,1,1,1,1,1,1,1,1,1,0] ij) (aw [1,1,0,1,1,1,1,1,1,1,1,1,1] ij)):=
 jf Jp [[0]] (@F7 C) (by kernel_rfl) (bf (bs:=[]) (by kernel_rfl) av) (bf (bs:=[]) (by kernel_rfl) av) (fun ds=>by kernel_rfl) (fun i β k=>by kernel_rfl) (fun β ds k=>by kernel_rfl)
theorem afM (C:ag):BF C (.cond 22 (aw [1,1,0,1,1,1,1,1,1,1,0] ij) (aw [1,1,0,1,1,1,1,1,1,1,1] ij)):=
 jf Jq [[0]] (@F8 C) (by kernel_rfl) (bf (bs:=[]) (by kernel_rfl) av) (bf (bs:=[.cond 28 (aw [1,1,0,1,1,1,1,1,1,1,1,1,0] ij) (aw [1,1,0,1,1,1,1,1,1,1,1,1,1] ij)]) (by kernel_rfl) (bD (afL C) av)) (fun ds=>by kernel_rfl) (fun i β k=>by kernel_rfl) (fun β ds k=>by kernel_rfl)
theorem afN (C:ag):BF C (.cond 14 (aw [1,1,0,1,1,1,1,1,0] ij) (aw [1,1,0,1,1,1,1,1,1] ij)):=
 jf Jr [[0]] (@F9 C) (by kernel_rfl) (bf (bs:=[]) (by kernel_rfl) av) (bf (bs:=[.cond 22 (aw [1,1,0,1,1,1,1,1,1,1,0] ij) (aw [1,1,0,1,1,1,1,1,1,1,1] ij)]) (by kernel_rfl) (bD (afM C) av)) (fun ds=>by kernel_rfl) (fun i β k=>by kernel_rfl) (fun β ds k=>by kernel_rfl)
theorem afO (C:ag):BF C (.cond 10 (aw [1,1,0,1,1,1,0] ij) (aw [1,1,0,1,1,1,1] ij)):=
 jf Js [[0]] (@Ga C) (by kernel_rfl) (bf (bs:=[]) (by kernel_rfl) av) (bf (bs:=[.cond 14 (aw [1,1,0,1,1,1,1,1,0] ij) (aw [1,1,0,1,1,1,1,1,1] ij)]) (by kernel_rfl) (bD (afN C) av)) (fun ds=>by kernel_rfl) (fun i β k=>by kernel_rfl) (fun β ds k=>by kernel_rfl)
theorem afP (C:ag):BF C (.cond 6 (aw [1,1,0,1,0] ij) (aw [1,1,0,1,1] ij)):=
 jf Jt [[0]] (@Gb C) (by kernel_rfl) (bf (bs:=[]) (by kernel_rfl) av) (bf (bs:=[.cond 10 (aw [1,1,0,1,1,1,0] ij) (aw [1,1,0,1,1,1,1] ij)]) (by kernel_rfl) (bD (afO C) av)) (fun ds=>by kernel_rfl) (fun i β k=>by kernel_rfl) (fun β ds k=>by kernel_rfl)
noncomputable def T2 (C:ag) (ai ar:Int) (af bC:List V):Option (List V):=
 Gb C ai ((ai:Int)==1) ai ar af bC (fun (sJ:List V)=>
  some [.list cV sJ])
theorem afQ {ai ar:Int} {af bC:List V} {r:Option (List V)} (h:T2 CC ai ar af bC=r):CC sd [.int .i64 ai,.int .i64 ar,.list aa af,.list cV bC]=r:=
 aY (key:=75) (L:=TZ CC) (bs:=[.cond 6 (aw [1,1,0,1,0] ij) (aw [1,1,0,1,1] ij)]) (by kernel_rfl) (bD (afP CC) av) (aW (by kernel_rfl) h)
noncomputable abbrev yd:Code:=cJ Try.prog (ax.aV 91)
noncomputable def BG (C:ag) (separator:List UInt8) (least:Int) (t10:List V) (t11 t12:Int) (t18:Bool) (aiY aiZ:Int) (ai0 bx:List V) {β:Type} (kr:(List V)→Option β):Option β:=
 bif t18 then
  (C Ey [.str separator,.list cV bx]).bind fun r2=>
  kr ((V.nth (r2.drop 1) 0).toList)
 else
  kr bx
noncomputable def BH (C:ag) (separator:List UInt8) (least:Int) (t10:List V) (t11 t12:Int) (cP:List V) {β:Type} (kn:(Int × (List V))→Option β) (kr:(Int × Bool × (List V))→Option β):Option β:=
 bif decide ((t12:Int)<t11) then
  (idx t10 t12).bind fun x1=>
  BG C separator least t10 t11 t12 (decide ((t12:Int)>0)) ((x1.cell 0).toInt) ((x1.cell 1).toInt) ((x1.cell 2).toList) cP (fun (FW:List V)=>
   (C Ez [.int .i64 ((x1.cell 0).toInt)]).bind fun r4=>
   bif decide ((((V.nth r4 0).toInt):Int)≥least) then
   (C sd [.int .i64 ((x1.cell 0).toInt),.int .i64 ((x1.cell 1).toInt),.list aa ((x1.cell 2).toList),.list cV FW]).bind fun r5=>
   kn (IntKind.wrap .i64 (t12+1),(V.nth r5 0).toList)
   else
   (C pj [.int .u8 40,.list cV FW]).bind fun r6=>
   (C sd [.int .i64 ((x1.cell 0).toInt),.int .i64 ((x1.cell 1).toInt),.list aa ((x1.cell 2).toList),.list cV ((V.nth r6 0).toList)]).bind fun r7=>
   (C pj [.int .u8 41,.list cV ((V.nth r7 0).toList)]).bind fun r8=>
   kn (IntKind.wrap .i64 (t12+1),(V.nth r8 0).toList))
 else
  kr (t12,decide ((t12:Int)<t11),cP)
noncomputable def BI (C:ag) (separator:List UInt8) (least:Int) (t10:List V) (t11:Int):(Int × (List V))→Option ((Int × (List V)) ⊕ (Int × Bool × (List V))):=un fun t12 cP=>BH C separator least t10 t11 t12 cP (fun y=>some (.inl y)) (fun r=>some (.inr r))
noncomputable def T4 (C:ag):cz:=fun β n ds k=>
 bif Nat.beq n 303 then iK Jy [[1,2,3,4,5,7,8,9,0]] (@BG C) ds k else
 bif Nat.beq n 17 then cf Jz [false,false,false,false,true,true] [[1,2,3,4,0,0,0]] (@BH C) ds k else
 none
abbrev T6 (C:ag) (b:cv):Prop:=cw Try.prog ax C (T4 C) 91 (cM Try.prog (ax.aV 91)) (ax.sin 91).a8.length b
theorem afR (C:ag):T6 C (.cond 18 (aw [1,0,0,1,1,0,0,1,0,1,0] yd) (aw [1,0,0,1,1,0,0,1,0,1,1] yd)):=
 jf Jy [[1,2,3,4,5,7,8,9,0]] (@BG C) (by kernel_rfl) (bf (bs:=[]) (by kernel_rfl) av) (bf (bs:=[]) (by kernel_rfl) av) (fun ds=>by kernel_rfl) (fun i β k=>by kernel_rfl) (fun β ds k=>by kernel_rfl)
theorem afS (C:ag):T6 C (.loop (aw [1,0,0] yd)):=
 cm Jz [false,false,false,false,true,true] [[1,2,3,4,0,0,0]] (@BH C) (by kernel_rfl) (bf (bs:=[.cond 18 (aw [1,0,0,1,1,0,0,1,0,1,0] yd) (aw [1,0,0,1,1,0,0,1,0,1,1] yd)]) (by kernel_rfl) (bD (afR C) av)) (fun ds=>by kernel_rfl) (fun i x=>by kernel_rfl) (fun i x β k=>by kernel_rfl) (fun β ds k=>by kernel_rfl)
noncomputable def T7 (C:ag) (kids:List V) (separator:List UInt8) (least:Int) (bC:List V):Option (List V):=
 (Loop (BI C separator least kids (kids.length:Int)) (0,bC)).bind (un fun (sh:Int)=>un fun (xc:Bool) (u5:List V)=>
  some [.list cV u5])
theorem afT {kids:List V} {separator:List UInt8} {least:Int} {bC:List V} {r:Option (List V)} (h:T7 CC kids separator least bC=r):CC sf [.list aa kids,.str separator,.int .i64 least,.list cV bC]=r:=
 aY (key:=91) (L:=T4 CC) (bs:=[.loop (aw [1,0,0] yd)]) (by kernel_rfl) (bD (afS CC) av) (aW (by kernel_rfl) h)
noncomputable def T8 (C:ag) (op:Int):Option (List V):=
 bif (op:Int)==4 then
  some [.int .i64 1]
 else
  bif (op:Int)==6 then
  some [.int .i64 2]
  else
  bif (op:Int)==5 then
   some [.int .i64 3]
  else
   bif (op:Int)==8 then
   some [.int .i64 4]
   else
   bif (op:Int)==7 then
    some [.int .i64 5]
   else
    some [.int .i64 6]
theorem afU {op:Int} {r:Option (List V)} (h:T8 CC op=r):CC Ez [.int .i64 op]=r:=
 aY (key:=104) (L:=cg) (bs:=[]) (by kernel_rfl) av (aW (by kernel_rfl) h)
noncomputable def T9 (C:ag) (c:Int) (bC:List V):Option (List V):=
 bif Nat.ble ((bC.length+([.int .u8 c]:List V).length)*1) cI then
  some [.list cV (bC++([.int .u8 c]:List V))]
 else none
theorem afV {c:Int} {bC:List V} {r:Option (List V)} (h:T9 CC c bC=r):CC pj [.int .u8 c,.list cV bC]=r:=
 aY (key:=90) (L:=cg) (bs:=[]) (by kernel_rfl) av (aW (by kernel_rfl) h)
noncomputable def Ua (C:ag) (s:List UInt8) (bC:List V):Option (List V):=
 bif Nat.ble ((bC.length+(s.map dm).length)*1) cI then
  some [.int .i64 (s.length:Int),.list cV (bC++(s.map dm))]
 else none
theorem afW {s:List UInt8} {bC:List V} {r:Option (List V)} (h:Ua CC s bC=r):CC Ey [.str s,.list cV bC]=r:=
 aY (key:=103) (L:=cg) (bs:=[]) (by kernel_rfl) av (aW (by kernel_rfl) h)
noncomputable def Ub (C:ag) (bC:List V):Option (List V):=
 bif Nat.blt 0 bC.length then
  bif decide (0<(bC.length:Int))&&(decide ((bC.length:Int)≤(bC.length:Int))&&(Nat.ble (((bC.length:Int):Int).toNat) rE&&(bC.take (((bC.length:Int):Int).toNat)).all vw)) then
  some [.str (ku (bC.take (((bC.length:Int):Int).toNat)))]
  else none
 else none
theorem afX {bC:List V} {r:Option (List V)} (h:Ub CC bC=r):CC Eo [.list cV bC]=r:=
 aY (key:=76) (L:=cg) (bs:=[]) (by kernel_rfl) av (aW (by kernel_rfl) h)
end Go.AM
set_option maxRecDepth 100000
namespace Go.AM
open Go.Proofs Ex
theorem u7 (c:UInt8) (b:List UInt8) (h:b.length<2^40):CC pj [.int .u8 c.toNat,.list cV (b.map dm)]=some [.list cV ((b++[c]).map dm)]:=by
 refine afV ?_
 unfold T9
 simp only[IJ]
 rw[aj (by simp[cI];omega)]
 simp[dm]
theorem afY (s b:List UInt8) (h:b.length+s.length<2^40):CC Ey [.str s,.list cV (b.map dm)]=some [.int .i64 s.length,.list cV ((b++s).map dm)]:=by
 refine afW ?_
 unfold Ua
 simp only[IJ]
 rw[aj (by simp[cI];omega)]
 simp
theorem afZ (b:List UInt8):ku (b.map dm)=b:=by
 unfold ku
 rw[List.map_map]
 have:((fun x:V=>UInt8.ofNat x.toInt.toNat) ∘ dm)=id:=by
  funext c
  simp[dm]
 rw[this,List.map_id]
theorem af0 (b:List UInt8) (h0:b≠[]) (h:b.length<2^40):CC Eo [.list cV (b.map dm)]=some [.str b]:=by
 refine afX ?_
 unfold Ub
 have hp:0<b.length:=by cases b<;>simp at h0⊢
 have h1:Nat.blt 0 (b.map dm).length=true:=by rw[jN];simpa using hp
 have U:(((b.map dm).length:Int)).toNat=(b.map dm).length:=by simp
 have h3:Nat.ble (b.map dm).length rE=true:=Nat.ble_eq_true_of_le (by simp[rE];omega)
 have h4:(b.map dm).all vw=true:=by
  rw[fc]
  intro x hx
  obtain ⟨c,_,rfl⟩:=gz.1 hx
  have:=c.toNat_lt
  simp[vw,dm]
  omega
 rw[h1,U,pL,h3,h4,afZ]
 simp[hp]
theorem af1 (op:Int):CC Ez [.int .i64 op]=some [.int .i64 (fN op)]:=by
 refine afU ?_
 unfold T8 fN
 simp only[eL]
 repeat' split
 all_goals rfl
theorem af2 {ks:List Ex} (hlen:ks.length≤maxLen) (ih: ∀k∈ks,∀b:List UInt8,b.length+k.text.length<2^40→CC sd (bM k [.list cV (b.map dm)])=some [.list cV ((b++k.text).map dm)]) (sep:List UInt8) (least:Int):
  ∀(aI pre:List Ex) (b:List UInt8),ks=pre++aI→b.length+(texts sep least pre.isEmpty aI).length<2^40→
  ∃i t,Loop (BI CC sep least (ks.map enc) ((ks.map enc).length:Int)) (((pre.length:Nat):Int),b.map dm)=some (i,t,(b++texts sep least pre.isEmpty aI).map dm):=by
 intro aI
 induction aI with
 | nil=>
  intro pre b aZ hb
  subst aZ
  refine ⟨((pre.length:Nat):Int),false,bc ?_⟩
  simp only[BI,BH,un,dJ,a9,aA,texts]
  rw[ah (by omega)]
  simp
 | cons k aI fE=>
  intro pre b aZ hb
  have bZ:pre.length<ks.length:=by rw[aZ];simp
  have hm:k∈ks:=by rw[aZ];simp
  have:=kO
  have bY:idx (ks.map enc) (pre.length:Int)=some k.enc:=by rw[aZ];exact jh _ _ _
  generalize gK:(if pre.isEmpty then [] else sep)=sp
  have ht:texts sep least pre.isEmpty (k::aI)=sp++(eh k.op least k.text++texts sep least false aI):=by simp only[texts,gK]
  rw[ht] at hb⊢
  simp only[cx] at hb
  have dp:BI CC sep least (ks.map enc) ((ks.map enc).length:Int) (((pre.length:Nat):Int),b.map dm)=some (.inl ((((pre++[k]).length:Nat):Int),(b++sp++eh k.op least k.text).map dm)):=by
   have h1: ∀{β:Type} (kr:List V→Option β) (o l:Int) (es:List V),BG CC sep least (ks.map enc) ((ks.length:Nat):Int) ((pre.length:Nat):Int) (decide (((pre.length:Nat):Int)>0)) o l es (b.map dm) kr=kr ((b++sp).map dm):=by
    intro β kr o l es
    unfold BG
    cases pre with
    | nil=>
     simp at gK
     subst gK
     simp
    | cons a pre=>
     simp at gK
     subst gK
     rw[afY _ _ (by omega)]
     have:(0:Int)<((a::pre).length:Int):=by simp only[List.length_cons];omega
     simp[this]
   simp only[BI,BH,un,a9,aA]
   rw[aj (by omega),bY]
   simp only[Option.bind_some,bh,bj,bm]
   rw[h1,af1]
   simp only[Option.bind_some,V.aQ,V.toInt_int,aA]
   unfold eh at hb⊢
   by_cases hl:fN k.op<least
   ·rw[ah (by omega),aj hl]
    rw[aj hl] at hb
    simp only[List.length_cons,cx,List.length_nil] at hb
    rw[show (V.int .u8 40)= .int .u8 (((40:UInt8).toNat:Nat):Int) by rfl,show (V.int .u8 41)= .int .u8 (((41:UInt8).toNat:Nat):Int) by rfl]
    rw[u7 _ _ (by simp;omega)]
    simp only[Option.bind_some,V.aQ,V.lz]
    rw[ih k hm _ (by simp;omega)]
    simp only[Option.bind_some,V.aQ,V.lz]
    rw[u7 _ _ (by simp;omega),wrap64 (by omega) (by omega)]
    simp
   ·rw[aj (by omega),ah hl]
    rw[ah hl] at hb
    rw[ih k hm _ (by simp;omega)]
    simp only[Option.bind_some,V.aQ,V.lz]
    rw[wrap64 (by omega) (by omega)]
    simp
  rw[bV dp]
  have hE:(pre++[k]).isEmpty=false:=by cases pre<;>rfl
  have h3:=fE (pre++[k]) (b++sp++eh k.op least k.text) (by rw[aZ];simp)
  rw[hE] at h3
  obtain ⟨i,t,U⟩:=h3 (by simp only[cx];omega)
  refine ⟨i,t,U.trans ?_⟩
  simp
theorem af3 {ks:List Ex} (hlen:ks.length≤maxLen) (ih: ∀k∈ks,∀b:List UInt8,b.length+k.text.length<2^40→CC sd (bM k [.list cV (b.map dm)])=some [.list cV ((b++k.text).map dm)]) (sep:List UInt8) (least:Int) (b:List UInt8)
  (hb:b.length+(texts sep least true ks).length<2^40):CC sf [.list aa (ks.map enc),.str sep,.int .i64 least,.list cV (b.map dm)]=some [.list cV ((b++texts sep least true ks).map dm)]:=by
 refine afT ?_
 unfold T7
 obtain ⟨i,t,h⟩:=af2 hlen ih sep least ks [] b rfl hb
 simp only[List.length_nil,Int.ofNat_zero,Int.natCast_zero,List.isEmpty_nil] at h
 erw [h]
 rfl
theorem af4 {l n:Int} (h:dB 3 l n 6=true):0≤l∧l<6:=by
 simp[dB] at h;omega
theorem Uc {o l n letters:Int} (ho:o<1∨8<o):dB o l n letters=false:=by
 have n1:o≠1:=by omega
 have n2:o≠2:=by omega
 have n3:o≠3:=by omega
 have n7:o≠7:=by omega
 have n8:o≠8:=by omega
 have n9: ¬(4≤o∧o≤6∧2≤n):=by omega
 simp[dB,n1,n2,n3,n7,n8,n9]
theorem af5: ∀e:Ex,e.Ok→e.wf 6=true→∀b:List UInt8,b.length+e.text.length<2^40→CC sd (bM e [.list cV (b.map dm)])=some [.list cV ((b++e.text).map dm)]:=
 ind fun o l ks ih au zU b hb=>by
  obtain ⟨w1,w2⟩:=hZ zU
  have hw:=fun sep least b=>af3 au.len (fun k hk=>ih k hk (au.mr k hk) (w2 k hk)) sep least b
  refine afQ ?_
  unfold T2 Gb Ga F9 F8 F7
  simp only[Ex.op,Ex.cO,Ex.kids]
  rcases Av o with rfl|rfl|rfl|rfl|rfl|rfl|rfl|rfl|ho
  case inr.inr.inr.inr.inr.inr.inr.inr=>rw[Uc ho] at w1;cases w1
  ·simp[text] at hb⊢
   rw[show (V.int .u8 48)= .int .u8 (((48:UInt8).toNat:Nat):Int) by rfl,u7 _ _ (by omega)]
   simp
  ·simp[text] at hb⊢
   rw[show (V.int .u8 49)= .int .u8 (((49:UInt8).toNat:Nat):Int) by rfl,u7 _ _ (by omega)]
   simp
  ·have hl:=af4 w1
   simp[text] at hb⊢
   rw[zV (x:=l) (by omega) (by omega),zV (by omega) (by omega)]
   have:(V.int .u8 (97+l))= .int .u8 (((UInt8.ofNat (97+l).toNat).toNat:Nat):Int):=by
    have:(97+l).toNat<256:=by omega
    simp only[UInt8.toNat_ofNat']
    congr 1
    omega
   rw[this,u7 _ _ (by omega)]
   simp
  ·simp[text] at hb⊢
   rw[hw _ _ _ (by omega)]
   simp
  ·simp[text] at hb⊢
   rw[hw _ _ _ (by omega)]
   simp
  ·simp[text] at hb⊢
   rw[hw _ _ _ (by omega)]
   simp
  ·simp[text] at hb⊢
   rw[hw _ _ _ (by omega)]
   simp only[Option.bind_some,V.aQ,V.lz]
   rw[show (V.int .u8 42)= .int .u8 (((42:UInt8).toNat:Nat):Int) by rfl,u7 _ _ (by simp;omega)]
   simp
  ·simp[text] at hb⊢
   rw[show (V.int .u8 33)= .int .u8 (((33:UInt8).toNat:Nat):Int) by rfl,u7 _ _ (by omega)]
   simp only[Option.bind_some,V.aQ,V.lz]
   rw[hw _ _ _ (by simp;omega)]
   simp
theorem af6: ∀e:Ex,e.wf 6=true→e.text≠[]:=ind fun o l ks ih h=>by
 obtain ⟨w1,w2⟩:=hZ h
 rcases Av o with rfl|rfl|rfl|rfl|rfl|rfl|rfl|rfl|ho
 case inr.inr.inr.inr.inr.inr.inr.inr=>rw[Uc ho] at w1;cases w1
 case inr.inr.inr.inl=>
  intro hh
  match ks,w1,hh with
  | [],w1,_=>simp[dB] at w1
  | [a],w1,_=>simp[dB] at w1
  | a::b::l,_,hh=>simp[text,texts] at hh
 case inr.inr.inr.inr.inr.inl=>
  intro hh
  match ks,w1,hh with
  | [],w1,_=>simp[dB] at w1
  | [a],w1,_=>simp[dB] at w1
  | a::b::l,_,hh=>simp[text,texts] at hh
 case inr.inr.inr.inr.inl=>
  intro hh
  match ks,w1,w2,hh,ih with
  | [],w1,_,_,_=>simp[dB] at w1
  | a::ks,_,w2,hh,ih=>
   have:=ih a (by simp) (w2 a (by simp))
   simp[text,texts,eh] at hh
   split at hh
   ·simp at hh
   ·exact this hh.1
 all_goals simp[text]
theorem af7 (e:Ex) (h:e.Ok):CC wO (bM e [])=some [.str (if e.val 6=0 then e.text else [])]:=by
 refine afK ?_
 unfold TY
 rw[QK e h]
 by_cases hv:e.val 6=0
 ·obtain ⟨_,U,h3⟩:=nr hv
  have hl:=TL e
  have hw:=af5 e h h3 [] (by simp;omega)
  simp only[gA,List.nil_append] at hw
  simp only[Option.bind_some,V.aQ,V.dA,hv,rn,pN,cond_false,dj]
  rw[hw]
  simp only[Option.bind_some,V.aQ,V.lz]
  rw[af0 _ (af6 e h3) (by omega)]
  simp
 ·simp[hv]
end Go.AM
set_option maxRecDepth 100000
namespace Go.AM
structure Da where
 L:Nat
 st:Nat
 F:List Bool
 N:List (List Nat)
deriving DecidableEq
namespace Da
def n (d:Da):Nat:=d.F.length
def nx (d:Da) (q x:Nat):Nat:=(d.N.getD q []).getD x 0
def fin (d:Da) (q:Nat):Bool:=d.F.getD q false
def run (d:Da) (q:Nat) (w:List Nat):Nat:=w.foldl d.nx q
def acc (d:Da) (q:Nat) (w:List Nat):Bool:=d.fin (d.run q w)
structure Ok (d:Da):Prop where
 l1:1≤d.L
 l6:d.L≤6
 nN:d.N.length=d.n
 row: ∀r∈d.N,r.length=d.L∧∀q∈r,q<d.n
 s:d.st<d.n
 cH:d.n≤512
end Da
def WL (L:Nat) (w:List Nat):Prop:= ∀x∈w,x<L
theorem WL.nil {L:Nat}:WL L []:=fun _ h=>by cases h
theorem WL.cons {L x:Nat} {w:List Nat} (h:x<L) (hw:WL L w):WL L (x::w):=fun y hy=>by
 rcases dg.1 hy with rfl|hy
 ·exact h
 ·exact hw y hy
theorem WL.tail {L x:Nat} {w:List Nat} (h:WL L (x::w)):WL L w:=fun y hy=>h y (by simp[hy])
theorem WL.app {L:Nat} {v w:List Nat}:WL L (v++w)↔WL L v∧WL L w:=by
 unfold WL
 simp only[ei]
 exact ⟨fun h=>⟨fun x hx=>h x (.inl hx),fun x hx=>h x (.inr hx)⟩,fun h x hx=>hx.elim (h.1 x) (h.2 x)⟩
namespace Da
def Gc (d:Da) (q:Nat) (d':Da) (q':Nat):Prop:= ∀w,WL d.L w→d.acc q w=d'.acc q' w
theorem Gc.nx {d d':Da} {q q' x:Nat} (h:d.Gc q d' q') (hx:x<d.L):d.Gc (d.nx q x) d' (d'.nx q' x):=fun w hw=>h (x::w) (hw.cons hx)
def pos (d:Da) (t:Nat):Nat:=d.nx (t/d.L) (t %d.L)
def mt (d:Da):Nat→Nat
 | 0=>1
 | t+1=>if d.pos t=d.mt t then d.mt t+1 else d.mt t
structure Num (d:Da):Prop where
 le: ∀t,t<d.n*d.L→d.pos t≤d.mt t
 row: ∀q,q<d.n→q<d.mt (q*d.L)
 all:d.mt (d.n*d.L)=d.n
structure Canon (d:Da) (L:Nat) (K:List Nat→Bool):Prop where
 ok:d.Ok
 hL:d.L=L
 st:d.st=0
 num:d.Num
 red: ∀p q,p<d.n→q<d.n→d.Gc p d q→p=q
 ai1: ∀w,WL L w→d.acc 0 w=K w
end Da
section
variable {α:Type} [DecidableEq α]
def af8 (S:List α) (a:α):List α:=if a∈S then S else S++[a]
def Ud (next:α→Nat→α) (S:List α) (a:α):Nat→List α
 | 0=>S
 | x+1=>af8 (Ud next S a x) (next a x)
def BJ (L:Nat) (next:α→Nat→α) (a0:α):Nat→List α
 | 0=>[a0]
 | i+1=>match (BJ L next a0 i)[i]? with
  | some a=>Ud next (BJ L next a0 i) a L
  | none=>BJ L next a0 i
variable {L:Nat} {next:α→Nat→α} {a0:α}
section
variable {k:Nat} (hd:(BJ L next a0 k).length≤k)
include hd
end
section
variable {k:Nat} (hd:(BJ L next a0 k).length≤k) {fin:α→Bool}
include hd
end
end
namespace Da
end Da
end Go.AM
set_option maxRecDepth 100000
namespace Go.AM
open Go.Proofs
section
variable {α:Type} (ke:α→V)
def lL (i:Nat):List α→List V
 | []=>[]
 | a::S=> .bd [ke a,iV (i:Int)]::lL (i+1) S
where iV (n:Int):V:= .int .i64 n
end
section
variable {α:Type} [DecidableEq α] {ke:α→V}
variable (hk: ∀a b,lS (ke a) (ke b)=decide (a=b))
include hk
theorem Ue (x:α): ∀(S:List α) (i:Nat),k9 (ke x) (lL ke i S)=decide (x∈S)
 | [],_=>by simp[lL,k9]
 | a::S,i=>by
  have c: ∀(p q:V),(V.bd [p,q]).comp 0=p:=fun p q=>rfl
  rw[lL,k9,c,hk,Ue x S (i+1)]
  rw[nS]
  simp
theorem Uf (x:α) (z:V): ∀(S:List α) (i:Nat),x∈S→lT (ke x) (lL ke i S) z= .int .i64 ((i+S.idxOf x:Nat):Int)
 | [],_,h=>by cases h
 | a::S,i,h=>by
  have c: ∀(p q:V),(V.bd [p,q]).comp 0=p:=fun p q=>rfl
  have c1: ∀(p q:V),(V.bd [p,q]).comp 1=q:=fun p q=>rfl
  rw[lL,lT,c,c1,hk]
  by_cases e:x=a
  ·subst e
   rw[cZ rfl]
   simp[lL.iV]
  ·rw[bL e,cond_false,Uf x z S (i+1) ((dg.1 h).resolve_left e),show (a::S).idxOf x=S.idxOf x+1 from by rw[List.idxOf_cons,show (a==x)=false from rm.2 fun h=>e h.symm];rfl]
   congr 2
   omega
theorem Ug (x:α): ∀(S:List α) (i:Nat),x∉S→im (ke x) (.int .i64 ((i+S.length:Nat):Int)) (lL ke i S)=lL ke i (S++[x])
 | [],i,_=>by simp[lL,im,lL.iV]
 | a::S,i,h=>by
  have c: ∀(p q:V),(V.bd [p,q]).comp 0=p:=fun p q=>rfl
  have e:x≠a:=fun e=>h (by simp[e])
  rw[lL,im,c,hk,bL e,cond_false,List.cons_append,lL]
  congr 1
  have:=Ug x S (i+1) fun hx=>h (by simp[hx])
  rw[←this]
  simp only[List.length_cons]
  congr 3
  omega
end
noncomputable def Uh (C:ag) (ai ar:Int) (af:List V) (bU b7:Int) (bC cP bx:List V):Option (List V):=
 (C wO [.int .i64 ai,.int .i64 ar,.list aa af]).bind fun r1=>
 bif Nat.ble (((V.nth r1 0).toStr).length) maxLen&&true then
  bif Nat.ble ((bC.length+([.agg [.int .i64 0,.int .i64 0,.list aa ([]:List V)]]:List V).length)*40) cI then
  bif (decide (0≤(bC.length:Int)))&&(decide ((bC.length:Int)<((bC++([.agg [.int .i64 0,.int .i64 0,.list aa ([]:List V)]]:List V)).length:Int))) then
   ((bC++([.agg [.int .i64 0,.int .i64 0,.list aa ([]:List V)]]:List V))[((bC.length:Int):Int).toNat]?).bind fun x2=>
   some [.int .i64 (bC.length:Int),.int .i64 bU,.int .i64 b7,.list cq (im (.str ((V.nth r1 0).toStr)) (.int .i64 (bC.length:Int)) bx),.list aa ((bC++([.agg [.int .i64 0,.int .i64 0,.list aa ([]:List V)]]:List V)).set (((bC.length:Int):Int).toNat) (.agg [.int .i64 ai,.int .i64 ar,.list aa af])),.list bq cP]
  else none
  else none
 else none
theorem af9 {ai ar:Int} {af:List V} {bU b7:Int} {bC cP bx:List V} {r:Option (List V)} (h:Uh CC ai ar af bU b7 bC cP bx=r):CC z0 [.int .i64 ai,.int .i64 ar,.list aa af,.int .i64 bU,.int .i64 b7,.list aa bC,.list bq cP,.list cq bx]=r:=
 aY (key:=57) (L:=cg) (bs:=[]) (by kernel_rfl) av (aW (by kernel_rfl) h)
noncomputable def Ui (C:ag) (ai ar:Int) (af:List V) (letters:Int):Option (List V):=
 (C z0 [.int .i64 ai,.int .i64 ar,.list aa af,.int .i64 letters,.int .i64 0,.list aa ([]:List V),.list bq ([]:List V),.list cq ([]:List V)]).bind fun r1=>
 some [.int .i64 ((V.nth (r1.drop 1) 0).toInt),.int .i64 ((V.nth ((r1.drop 1).drop 1) 0).toInt),.list aa ((V.nth (((r1.drop 1).drop 2).drop 1) 0).toList),.list bq ((V.nth ((((r1.drop 1).drop 2).drop 1).drop 1) 0).toList),.list cq ((V.nth ((r1.drop 1).drop 2) 0).toList)]
theorem aga {ai ar:Int} {af:List V} {letters:Int} {r:Option (List V)} (h:Ui CC ai ar af letters=r):CC wI [.int .i64 ai,.int .i64 ar,.list aa af,.int .i64 letters]=r:=
 aY (key:=40) (L:=cg) (bs:=[]) (by kernel_rfl) av (aW (by kernel_rfl) h)
noncomputable def Uj (C:ag) (bU b7:Int) (bC cP bx:List V):Option (List V):=
 some [.bool ((b7:Int)==(bC.length:Int)),.int .i64 bU,.int .i64 b7,.list cq bx,.list aa bC,.list bq cP]
theorem agb {bU b7:Int} {bC cP bx:List V} {r:Option (List V)} (h:Uj CC bU b7 bC cP bx=r):CC wK [.int .i64 bU,.int .i64 b7,.list aa bC,.list bq cP,.list cq bx]=r:=
 aY (key:=42) (L:=cg) (bs:=[]) (by kernel_rfl) av (aW (by kernel_rfl) h)
noncomputable abbrev Uk:Code:=cJ Try.prog (ax.aV 43)
noncomputable def sK (C:ag) (t16 t17 bU b7:Int) (bx rows eE gQ:List V) {β:Type} (kn:(Int × Int × Int × (List V) × (List V) × (List V) × (List V))→Option β) (kr:((Int × Int × Int × (List V) × (List V) × (List V)) ⊕ (Int × Bool × Int × Int × (List V) × (List V) × (List V) × (List V)))→Option β):Option β:=
 bif decide ((t17:Int)<t16) then
  bif (decide (0≤b7))&&(decide (b7<(eE.length:Int))) then
  (eE[(b7:Int).toNat]?).bind fun x1=>
  (C Em [.int .i64 ((x1.cell 0).toInt),.int .i64 ((x1.cell 1).toInt),.list aa ((x1.cell 2).toList),.int .i64 t17]).bind fun r2=>
  bif (((V.nth (r2.drop 3) 0).toInt):Int) != 0 then
   kr (.inl ((V.nth (r2.drop 3) 0).toInt,bU,b7,bx,eE,gQ))
  else
   (C wO [.int .i64 ((V.nth r2 0).toInt),.int .i64 ((V.nth (r2.drop 1) 0).toInt),.list aa ((V.nth ((r2.drop 1).drop 1) 0).toList)]).bind fun r3=>
   bif Nat.ble (((V.nth r3 0).toStr).length) maxLen&&true then
   bif !(k9 (.str ((V.nth r3 0).toStr)) bx) then
    bif ((eE.length:Int):Int)==512 then
    kr (.inl (3,bU,b7,bx,eE,gQ))
    else
    (C z0 [.int .i64 ((V.nth r2 0).toInt),.int .i64 ((V.nth (r2.drop 1) 0).toInt),.list aa ((V.nth ((r2.drop 1).drop 1) 0).toList),.int .i64 bU,.int .i64 b7,.list aa eE,.list bq gQ,.list cq bx]).bind fun r4=>
    bif (decide (0≤t17))&&(decide (t17<(rows.length:Int))) then
     (rows[(t17:Int).toNat]?).bind fun x5=>
     kn (IntKind.wrap .i64 (t17+1),(V.nth (r4.drop 1) 0).toInt,(V.nth ((r4.drop 1).drop 1) 0).toInt,(V.nth ((r4.drop 1).drop 2) 0).toList,rows.set ((t17:Int).toNat) (.int .i64 ((V.nth r4 0).toInt)),(V.nth (((r4.drop 1).drop 2).drop 1) 0).toList,(V.nth ((((r4.drop 1).drop 2).drop 1).drop 1) 0).toList)
    else none
   else
    bif (decide (0≤t17))&&(decide (t17<(rows.length:Int))) then
    (rows[(t17:Int).toNat]?).bind fun x6=>
    kn (IntKind.wrap .i64 (t17+1),bU,b7,bx,rows.set ((t17:Int).toNat) (.int .i64 ((lT (.str ((V.nth r3 0).toStr)) bx (.int .i64 0)).toInt)),eE,gQ)
    else none
   else none
  else none
 else
  kr (.inr (t17,decide ((t17:Int)<t16),bU,b7,bx,rows,eE,gQ))
noncomputable def oL (C:ag) (t16:Int):(Int × Int × Int × (List V) × (List V) × (List V) × (List V))→Option ((Int × Int × Int × (List V) × (List V) × (List V) × (List V)) ⊕ ((Int × Int × Int × (List V) × (List V) × (List V)) ⊕ (Int × Bool × Int × Int × (List V) × (List V) × (List V) × (List V)))):=un fun t17=>un fun bU=>un fun b7=>un fun bx=>un fun rows=>un fun eE gQ=>sK C t16 t17 bU b7 bx rows eE gQ (fun y=>some (.inl y)) (fun r=>some (.inr r))
noncomputable def Ul (C:ag):cz:=fun β n ds k=>
 bif Nat.beq n 49 then cf Jd [false,true,true,true,true,true,true,true] [[0,0,0,0,0,0],[1,0,0,0,0,0,0,0,0]] (@sK C) ds k else
 none
abbrev agc (C:ag) (b:cv):Prop:=cw Try.prog ax C (Ul C) 43 (cM Try.prog (ax.aV 43)) (ax.sin 43).a8.length b
theorem agd (C:ag):agc C (.loop (aw [1,1,0,1,0,0] Uk)):=
 cm Jd [false,true,true,true,true,true,true,true] [[0,0,0,0,0,0],[1,0,0,0,0,0,0,0,0]] (@sK C) (by kernel_rfl) (bf (bs:=[]) (by kernel_rfl) av) (fun ds=>by kernel_rfl) (fun i x=>by kernel_rfl) (fun i x β k=>by kernel_rfl) (fun β ds k=>by kernel_rfl)
noncomputable def Um (C:ag) (bU b7:Int) (bC cP bx:List V):Option (List V):=
 bif (decide (0≤bU))&&((decide (bU≤bU))&&(Nat.ble (((bU:Int).toNat)*8) cI)) then
  (Loop (oL C ((List.replicate ((bU:Int).toNat) (V.int .i64 0)).length:Int)) (0,bU,b7,bx,List.replicate ((bU:Int).toNat) (V.int .i64 0),bC,cP)).bind (bR (un fun (pr:Int)=>un fun (BK:Int)=>un fun (BL:Int)=>un fun (BM:List V)=>un fun (u5:List V) (BE:List V)=>
   some [.int .i64 pr,.int .i64 BK,.int .i64 BL,.list cq BM,.list aa u5,.list bq BE]) (un fun (Qi:Int)=>un fun (uv:Bool)=>un fun (LH:Int)=>un fun (LI:Int)=>un fun (LJ:List V)=>un fun (BN:List V)=>un fun (LL:List V) (BO:List V)=>
   bif Nat.ble ((BO.length+([.list jg BN]:List V).length)*24) cI then
   some [.int .i64 0,.int .i64 LH,.int .i64 (IntKind.wrap .i64 (LI+1)),.list cq LJ,.list aa LL,.list bq (BO++([.list jg BN]:List V))]
   else none))
 else none
theorem age {bU b7:Int} {bC cP bx:List V} {r:Option (List V)} (h:Um CC bU b7 bC cP bx=r):CC sc [.int .i64 bU,.int .i64 b7,.list aa bC,.list bq cP,.list cq bx]=r:=
 aY (key:=43) (L:=Ul CC) (bs:=[.loop (aw [1,1,0,1,0,0] Uk)]) (by kernel_rfl) (bD (agd CC) av) (aW (by kernel_rfl) h)
end Go.AM
set_option maxRecDepth 100000
namespace Go.AM
open Go.Proofs Ex
def dc (r:List Int):V:= .list jg (r.map fun n=> .int .i64 n)
def eW (es:List Ex):List V:=lL V.str 0 (es.map Ex.text)
theorem LM (a b:List UInt8):lS (.str a) (.str b)=decide (a=b):=by
 simp only[lS,V.cells,sZ,vn,Bool.and_true]
 rw[nS]
 simp
theorem LN {es:List Ex} (h: ∀e∈es,Nv e) {d:Ex} (hd:Nv d):d.text∈es.map Ex.text↔d∈es:=by
 rw[gz]
 constructor
 ·rintro ⟨a,ha,he⟩
  rw[←TW (h a ha).1.2 hd.1.2 he];exact ha
 ·exact fun hx=>⟨d,hx,rfl⟩
theorem Un {α β:Type} [DecidableEq α] [DecidableEq β] {f:α→β} {d:α}: ∀{es:List α},(∀e∈es,f e=f d→e=d)→(es.map f).idxOf (f d)=es.idxOf d
 | [],_=>rfl
 | e::es,h=>by
  rw[cQ,List.idxOf_cons,List.idxOf_cons,Un fun x hx=>h x (by simp[hx])]
  have:(f e==f d)=(e==d):=by
   rw[nS,rv,rv]
   exact ⟨h e (by simp),fun h=>by rw[h]⟩
  rw[this]
theorem Ge {e:Ex} (h:e.val 6=0):(Nat.ble e.text.length maxLen&&true)=true:=by
 have a:=TL e
 have b:=nr h
 rw[Bool.and_true,dP]
 unfold maxLen
 omega
theorem Gf {e:Ex} (h:Nv e):CC wO (bM e [])=some [.str e.text]:=by
 rw[af7 e (agf h),aj h.2]
where agf {e:Ex} (h:Nv e):e.Ok:=qN (by omega) e h.1.2 (by have:=nr h.2;omega)
def pH (s:Dv):List V:=[.int .i64 s.L,.int .i64 s.dn,.list aa (s.es.map enc),.list bq (s.nx.map dc),.list cq (eW s.es)]
def Gg (s:Dv):List V:=[.int .i64 s.L,.int .i64 s.dn,.list cq (eW s.es),.list aa (s.es.map enc),.list bq (s.nx.map dc)]
theorem agh {es:List Ex} (h: ∀e∈es,Nv e) {d:Ex} (hd:Nv d) (hn:d∉es):im (.str d.text) (.int .i64 (es.length:Int)) (eW es)=eW (es++[d]):=by
 have:=Ug (ke:=V.str) LM d.text (es.map Ex.text) 0 fun hx=>hn ((LN h hd).1 hx)
 rw[a9,ga] at this
 unfold eW
 rw[this,gf]
 rfl
theorem agi {α:Type} (a:List α) (x y:α):(a++[x]).set a.length y=a++[y]:=by
 simp[List.set_append_right]
theorem Uo {L dn:Int} {es:List Ex} {d:Ex} {nx:List V} (h: ∀e∈es,Nv e) (hd:Nv d) (hn:d∉es) (hl:es.length≤1000):
  CC z0 (bM d [.int .i64 L,.int .i64 dn,.list aa (es.map enc),.list bq nx,.list cq (eW es)])=some [.int .i64 (es.length:Int),.int .i64 L,.int .i64 dn,.list cq (eW (es++[d])),.list aa ((es++[d]).map enc),.list bq nx]:=by
 refine af9 ?_
 unfold Uh
 refine bs (Gf hd) ?_
 refine bT (Ge hd.2) ?_
 refine bT (Lg (by simp;omega)) ?_
 refine (sE (i:=(es.map enc).length) (v:= .agg [.int .i64 0,.int .i64 0,.list aa ([]:List V)]) (by simp)).trans ?_
 rw[Int.toNat_natCast,agi]
 have h1:=agh h hd hn
 rw[a9]
 show some [V.int .i64 (es.length:Int),.int .i64 L,.int .i64 dn,.list cq (im (.str d.text) (.int .i64 (es.length:Int)) (eW es)),.list aa (es.map enc++[.agg [.int .i64 d.op,.int .i64 d.cO,.list aa (d.kids.map enc)]]),.list bq nx]=_
 rw[h1,aeW,gf]
 rfl
theorem LO {e:Ex} {L:Int} (h:Nv e):CC wI (bM e [.int .i64 L])=some (pH ⟨L,[e],[],0⟩):=by
 refine aga ?_
 unfold Ui
 refine bs (Uo (L:=L) (dn:=0) (es:=[]) (d:=e) (nx:=[]) (by simp) h (by simp) (by simp)) ?_
 rfl
theorem rf (s:Dv):CC wK (pH s)=some (.bool (s.dn==s.es.length)::Gg s):=by
 refine agb ?_
 unfold Uj
 rw[a9]
 rfl
theorem LP {L dn:Int} {e:Ex} {k:Nat} {nx:List V} (hk:dn=(k:Int)) (he:Nv e): ∀(n x:Nat) (es:List Ex) (row:List Int),L=((x+n:Nat):Int)→x+n≤10→Es es→k<es.length→es.getD k aJ=e→row.length=x→
  (∀p,nG e n x es row=some p→Loop (oL CC L) (((x:Nat):Int),L,dn,eW es,(row.map fun n=>V.int .i64 n)++List.replicate n (.int .i64 0),es.map enc,nx)=some (.inr (L,false,L,dn,eW p.1,(p.2.map fun n=>V.int .i64 n),p.1.map enc,nx)))
  ∧(nG e n x es row=none→∃y,Loop (oL CC L) (((x:Nat):Int),L,dn,eW es,(row.map fun n=>V.int .i64 n)++List.replicate n (.int .i64 0),es.map enc,nx)=some (.inl (3,y)))
 | 0,x,es,row,hL,hx,oo,hX,tF,hr=>by
  refine ⟨fun p hp=> ?_,fun hp=>by simp[nG] at hp⟩
  cases hp
  refine bc ?_
  simp only[oL,sK,un]
  rw[aA,ah (by omega),bL (by omega),show L=((x:Nat):Int) by omega]
  simp
 | n+1,x,es,row,hL,hx,oo,hX,tF,hr=>by
  subst hk
  have aP:decide ((x:Int)<L)=true:=cZ (by omega)
  have bY:(es.map enc)[k]? =some e.enc:=by
   rw[fO,bz hX,←tF,gB,bz hX];rfl
  have hb:=afy he (x:Int)
  have agj:yc (aM (cl x e))=match qZ e x with|some d=>(d,0)|none=>(aJ,3):=by
   unfold yc qZ;split<;>rfl
  rw[agj] at hb
  have Gh:x=(row.map fun n=>V.int .i64 n).length:=by simp[hr]
  rw[nG]
  cases ca:qZ e x with
  | none=>
   rw[ca] at hb
   refine ⟨fun p hp=>(by cases hp),fun _=>⟨(L,(k:Int),eW es,es.map enc,nx),bc ?_⟩⟩
   ·simp only[oL,sK,un]
    refine bT aP ((sE bY).trans ?_)
    rw[bh,bj,bm]
    refine bs hb ?_
    exact bT rfl rfl
  | some d=>
   rw[ca] at hb
   have hd:=(TD he ca).1
   have LQ:k9 (.str d.text) (eW es)=decide (d∈es):=by
    unfold eW
    rw[Ue LM,yx]
    exact LN oo.nv hd
   simp only[Option.bind_some]
   by_cases hm:d∈es
   ·rw[aj hm]
    have VY:es.idxOf d<es.length:=List.idxOf_lt_length_iff.2 hm
    obtain ⟨i1,i2⟩:=LP (L:=L) (e:=e) (k:=k) (nx:=nx) rfl he n (x+1) es (row++[(es.idxOf d:Int)]) (by omega) (by omega) oo hX tF (by simp[hr])
    have dp:oL CC L (((x:Nat):Int),L,(k:Int),eW es,(row.map fun n=>V.int .i64 n)++List.replicate (n+1) (.int .i64 0),es.map enc,nx)=some (.inl (((x+1:Nat):Int),L,(k:Int),eW es,((row++[(es.idxOf d:Int)]).map fun n=>V.int .i64 n)++List.replicate n (.int .i64 0),es.map enc,nx)):=by
     simp only[oL,sK,un]
     refine bT aP ((sE bY).trans ?_)
     rw[bh,bj,bm]
     refine bs hb (bF rfl (bs (Gf hd) (bT (Ge hd.2) ?_)))
     refine bF (by rw[V.aQ,V.D6,LQ,cZ hm];rfl) ?_
     refine (sF Gh).trans ?_
     rw[Int.toNat_natCast,sG Gh,pE (by omega),V.aQ,V.D6]
     have hg:lT (.str d.text) (eW es) (.int .i64 0)= .int .i64 (es.idxOf d:Int):=by
      unfold eW
      rw[Uf LM _ _ _ _ ((LN oo.nv hd).2 hm),Un fun x hx=>TW (oo.nv x hx).1.2 hd.1.2,ga]
     rw[hg,V.toInt_int,gf]
     rfl
    exact ⟨fun p hp=>(bV dp).trans (i1 p hp),fun hp=>by obtain ⟨y,hy⟩:=i2 hp;exact ⟨y,(bV dp).trans hy⟩⟩
   ·rw[ah hm]
    by_cases Gi:es.length=512
    ·rw[aj Gi]
     refine ⟨fun p hp=>(by cases hp),fun _=>⟨(L,(k:Int),eW es,es.map enc,nx),bc ?_⟩⟩
     ·simp only[oL,sK,un]
      refine bT aP ((sE bY).trans ?_)
      rw[bh,bj,bm]
      refine bs hb (bF rfl (bs (Gf hd) (bT (Ge hd.2) ?_)))
      refine bT (by rw[V.aQ,V.D6,LQ,bL hm];rfl) ?_
      exact bT (by rw[a9,Gi];rfl) rfl
    ·rw[ah Gi]
     have hl:=oo.le
     obtain ⟨i1,i2⟩:=LP (L:=L) (e:=e) (k:=k) (nx:=nx) rfl he n (x+1) (es++[d]) (row++[(es.length:Int)]) (by omega) (by omega) (oo.snoc hd hm Gi) (by simp;omega) (by rw[F3 hX,tF]) (by simp[hr])
     have dp:oL CC L (((x:Nat):Int),L,(k:Int),eW es,(row.map fun n=>V.int .i64 n)++List.replicate (n+1) (.int .i64 0),es.map enc,nx)=some (.inl (((x+1:Nat):Int),L,(k:Int),eW (es++[d]),((row++[(es.length:Int)]).map fun n=>V.int .i64 n)++List.replicate n (.int .i64 0),(es++[d]).map enc,nx)):=by
      simp only[oL,sK,un]
      refine bT aP ((sE bY).trans ?_)
      rw[bh,bj,bm]
      refine bs hb (bF rfl (bs (Gf hd) (bT (Ge hd.2) ?_)))
      refine bT (by rw[V.aQ,V.D6,LQ,bL hm];rfl) ?_
      refine bF (by rw[a9,rm];omega) ?_
      refine bs (Uo oo.nv hd hm (by omega)) ?_
      refine (sF Gh).trans ?_
      rw[Int.toNat_natCast,sG Gh,pE (by omega),gf (l₁:=row)]
      rfl
     exact ⟨fun p hp=>(bV dp).trans (i1 p hp),fun hp=>by obtain ⟨y,hy⟩:=i2 hp;exact ⟨y,(bV dp).trans hy⟩⟩
theorem LR {s:Dv} (hs:Gs s) (hd:s.dn<s.es.length):
  (∀t,proc s=some t→CC sc (pH s)=some (.int .i64 0::Gg t))∧(proc s=none→∃l,CC sc (pH s)=some (.int .i64 3::l)):=by
 have F4:=hs.dn
 have hL:=hs.L
 have hq:s.dn.toNat<s.es.length:=by omega
 have ll:=hs.nl
 have hle:=hs.es.le
 have hN:((s.L.toNat:Nat):Int)=s.L:=by omega
 obtain ⟨l1,l2⟩:=LP (L:=s.L) (dn:=s.dn) (e:=s.es.getD s.dn.toNat aJ) (k:=s.dn.toNat) (nx:=s.nx.map dc) (by omega) (hs.es.nv _ (q0 hq)) s.L.toNat 0 s.es [] (by omega) (by omega) hs.es hq rfl rfl
 have hf: ∀{r:Option (List V)},((Loop (oL CC s.L) (((0:Nat):Int),s.L,s.dn,eW s.es,List.replicate s.L.toNat (V.int .i64 0),s.es.map enc,s.nx.map dc)).bind (bR (un fun (pr:Int)=>un fun (BK:Int)=>un fun (BL:Int)=>un fun (BM:List V)=>un fun (u5:List V) (BE:List V)=>some [V.int .i64 pr,.int .i64 BK,.int .i64 BL,.list cq BM,.list aa u5,.list bq BE]) (un fun (Qi:Int)=>un fun (uv:Bool)=>un fun (LH:Int)=>un fun (LI:Int)=>un fun (LJ:List V)=>un fun (BN:List V)=>un fun (LL:List V) (BO:List V)=>bif Nat.ble ((BO.length+([.list jg BN]:List V).length)*24) cI then some [.int .i64 0,.int .i64 LH,.int .i64 (IntKind.wrap .i64 (LI+1)),.list cq LJ,.list aa LL,.list bq (BO++([.list jg BN]:List V))] else none)))=r→CC sc (pH s)=r:=fun h=>by
  refine age ?_
  unfold Um
  refine bT ?_ ?_
  ·refine vg.2 ⟨cZ (by omega),vg.2 ⟨cZ (by omega),?_⟩⟩
   rw[dP,qK];omega
  ·rw[sR,hN]
   exact h
 refine ⟨fun t ht=>hf ?_,fun ht=> ?_⟩
 ·obtain ⟨p,hp,rfl⟩:=TE ht
  refine bs (l1 p hp) ?_
  simp only[bR,un]
  refine bT (by rw[dP,qK];simp;omega) ?_
  rw[wrap64 (by omega) (by omega)]
  unfold Gg
  simp only[gf]
  rfl
 ·have hr:nG (s.es.getD s.dn.toNat aJ) s.L.toNat 0 s.es []=none:=by
   unfold proc at ht
   rwa [Option.map_eq_none_iff] at ht
  obtain ⟨y,hy⟩:=l2 hr
  exact ⟨_,hf (bs hy rfl)⟩
end Go.AM
set_option maxRecDepth 100000
namespace Go.AM
open Go.Proofs
noncomputable abbrev Up:Code:=cJ Try.prog (ax.aV 44)
noncomputable def BP (C:ag) (t22 Uq Ur:Int) (bx:List V) (Bn Bo lI lJ:Int) (Gj FV Us Ut:List V) (t23:Int) (BQ:List V) {β:Type} (kn:(Int × (List V))→Option β) (kr:(Int × Bool × (List V))→Option β):Option β:=
 bif decide ((t23:Int)<t22) then
  bif (decide (0≤t23))&&(decide (t23<(Gj.length:Int))) then
  (Gj[(t23:Int).toNat]?).bind fun x1=>
  (C j9 [.int .i64 ((x1.cell 0).toInt),.int .i64 ((x1.cell 1).toInt),.list aa ((x1.cell 2).toList)]).bind fun r2=>
  bif Nat.ble ((BQ.length+([.bool ((V.nth r2 0).toBool)]:List V).length)*1) cI then
   kn (IntKind.wrap .i64 (t23+1),BQ++([.bool ((V.nth r2 0).toBool)]:List V))
  else none
  else none
 else
  kr (t23,decide ((t23:Int)<t22),BQ)
noncomputable def Gk (C:ag) (t22 Uq Ur:Int) (bx:List V) (Bn Bo lI lJ:Int) (Gj FV Us Ut:List V):(Int × (List V))→Option ((Int × (List V)) ⊕ (Int × Bool × (List V))):=un fun t23 BQ=>BP C t22 Uq Ur bx Bn Bo lI lJ Gj FV Us Ut t23 BQ (fun y=>some (.inl y)) (fun r=>some (.inr r))
noncomputable def Uu (C:ag):cz:=fun β n ds k=>
 bif Nat.beq n 49 then cf Je [false,true,false,false,false,false,false,false,false,false,false,false,false,true] [[1,0,0,3,4,5,6,7,8,9,10,11,12,13,0]] (@BP C) ds k else
 none
abbrev agk (C:ag) (b:cv):Prop:=cw Try.prog ax C (Uu C) 44 (cM Try.prog (ax.aV 44)) (ax.sin 44).a8.length b
theorem agl (C:ag):agk C (.loop (aw [1,1,0,1,0,0] Up)):=
 cm Je [false,true,false,false,false,false,false,false,false,false,false,false,false,true] [[1,0,0,3,4,5,6,7,8,9,10,11,12,13,0]] (@BP C) (by kernel_rfl) (bf (bs:=[]) (by kernel_rfl) av) (fun ds=>by kernel_rfl) (fun i x=>by kernel_rfl) (fun i x β k=>by kernel_rfl) (fun β ds k=>by kernel_rfl)
noncomputable def Uv (C:ag) (bU b7:Int) (bC cP bx:List V):Option (List V):=
 (Loop (Gk C (bC.length:Int) bU b7 bx 0 0 bU 0 bC cP ([]:List V) ([]:List V)) (0,([]:List V))).bind (un fun (kf:Int)=>un fun (iM:Bool) (b_5:List V)=>
  some [.int .i64 bU,.int .i64 0,.int .i64 bU,.int .i64 b7,.list cq bx,.list kM b_5,.list bq cP,.list aa bC])
theorem agm {bU b7:Int} {bC cP bx:List V} {r:Option (List V)} (h:Uv CC bU b7 bC cP bx=r):CC El [.int .i64 bU,.int .i64 b7,.list aa bC,.list bq cP,.list cq bx]=r:=
 aY (key:=44) (L:=Uu CC) (bs:=[.loop (aw [1,1,0,1,0,0] Up)]) (by kernel_rfl) (bD (agl CC) av) (aW (by kernel_rfl) h)
noncomputable abbrev Uw:Code:=cJ Try.prog (ax.aV 14)
noncomputable def ye (C:ag) (kS kT:Int) (cP bx:List V) (bU b7:Int) (ig eE gQ:List V) {β:Type} (kn:(Int × Int × (List V) × (List V) × (List V))→Option β) (kr:((Int × Int × Int × (List V) × (List V)) ⊕ (Bool × Int × Int × (List V) × (List V) × (List V)))→Option β):Option β:=
 (C wK [.int .i64 bU,.int .i64 b7,.list aa ig,.list bq eE,.list cq gQ]).bind fun r4=>
 bif !((V.nth r4 0).toBool) then
  (C sc [.int .i64 ((V.nth (r4.drop 1) 0).toInt),.int .i64 ((V.nth ((r4.drop 1).drop 1) 0).toInt),.list aa ((V.nth (((r4.drop 1).drop 2).drop 1) 0).toList),.list bq ((V.nth ((((r4.drop 1).drop 2).drop 1).drop 1) 0).toList),.list cq ((V.nth ((r4.drop 1).drop 2) 0).toList)]).bind fun r5=>
  bif (((V.nth r5 0).toInt):Int) != 0 then
  kr (.inl ((V.nth r5 0).toInt,0,0,([]:List V),([]:List V)))
  else
  kn ((V.nth (r5.drop 1) 0).toInt,(V.nth ((r5.drop 1).drop 1) 0).toInt,(V.nth (((r5.drop 1).drop 2).drop 1) 0).toList,(V.nth ((((r5.drop 1).drop 2).drop 1).drop 1) 0).toList,(V.nth ((r5.drop 1).drop 2) 0).toList)
 else
  kr (.inr (!((V.nth r4 0).toBool),(V.nth (r4.drop 1) 0).toInt,(V.nth ((r4.drop 1).drop 1) 0).toInt,(V.nth (((r4.drop 1).drop 2).drop 1) 0).toList,(V.nth ((((r4.drop 1).drop 2).drop 1).drop 1) 0).toList,(V.nth ((r4.drop 1).drop 2) 0).toList))
noncomputable def u9 (C:ag) (kS kT:Int) (cP bx:List V):(Int × Int × (List V) × (List V) × (List V))→Option ((Int × Int × (List V) × (List V) × (List V)) ⊕ ((Int × Int × Int × (List V) × (List V)) ⊕ (Bool × Int × Int × (List V) × (List V) × (List V)))):=un fun bU=>un fun b7=>un fun ig=>un fun eE gQ=>ye C kS kT cP bx bU b7 ig eE gQ (fun y=>some (.inl y)) (fun r=>some (.inr r))
noncomputable def Ux (C:ag):cz:=fun β n ds k=>
 bif Nat.beq n 81 then cf I5 [false,false,true,true,false,false,true,true,true] [[0,0,0,0,0],[0,1,2,0,0,5,6,0,0,0]] (@ye C) ds k else
 none
abbrev agn (C:ag) (b:cv):Prop:=cw Try.prog ax C (Ux C) 14 (cM Try.prog (ax.aV 14)) (ax.sin 14).a8.length b
theorem ago (C:ag):agn C (.loop (aw [1,1,1,0,0,0] Uw)):=
 cm I5 [false,false,true,true,false,false,true,true,true] [[0,0,0,0,0],[0,1,2,0,0,5,6,0,0,0]] (@ye C) (by kernel_rfl) (bf (bs:=[]) (by kernel_rfl) av) (fun ds=>by kernel_rfl) (fun i x=>by kernel_rfl) (fun i x β k=>by kernel_rfl) (fun β ds k=>by kernel_rfl)
noncomputable def Uy (C:ag) (ai ar:Int) (af:List V) (letters:Int):Option (List V):=
 (C sb [.int .i64 ai,.int .i64 ar,.list aa af,.int .i64 letters]).bind fun r1=>
 bif (((V.nth r1 0).toInt):Int) != 0 then
  some [.int .i64 0,.int .i64 0,.int .i64 ((V.nth r1 0).toInt),.list kM ([]:List V),.list bq ([]:List V)]
 else
  (C wJ [.int .i64 ai,.int .i64 ar,.list aa af]).bind fun r2=>
  (C wI [.int .i64 ((V.nth r2 0).toInt),.int .i64 ((V.nth (r2.drop 1) 0).toInt),.list aa ((V.nth ((r2.drop 1).drop 1) 0).toList),.int .i64 letters]).bind fun r3=>
  (Loop (u9 C 0 0 ([]:List V) ([]:List V)) ((V.nth r3 0).toInt,(V.nth (r3.drop 1) 0).toInt,(V.nth (r3.drop 2) 0).toList,(V.nth ((r3.drop 2).drop 1) 0).toList,(V.nth (((r3.drop 2).drop 1).drop 1) 0).toList)).bind (bR (un fun (lA:Int)=>un fun (agp:Int)=>un fun (agq:Int)=>un fun (BL:List V) (BM:List V)=>
   some [.int .i64 agp,.int .i64 agq,.int .i64 lA,.list kM BL,.list bq BM]) (un fun (E1:Bool)=>un fun (va:Int)=>un fun (agr:Int)=>un fun (rb:List V)=>un fun (sJ:List V) (ags:List V)=>
   (C El [.int .i64 va,.int .i64 agr,.list aa rb,.list bq sJ,.list cq ags]).bind fun dG=>
   some [.int .i64 ((V.nth dG 0).toInt),.int .i64 ((V.nth (dG.drop 1) 0).toInt),.int .i64 0,.list kM ((V.nth (((dG.drop 2).drop 2).drop 1) 0).toList),.list bq ((V.nth ((((dG.drop 2).drop 2).drop 1).drop 1) 0).toList)]))
theorem agt {ai ar:Int} {af:List V} {letters:Int} {r:Option (List V)} (h:Uy CC ai ar af letters=r):CC Ec [.int .i64 ai,.int .i64 ar,.list aa af,.int .i64 letters]=r:=
 aY (key:=14) (L:=Ux CC) (bs:=[.loop (aw [1,1,1,0,0,0] Uw)]) (by kernel_rfl) (bD (ago CC) av) (aW (by kernel_rfl) h)
end Go.AM
set_option maxRecDepth 100000
namespace Go.AM
open Go.Proofs Ex
abbrev pI (d:Dv) (l:List V):List V:= .int .i64 d.L:: .list aa (d.es.map enc):: .list bq (d.nx.map dc):: .int .i64 d.dn::l
structure Dv.Ok (d:Dv):Prop where
 es: ∀e∈d.es,e.Ok
 el:d.es.length≤maxLen
 nl:d.nx.length≤maxLen
 rl: ∀r∈d.nx,r.length≤maxLen
theorem agu {α:Type} {a b:List α} {z:α} (hl:a.length=b.length) (h: ∀i,i<a.length→a.getD i z=b.getD i z):a=b:=by
 refine List.ext_getElem hl fun i h1 U=> ?_
 have:=h i h1
 rw[gB,gB,bz h1,bz U] at this
 exact this
theorem nJ {α:Type} {a b:List α} {z:α} (hl:a.length=b.length):(∀i,i<a.length→a.getD i z=b.getD i z)↔a=b:=
 ⟨agu hl,fun h=>by rw[h];exact fun _ _=>rfl⟩
theorem lM {α:Type} {f:α→V} {l:List α} {z:α} {i:Nat} (h:i<l.length):idx (l.map f) (i:Int)=some (f (l.getD i z)):=by
 rw[YP rfl,fO,bz h,gB,bz h];rfl
theorem vb {s:Dv} (hs:Gs s):s.Ok:=by
 have h1:=hs.es.le
 have U:=hs.nl
 have h3:=hs.dn
 have h4:=hs.L
 refine ⟨fun e he=>qN (by omega) e (hs.es.nv e he).1.2 (by have:=nr (hs.es.nv e he).2;omega),by unfold maxLen;omega,by unfold maxLen;omega,fun r hr=> ?_⟩
 obtain ⟨q,hq,rfl⟩:=List.getElem_of_mem hr
 have:=(hs.row q (by omega)).1
 rw[gB,bz hq,Option.getD_some] at this
 rw[this];unfold maxLen;omega
abbrev jK (s:Dv):Int × Int × List V × List V × List V:=(s.L,s.dn,s.es.map enc,s.nx.map dc,eW s.es)
abbrev Uz (p:Dv × Int):List V:=[.int .i64 p.1.L,.int .i64 p.1.dn,.int .i64 p.2,.list aa (p.1.es.map enc),.list bq (p.1.nx.map dc)]
theorem UA {e:Ex} {L:Int} (h:e.val L=0):Nv (aM e):=⟨lD e (nr (u3 h)).2.2,F2 (u3 h)⟩
structure Fa where
 L:Int
 F:List Bool
 N:List (List Int)
abbrev faE (p:Fa × Int):List V:=[.int .i64 p.1.L,.int .i64 0,.int .i64 p.2,.list kM (p.1.F.map V.bool),.list bq (p.1.N.map dc)]
def Fa.zero:Fa:=⟨0,[],[]⟩
def agv (d:Dv):Fa:=⟨d.L,d.es.map Ex.db,d.nx⟩
theorem agw {es:List Ex} (hn:es.length≤1000) (ho: ∀e∈es,Nv e) {a b c1 c2 c3 c4:Int} {l1 l2 l3 l4:List V}: ∀(aI pre:List Ex),es=pre++aI→
  Loop (Gk CC (es.length:Int) a b l1 c1 c2 c3 c4 (es.map enc) l2 l3 l4) (((pre.length:Nat):Int),(pre.map Ex.db).map V.bool)=some ((es.length:Int),false,(es.map Ex.db).map V.bool):=by
 intro aI
 induction aI with
 | nil=>
  intro pre e
  rw[dJ] at e
  subst e
  refine bc ?_
  simp only[Gk,BP,un]
  rw[aA,ah (by omega),bL (by omega)]
 | cons k aI fE=>
  intro pre e
  have bZ:pre.length<es.length:=by rw[e];simp
  have hk:k∈es:=by rw[e];simp
  have bY:(es.map enc)[pre.length]? =some k.enc:=by rw[e];simp
  have hv:=nr (ho k hk).2
  refine (bV ?_).trans (fE (pre++[k]) (by simp[e]))
  simp only[Gk,BP,un]
  refine bT (oK bZ) ((sE bY).trans ?_)
  rw[bh,bj,bm]
  refine bs (abB (letters:=6) k (qN (by omega) k hv.2.2 (by omega)) hv.2.2) ?_
  refine bT (by rw[dP,qK];simp;omega) ?_
  rw[pE (by omega)]
  simp only[gf,cQ,gA,cx,List.length_cons,List.length_nil]
  rfl
theorem agx {s:Dv} (hs:Gs s): ∃l,CC El (pH s)=some l∧(V.nth l 0).toInt=s.L∧(V.nth (l.drop 1) 0).toInt=0∧(V.nth (((l.drop 2).drop 2).drop 1) 0).toList=(s.es.map Ex.db).map V.bool∧(V.nth ((((l.drop 2).drop 2).drop 1).drop 1) 0).toList=s.nx.map dc:=by
 have hl:=hs.es.le
 refine ⟨[.int .i64 s.L,.int .i64 0,.int .i64 s.L,.int .i64 s.dn,.list cq (eW s.es),.list kM ((s.es.map Ex.db).map V.bool),.list bq (s.nx.map dc),.list aa (s.es.map enc)],agm ?_,?_⟩
 ·unfold Uv
  rw[a9]
  refine bs (agw (by omega) hs.es.nv s.es [] rfl) ?_
  simp only[un]
 ·exact ⟨rfl,rfl,rfl,rfl⟩
def BR (e:Ex) (L:Int):Fa × Int:=if e.val L=0 then (match ee 513 (eV e L) with|some t=>(agv t,0)|none=>(.zero,3)) else (.zero,e.val L)
theorem UB {a b:Int} {l1 l2:List V}: ∀(n:Nat) (s:Dv),Gs s→513≤s.dn+n→
  (∀t,ee n s=some t→Loop (u9 CC a b l1 l2) (jK s)=some (.inr (false,t.L,t.dn,t.es.map enc,t.nx.map dc,eW t.es)))∧(ee n s=none→Loop (u9 CC a b l1 l2) (jK s)=some (.inl (3,0,0,[],[])))
 | 0,s,hs,hn=>by have:=hs.dn;have:=hs.es.le;omega
 | n+1,s,hs,hn=>by
  rw[ee]
  have F4:=hs.dn
  by_cases hd:s.dn<s.es.length
  ·rw[aj hd]
   obtain ⟨p1,p2⟩:=LR hs hd
   have hf:(!(s.dn==(s.es.length:Int)))=true:=by rw[lO,rm];omega
   cases hp:proc s with
   | none=>
    obtain ⟨l,hl⟩:=p2 hp
    refine ⟨fun t ht=>(by cases ht),fun _=>bc ?_⟩
    simp only[u9,ye,un]
    refine bs (rf s) (bT hf ?_)
    refine bs hl ?_
    rfl
   | some u=>
    obtain ⟨g,_,g2,_⟩:=Bw hs hd hp
    obtain ⟨i1,i2⟩:=UB (a:=a) (b:=b) (l1:=l1) (l2:=l2) n u g (by omega)
    have dp:u9 CC a b l1 l2 (jK s)=some (.inl (jK u)):=by
     simp only[u9,ye,un]
     refine bs (rf s) (bT hf ?_)
     refine bs (p1 u hp) ?_
     rfl
    exact ⟨fun t ht=>(bV dp).trans (i1 t ht),fun ht=>(bV dp).trans (i2 ht)⟩
  ·rw[ah hd]
   refine ⟨fun t ht=> ?_,fun ht=>(by cases ht)⟩
   cases ht
   refine bc ?_
   have hf:(!(s.dn==(s.es.length:Int)))=false:=by rw[Bool.not_eq_false',rv];omega
   simp only[u9,ye,un]
   refine bs (rf s) (bF hf ?_)
   exact congrArg (fun b=>some (Sum.inr (Sum.inr (b,s.L,s.dn,s.es.map enc,s.nx.map dc,eW s.es)))) hf
theorem agy {e:Ex} (h:e.Ok) (L:Int):CC Ec (bM e [.int .i64 L])=some (faE (BR e L)):=by
 refine agt ?_
 unfold Uy BR
 refine bs (uw e h L) ?_
 by_cases hv:e.val L=0
 ·rw[aj hv]
  refine bF (by rw[V.aQ,V.toInt_int,hv];rfl) ?_
  have hN:=Lf e h
  rw[aj (u3 hv)] at hN
  refine bs hN (bs (LO (L:=L) (UA hv)) ?_)
  obtain ⟨l1,l2⟩:=UB (a:=0) (b:=0) (l1:=[]) (l2:=[]) 513 (eV e L) (yb hv) (by show 513≤(0:Int)+_;omega)
  cases hp:ee 513 (eV e L) with
  | none=>exact bs (l2 hp) rfl
  | some t=>
   refine bs (l1 t hp) ?_
   obtain ⟨l,a1,a2,a3,a4,a5⟩:=agx (u4 513 _ _ (yb hv) hp).1
   refine bs a1 ?_
   rw[a2,a3,a4,a5]
   rfl
 ·rw[ah hv]
  refine bT ?_ rfl
  rw[V.aQ,V.toInt_int,lP];exact hv
end Go.AM
set_option maxRecDepth 100000
namespace Go.AM
open Go.Proofs
noncomputable def UC (C:ag) (cd:Int) (bS fb:List V) (fM bU b7:Int) (bC cP bx:List V):Option (List V):=
 bif (bU:Int)==cd then
  bif (b7:Int)==fM then
  (C Ev [.list aa bC,.list aa bS]).bind fun r1=>
  bif (V.nth r1 0).toBool then
   (C Ew [.list bq cP,.list bq fb]).bind fun r2=>
   some [.bool ((V.nth r2 0).toBool),.int .i64 bU,.int .i64 b7,.list cq bx,.list aa bC,.list bq cP]
  else
   some [.bool false,.int .i64 bU,.int .i64 b7,.list cq bx,.list aa bC,.list bq cP]
  else
  some [.bool false,.int .i64 bU,.int .i64 b7,.list cq bx,.list aa bC,.list bq cP]
 else
  some [.bool false,.int .i64 bU,.int .i64 b7,.list cq bx,.list aa bC,.list bq cP]
theorem agz {cd:Int} {bS fb:List V} {fM bU b7:Int} {bC cP bx:List V} {r:Option (List V)} (h:UC CC cd bS fb fM bU b7 bC cP bx=r):CC z6 [.int .i64 cd,.list aa bS,.list bq fb,.int .i64 fM,.int .i64 bU,.int .i64 b7,.list aa bC,.list bq cP,.list cq bx]=r:=
 aY (key:=73) (L:=cg) (bs:=[]) (by kernel_rfl) av (aW (by kernel_rfl) h)
noncomputable def UD (C:ag) (eu eg:Int) (ew:List V) (ey ez:Int) (eM:List V):Option (List V):=
 (C ba [.int .i64 eu,.int .i64 eg,.list aa ew,.int .i64 ey,.int .i64 ez,.list aa eM]).bind fun r1=>
 some [.bool ((((V.nth r1 0).toInt):Int)==0)]
theorem agA {eu eg:Int} {ew:List V} {ey ez:Int} {eM:List V} {r:Option (List V)} (h:UD CC eu eg ew ey ez eM=r):CC ud [.int .i64 eu,.int .i64 eg,.list aa ew,.int .i64 ey,.int .i64 ez,.list aa eM]=r:=
 aY (key:=86) (L:=cg) (bs:=[]) (by kernel_rfl) av (aW (by kernel_rfl) h)
noncomputable abbrev UE:Code:=cJ Try.prog (ax.aV 54)
noncomputable def sL (C:ag) (lI:Int) (lJ UF:List V) (Gl bU b7:Int) (cP bx ig:List V) {β:Type} (kn:(Int × Int × (List V) × (List V) × (List V))→Option β) (kr:((Unit) ⊕ (Bool × Int × Int × (List V) × (List V) × (List V)))→Option β):Option β:=
 bif decide ((b7:Int)<Gl) then
  (C wK [.int .i64 bU,.int .i64 b7,.list aa cP,.list bq bx,.list cq ig]).bind fun r8=>
  bif (V.nth r8 0).toBool then
  kr (.inl ())
  else
  (C sc [.int .i64 ((V.nth (r8.drop 1) 0).toInt),.int .i64 ((V.nth ((r8.drop 1).drop 1) 0).toInt),.list aa ((V.nth (((r8.drop 1).drop 2).drop 1) 0).toList),.list bq ((V.nth ((((r8.drop 1).drop 2).drop 1).drop 1) 0).toList),.list cq ((V.nth ((r8.drop 1).drop 2) 0).toList)]).bind fun r9=>
  bif (((V.nth r9 0).toInt):Int) != 0 then
   kr (.inl ())
  else
   kn ((V.nth (r9.drop 1) 0).toInt,(V.nth ((r9.drop 1).drop 1) 0).toInt,(V.nth (((r9.drop 1).drop 2).drop 1) 0).toList,(V.nth ((((r9.drop 1).drop 2).drop 1).drop 1) 0).toList,(V.nth ((r9.drop 1).drop 2) 0).toList)
 else
  kr (.inr (decide ((b7:Int)<Gl),bU,b7,cP,bx,ig))
noncomputable def oM (C:ag) (lI:Int) (lJ UF:List V) (Gl:Int):(Int × Int × (List V) × (List V) × (List V))→Option ((Int × Int × (List V) × (List V) × (List V)) ⊕ ((Unit) ⊕ (Bool × Int × Int × (List V) × (List V) × (List V)))):=un fun bU=>un fun b7=>un fun cP=>un fun bx ig=>sL C lI lJ UF Gl bU b7 cP bx ig (fun y=>some (.inl y)) (fun r=>some (.inr r))
noncomputable def UG (C:ag):cz:=fun β n ds k=>
 bif Nat.beq n 113 then cf Jh [false,false,false,false,true,true,true,true,true] [[],[0,1,2,3,4,0,0,0,0,0]] (@sL C) ds k else
 none
abbrev agB (C:ag) (b:cv):Prop:=cw Try.prog ax C (UG C) 54 (cM Try.prog (ax.aV 54)) (ax.sin 54).a8.length b
theorem agC (C:ag):agB C (.loop (aw [1,1,1,1,1,0,0,0] UE)):=
 cm Jh [false,false,false,false,true,true,true,true,true] [[],[0,1,2,3,4,0,0,0,0,0]] (@sL C) (by kernel_rfl) (bf (bs:=[]) (by kernel_rfl) av) (fun ds=>by kernel_rfl) (fun i x=>by kernel_rfl) (fun i x β k=>by kernel_rfl) (fun β ds k=>by kernel_rfl)
noncomputable def sM (C:ag) (cd:Int) (bS fb:List V) (fM:Int):Option (List V):=
 bif ((bS.length:Int):Int)==0 then
  some [V.bool true]
 else
  bif decide (((bS.length:Int):Int)>512) then
  some [V.bool true]
  else
  (bS[0]?).bind fun x1=>
  (C sb [.int .i64 ((x1.cell 0).toInt),.int .i64 ((x1.cell 1).toInt),.list aa ((x1.cell 2).toList),.int .i64 cd]).bind fun r2=>
  bif (((V.nth r2 0).toInt):Int) != 0 then
   some [V.bool true]
  else
   (bS[0]?).bind fun x3=>
   (C wJ [.int .i64 ((x3.cell 0).toInt),.int .i64 ((x3.cell 1).toInt),.list aa ((x3.cell 2).toList)]).bind fun r4=>
   (bS[0]?).bind fun x5=>
   (C ba [.int .i64 ((V.nth r4 0).toInt),.int .i64 ((V.nth (r4.drop 1) 0).toInt),.list aa ((V.nth ((r4.drop 1).drop 1) 0).toList),.int .i64 ((x5.cell 0).toInt),.int .i64 ((x5.cell 1).toInt),.list aa ((x5.cell 2).toList)]).bind fun r6=>
   bif (((V.nth r6 0).toInt):Int) != 0 then
   some [V.bool true]
   else
   (C wI [.int .i64 ((V.nth r4 0).toInt),.int .i64 ((V.nth (r4.drop 1) 0).toInt),.list aa ((V.nth ((r4.drop 1).drop 1) 0).toList),.int .i64 cd]).bind fun r7=>
   (Loop (oM C cd bS fb fM) ((V.nth r7 0).toInt,(V.nth (r7.drop 1) 0).toInt,(V.nth (r7.drop 2) 0).toList,(V.nth ((r7.drop 2).drop 1) 0).toList,(V.nth (((r7.drop 2).drop 1).drop 1) 0).toList)).bind (bR (fun _=>
    some [V.bool true]) (un fun (xc:Bool)=>un fun (BT:Int)=>un fun (va:Int)=>un fun (u6:List V)=>un fun (rb:List V) (sJ:List V)=>
    (C z6 [.int .i64 cd,.list aa bS,.list bq fb,.int .i64 fM,.int .i64 BT,.int .i64 va,.list aa u6,.list bq rb,.list cq sJ]).bind fun fa=>
    some [V.bool false,.bool ((V.nth fa 0).toBool),.int .i64 ((V.nth (fa.drop 1) 0).toInt),.int .i64 ((V.nth ((fa.drop 1).drop 1) 0).toInt),.list aa ((V.nth (((fa.drop 1).drop 2).drop 1) 0).toList),.list bq ((V.nth ((((fa.drop 1).drop 2).drop 1).drop 1) 0).toList),.list cq ((V.nth ((fa.drop 1).drop 2) 0).toList)]))
theorem agD {cd:Int} {bS fb:List V} {fM:Int} {r:Option (List V)} (h:sM CC cd bS fb fM=r):CC qG [.int .i64 cd,.list aa bS,.list bq fb,.int .i64 fM]=r:=
 aY (key:=54) (L:=UG CC) (bs:=[.loop (aw [1,1,1,1,1,0,0,0] UE)]) (by kernel_rfl) (bD (agC CC) av) (aW (by kernel_rfl) h)
noncomputable def UH (C:ag) (cd:Int) (bS fb:List V) (fM:Int):Option (List V):=
 (C qG [.int .i64 cd,.list aa bS,.list bq fb,.int .i64 fM]).bind fun r1=>
 bif (V.nth r1 0).toBool then
  some [.int .i64 8]
 else
  bif !((V.nth (r1.drop 1) 0).toBool) then
  some [.int .i64 8]
  else
  some [.int .i64 0]
theorem agE {cd:Int} {bS fb:List V} {fM:Int} {r:Option (List V)} (h:UH CC cd bS fb fM=r):CC Eh [.int .i64 cd,.list aa bS,.list bq fb,.int .i64 fM]=r:=
 aY (key:=31) (L:=cg) (bs:=[]) (by kernel_rfl) av (aW (by kernel_rfl) h)
noncomputable abbrev UI:Code:=cJ Try.prog (ax.aV 87)
noncomputable def BU (C:ag) (s2 t15:List V) (t16 t17:Int) {β:Type} (kn:Int→Option β) (kr:((Bool) ⊕ (Int × Bool))→Option β):Option β:=
 bif decide ((t17:Int)<t16) then
  (idx t15 t17).bind fun x1=>
  (idx s2 t17).bind fun x2=>
  (C ud [.int .i64 ((x1.cell 0).toInt),.int .i64 ((x1.cell 1).toInt),.list aa ((x1.cell 2).toList),.int .i64 ((x2.cell 0).toInt),.int .i64 ((x2.cell 1).toInt),.list aa ((x2.cell 2).toList)]).bind fun r3=>
  bif !((V.nth r3 0).toBool) then
  kr (.inl false)
  else
  kn (IntKind.wrap .i64 (t17+1))
 else
  kr (.inr (t17,decide ((t17:Int)<t16)))
noncomputable def Gm (C:ag) (s2 t15:List V) (t16:Int):(Int)→Option ((Int) ⊕ ((Bool) ⊕ (Int × Bool))):=fun t17=>BU C s2 t15 t16 t17 (fun y=>some (.inl y)) (fun r=>some (.inr r))
noncomputable def UJ (C:ag):cz:=fun β n ds k=>
 bif Nat.beq n 65 then cf Jv [false,false,false,true] [[0],[1,2,3,0,0]] (@BU C) ds k else
 none
abbrev agF (C:ag) (b:cv):Prop:=cw Try.prog ax C (UJ C) 87 (cM Try.prog (ax.aV 87)) (ax.sin 87).a8.length b
theorem agG (C:ag):agF C (.loop (aw [1,1,0,1,0,0] UI)):=
 cm Jv [false,false,false,true] [[0],[1,2,3,0,0]] (@BU C) (by kernel_rfl) (bf (bs:=[]) (by kernel_rfl) av) (fun ds=>by kernel_rfl) (fun i x=>by kernel_rfl) (fun i x β k=>by kernel_rfl) (fun β ds k=>by kernel_rfl)
noncomputable def UK (C:ag) (s1 s2:List V):Option (List V):=
 bif ((s1.length:Int):Int) != (s2.length:Int) then
  some [.bool false]
 else
  (Loop (Gm C s2 s1 (s1.length:Int)) 0).bind (bR (fun (iM:Bool)=>
   some [.bool iM]) (un fun (mu:Int) (lA:Bool)=>
   some [.bool true]))
theorem agH {s1 s2:List V} {r:Option (List V)} (h:UK CC s1 s2=r):CC Ev [.list aa s1,.list aa s2]=r:=
 aY (key:=87) (L:=UJ CC) (bs:=[.loop (aw [1,1,0,1,0,0] UI)]) (by kernel_rfl) (bD (agG CC) av) (aW (by kernel_rfl) h)
noncomputable abbrev UL:Code:=cJ Try.prog (ax.aV 88)
noncomputable def BV (C:ag) (s2 t15:List V) (t16 t17:Int) {β:Type} (kn:Int→Option β) (kr:((Bool) ⊕ (Int × Bool))→Option β):Option β:=
 bif decide ((t17:Int)<t16) then
  (idx t15 t17).bind fun x1=>
  (idx s2 t17).bind fun x2=>
  (C ue [.list jg x1.toList,.list jg x2.toList]).bind fun r3=>
  bif !((V.nth r3 0).toBool) then
  kr (.inl false)
  else
  kn (IntKind.wrap .i64 (t17+1))
 else
  kr (.inr (t17,decide ((t17:Int)<t16)))
noncomputable def Gn (C:ag) (s2 t15:List V) (t16:Int):(Int)→Option ((Int) ⊕ ((Bool) ⊕ (Int × Bool))):=fun t17=>BV C s2 t15 t16 t17 (fun y=>some (.inl y)) (fun r=>some (.inr r))
noncomputable def UM (C:ag):cz:=fun β n ds k=>
 bif Nat.beq n 65 then cf Jw [false,false,false,true] [[0],[1,2,3,0,0]] (@BV C) ds k else
 none
abbrev agI (C:ag) (b:cv):Prop:=cw Try.prog ax C (UM C) 88 (cM Try.prog (ax.aV 88)) (ax.sin 88).a8.length b
theorem agJ (C:ag):agI C (.loop (aw [1,1,0,1,0,0] UL)):=
 cm Jw [false,false,false,true] [[0],[1,2,3,0,0]] (@BV C) (by kernel_rfl) (bf (bs:=[]) (by kernel_rfl) av) (fun ds=>by kernel_rfl) (fun i x=>by kernel_rfl) (fun i x β k=>by kernel_rfl) (fun β ds k=>by kernel_rfl)
noncomputable def UN (C:ag) (s1 s2:List V):Option (List V):=
 bif ((s1.length:Int):Int) != (s2.length:Int) then
  some [.bool false]
 else
  (Loop (Gn C s2 s1 (s1.length:Int)) 0).bind (bR (fun (iM:Bool)=>
   some [.bool iM]) (un fun (mu:Int) (lA:Bool)=>
   some [.bool true]))
theorem agK {s1 s2:List V} {r:Option (List V)} (h:UN CC s1 s2=r):CC Ew [.list bq s1,.list bq s2]=r:=
 aY (key:=88) (L:=UM CC) (bs:=[.loop (aw [1,1,0,1,0,0] UL)]) (by kernel_rfl) (bD (agJ CC) av) (aW (by kernel_rfl) h)
noncomputable abbrev UO:Code:=cJ Try.prog (ax.aV 89)
noncomputable def BW (C:ag) (s1 s2:List V) (t12 t13:Int) {β:Type} (kn:Int→Option β) (kr:((Bool) ⊕ (Int × Bool))→Option β):Option β:=
 bif decide ((t13:Int)<t12) then
  (idx s1 t13).bind fun x1=>
  (idx s2 t13).bind fun x2=>
  bif (x1.toInt:Int) != x2.toInt then
  kr (.inl false)
  else
  kn (IntKind.wrap .i64 (t13+1))
 else
  kr (.inr (t13,decide ((t13:Int)<t12)))
noncomputable def Gp (C:ag) (s1 s2:List V) (t12:Int):(Int)→Option ((Int) ⊕ ((Bool) ⊕ (Int × Bool))):=fun t13=>BW C s1 s2 t12 t13 (fun y=>some (.inl y)) (fun r=>some (.inr r))
noncomputable def UP (C:ag):cz:=fun β n ds k=>
 bif Nat.beq n 65 then cf Jx [false,false,false,true] [[0],[1,2,3,0,0]] (@BW C) ds k else
 none
abbrev agL (C:ag) (b:cv):Prop:=cw Try.prog ax C (UP C) 89 (cM Try.prog (ax.aV 89)) (ax.sin 89).a8.length b
theorem agM (C:ag):agL C (.loop (aw [1,1,0,1,0,0] UO)):=
 cm Jx [false,false,false,true] [[0],[1,2,3,0,0]] (@BW C) (by kernel_rfl) (bf (bs:=[]) (by kernel_rfl) av) (fun ds=>by kernel_rfl) (fun i x=>by kernel_rfl) (fun i x β k=>by kernel_rfl) (fun β ds k=>by kernel_rfl)
noncomputable def UQ (C:ag) (s1 s2:List V):Option (List V):=
 bif ((s1.length:Int):Int) != (s2.length:Int) then
  some [.bool false]
 else
  (Loop (Gp C s1 s2 (s1.length:Int)) 0).bind (bR (fun (kf:Bool)=>
   some [.bool kf]) (un fun (iM:Int) (mu:Bool)=>
   some [.bool true]))
theorem agN {s1 s2:List V} {r:Option (List V)} (h:UQ CC s1 s2=r):CC ue [.list jg s1,.list jg s2]=r:=
 aY (key:=89) (L:=UP CC) (bs:=[.loop (aw [1,1,0,1,0,0] UO)]) (by kernel_rfl) (bD (agM CC) av) (aW (by kernel_rfl) h)
end Go.AM
set_option maxRecDepth 100000
namespace Go.AM
open Go.Proofs Ex
theorem agO (a:Ex) (ha:a.Ok) (b:Ex) (hb:b.Ok):CC ud (bM a (bM b []))=some [.bool (decide (a=b))]:=by
 refine agA ?_
 unfold UD
 refine bs (E3 a ha b hb) ?_
 rw[V.aQ,V.toInt_int,show (cmp a b==0)=decide (a=b) from nS.2 (by rw[rv,dH];exact xm)]
theorem agP {a b:List Ex} (ha: ∀e∈a,e.Ok) (hb: ∀e∈b,e.Ok) (hl:a.length≤maxLen):CC Ev [.list aa (a.map enc),.list aa (b.map enc)]=some [.bool (decide (a=b))]:=by
 have hm:=kO
 refine agH ?_
 unfold UK
 by_cases he:a.length=b.length
 ·refine bF (by simp[he]) ?_
  have loop:Loop (Gm CC (b.map enc) (a.map enc) ((a.map enc).length:Int)) 0=some (if∀i,i<a.length→a.getD i aJ=b.getD i aJ then .inr ((a.length:Int),false) else .inl false):=by
   refine w8 (good:=fun i=>a.getD i aJ=b.getD i aJ) a.length (fun i=>(i:Int)) (Sum.inl false:Bool ⊕ (Int × Bool)) (Sum.inr ((a.length:Int),false)) (fun i hi=> ?_) ?_
   ·simp only[Gm,BU,a9]
    refine bT (oK hi) (bs (lM (z:=aJ) hi) (bs (lM (z:=aJ) (by omega)) ?_))
    rw[bh,bj,bm,bh,bj,bm]
    refine bs (agO _ (ha _ (q0 hi)) _ (hb _ (q0 (by omega)))) ?_
    by_cases h:a.getD i aJ=b.getD i aJ
    ·rw[aj h]
     refine bF (by rw[V.aQ,V.dA,cZ h];rfl) ?_
     rw[wrap64 (by omega) (by omega)]
     rfl
    ·rw[ah h]
     exact bT (by rw[V.aQ,V.dA,bL h];rfl) rfl
   ·simp only[Gm,BU,a9]
    rw[aA,ah (by omega),bL (by omega)]
  refine bs loop ?_
  by_cases h:a=b
  ·rw[aj ((nJ he).2 h),cZ h];rfl
  ·rw[ah fun hx=>h ((nJ he).1 hx),bL h];rfl
 ·rw[bL fun h=>he (by rw[h])]
  exact bT (by simp;omega) rfl
theorem agQ {a b:List Int} (hl:a.length≤maxLen):CC ue [dc a,dc b]=some [.bool (decide (a=b))]:=by
 have hm:=kO
 refine agN ?_
 unfold UQ
 by_cases he:a.length=b.length
 ·refine bF (by simp[he]) ?_
  have loop:Loop (Gp CC (a.map fun n=>V.int .i64 n) (b.map fun n=>V.int .i64 n) ((a.map fun n=>V.int .i64 n).length:Int)) 0=some (if∀i,i<a.length→a.getD i 0=b.getD i 0 then .inr ((a.length:Int),false) else .inl false):=by
   refine w8 (good:=fun i=>a.getD i 0=b.getD i 0) a.length (fun i=>(i:Int)) (Sum.inl false:Bool ⊕ (Int × Bool)) (Sum.inr ((a.length:Int),false)) (fun i hi=> ?_) ?_
   ·simp only[Gp,BW,a9]
    refine bT (oK hi) (bs (lM (z:=0) hi) (bs (lM (z:=0) (by omega)) ?_))
    rw[V.toInt_int,V.toInt_int]
    by_cases h:a.getD i 0=b.getD i 0
    ·rw[aj h]
     refine bF (by rw[sW];exact h) ?_
     rw[wrap64 (by omega) (by omega)]
     rfl
    ·rw[ah h]
     exact bT (by rw[lP];exact h) rfl
   ·simp only[Gp,BW,a9]
    rw[aA,ah (by omega),bL (by omega)]
  refine bs loop ?_
  by_cases h:a=b
  ·rw[aj ((nJ he).2 h),cZ h];rfl
  ·rw[ah fun hx=>h ((nJ he).1 hx),bL h];rfl
 ·rw[bL fun h=>he (by rw[h])]
  exact bT (by simp;omega) rfl
theorem UR (r:List Int):V.list jg (dc r).toList=dc r:=rfl
theorem agR {a b:List (List Int)} (hr: ∀r∈a,r.length≤maxLen) (hl:a.length≤maxLen):CC Ew [.list bq (a.map dc),.list bq (b.map dc)]=some [.bool (decide (a=b))]:=by
 have hm:=kO
 refine agK ?_
 unfold UN
 by_cases he:a.length=b.length
 ·refine bF (by simp[he]) ?_
  have loop:Loop (Gn CC (b.map dc) (a.map dc) ((a.map dc).length:Int)) 0=some (if∀i,i<a.length→a.getD i []=b.getD i [] then .inr ((a.length:Int),false) else .inl false):=by
   refine w8 (good:=fun i=>a.getD i []=b.getD i []) a.length (fun i=>(i:Int)) (Sum.inl false:Bool ⊕ (Int × Bool)) (Sum.inr ((a.length:Int),false)) (fun i hi=> ?_) ?_
   ·simp only[Gn,BV,a9]
    refine bT (oK hi) (bs (lM (z:=[]) hi) (bs (lM (z:=[]) (by omega)) ?_))
    rw[UR,UR]
    refine bs (agQ (hr _ (q0 hi))) ?_
    by_cases h:a.getD i []=b.getD i []
    ·rw[aj h]
     refine bF (by rw[V.aQ,V.dA,cZ h];rfl) ?_
     rw[wrap64 (by omega) (by omega)]
     rfl
    ·rw[ah h]
     exact bT (by rw[V.aQ,V.dA,bL h];rfl) rfl
   ·simp only[Gn,BV,a9]
    rw[aA,ah (by omega),bL (by omega)]
  refine bs loop ?_
  by_cases h:a=b
  ·rw[aj ((nJ he).2 h),cZ h];rfl
  ·rw[ah fun hx=>h ((nJ he).1 hx),bL h];rfl
 ·rw[bL fun h=>he (by rw[h])]
  exact bT (by simp;omega) rfl
theorem agS {d s:Dv} (hd:d.Ok) (hs:Gs s):CC z6 (pI d (pH s))=some (.bool (decide (s=d))::Gg s):=by
 have ho:=vb hs
 refine agz ?_
 unfold UC
 obtain ⟨L,es,nx,dn⟩:=s
 obtain ⟨L',aH,BX,Gq⟩:=d
 rw[eL]
 by_cases hL:L=L'
 ·rw[aj hL,eL]
  by_cases hn:dn=Gq
  ·rw[aj hn]
   refine bs (agP ho.es hd.es ho.el) ?_
   by_cases he:es=aH
   ·refine bT (by rw[V.aQ,V.dA];exact cZ he) ?_
    refine bs (agR ho.rl ho.nl) ?_
    have:decide (nx=BX)=decide (Dv.mk L es nx dn=Dv.mk L' aH BX Gq):=by
     rw[yx,Dv.mk.injEq]
     exact ⟨fun h=>⟨hL,he,h,hn⟩,fun h=>h.2.2.1⟩
    rw[←this]
    rfl
   ·refine bF (by rw[V.aQ,V.dA];exact bL he) ?_
    rw[bL fun h=>he (Dv.mk.inj h).2.1]
    rfl
  ·rw[ah hn,bL fun h=>hn (Dv.mk.inj h).2.2.2]
   rfl
 ·rw[ah hL,bL fun h=>hL (Dv.mk.inj h).1]
  rfl
theorem US {d:Dv} {a:Int} {l1 l2:List V}: ∀(n:Nat) (s:Dv),Gs s→s.dn+n=d.dn→
  (∀t,nH n s=some t→Loop (oM CC a l1 l2 d.dn) (jK s)=some (.inr (false,jK t)))∧(nH n s=none→Loop (oM CC a l1 l2 d.dn) (jK s)=some (.inl ()))
 | 0,s,hs,hn=>by
  refine ⟨fun t ht=> ?_,fun h=>by simp[nH] at h⟩
  cases ht
  refine bc ?_
  simp only[oM,sL,un]
  rw[aA,ah (by omega),bL (by omega)]
 | n+1,s,hs,hn=>by
  rw[nH]
  have aP:decide (s.dn<d.dn)=true:=cZ (by omega)
  by_cases hd:s.dn<s.es.length
  ·rw[aj hd]
   obtain ⟨p1,p2⟩:=LR hs hd
   have hf:(s.dn==(s.es.length:Int))=false:=by rw[rm];omega
   cases hp:proc s with
   | none=>
    obtain ⟨l,hl⟩:=p2 hp
    refine ⟨fun t ht=>(by cases ht),fun _=>bc ?_⟩
    simp only[oM,sL,un]
    refine bT aP (bs (rf s) (bF hf ?_))
    refine bs hl ?_
    rfl
   | some u=>
    obtain ⟨g,_,g2,_⟩:=Bw hs hd hp
    obtain ⟨i1,i2⟩:=US (d:=d) (a:=a) (l1:=l1) (l2:=l2) n u g (by omega)
    have dp:oM CC a l1 l2 d.dn (jK s)=some (.inl (jK u)):=by
     simp only[oM,sL,un]
     refine bT aP (bs (rf s) (bF hf ?_))
     refine bs (p1 u hp) ?_
     rfl
    exact ⟨fun t ht=>(bV dp).trans (i1 t ht),fun ht=>(bV dp).trans (i2 ht)⟩
  ·rw[ah hd]
   refine ⟨fun t ht=>(by cases ht),fun _=>bc ?_⟩
   have F4:=hs.dn
   simp only[oM,sL,un]
   refine bT aP (bs (rf s) (bT ?_ rfl))
   show (s.dn==(s.es.length:Int))=true
   rw[rv];omega
theorem UT {n:Nat} {s t:Dv} (hs:Gs s) (h:nH n s=some t):Gs t∧∃r,t.es=s.es++r:=by
 obtain ⟨a,_,b,_⟩:=u4 n s t hs (Lt n s t h)
 exact ⟨a,b⟩
theorem UU {d:Dv} (hd:d.Ok):(mF d=true→CC qG (pI d [])=some (.bool false:: .bool true::pH d))∧
  (mF d=false→CC qG (pI d [])=some [.bool true]∨∃s,CC qG (pI d [])=some (.bool false:: .bool false::pH s)):=by
 have hf: ∀{r:Option (List V)},sM CC d.L (d.es.map enc) (d.nx.map dc) d.dn=r→CC qG (pI d [])=r:=fun h=>agD h
 by_cases h0:d.es=[]
 ·refine ⟨fun h=>absurd h0 (gy h).1,fun _=> .inl (hf ?_)⟩
  unfold sM
  exact bT (by rw[h0];rfl) rfl
 have hp:0<d.es.length:=List.length_pos_iff.2 h0
 by_cases h5:d.es.length≤512
 case neg=>
  refine ⟨fun h=>absurd (gy h).2.1 h5,fun _=> .inl (hf ?_)⟩
  unfold sM
  refine bF (by rw[a9,rm];omega) ?_
  exact bT (cZ (by rw[a9];omega)) rfl
 have hx:(d.es.map enc)[0]? =some (d.es.getD 0 aJ).enc:=by
  rw[fO,bz hp,gB,bz hp];rfl
 have ho:=hd.es _ (q0 (z:=aJ) hp)
 have b1:(((d.es.map enc).length:Int)==0)=false:=by rw[a9,rm];omega
 have b2:decide ((((d.es.map enc).length:Int))>512)=false:=bL (by rw[a9];omega)
 by_cases hv:(d.es.getD 0 aJ).val d.L=0
 case neg=>
  refine ⟨fun h=>absurd (gy h).2.2.1 hv,fun _=> .inl (hf ?_)⟩
  unfold sM
  refine bF b1 (bF b2 (bs hx ?_))
  rw[bh,bj,bm]
  refine bs (uw _ ho d.L) (bT ?_ rfl)
  rw[V.aQ,V.toInt_int,lP];exact hv
 have hg:=yb hv
 have hN:=Lf _ ho
 rw[aj (u3 hv)] at hN
 have LU:Nv (aM (d.es.getD 0 aJ)):=agT (u3 hv)
 have mf:(aM (d.es.getD 0 aJ)).Ok:=qN (by omega) _ LU.1.2 (by have:=nr LU.2;omega)
 have hC:=E3 _ mf _ ho
 by_cases hn:aM (d.es.getD 0 aJ)=d.es.getD 0 aJ
 case neg=>
  refine ⟨fun h=> ?_,fun _=> .inl (hf ?_)⟩
  ·obtain ⟨_,_,_,_,h⟩:=gy h
   obtain ⟨_,r,hr⟩:=UT hg h
   refine absurd ?_ hn
   have e:=congrArg (fun l=>List.getD l 0 aJ) hr
   exact e.symm
  ·unfold sM
   refine bF b1 (bF b2 (bs hx ?_))
   rw[bh,bj,bm]
   refine bs (uw _ ho d.L) (bF (by rw[V.aQ,V.toInt_int,hv];rfl) (bs hx ?_))
   rw[bh,bj,bm]
   refine bs hN (bs hx ?_)
   rw[bh,bj,bm]
   refine bs hC (bT ?_ rfl)
   rw[V.aQ,V.toInt_int,lP]
   exact fun h=>hn (xm.1 h)
 have pre: ∀{r:Option (List V)},((Loop (oM CC d.L (d.es.map enc) (d.nx.map dc) d.dn) (jK (eV (d.es.getD 0 aJ) d.L))).bind (bR (fun _=>some [V.bool true]) (un fun (xc:Bool)=>un fun (BT:Int)=>un fun (va:Int)=>un fun (u6:List V)=>un fun (rb:List V) (sJ:List V)=>
    (CC z6 [.int .i64 d.L,.list aa (d.es.map enc),.list bq (d.nx.map dc),.int .i64 d.dn,.int .i64 BT,.int .i64 va,.list aa u6,.list bq rb,.list cq sJ]).bind fun fa=>
    some [V.bool false,.bool ((V.nth fa 0).toBool),.int .i64 ((V.nth (fa.drop 1) 0).toInt),.int .i64 ((V.nth ((fa.drop 1).drop 1) 0).toInt),.list aa ((V.nth (((fa.drop 1).drop 2).drop 1) 0).toList),.list bq ((V.nth ((((fa.drop 1).drop 2).drop 1).drop 1) 0).toList),.list cq ((V.nth ((fa.drop 1).drop 2) 0).toList)])))=r→sM CC d.L (d.es.map enc) (d.nx.map dc) d.dn=r:=fun h=>by
  unfold sM
  refine bF b1 (bF b2 (bs hx ?_))
  rw[bh,bj,bm]
  refine bs (uw _ ho d.L) (bF (by rw[V.aQ,V.toInt_int,hv];rfl) (bs hx ?_))
  rw[bh,bj,bm]
  refine bs hN (bs hx ?_)
  rw[bh,bj,bm]
  refine bs hC (bF ?_ ?_)
  ·rw[V.aQ,V.toInt_int,xm.2 hn];rfl
  ·refine bs (LO (L:=d.L) LU) ?_
   exact h
 have fin: ∀(s:Dv),Gs s→Loop (oM CC d.L (d.es.map enc) (d.nx.map dc) d.dn) (jK (eV (d.es.getD 0 aJ) d.L))=some (.inr (false,jK s))→CC qG (pI d [])=some (.bool false:: .bool (decide (s=d))::pH s):=fun s hs hl=>by
  refine hf (pre ?_)
  refine bs hl ?_
  refine bs (agS hd hs) ?_
  rfl
 by_cases LV:0≤d.dn
 case neg=>
  have bu:eV (d.es.getD 0 aJ) d.L≠d:=fun h=>LV (by rw[←h];exact Int.le_refl 0)
  refine ⟨fun h=>absurd (gy h).2.2.2.1 LV,fun _=> .inr ⟨eV (d.es.getD 0 aJ) d.L,?_⟩⟩
  have:=fin (eV (d.es.getD 0 aJ) d.L) hg (by
   refine bc ?_
   have h0: ¬(eV (d.es.getD 0 aJ) d.L).dn<d.dn:=by show¬(0:Int)<d.dn;omega
   simp only[oM,sL,un]
   rw[aA,ah h0,bL h0])
  rw[bL bu] at this
  exact this
 obtain ⟨l1,l2⟩:=US (d:=d) (a:=d.L) (l1:=d.es.map enc) (l2:=d.nx.map dc) d.dn.toNat (eV (d.es.getD 0 aJ) d.L) hg (by show (0:Int)+_=_;omega)
 cases hs:nH d.dn.toNat (eV (d.es.getD 0 aJ) d.L) with
 | none=>
  refine ⟨fun h=> ?_,fun _=> .inl (hf (pre ?_))⟩
  ·have:=(gy h).2.2.2.2
   rw[hs] at this
   cases this
  ·exact bs (l2 hs) rfl
 | some s=>
  have IH:=(UT hg hs).1
  have pD:=fin s IH (l1 s hs)
  by_cases he:s=d
  ·rw[cZ he] at pD
   refine ⟨fun _=>by rw[pD,he],fun h=> ?_⟩
   have:mF d=true:=cZ ⟨h0,h5,hv,LV,by rw[hs,he]⟩
   rw[this] at h;cases h
  ·rw[bL he] at pD
   refine ⟨fun h=> ?_,fun _=> .inr ⟨_,pD⟩⟩
   have:=(gy h).2.2.2.2
   rw[hs] at this
   exact absurd (cY this) he
where agT {e:Ex} (h:e.val 6=0):Nv (aM e):=⟨lD e (nr h).2.2,F2 h⟩
theorem agU {d:Dv} (hd:d.Ok):CC Eh (pI d [])=some [.int .i64 (if mF d=true then 0 else 8)]:=by
 obtain ⟨h1,U⟩:=UU hd
 refine agE ?_
 unfold UH
 cases hs:mF d with
 | true=>exact bs (h1 hs) rfl
 | false=>
  rcases U hs with h|⟨s,h⟩
  ·exact bs h rfl
  ·exact bs h rfl
end Go.AM
set_option maxRecDepth 100000
namespace Go.AM
open Go.Proofs
noncomputable abbrev UW:Code:=cJ Try.prog (ax.aV 30)
noncomputable def vc (C:ag) (kS kT:Int) (cP bx:List V) (nK bU b7:Int) (ig eE gQ:List V) {β:Type} (kn:(Int × Int × Int × (List V) × (List V) × (List V))→Option β) (kr:((Int × Int × Int × (List V) × (List V)) ⊕ (Int × Bool × Int × Int × (List V) × (List V) × (List V)))→Option β):Option β:=
 bif decide ((nK:Int)>0) then
  (C wK [.int .i64 bU,.int .i64 b7,.list aa ig,.list bq eE,.list cq gQ]).bind fun r2=>
  bif !((V.nth r2 0).toBool) then
  (C sc [.int .i64 ((V.nth (r2.drop 1) 0).toInt),.int .i64 ((V.nth ((r2.drop 1).drop 1) 0).toInt),.list aa ((V.nth (((r2.drop 1).drop 2).drop 1) 0).toList),.list bq ((V.nth ((((r2.drop 1).drop 2).drop 1).drop 1) 0).toList),.list cq ((V.nth ((r2.drop 1).drop 2) 0).toList)]).bind fun r3=>
  bif (((V.nth r3 0).toInt):Int) != 0 then
   kr (.inl ((V.nth r3 0).toInt,0,0,([]:List V),([]:List V)))
  else
   kn (IntKind.wrap .i64 (nK-1),(V.nth (r3.drop 1) 0).toInt,(V.nth ((r3.drop 1).drop 1) 0).toInt,(V.nth (((r3.drop 1).drop 2).drop 1) 0).toList,(V.nth ((((r3.drop 1).drop 2).drop 1).drop 1) 0).toList,(V.nth ((r3.drop 1).drop 2) 0).toList)
  else
  kr (.inr (nK,!((V.nth r2 0).toBool),(V.nth (r2.drop 1) 0).toInt,(V.nth ((r2.drop 1).drop 1) 0).toInt,(V.nth (((r2.drop 1).drop 2).drop 1) 0).toList,(V.nth ((((r2.drop 1).drop 2).drop 1).drop 1) 0).toList,(V.nth ((r2.drop 1).drop 2) 0).toList))
 else
  kr (.inr (nK,false,bU,b7,ig,eE,gQ))
noncomputable def sN (C:ag) (kS kT:Int) (cP bx:List V):(Int × Int × Int × (List V) × (List V) × (List V))→Option ((Int × Int × Int × (List V) × (List V) × (List V)) ⊕ ((Int × Int × Int × (List V) × (List V)) ⊕ (Int × Bool × Int × Int × (List V) × (List V) × (List V)))):=un fun nK=>un fun bU=>un fun b7=>un fun ig=>un fun eE gQ=>vc C kS kT cP bx nK bU b7 ig eE gQ (fun y=>some (.inl y)) (fun r=>some (.inr r))
noncomputable def UX (C:ag):cz:=fun β n ds k=>
 bif Nat.beq n 97 then cf I9 [true,false,false,true,true,false,false,true,true,true] [[0,0,0,0,0],[0,0,2,3,0,0,6,7,0,0,0]] (@vc C) ds k else
 none
abbrev agV (C:ag) (b:cv):Prop:=cw Try.prog ax C (UX C) 30 (cM Try.prog (ax.aV 30)) (ax.sin 30).a8.length b
theorem agW (C:ag):agV C (.loop (aw [1,1,1,1,0,0,0] UW)):=
 cm I9 [true,false,false,true,true,false,false,true,true,true] [[0,0,0,0,0],[0,0,2,3,0,0,6,7,0,0,0]] (@vc C) (by kernel_rfl) (bf (bs:=[]) (by kernel_rfl) av) (fun ds=>by kernel_rfl) (fun i x=>by kernel_rfl) (fun i x β k=>by kernel_rfl) (fun β ds k=>by kernel_rfl)
noncomputable def UY (C:ag) (cd:Int) (bS fb:List V) (fM nK:Int):Option (List V):=
 (C qG [.int .i64 cd,.list aa bS,.list bq fb,.int .i64 fM]).bind fun r1=>
 bif (V.nth r1 0).toBool then
  some [.int .i64 0,.int .i64 0,.int .i64 8,.list aa ([]:List V),.list bq ([]:List V)]
 else
  bif !((V.nth (r1.drop 1) 0).toBool) then
  some [.int .i64 0,.int .i64 0,.int .i64 8,.list aa ([]:List V),.list bq ([]:List V)]
  else
  bif decide ((nK:Int)<0) then
   some [.int .i64 0,.int .i64 0,.int .i64 1,.list aa ([]:List V),.list bq ([]:List V)]
  else
   (Loop (sN C 0 0 ([]:List V) ([]:List V)) (nK,(V.nth ((r1.drop 1).drop 1) 0).toInt,(V.nth (((r1.drop 1).drop 1).drop 1) 0).toInt,(V.nth (((r1.drop 1).drop 1).drop 2) 0).toList,(V.nth ((((r1.drop 1).drop 1).drop 2).drop 1) 0).toList,(V.nth (((((r1.drop 1).drop 1).drop 2).drop 1).drop 1) 0).toList)).bind (bR (un fun (iM:Int)=>un fun (agX:Int)=>un fun (agY:Int)=>un fun (b_7:List V) (BK:List V)=>
    some [.int .i64 agX,.int .i64 agY,.int .i64 iM,.list aa b_7,.list bq BK]) (un fun (ai2:Int)=>un fun (xc:Bool)=>un fun (BT:Int)=>un fun (va:Int)=>un fun (u6:List V)=>un fun (rb:List V) (sJ:List V)=>
    some [.int .i64 BT,.int .i64 va,.int .i64 0,.list aa u6,.list bq rb]))
theorem agZ {cd:Int} {bS fb:List V} {fM nK:Int} {r:Option (List V)} (h:UY CC cd bS fb fM nK=r):CC wG [.int .i64 cd,.list aa bS,.list bq fb,.int .i64 fM,.int .i64 nK]=r:=
 aY (key:=30) (L:=UX CC) (bs:=[.loop (aw [1,1,1,1,0,0,0] UW)]) (by kernel_rfl) (bD (agW CC) av) (aW (by kernel_rfl) h)
end Go.AM
set_option maxRecDepth 100000
namespace Go.AM
open Go.Proofs Ex
theorem step_loop {a b:Int} {l1 l2:List V}: ∀(n:Nat) (s:Dv),Gs s→n≤1000000→
  (∀t,ee n s=some t→∃x y,Loop (sN CC a b l1 l2) ((n:Int),jK s)=some (.inr (x,y,jK t)))∧(ee n s=none→Loop (sN CC a b l1 l2) ((n:Int),jK s)=some (.inl (3,0,0,[],[])))
 | 0,s,hs,_=>by
  refine ⟨fun t ht=>⟨0,false,?_⟩,fun h=>by simp[ee] at h⟩
  cases ht
  refine bc ?_
  simp only[sN,vc,un]
  rfl
 | n+1,s,hs,hn=>by
  rw[ee]
  have ja:decide (((n+1:Nat):Int)>0)=true:=cZ (by omega)
  have F4:=hs.dn
  by_cases hd:s.dn<s.es.length
  ·rw[aj hd]
   obtain ⟨p1,p2⟩:=LR hs hd
   have hf:(!(s.dn==(s.es.length:Int)))=true:=by rw[lO,rm];omega
   cases hp:proc s with
   | none=>
    obtain ⟨l,hl⟩:=p2 hp
    refine ⟨fun t ht=>(by cases ht),fun _=>bc ?_⟩
    simp only[sN,vc,un]
    refine bT ja (bs (rf s) (bT hf ?_))
    refine bs hl ?_
    rfl
   | some u=>
    obtain ⟨g,_,g2,_⟩:=Bw hs hd hp
    obtain ⟨i1,i2⟩:=step_loop (a:=a) (b:=b) (l1:=l1) (l2:=l2) n u g (by omega)
    have dp:sN CC a b l1 l2 (((n+1:Nat):Int),jK s)=some (.inl ((n:Int),jK u)):=by
     simp only[sN,vc,un]
     refine bT ja (bs (rf s) (bT hf ?_))
     refine bs (p1 u hp) ?_
     rw[wrap64 (by omega) (by omega),show ((n+1:Nat):Int)-1=(n:Int) by omega]
     rfl
    refine ⟨fun t ht=> ?_,fun ht=>(bV dp).trans (i2 ht)⟩
    obtain ⟨x,y,h⟩:=i1 t ht
    exact ⟨x,y,(bV dp).trans h⟩
  ·rw[ah hd]
   refine ⟨fun t ht=>⟨((n+1:Nat):Int),false,?_⟩,fun ht=>(by cases ht)⟩
   cases ht
   refine bc ?_
   have hf:(!(s.dn==(s.es.length:Int)))=false:=by rw[Bool.not_eq_false',rv];omega
   simp only[sN,vc,un]
   refine bT ja (bs (rf s) (bF hf ?_))
   exact congrArg (fun b=>some (Sum.inr (Sum.inr (((n+1:Nat):Int),b,s.L,s.dn,s.es.map enc,s.nx.map dc,eW s.es)))) hf
theorem Gr {d:Dv} (hd:d.Ok) (b:Int) (hb:b≤1000000):CC wG (pI d [.int .i64 b])=some (Uz (F0 d b)):=by
 obtain ⟨h1,U⟩:=UU hd
 refine agZ ?_
 unfold UY F0
 cases hs:mF d with
 | false=>
  rcases U hs with h|⟨s,h⟩
  ·exact bs h (bT rfl rfl)
  ·exact bs h (bF rfl (bT rfl rfl))
 | true=>
  refine bs (h1 hs) (bF rfl (bF rfl ?_))
  rw[aj rfl]
  by_cases h0:b<0
  ·rw[aj h0];exact bT (cZ h0) rfl
  ·rw[ah h0]
   refine bF (bL h0) ?_
   have g:=(TG hs).1
   obtain ⟨l1,l2⟩:=step_loop (a:=0) (b:=0) (l1:=[]) (l2:=[]) b.toNat d g (by omega)
   rw[show ((b.toNat:Nat):Int)=b by omega] at l1 l2
   cases hp:ee b.toNat d with
   | none=>exact bs (l2 hp) rfl
   | some t=>
    obtain ⟨x,y,h⟩:=l1 t hp
    exact bs h rfl
end Go.AM
set_option maxRecDepth 100000
namespace Go.AM
open Go.Proofs
noncomputable def UZ (C:ag) (ai ar:Int) (af:List V) (letters:Int):Option (List V):=
 (C sb [.int .i64 ai,.int .i64 ar,.list aa af,.int .i64 letters]).bind fun r1=>
 bif (((V.nth r1 0).toInt):Int) != 0 then
  some [.int .i64 0,.int .i64 0,.int .i64 ((V.nth r1 0).toInt),.list aa ([]:List V),.list bq ([]:List V)]
 else
  (C wJ [.int .i64 ai,.int .i64 ar,.list aa af]).bind fun r2=>
  (C wI [.int .i64 ((V.nth r2 0).toInt),.int .i64 ((V.nth (r2.drop 1) 0).toInt),.list aa ((V.nth ((r2.drop 1).drop 1) 0).toList),.int .i64 letters]).bind fun r3=>
  some [.int .i64 ((V.nth r3 0).toInt),.int .i64 ((V.nth (r3.drop 1) 0).toInt),.int .i64 0,.list aa ((V.nth (r3.drop 2) 0).toList),.list bq ((V.nth ((r3.drop 2).drop 1) 0).toList)]
theorem ag0 {ai ar:Int} {af:List V} {letters:Int} {r:Option (List V)} (h:UZ CC ai ar af letters=r):CC Ee [.int .i64 ai,.int .i64 ar,.list aa af,.int .i64 letters]=r:=
 aY (key:=21) (L:=cg) (bs:=[]) (by kernel_rfl) av (aW (by kernel_rfl) h)
end Go.AM
set_option maxRecDepth 100000
namespace Go.AM
open Go.Proofs Ex
def LW (e:Ex) (L:Int):Dv × Int:=if e.val L=0 then (eV e L,0) else (.zero,e.val L)
theorem ag1 {e:Ex} (h:e.Ok) (L:Int):CC Ee (bM e [.int .i64 L])=some (Uz (LW e L)):=by
 refine ag0 ?_
 unfold UZ LW
 refine bs (uw e h L) ?_
 by_cases hv:e.val L=0
 ·rw[aj hv]
  refine bF (by rw[V.aQ,V.toInt_int,hv];rfl) ?_
  have hN:=Lf e h
  rw[aj (u3 hv)] at hN
  refine bs hN (bs (LO (L:=L) (UA hv)) ?_)
  rfl
 ·rw[ah hv]
  refine bT ?_ rfl
  rw[V.aQ,V.toInt_int,lP];exact hv
end Go.AM
set_option maxRecDepth 100000
namespace Go.AM
open Go.Proofs
noncomputable abbrev U0:Code:=cJ Try.prog (ax.aV 48)
noncomputable def vd (C:ag) (nL mG:Int) (jL:List V) (nM mH:Int) (jM:List V) (i:Int) {β:Type} (kn:Int→Option β) (kr:((Int) ⊕ (Int × Bool))→Option β):Option β:=
 bif decide ((i:Int)<(jL.length:Int)) then
  bif decide ((i:Int)<(jM.length:Int)) then
  (idx jL i).bind fun x3=>
  (idx jM i).bind fun x4=>
  (C wL [.int .i64 ((x3.cell 0).toInt),.int .i64 ((x3.cell 1).toInt),.list aa ((x3.cell 2).toList),.int .i64 ((x4.cell 0).toInt),.int .i64 ((x4.cell 1).toInt),.list aa ((x4.cell 2).toList)]).bind fun r5=>
  bif (((V.nth r5 0).toInt):Int) != 0 then
   kr (.inl ((V.nth r5 0).toInt))
  else
   kn (IntKind.wrap .i64 (i+1))
  else
  kr (.inr (i,decide ((i:Int)<(jM.length:Int))))
 else
  kr (.inr (i,false))
noncomputable def sO (C:ag) (nL mG:Int) (jL:List V) (nM mH:Int) (jM:List V):(Int)→Option ((Int) ⊕ ((Int) ⊕ (Int × Bool))):=fun i=>vd C nL mG jL nM mH jM i (fun y=>some (.inl y)) (fun r=>some (.inr r))
noncomputable def U1 (C:ag):cz:=fun β n ds k=>
 bif Nat.beq n 97 then cf Jf [true,false,false,false,false,false,false] [[0],[0,0,2,3,4,5,6,7]] (@vd C) ds k else
 none
abbrev ag2 (C:ag) (b:cv):Prop:=cw Try.prog ax C (U1 C) 48 (cM Try.prog (ax.aV 48)) (ax.sin 48).a8.length b
theorem ag3 (C:ag):ag2 C (.loop (aw [1,1,0,1,0,0] U0)):=
 cm Jf [true,false,false,false,false,false,false] [[0],[0,0,2,3,4,5,6,7]] (@vd C) (by kernel_rfl) (bf (bs:=[]) (by kernel_rfl) av) (fun ds=>by kernel_rfl) (fun i x=>by kernel_rfl) (fun i x β k=>by kernel_rfl) (fun β ds k=>by kernel_rfl)
noncomputable def U2 (C:ag) (eu eg:Int) (ew:List V) (ey ez:Int) (eM:List V):Option (List V):=
 bif (eu:Int) != ey then
  (C wP [.bool (decide ((eu:Int)<ey))]).bind fun r1=>
  some [.int .i64 ((V.nth r1 0).toInt)]
 else
  bif (eg:Int) != ez then
  (C wP [.bool (decide ((eg:Int)<ez))]).bind fun r2=>
  some [.int .i64 ((V.nth r2 0).toInt)]
  else
  (Loop (sO C eu eg ew ey ez eM) 0).bind (bR (fun (lA:Int)=>
   some [.int .i64 lA]) (un fun (i_7:Int) (Qh:Bool)=>
   bif ((ew.length:Int):Int)==(eM.length:Int) then
    some [.int .i64 0]
   else
    (C wP [.bool (decide (((ew.length:Int):Int)<(eM.length:Int)))]).bind fun r9=>
    some [.int .i64 ((V.nth r9 0).toInt)]))
theorem ag4 {eu eg:Int} {ew:List V} {ey ez:Int} {eM:List V} {r:Option (List V)} (h:U2 CC eu eg ew ey ez eM=r):CC wL [.int .i64 eu,.int .i64 eg,.list aa ew,.int .i64 ey,.int .i64 ez,.list aa eM]=r:=
 aY (key:=48) (L:=U1 CC) (bs:=[.loop (aw [1,1,0,1,0,0] U0)]) (by kernel_rfl) (bD (ag3 CC) av) (aW (by kernel_rfl) h)
noncomputable def ag5 (C:ag) (less:Bool):Option (List V):=
 bif less then
  some [.int .i64 (-1)]
 else
  some [.int .i64 1]
theorem ag6 {less:Bool} {r:Option (List V)} (h:ag5 CC less=r):CC wP [.bool less]=r:=
 aY (key:=67) (L:=cg) (bs:=[]) (by kernel_rfl) av (aW (by kernel_rfl) h)
end Go.AM
set_option maxRecDepth 100000
namespace Go.AM
open Go.Proofs Ex
theorem LX (b:Bool):CC wP [.bool b]=some [.int .i64 (fX b)]:=by
 refine ag6 ?_
 cases b<;>rfl
theorem ag7 {ks bI:List Ex} {a0 a1 b0 b1:Int} (hlen:ks.length≤maxLen) (ih: ∀k∈ks,∀e:Ex,e.Ok→CC wL (bM k (bM e []))=some [.int .i64 (cmp k e)]) (c6: ∀k∈bI,Ex.Ok k):
  ∀(aI pre iN oD:List Ex),ks=pre++aI→bI=oD++iN→pre.length=oD.length→
  (∃c,Loop (sO CC a0 a1 (ks.map enc) b0 b1 (bI.map enc)) ((pre.length:Nat):Int)=some (.inl c)∧di aI iN=c)∨
  (∃i b,Loop (sO CC a0 a1 (ks.map enc) b0 b1 (bI.map enc)) ((pre.length:Nat):Int)=some (.inr (i,b))∧di aI iN=if ks.length=bI.length then 0 else fX (decide (ks.length<bI.length))):=by
 intro aI
 induction aI with
 | nil=>
  intro pre iN oD aZ jE kQ
  subst aZ
  refine .inr ⟨((pre.length:Nat):Int),false,bc ?_,?_⟩
  ·simp only[sO,vd,dJ,a9,aA]
   rw[ah (by omega)]
  ·cases iN with
   | nil=>simp[di,jE,kQ]
   | cons a l=>simp[di,jE,kQ,fX]
 | cons k aI fE=>
  intro pre iN oD aZ jE kQ
  have bZ:pre.length<ks.length:=by rw[aZ];simp
  have:=kO
  have bY:idx (ks.map enc) (pre.length:Int)=some k.enc:=by rw[aZ];exact jh _ _ _
  cases iN with
  | nil=>
   have hl:bI.length=pre.length:=by rw[jE,kQ];simp
   refine .inr ⟨((pre.length:Nat):Int),false,bc ?_,?_⟩
   ·simp only[sO,vd,a9,aA]
    rw[aj (by omega),ah (by omega)]
    simp[hl]
   ·rw[ah (by omega)]
    simp[di,fX,show¬ks.length<bI.length by omega]
  | cons k' iN=>
   have hl:pre.length<bI.length:=by rw[jE,kQ];simp
   have AB:idx (bI.map enc) (pre.length:Int)=some k'.enc:=by rw[jE,kQ];exact jh _ _ _
   have e1:=ih k (by rw[aZ];simp) k' (c6 k' (by rw[jE];simp))
   by_cases hc:cmp k k'=0
   ·have dp:sO CC a0 a1 (ks.map enc) b0 b1 (bI.map enc) ((pre.length:Nat):Int)=some (.inl (((pre++[k]).length:Nat):Int)):=by
     simp only[sO,vd,a9,aA]
     rw[aj (by omega),aj (by omega),bY,AB]
     simp only[Option.bind_some,bh,bj,bm]
     rw[e1,hc]
     simp only[Option.bind_some,V.aQ,V.toInt_int,wu,dj]
     rw[wrap64 (by omega) (by omega)]
     simp
    rw[bV dp]
    simp only[di,hc,ne_eq,mI,gb]
    exact fE (pre++[k]) iN (oD++[k']) (by rw[aZ];simp) (by rw[jE];simp) (by simp[kQ])
   ·refine .inl ⟨cmp k k',bc ?_,by simp[di,hc]⟩
    simp only[sO,vd,a9,aA]
    rw[aj (by omega),aj (by omega),bY,AB]
    simp only[Option.bind_some,bh,bj,bm]
    rw[e1]
    simp only[Option.bind_some,V.aQ,V.toInt_int,wu,ah hc]
theorem ag8: ∀a:Ex,a.Ok→∀b:Ex,b.Ok→CC wL (bM a (bM b []))=some [.int .i64 (cmp a b)]:=
 ind fun o l ks ih au b hb=>by
  obtain ⟨o',l',bI⟩:=b
  refine ag4 ?_
  unfold U2
  rw[uy]
  simp only[Ex.op,Ex.cO,Ex.kids,wu]
  by_cases h1:o=o'
  ·by_cases U:l=l'
   ·rw[aj h1,aj U,ah (by simp[h1]),ah (by simp[U])]
    rcases ag7 (a0:=o) (a1:=l) (b0:=o') (b1:=l') au.len (fun k hk e he=>ih k hk (au.mr k hk) e he) hb.mr ks [] bI [] rfl rfl rfl with ⟨c,q1,q2⟩|⟨i,b,q1,q2⟩
    ·simp only[List.length_nil,Int.ofNat_zero,Int.natCast_zero] at q1
     erw [q1];rw[q2];rfl
    ·simp only[List.length_nil,Int.ofNat_zero,Int.natCast_zero] at q1
     erw [q1];rw[q2]
     simp only[Option.bind_some,bR,un,a9,eL]
     by_cases hl:ks.length=bI.length
     ·rw[aj (by omega),aj hl]
     ·rw[ah (by omega),ah hl,LX]
      simp
   ·rw[aj h1,ah U,ah (by simp[h1]),aj U,LX]
    simp only[Option.bind_some,V.aQ,V.toInt_int];rfl
  ·rw[ah h1,aj h1,LX]
   simp only[Option.bind_some,V.aQ,V.toInt_int];rfl
end Go.AM
set_option maxRecDepth 100000
namespace Go.AM
open Go.Proofs
noncomputable abbrev yf:Code:=cJ Try.prog (ax.aV 23)
noncomputable def BY (C:ag) (t40 nL:Int) (mG jL:List V) (rh nM:Int) (mH jM:List V) (ri t41:Int) {β:Type} (kn:Int→Option β) (kr:((Bool) ⊕ (Int × Bool))→Option β):Option β:=
 bif decide ((t41:Int)<t40) then
  (idx mG t41).bind fun x1=>
  (idx mH t41).bind fun x2=>
  (C wL [.int .i64 ((x1.cell 0).toInt),.int .i64 ((x1.cell 1).toInt),.list aa ((x1.cell 2).toList),.int .i64 ((x2.cell 0).toInt),.int .i64 ((x2.cell 1).toInt),.list aa ((x2.cell 2).toList)]).bind fun r3=>
  bif (((V.nth r3 0).toInt):Int) != 0 then
  kr (.inl false)
  else
  kn (IntKind.wrap .i64 (t41+1))
 else
  kr (.inr (t41,decide ((t41:Int)<t40)))
noncomputable def BZ (C:ag) (t40 nL:Int) (mG jL:List V) (rh nM:Int) (mH jM:List V) (ri:Int):(Int)→Option ((Int) ⊕ ((Bool) ⊕ (Int × Bool))):=fun t41=>BY C t40 nL mG jL rh nM mH jM ri t41 (fun y=>some (.inl y)) (fun r=>some (.inr r))
noncomputable def B0 (C:ag) (i t59 t60 t81 nL:Int) (mG jL:List V) (rh nM:Int) (mH jM:List V) (ri t82:Int) {β:Type} (kn:Int→Option β) (kr:((Bool) ⊕ (Int × Bool))→Option β):Option β:=
 bif decide ((t82:Int)<t81) then
  (idx jL i).bind fun lE=>
  (idx lE.toList t82).bind fun eC=>
  (idx jM i).bind fun xk=>
  (idx xk.toList t82).bind fun iP=>
  bif (eC.toInt:Int) != iP.toInt then
  kr (.inl false)
  else
  kn (IntKind.wrap .i64 (t82+1))
 else
  kr (.inr (t82,decide ((t82:Int)<t81)))
noncomputable def B1 (C:ag) (i t59 t60 t81 nL:Int) (mG jL:List V) (rh nM:Int) (mH jM:List V) (ri:Int):(Int)→Option ((Int) ⊕ ((Bool) ⊕ (Int × Bool))):=fun t82=>B0 C i t59 t60 t81 nL mG jL rh nM mH jM ri t82 (fun y=>some (.inl y)) (fun r=>some (.inr r))
noncomputable def B4 (C:ag) (t59 nL:Int) (mG jL:List V) (rh nM:Int) (mH jM:List V) (ri t60:Int) {β:Type} (kn:Int→Option β) (kr:((Bool) ⊕ (Int × Bool))→Option β):Option β:=
 bif decide ((t60:Int)<t59) then
  (idx jL t60).bind fun x7=>
  (idx jM t60).bind fun x8=>
  bif ((x7.toList.length:Int):Int) != (x8.toList.length:Int) then
  kr (.inl false)
  else
  (idx jL t60).bind fun x9=>
  (Loop (B1 C t60 t59 t60 (x9.toList.length:Int) nL mG jL rh nM mH jM ri) 0).bind (bR (fun (uv:Bool)=>
   kr (.inl uv)) (un fun (xd:Int) (Kg:Bool)=>
   kn (IntKind.wrap .i64 (t60+1))))
 else
  kr (.inr (t60,decide ((t60:Int)<t59)))
noncomputable def B5 (C:ag) (t59 nL:Int) (mG jL:List V) (rh nM:Int) (mH jM:List V) (ri:Int):(Int)→Option ((Int) ⊕ ((Bool) ⊕ (Int × Bool))):=fun t60=>B4 C t59 nL mG jL rh nM mH jM ri t60 (fun y=>some (.inl y)) (fun r=>some (.inr r))
noncomputable def U3 (C:ag):cz:=fun β n ds k=>
 bif Nat.beq n 65 then cf I6 [false,true,false,false,false,false,false,false,false,false] [[0],[1,0,0,3,4,5,6,7,8,9,10]] (@BY C) ds k else
 bif Nat.beq n 241 then cf I7 [false,false,false,false,true,false,false,false,false,false,false,false,false] [[0],[1,2,3,4,0,0,6,7,8,9,10,11,12,13]] (@B0 C) ds k else
 bif Nat.beq n 161 then cf I8 [false,true,false,false,false,false,false,false,false,false] [[0],[1,0,0,3,4,5,6,7,8,9,10]] (@B4 C) ds k else
 none
abbrev LY (C:ag) (b:cv):Prop:=cw Try.prog ax C (U3 C) 23 (cM Try.prog (ax.aV 23)) (ax.sin 23).a8.length b
theorem ag9 (C:ag):LY C (.loop (aw [1,1,0,1,0,0] yf)):=
 cm I6 [false,true,false,false,false,false,false,false,false,false] [[0],[1,0,0,3,4,5,6,7,8,9,10]] (@BY C) (by kernel_rfl) (bf (bs:=[]) (by kernel_rfl) av) (fun ds=>by kernel_rfl) (fun i x=>by kernel_rfl) (fun i x β k=>by kernel_rfl) (fun β ds k=>by kernel_rfl)
theorem aha (C:ag):LY C (.loop (aw [1,1,1,0,1,0,0,1,1,0,0,1,1,1,0,0] yf)):=
 cm I7 [false,false,false,false,true,false,false,false,false,false,false,false,false] [[0],[1,2,3,4,0,0,6,7,8,9,10,11,12,13]] (@B0 C) (by kernel_rfl) (bf (bs:=[]) (by kernel_rfl) av) (fun ds=>by kernel_rfl) (fun i x=>by kernel_rfl) (fun i x β k=>by kernel_rfl) (fun β ds k=>by kernel_rfl)
theorem ahb (C:ag):LY C (.loop (aw [1,1,1,0,1,0,0] yf)):=
 cm I8 [false,true,false,false,false,false,false,false,false,false] [[0],[1,0,0,3,4,5,6,7,8,9,10]] (@B4 C) (by kernel_rfl) (bf (bs:=[.loop (aw [1,1,1,0,1,0,0,1,1,0,0,1,1,1,0,0] yf)]) (by kernel_rfl) (bD (aha C) av)) (fun ds=>by kernel_rfl) (fun i x=>by kernel_rfl) (fun i x β k=>by kernel_rfl) (fun β ds k=>by kernel_rfl)
noncomputable def U4 (C:ag) (eu:Int) (eg ew:List V) (yg ey:Int) (ez eM:List V) (yh:Int):Option (List V):=
 bif (eu:Int) != ey then
  some [.bool false]
 else
  bif (yg:Int) != yh then
  some [.bool false]
  else
  bif ((eg.length:Int):Int) != (ez.length:Int) then
   some [.bool false]
  else
   bif ((ew.length:Int):Int) != (eM.length:Int) then
   some [.bool false]
   else
   (Loop (BZ C (eg.length:Int) eu eg ew yg ey ez eM yh) 0).bind (bR (fun (iM:Bool)=>
    some [.bool iM]) (un fun (mu:Int) (lA:Bool)=>
    (Loop (B5 C (ew.length:Int) eu eg ew yg ey ez eM yh) 0).bind (bR (fun (Kh:Bool)=>
     some [.bool Kh]) (un fun (Ki:Int) (ZD:Bool)=>
     some [.bool true]))))
theorem ahc {eu:Int} {eg ew:List V} {yg ey:Int} {ez eM:List V} {yh:Int} {r:Option (List V)} (h:U4 CC eu eg ew yg ey ez eM yh=r):CC Ef [.int .i64 eu,.list aa eg,.list bq ew,.int .i64 yg,.int .i64 ey,.list aa ez,.list bq eM,.int .i64 yh]=r:=
 aY (key:=23) (L:=U3 CC) (bs:=[.loop (aw [1,1,0,1,0,0] yf),.loop (aw [1,1,1,0,1,0,0] yf)]) (by kernel_rfl) (bD (ag9 CC) (bD (ahb CC) av)) (aW (by kernel_rfl) h)
end Go.AM
set_option maxRecDepth 100000
namespace Go.AM
open Go.Proofs Ex
theorem ahd {a b:List Ex} (ha: ∀e∈a,e.Ok) (hb: ∀e∈b,e.Ok) (hl:a.length≤maxLen) (he:a.length=b.length) {x1 x2 x3 x4:Int} {l1 l2:List V}:Loop (BZ CC (a.length:Int) x1 (a.map enc) l1 x2 x3 (b.map enc) l2 x4) 0=some (if a=b then .inr ((a.length:Int),false) else .inl false):=by
 have hm:=kO
 have loop:Loop (BZ CC (a.length:Int) x1 (a.map enc) l1 x2 x3 (b.map enc) l2 x4) 0=some (if∀i,i<a.length→a.getD i aJ=b.getD i aJ then .inr ((a.length:Int),false) else .inl false):=by
  refine w8 (good:=fun i=>a.getD i aJ=b.getD i aJ) a.length (fun i=>(i:Int)) (Sum.inl false:Bool ⊕ (Int × Bool)) (Sum.inr ((a.length:Int),false)) (fun i hi=> ?_) ?_
  ·simp only[BZ,BY]
   refine bT (oK hi) (bs (lM (z:=aJ) hi) (bs (lM (z:=aJ) (by omega)) ?_))
   rw[bh,bj,bm,bh,bj,bm]
   refine bs (ag8 _ (ha _ (q0 hi)) _ (hb _ (q0 (by omega)))) ?_
   by_cases h:a.getD i aJ=b.getD i aJ
   ·rw[aj h]
    refine bF (by rw[V.aQ,V.toInt_int,xm.2 h];rfl) ?_
    rw[wrap64 (by omega) (by omega)]
    rfl
   ·rw[ah h]
    refine bT ?_ rfl
    rw[V.aQ,V.toInt_int,lP]
    exact fun hx=>h (xm.1 hx)
  ·simp only[BZ,BY]
   rw[aA,ah (by omega),bL (by omega)]
 rw[loop]
 by_cases h:a=b
 ·rw[aj ((nJ he).2 h),aj h]
 ·rw[ah fun hx=>h ((nJ he).1 hx),ah h]
theorem ahe {A B:List (List Int)} {i:Nat} (hi:i<A.length) (hiB:i<B.length) (hr:(A.getD i []).length≤maxLen) (he:(A.getD i []).length=(B.getD i []).length) {y1 y2 x1 x2 x3 x4:Int} {l1 l2:List V}:Loop (B1 CC (i:Int) y1 y2 ((A.getD i []).length:Int) x1 l1 (A.map dc) x2 x3 l2 (B.map dc) x4) 0=some (if A.getD i []=B.getD i [] then .inr (((A.getD i []).length:Int),false) else .inl false):=by
 have hm:=kO
 have loop:Loop (B1 CC (i:Int) y1 y2 ((A.getD i []).length:Int) x1 l1 (A.map dc) x2 x3 l2 (B.map dc) x4) 0=some (if∀j,j<(A.getD i []).length→(A.getD i []).getD j 0=(B.getD i []).getD j 0 then .inr (((A.getD i []).length:Int),false) else .inl false):=by
  refine w8 (good:=fun j=>(A.getD i []).getD j 0=(B.getD i []).getD j 0) (A.getD i []).length (fun j=>(j:Int)) (Sum.inl false:Bool ⊕ (Int × Bool)) (Sum.inr (((A.getD i []).length:Int),false)) (fun j hj=> ?_) ?_
  ·simp only[B1,B0]
   refine bT (oK hj) (bs (lM (z:=[]) hi) (bs (lM (f:=fun n=>V.int .i64 n) (z:=0) hj) (bs (lM (z:=[]) hiB) (bs (lM (f:=fun n=>V.int .i64 n) (z:=0) (by omega)) ?_))))
   rw[V.toInt_int,V.toInt_int]
   by_cases h:(A.getD i []).getD j 0=(B.getD i []).getD j 0
   ·rw[aj h]
    refine bF (by rw[sW];exact h) ?_
    rw[wrap64 (by omega) (by omega)]
    rfl
   ·rw[ah h]
    exact bT (by rw[lP];exact h) rfl
  ·simp only[B1,B0]
   rw[aA,ah (by omega),bL (by omega)]
 rw[loop]
 by_cases h:A.getD i []=B.getD i []
 ·rw[aj ((nJ he).2 h),aj h]
 ·rw[ah fun hx=>h ((nJ he).1 hx),ah h]
theorem ahf {A B:List (List Int)} (hr: ∀r∈A,r.length≤maxLen) (hl:A.length≤maxLen) (he:A.length=B.length) {x1 x2 x3 x4:Int} {l1 l2:List V}:Loop (B5 CC (A.length:Int) x1 l1 (A.map dc) x2 x3 l2 (B.map dc) x4) 0=some (if A=B then .inr ((A.length:Int),false) else .inl false):=by
 have hm:=kO
 have LZ: ∀r:List Int,((dc r).toList.length:Int)=(r.length:Int):=fun r=>by show (((r.map fun n=>V.int .i64 n).length:Nat):Int)=_;rw[a9]
 have loop:Loop (B5 CC (A.length:Int) x1 l1 (A.map dc) x2 x3 l2 (B.map dc) x4) 0=some (if∀i,i<A.length→A.getD i []=B.getD i [] then .inr ((A.length:Int),false) else .inl false):=by
  refine w8 (good:=fun i=>A.getD i []=B.getD i []) A.length (fun i=>(i:Int)) (Sum.inl false:Bool ⊕ (Int × Bool)) (Sum.inr ((A.length:Int),false)) (fun i hi=> ?_) ?_
  ·have bY:=lM (f:=dc) (z:=[]) hi
   simp only[B5,B4]
   refine bT (oK hi) (bs bY (bs (lM (z:=[]) (by omega)) ?_))
   rw[LZ,LZ]
   by_cases hlen:(A.getD i []).length=(B.getD i []).length
   ·refine bF (by rw[sW,hlen]) (bs bY ?_)
    rw[LZ]
    refine bs (ahe hi (by omega) (hr _ (q0 hi)) hlen) ?_
    by_cases h:A.getD i []=B.getD i []
    ·rw[aj h,aj h]
     simp only[bR,un]
     rw[wrap64 (by omega) (by omega)]
     rfl
    ·rw[ah h,ah h]
     rfl
   ·rw[ah fun h=>hlen (by rw[h])]
    exact bT (by rw[lP];omega) rfl
  ·simp only[B5,B4]
   rw[aA,ah (by omega),bL (by omega)]
 rw[loop]
 by_cases h:A=B
 ·rw[aj ((nJ he).2 h),aj h]
 ·rw[ah fun hx=>h ((nJ he).1 hx),ah h]
theorem ahg {a b:Dv} (ha:a.Ok) (hb:b.Ok):CC Ef (pI a (pI b []))=some [.bool (decide (a=b))]:=by
 refine ahc ?_
 unfold U4
 obtain ⟨L,es,nx,dn⟩:=a
 obtain ⟨L',aH,BX,Gq⟩:=b
 simp only[a9]
 by_cases h1:L=L'
 case neg=>
  rw[bL fun h=>h1 (Dv.mk.inj h).1]
  exact bT (by rw[lP];exact h1) rfl
 refine bF (by rw[sW];exact h1) ?_
 by_cases U:dn=Gq
 case neg=>
  rw[bL fun h=>U (Dv.mk.inj h).2.2.2]
  exact bT (by rw[lP];exact U) rfl
 refine bF (by rw[sW];exact U) ?_
 by_cases h3:es.length=aH.length
 case neg=>
  rw[bL fun h=>h3 (by rw[(Dv.mk.inj h).2.1])]
  exact bT (by rw[lP];omega) rfl
 refine bF (by rw[sW,h3]) ?_
 by_cases h4:nx.length=BX.length
 case neg=>
  rw[bL fun h=>h4 (by rw[(Dv.mk.inj h).2.2.1])]
  exact bT (by rw[lP];omega) rfl
 refine bF (by rw[sW,h4]) ?_
 refine bs (ahd ha.es hb.es ha.el h3) ?_
 by_cases h5:es=aH
 case neg=>
  rw[ah h5,bL fun h=>h5 (Dv.mk.inj h).2.1];rfl
 rw[aj h5]
 simp only[bR,un]
 refine bs (ahf ha.rl ha.nl h4) ?_
 by_cases h6:nx=BX
 ·rw[aj h6,cZ (by rw[h1,U,h5,h6])];rfl
 ·rw[ah h6,bL fun h=>h6 (Dv.mk.inj h).2.2.1];rfl
end Go.AM
set_option maxRecDepth 100000
namespace Go.AM
open Go.Proofs
noncomputable def U5 (C:ag) (ai ar:Int) (af:List V) (cH:Int):Option (List V):=
 (C Eg [.int .i64 ai,.int .i64 ar,.list aa af]).bind fun r1=>
 bif (V.nth r1 0).toBool then
  (C Eb [.int .i64 ai,.int .i64 ar,.list aa af]).bind fun r2=>
  some [.bool (decide ((((V.nth r2 0).toInt):Int)≤cH))]
 else
  some [.bool false]
theorem ahh {ai ar:Int} {af:List V} {cH:Int} {r:Option (List V)} (h:U5 CC ai ar af cH=r):CC Ed [.int .i64 ai,.int .i64 ar,.list aa af,.int .i64 cH]=r:=
 aY (key:=17) (L:=cg) (bs:=[]) (by kernel_rfl) av (aW (by kernel_rfl) h)
end Go.AM
set_option maxRecDepth 100000
namespace Go.AM
open Go.Proofs Ex
theorem ahi (e:Ex) (h:e.Ok) (m:Int):CC Ed (bM e [.int .i64 m])=some [.bool (decide (e.val 6=0∧(e.size:Int)≤m))]:=by
 refine ahh ?_
 unfold U5
 refine bs (abp e h) ?_
 by_cases hv:e.val 6=0
 ·refine bT (cZ hv) (bs (abt e h (nr hv).2.1) ?_)
  rw[V.aQ,V.toInt_int]
  refine congrArg (fun b=>some [V.bool b]) ?_
  rw[yx]
  exact ⟨fun x=>⟨hv,x⟩,fun x=>x.2⟩
 ·refine bF (bL hv) ?_
  rw[bL fun x=>hv x.1]
end Go.AM
set_option maxRecDepth 100000
namespace Go.AM
open Go.Proofs
noncomputable def U6 (C:ag):Option (List V):=
 some [.int .i64 7,.int .i64 0,.list aa ([.agg [.int .i64 5,.int .i64 0,.list aa ([.agg [.int .i64 3,.int .i64 0,.list aa ([]:List V)],.agg [.int .i64 3,.int .i64 1,.list aa ([]:List V)]]:List V)]]:List V)]
theorem ahj {r:Option (List V)} (h:U6 CC=r):CC Ek []=r:=
 aY (key:=38) (L:=cg) (bs:=[]) (by kernel_rfl) av (aW (by kernel_rfl) h)
noncomputable def U7 (C:ag):Option (List V):=
 (C Ek []).bind fun r1=>
 (C Ec [.int .i64 ((V.nth r1 0).toInt),.int .i64 ((V.nth (r1.drop 1) 0).toInt),.list aa ((V.nth (r1.drop 2) 0).toList),.int .i64 2]).bind fun r2=>
 bif (((V.nth (r2.drop 2) 0).toInt):Int)==0 then
  bif ((((V.nth (r2.drop 3) 0).toList).length:Int):Int)==3 then
  bif decide (0<(((V.nth (r2.drop 3) 0).toList).length:Int)) then
   (((V.nth (r2.drop 3) 0).toList)[0]?).bind fun x3=>
   bif x3.toBool then
   bif decide (1<(((V.nth (r2.drop 3) 0).toList).length:Int)) then
    (((V.nth (r2.drop 3) 0).toList)[1]?).bind fun x4=>
    some [.bool (!x4.toBool)]
   else none
   else
   some [.bool false]
  else none
  else
  some [.bool false]
 else
  some [.bool false]
theorem ahk {r:Option (List V)} (h:U7 CC=r):CC nk []=r:=
 aY (key:=13) (L:=cg) (bs:=[]) (by kernel_rfl) av (aW (by kernel_rfl) h)
end Go.AM
set_option maxRecDepth 100000
namespace Go.AM
open Go.Proofs Ex
def yi:Ex:= .node 7 0 [.node 5 0 [.node 3 0 [],.node 3 1 []]]
theorem ahl:yi.Ok:=by
 refine .node (by omega) (by omega) (by unfold maxLen;simp) fun k hk=> ?_
 rw[dX.1 hk]
 refine .node (by omega) (by omega) (by unfold maxLen;simp) fun k hk=> ?_
 rcases dg.1 hk with rfl|hk
 ·exact .node (by omega) (by omega) (by simp) (by simp)
 ·rw[dX.1 hk]
  exact .node (by omega) (by omega) (by simp) (by simp)
theorem ahm:(BR yi 2).2=0∧(BR yi 2).1.F=[true,false,false]:=by decide+kernel
theorem B6:CC nk []=some [.bool true]:=by
 refine ahk ?_
 unfold U7
 have eZ:CC Ek []=some (ib yi):=by
  refine ahj ?_
  unfold U6 yi
  simp only[ib,Ex.op,Ex.cO,Ex.kids,cQ,gA,eF]
 refine bs eZ ?_
 refine bs (agy ahl 2) ?_
 obtain ⟨h1,U⟩:=ahm
 generalize BR yi 2=p at h1 U
 obtain ⟨⟨L,F,N⟩,f⟩:=p
 simp only at h1 U
 subst h1 U
 rfl
end Go.AM
set_option maxRecDepth 100000
namespace Go.AM
open Go.Proofs
noncomputable def U8 (C:ag) (ai ar:Int) (af:List V) (a b':Int):Option (List V):=
 (C Ed [.int .i64 ai,.int .i64 ar,.list aa af,.int .i64 12]).bind fun r1=>
 bif !((V.nth r1 0).toBool) then
  (C nk []).bind fun r2=>
  some [.bool ((V.nth r2 0).toBool)]
 else
  (C zZ [.int .i64 ai,.int .i64 ar,.list aa af,.int .i64 2]).bind fun r3=>
  bif (((V.nth r3 0).toInt):Int) != 0 then
  (C nk []).bind fun r4=>
  some [.bool ((V.nth r4 0).toBool)]
  else
  (C Ee [.int .i64 ai,.int .i64 ar,.list aa af,.int .i64 2]).bind fun r5=>
  bif (((V.nth (r5.drop 2) 0).toInt):Int) != 0 then
   some [.bool false]
  else
   (C wG [.int .i64 ((V.nth r5 0).toInt),.list aa ((V.nth (r5.drop 3) 0).toList),.list bq ((V.nth ((r5.drop 3).drop 1) 0).toList),.int .i64 ((V.nth (r5.drop 1) 0).toInt),.int .i64 (IntKind.wrap .i64 (IntKind.wrap .u8 ((BitVec.ofInt (IntKind.bits .u8) a&&&BitVec.ofInt (IntKind.bits .u8) 15).toNat)))]).bind fun r6=>
   (C wG [.int .i64 ((V.nth r6 0).toInt),.list aa ((V.nth (r6.drop 3) 0).toList),.list bq ((V.nth ((r6.drop 3).drop 1) 0).toList),.int .i64 ((V.nth (r6.drop 1) 0).toInt),.int .i64 (IntKind.wrap .i64 (IntKind.wrap .u8 ((BitVec.ofInt (IntKind.bits .u8) b'&&&BitVec.ofInt (IntKind.bits .u8) 15).toNat)))]).bind fun r7=>
   (C wG [.int .i64 ((V.nth r5 0).toInt),.list aa ((V.nth (r5.drop 3) 0).toList),.list bq ((V.nth ((r5.drop 3).drop 1) 0).toList),.int .i64 ((V.nth (r5.drop 1) 0).toInt),.int .i64 (IntKind.wrap .i64 ((IntKind.wrap .i64 (IntKind.wrap .u8 ((BitVec.ofInt (IntKind.bits .u8) a&&&BitVec.ofInt (IntKind.bits .u8) 15).toNat)))+(IntKind.wrap .i64 (IntKind.wrap .u8 ((BitVec.ofInt (IntKind.bits .u8) b'&&&BitVec.ofInt (IntKind.bits .u8) 15).toNat)))))]).bind fun r8=>
   bif (((V.nth (r6.drop 2) 0).toInt):Int) != 0 then
   bif (((V.nth (r6.drop 2) 0).toInt):Int)==0 then
    bif (((V.nth (r8.drop 2) 0).toInt):Int)==3 then
    (C nk []).bind fun r9=>
    some [.bool ((V.nth r9 0).toBool)]
    else
    some [.bool false]
   else
    bif (((V.nth (r6.drop 2) 0).toInt):Int)==3 then
    bif (((V.nth (r8.drop 2) 0).toInt):Int)==3 then
     (C nk []).bind fun dW=>
     some [.bool ((V.nth dW 0).toBool)]
    else
     some [.bool false]
    else
    some [.bool false]
   else
   bif (((V.nth (r7.drop 2) 0).toInt):Int) != 0 then
    bif (((V.nth (r6.drop 2) 0).toInt):Int)==0 then
    bif (((V.nth (r8.drop 2) 0).toInt):Int)==3 then
     (C nk []).bind fun eU=>
     some [.bool ((V.nth eU 0).toBool)]
    else
     some [.bool false]
    else
    bif (((V.nth (r6.drop 2) 0).toInt):Int)==3 then
     bif (((V.nth (r8.drop 2) 0).toInt):Int)==3 then
     (C nk []).bind fun fK=>
     some [.bool ((V.nth fK 0).toBool)]
     else
     some [.bool false]
    else
     some [.bool false]
   else
    bif (((V.nth (r8.drop 2) 0).toInt):Int) != 0 then
    bif (((V.nth (r6.drop 2) 0).toInt):Int)==0 then
     bif (((V.nth (r8.drop 2) 0).toInt):Int)==3 then
     (C nk []).bind fun gp=>
     some [.bool ((V.nth gp 0).toBool)]
     else
     some [.bool false]
    else
     bif (((V.nth (r6.drop 2) 0).toInt):Int)==3 then
     bif (((V.nth (r8.drop 2) 0).toInt):Int)==3 then
      (C nk []).bind fun kP=>
      some [.bool ((V.nth kP 0).toBool)]
     else
      some [.bool false]
     else
     some [.bool false]
    else
    (C Ef [.int .i64 ((V.nth r7 0).toInt),.list aa ((V.nth (r7.drop 3) 0).toList),.list bq ((V.nth ((r7.drop 3).drop 1) 0).toList),.int .i64 ((V.nth (r7.drop 1) 0).toInt),.int .i64 ((V.nth r8 0).toInt),.list aa ((V.nth (r8.drop 3) 0).toList),.list bq ((V.nth ((r8.drop 3).drop 1) 0).toList),.int .i64 ((V.nth (r8.drop 1) 0).toInt)]).bind fun lF=>
    bif (V.nth lF 0).toBool then
     (C Eh [.int .i64 ((V.nth r7 0).toInt),.list aa ((V.nth (r7.drop 3) 0).toList),.list bq ((V.nth ((r7.drop 3).drop 1) 0).toList),.int .i64 ((V.nth (r7.drop 1) 0).toInt)]).bind fun fa=>
     bif (((V.nth fa 0).toInt):Int)==0 then
     (C nk []).bind fun dG=>
     some [.bool ((V.nth dG 0).toBool)]
     else
     some [.bool false]
    else
     some [.bool false]
theorem ahn {ai ar:Int} {af:List V} {a b':Int} {r:Option (List V)} (h:U8 CC ai ar af a b'=r):CC IV [.int .i64 ai,.int .i64 ar,.list aa af,.int .u8 a,.int .u8 b']=r:=
 aY (key:=9) (L:=cg) (bs:=[]) (by kernel_rfl) av (aW (by kernel_rfl) h)
end Go.AM
set_option maxRecDepth 100000
namespace Go.AM
open Go.Proofs Ex
theorem aho:Dv.zero.Ok:=⟨by simp[Dv.zero],by simp[Dv.zero],by simp[Dv.zero],by simp[Dv.zero]⟩
theorem U9 (a:Int): ∃m:Nat,m<256∧IntKind.wrap .i64 (IntKind.wrap .u8 ((BitVec.ofInt (IntKind.bits .u8) a&&&BitVec.ofInt (IntKind.bits .u8) 15).toNat))=(m:Int):=by
 refine ⟨(BitVec.ofInt (IntKind.bits .u8) a&&&BitVec.ofInt (IntKind.bits .u8) 15).toNat,?_,?_⟩
 ·exact (BitVec.ofInt (IntKind.bits .u8) a&&&BitVec.ofInt (IntKind.bits .u8) 15).isLt
 ·have h:(BitVec.ofInt (IntKind.bits .u8) a&&&BitVec.ofInt (IntKind.bits .u8) 15).toNat<256:=(BitVec.ofInt (IntKind.bits .u8) a&&&BitVec.ofInt (IntKind.bits .u8) 15).isLt
  rw[zV (by omega) (by omega),wrap64 (by omega) (by omega)]
theorem Vf (e:Ex) (h:e.Ok) (a b:Int):CC IV (bM e [.int .u8 a,.int .u8 b])=some [.bool true]:=by
 refine ahn ?_
 unfold U8
 obtain ⟨m,hm,em⟩:=U9 a
 obtain ⟨n,hn,en⟩:=U9 b
 rw[em,en,wrap64 (by omega) (by omega)]
 refine bs (ahi e h 12) ?_
 by_cases hl:e.val 6=0∧(e.size:Int)≤12
 case neg=>exact bT (by rw[V.aQ,V.dA,bL hl];rfl) (bs B6 rfl)
 refine bF (by rw[V.aQ,V.dA,cZ hl];rfl) ?_
 refine bs (QF e h 2) ?_
 by_cases hv:e.val 2=0
 case neg=>exact bT (by rw[V.aQ,V.toInt_int,lP];exact hv) (bs B6 rfl)
 refine bF (by rw[V.aQ,V.toInt_int,hv];rfl) ?_
 have hS:=ag1 h 2
 rw[show LW e 2=(eV e 2,0) from aj hv] at hS
 refine bs hS (bF rfl ?_)
 have g0:=yb hv
 have Va:mF (eV e 2)=true:=Lu hv (n:=0) rfl
 have sx: ∀{d:Dv} {k:Nat},mF d=true→F0 d (k:Int)=match ee k d with|none=>(.zero,3)|some t=>(t,0):=fun {d k} hd=>by
  unfold F0
  rw[aj hd,ah (by omega),Int.toNat_natCast]
  try rfl
 have h1:=Gr (vb g0) (m:Int) (by omega)
 rw[sx Va] at h1
 have h3:=Gr (vb g0) ((m:Int)+(n:Int)) (by omega)
 rw[show (m:Int)+(n:Int)=((m+n:Nat):Int) by omega,sx Va,Ls] at h3
 rw[show (m:Int)+(n:Int)=((m+n:Nat):Int) by omega]
 refine bs h1 ?_
 cases hp:ee m (eV e 2) with
 | none=>
  rw[hp] at h3
  have U:=Gr aho (n:Int) (by omega)
  exact bs U (bs h3 (bT rfl (bF rfl (bT rfl (bT rfl (bs B6 rfl))))))
 | some t=>
  rw[hp] at h3
  have gt:=(u4 _ _ _ g0 hp).1
  have st:=Lu hv hp
  have U:=Gr (vb gt) (n:Int) (by omega)
  rw[sx st] at U
  simp only[Option.bind_some] at h3
  refine bs U (bs h3 (bF rfl ?_))
  cases hq:ee n t with
  | none=>exact bT rfl (bT rfl (bT rfl (bs B6 rfl)))
  | some u=>
   have gu:=(u4 _ _ _ gt hq).1
   have su:=aft st hq
   have hV:=agU (vb gu)
   rw[aj su] at hV
   exact bF rfl (bF rfl (bs (ahg (vb gu) (vb gu)) (bT (cZ rfl) (bs hV (bT rfl (bs B6 rfl))))))
end Go.AM
set_option maxRecDepth 100000
namespace Go.AM
theorem WT.yl {P:Program} {t:TypeId} {x:V} (hu:P.underlying t=some (.int .u8)) (h:WT P t x): ∃n:Int,x= .int .u8 n∧0≤n∧n≤255:=by
 obtain ⟨n,rfl,h1,U⟩:=h.dL hu
 have e1:IntKind.min .u8=0:=by decide
 have e2:IntKind.max .u8=255:=by decide
 rw[e1] at h1
 rw[e2] at U
 exact ⟨n,rfl,h1,U⟩
end Go.AM
