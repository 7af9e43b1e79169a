/-
  Functions of the program, lifted to plain data.
-/
import Derived.Test.YtppefogdkedaiaaP5
set_option linter.unusedVariables false
set_option linter.unusedSimpArgs false
set_option maxRecDepth 100000
namespace Go.AM
open Go.Proofs
noncomputable abbrev FF:Code:=cL Try.prog (ax.aX 70)
noncomputable def xM (C:ag) (t20:List V) (t21 lA:Int) (lB:Bool) (kL kM qQ qR:Int) (qS:Bool) (ic ew:List V) (sE:Bool) (t22:Int) (lC fi:List V) {β:Type} (kn:(Bool × Int × (List V) × (List V))→Option β) (kr:(Bool × Int × Bool × (List V) × (List V))→Option β):Option β:=
 bif decide ((t22:Int)<t21) then
  (idx t20 t22).bind fun x1=>
  bif !sE then
  (C zS [.int .i64 lA,.bool lB,.int .i64 ((x1.cell 0).toInt),.int .i64 ((x1.cell 1).toInt),.list aa ((x1.cell 2).toList)]).bind fun r2=>
  bif (decide (0≤t22))&&(decide (t22<(fi.length:Int))) then
   (fi[(t22:Int).toNat]?).bind fun x3=>
   kn (sE,IntKind.wrap .i64 (t22+1),lC,fi.set ((t22:Int).toNat) (.agg [.int .i64 ((V.nth r2 0).toInt),.int .i64 ((V.nth (r2.drop 1) 0).toInt),.list aa ((V.nth ((r2.drop 1).drop 1) 0).toList)]))
  else none
  else
  (C oe [.int .i64 lA,.bool lB,.int .i64 ((x1.cell 0).toInt),.int .i64 ((x1.cell 1).toInt),.list aa ((x1.cell 2).toList)]).bind fun r4=>
  bif Nat.ble ((lC.length+([.agg [.int .i64 ((V.nth r4 0).toInt),.int .i64 ((V.nth (r4.drop 1) 0).toInt),.list aa ((V.nth ((r4.drop 1).drop 1) 0).toList)]]:List V).length)*40) cI then
   bif (decide (0≤t22))&&(decide (t22<(fi.length:Int))) then
   (fi[(t22:Int).toNat]?).bind fun x5=>
   kn ((V.nth ((((((r4.drop 1).drop 1).drop 1).drop 1).drop 1).drop 1) 0).toBool,IntKind.wrap .i64 (t22+1),lC++([.agg [.int .i64 ((V.nth r4 0).toInt),.int .i64 ((V.nth (r4.drop 1) 0).toInt),.list aa ((V.nth ((r4.drop 1).drop 1) 0).toList)]]:List V),fi.set ((t22:Int).toNat) (.agg [.int .i64 ((V.nth (((r4.drop 1).drop 1).drop 1) 0).toInt),.int .i64 ((V.nth ((((r4.drop 1).drop 1).drop 1).drop 1) 0).toInt),.list aa ((V.nth (((((r4.drop 1).drop 1).drop 1).drop 1).drop 1) 0).toList)]))
   else none
  else none
 else
  kr (sE,t22,decide ((t22:Int)<t21),lC,fi)
noncomputable def Bh (C:ag) (t20:List V) (t21 lA:Int) (lB:Bool) (kL kM qQ qR:Int) (qS:Bool) (ic ew:List V):(Bool × Int × (List V) × (List V))→Option ((Bool × Int × (List V) × (List V)) ⊕ (Bool × Int × Bool × (List V) × (List V))):=un fun sE=>un fun t22=>un fun lC fi=>xM C t20 t21 lA lB kL kM qQ qR qS ic ew sE t22 lC fi (fun y=>some (.inl y)) (fun r=>some (.inr r))
noncomputable def Bi (C:ag) (sE:Bool) (t55 kL kM qQ qR:Int) (qS:Bool) (fi FG ic ew:List V) (t56:Int) (gp:List V) {β:Type} (kn:(Int × (List V))→Option β) (kr:(Int × Bool × (List V))→Option β):Option β:=
 bif decide ((t56:Int)<t55) then
  bif (decide (0≤t56))&&(decide (t56<(FG.length:Int))) then
  (FG[(t56:Int).toNat]?).bind fun et=>
  bif (((et.cell 0).toInt):Int)==1 then
   bif (decide (0≤t56))&&(decide (t56<(gp.length:Int))) then
   (gp[(t56:Int).toNat]?).bind fun w5=>
   kn (IntKind.wrap .i64 (t56+1),gp.set ((t56:Int).toNat) (.agg [.int .i64 ((et.cell 0).toInt),.int .i64 ((et.cell 1).toInt),.list aa ((et.cell 2).toList)]))
   else none
  else
   bif (decide (0≤(IntKind.wrap .i64 (t56+1))))&&(decide ((IntKind.wrap .i64 (t56+1))≤(fi.length:Int))) then
   bif Nat.ble ((([.agg [.int .i64 ((et.cell 0).toInt),.int .i64 ((et.cell 1).toInt),.list aa ((et.cell 2).toList)]]:List V).length+((fi.drop ((IntKind.wrap .i64 (t56+1):Int).toNat)).take (fi.length-((IntKind.wrap .i64 (t56+1):Int).toNat))).length)*40) cI then
    (C j7 [.int .i64 5,.list aa (([.agg [.int .i64 ((et.cell 0).toInt),.int .i64 ((et.cell 1).toInt),.list aa ((et.cell 2).toList)]]:List V)++((fi.drop ((IntKind.wrap .i64 (t56+1):Int).toNat)).take (fi.length-((IntKind.wrap .i64 (t56+1):Int).toNat))))]).bind fun gi=>
    bif (decide (0≤t56))&&(decide (t56<(gp.length:Int))) then
    (gp[(t56:Int).toNat]?).bind fun nf=>
    kn (IntKind.wrap .i64 (t56+1),gp.set ((t56:Int).toNat) (.agg [.int .i64 ((V.nth gi 0).toInt),.int .i64 ((V.nth (gi.drop 1) 0).toInt),.list aa ((V.nth ((gi.drop 1).drop 1) 0).toList)]))
    else none
   else none
   else none
  else none
 else
  kr (t56,decide ((t56:Int)<t55),gp)
noncomputable def FH (C:ag) (sE:Bool) (t55 kL kM qQ qR:Int) (qS:Bool) (fi FG ic ew:List V):(Int × (List V))→Option ((Int × (List V)) ⊕ (Int × Bool × (List V))):=un fun t56 gp=>Bi C sE t55 kL kM qQ qR qS fi FG ic ew t56 gp (fun y=>some (.inl y)) (fun r=>some (.inr r))
noncomputable def Tf (C:ag):cB:=fun β n ds k=>
 bif Nat.beq n 81 then cj Je [true,false,false,true,false,false,false,false,false,false,false,true,true,false,false] [[0,2,3,0,0,5,6,7,8,9,10,11,0,0,14,15]] (@xM C) ds k else
 bif Nat.beq n 225 then cj Jf [false,false,true,false,false,false,false,false,false,true,false,false,false] [[1,2,0,0,4,5,6,7,8,9,0,11,12,13]] (@Bi C) ds k else
 none
abbrev Tg (C:ag) (b:cx):Prop:=cy Try.prog ax C (Tf C) 70 (cP Try.prog (ax.aX 70)) (ax.sin 70).a8.length b
theorem afh (C:ag):Tg C (.loop (aw [1,1,1,1,0,1,0,0] FF)):=
 cr Je [true,false,false,true,false,false,false,false,false,false,false,true,true,false,false] [[0,2,3,0,0,5,6,7,8,9,10,11,0,0,14,15]] (@xM C) (by kernel_rfl) (bh (bs:=[]) (by kernel_rfl) av) (fun ds=>by kernel_rfl) (fun i x=>by kernel_rfl) (fun i x β k=>by kernel_rfl) (fun β ds k=>by kernel_rfl)
theorem afi (C:ag):Tg C (.loop (aw [1,1,1,1,1,1,0,1,0,0] FF)):=
 cr Jf [false,false,true,false,false,false,false,false,false,true,false,false,false] [[1,2,0,0,4,5,6,7,8,9,0,11,12,13]] (@Bi C) (by kernel_rfl) (bh (bs:=[]) (by kernel_rfl) av) (fun ds=>by kernel_rfl) (fun i x=>by kernel_rfl) (fun i x β k=>by kernel_rfl) (fun β ds k=>by kernel_rfl)
noncomputable def Th (C:ag) (bL:Int) (bK:Bool) (ah ar:Int) (af:List V):Option (List V):=
 bif (decide (0≤(af.length:Int)))&&((decide ((af.length:Int)≤(af.length:Int)))&&(Nat.ble ((((af.length:Int):Int).toNat)*40) cI)) then
  (Loop (Bh C af (af.length:Int) bL bK 0 0 0 0 false ([]:List V) ([]:List V)) (true,0,([]:List V),List.replicate (((af.length:Int):Int).toNat) (V.agg [.int .i64 0,.int .i64 0,.list aa ([]:List V)]))).bind (un fun (Ti:Bool)=>un fun (ph:Int)=>un fun (ZK:Bool)=>un fun (uS:List V) (Tj:List V)=>
   bif (decide (0≤(uS.length:Int)))&&((decide ((uS.length:Int)≤(uS.length:Int)))&&(Nat.ble ((((uS.length:Int):Int).toNat)*40) cI)) then
   (Loop (FH C Ti (uS.length:Int) 0 0 0 0 false Tj uS ([]:List V) ([]:List V)) (0,List.replicate (((uS.length:Int):Int).toNat) (V.agg [.int .i64 0,.int .i64 0,.list aa ([]:List V)]))).bind (un fun (wU:Int)=>un fun (EP:Bool) (afj:List V)=>
    (C j7 [.int .i64 4,.list aa afj]).bind fun jF=>
    (C j7 [.int .i64 5,.list aa Tj]).bind fun ep=>
    some [.int .i64 ((V.nth jF 0).toInt),.int .i64 ((V.nth (jF.drop 1) 0).toInt),.list aa ((V.nth ((jF.drop 1).drop 1) 0).toList),.int .i64 ((V.nth ep 0).toInt),.int .i64 ((V.nth (ep.drop 1) 0).toInt),.list aa ((V.nth ((ep.drop 1).drop 1) 0).toList),.bool Ti])
   else none)
 else none
theorem afk {bL:Int} {bK:Bool} {ah ar:Int} {af:List V} {r:Option (List V)} (h:Th CC bL bK ah ar af=r):CC wD [.int .i64 bL,.bool bK,.int .i64 ah,.int .i64 ar,.list aa af]=r:=
 aY (key:=70) (L:=Tf CC) (bs:=[.loop (aw [1,1,1,1,0,1,0,0] FF),.loop (aw [1,1,1,1,1,1,0,1,0,0] FF)]) (by kernel_rfl) (bG (afh CC) (bG (afi CC) av)) (aW (by kernel_rfl) h)
noncomputable abbrev FI:Code:=cL Try.prog (ax.aX 50)
noncomputable def FJ (C:ag) (t24:Bool) (gg eY:Int) (ee:List V) (kL kM qQ qR:Int) (qS:Bool) (afl Lb afm afn:Int) (ic ew gO FK:List V) {β:Type} (kr:(Int × Int × (List V))→Option β):Option β:=
 bif t24 then
  kr (afm,afn,FK)
 else
  kr (afl,Lb,gO)
noncomputable def Tk (C:ag):cB:=fun β n ds k=>
 bif Nat.beq n 399 then iJ I8 [[2,3,4,5,6,7,8,9,0,0,14,15,0]] (@FJ C) ds k else
 none
abbrev afo (C:ag) (b:cx):Prop:=cy Try.prog ax C (Tk C) 50 (cP Try.prog (ax.aX 50)) (ax.sin 50).a8.length b
theorem afp (C:ag):afo C (.cond 24 (aw [1,1,0,1,0,1,1,1,0,0,1,0] FI) (aw [1,1,0,1,0,1,1,1,0,0,1,1] FI)):=
 jb I8 [[2,3,4,5,6,7,8,9,0,0,14,15,0]] (@FJ C) (by kernel_rfl) (bh (bs:=[]) (by kernel_rfl) av) (bh (bs:=[]) (by kernel_rfl) av) (fun ds=>by kernel_rfl) (fun i β k=>by kernel_rfl) (fun β ds k=>by kernel_rfl)
noncomputable def Tl (C:ag) (bL:Int) (bK:Bool) (ah ar:Int) (af:List V):Option (List V):=
 bif (ah:Int)==2 then
  some [.int .i64 1,.int .i64 0,.list aa ([]:List V),.int .i64 2,.int .i64 0,.list aa ([]:List V),.bool true]
 else
  bif (ah:Int)==3 then
  FJ C ((ar:Int)==bL) ah ar af 0 0 0 0 false 1 0 2 0 ([]:List V) ([]:List V) ([]:List V) ([]:List V) (un fun (Lb:Int)=>un fun (afq:Int) (FL:List V)=>
   some [.int .i64 Lb,.int .i64 afq,.list aa FL,.int .i64 3,.int .i64 ar,.list aa ([]:List V),.bool false])
  else
  bif (ah:Int)==4 then
   bif (ah:Int)==4 then
   (C wC [.int .i64 bL,.bool bK,.int .i64 ah,.int .i64 ar,.list aa af]).bind fun r4=>
   some [.int .i64 ((V.nth r4 0).toInt),.int .i64 ((V.nth (r4.drop 1) 0).toInt),.list aa ((V.nth ((r4.drop 1).drop 1) 0).toList),.int .i64 ((V.nth (((r4.drop 1).drop 1).drop 1) 0).toInt),.int .i64 ((V.nth ((((r4.drop 1).drop 1).drop 1).drop 1) 0).toInt),.list aa ((V.nth (((((r4.drop 1).drop 1).drop 1).drop 1).drop 1) 0).toList),.bool ((V.nth ((((((r4.drop 1).drop 1).drop 1).drop 1).drop 1).drop 1) 0).toBool)]
   else
   bif (ah:Int)==7 then
    (af[0]?).bind fun x5=>
    (C oe [.int .i64 bL,.bool bK,.int .i64 ((x5.cell 0).toInt),.int .i64 ((x5.cell 1).toInt),.list aa ((x5.cell 2).toList)]).bind fun r6=>
    (C j7 [.int .i64 7,.list aa ([.agg [.int .i64 ((V.nth (((r6.drop 1).drop 1).drop 1) 0).toInt),.int .i64 ((V.nth ((((r6.drop 1).drop 1).drop 1).drop 1) 0).toInt),.list aa ((V.nth (((((r6.drop 1).drop 1).drop 1).drop 1).drop 1) 0).toList)]]:List V)]).bind fun r7=>
    (C j7 [.int .i64 5,.list aa ([.agg [.int .i64 ((V.nth r6 0).toInt),.int .i64 ((V.nth (r6.drop 1) 0).toInt),.list aa ((V.nth ((r6.drop 1).drop 1) 0).toList)],.agg [.int .i64 ((V.nth r7 0).toInt),.int .i64 ((V.nth (r7.drop 1) 0).toInt),.list aa ((V.nth ((r7.drop 1).drop 1) 0).toList)]]:List V)]).bind fun r8=>
    some [.int .i64 ((V.nth r8 0).toInt),.int .i64 ((V.nth (r8.drop 1) 0).toInt),.list aa ((V.nth ((r8.drop 1).drop 1) 0).toList),.int .i64 ((V.nth r7 0).toInt),.int .i64 ((V.nth (r7.drop 1) 0).toInt),.list aa ((V.nth ((r7.drop 1).drop 1) 0).toList),.bool true]
   else
    bif (ah:Int)==5 then
    (C wD [.int .i64 bL,.bool bK,.int .i64 ah,.int .i64 ar,.list aa af]).bind fun r9=>
    some [.int .i64 ((V.nth r9 0).toInt),.int .i64 ((V.nth (r9.drop 1) 0).toInt),.list aa ((V.nth ((r9.drop 1).drop 1) 0).toList),.int .i64 ((V.nth (((r9.drop 1).drop 1).drop 1) 0).toInt),.int .i64 ((V.nth ((((r9.drop 1).drop 1).drop 1).drop 1) 0).toInt),.list aa ((V.nth (((((r9.drop 1).drop 1).drop 1).drop 1).drop 1) 0).toList),.bool ((V.nth ((((((r9.drop 1).drop 1).drop 1).drop 1).drop 1).drop 1) 0).toBool)]
    else
    some [.int .i64 1,.int .i64 0,.list aa ([]:List V),.int .i64 1,.int .i64 0,.list aa ([]:List V),.bool false]
  else
   bif (ah:Int)==6 then
   bif (ah:Int)==6 then
    (C wC [.int .i64 bL,.bool bK,.int .i64 ah,.int .i64 ar,.list aa af]).bind fun dV=>
    some [.int .i64 ((V.nth dV 0).toInt),.int .i64 ((V.nth (dV.drop 1) 0).toInt),.list aa ((V.nth ((dV.drop 1).drop 1) 0).toList),.int .i64 ((V.nth (((dV.drop 1).drop 1).drop 1) 0).toInt),.int .i64 ((V.nth ((((dV.drop 1).drop 1).drop 1).drop 1) 0).toInt),.list aa ((V.nth (((((dV.drop 1).drop 1).drop 1).drop 1).drop 1) 0).toList),.bool ((V.nth ((((((dV.drop 1).drop 1).drop 1).drop 1).drop 1).drop 1) 0).toBool)]
   else
    bif (ah:Int)==7 then
    (af[0]?).bind fun et=>
    (C oe [.int .i64 bL,.bool bK,.int .i64 ((et.cell 0).toInt),.int .i64 ((et.cell 1).toInt),.list aa ((et.cell 2).toList)]).bind fun fD=>
    (C j7 [.int .i64 7,.list aa ([.agg [.int .i64 ((V.nth (((fD.drop 1).drop 1).drop 1) 0).toInt),.int .i64 ((V.nth ((((fD.drop 1).drop 1).drop 1).drop 1) 0).toInt),.list aa ((V.nth (((((fD.drop 1).drop 1).drop 1).drop 1).drop 1) 0).toList)]]:List V)]).bind fun gi=>
    (C j7 [.int .i64 5,.list aa ([.agg [.int .i64 ((V.nth fD 0).toInt),.int .i64 ((V.nth (fD.drop 1) 0).toInt),.list aa ((V.nth ((fD.drop 1).drop 1) 0).toList)],.agg [.int .i64 ((V.nth gi 0).toInt),.int .i64 ((V.nth (gi.drop 1) 0).toInt),.list aa ((V.nth ((gi.drop 1).drop 1) 0).toList)]]:List V)]).bind fun mg=>
    some [.int .i64 ((V.nth mg 0).toInt),.int .i64 ((V.nth (mg.drop 1) 0).toInt),.list aa ((V.nth ((mg.drop 1).drop 1) 0).toList),.int .i64 ((V.nth gi 0).toInt),.int .i64 ((V.nth (gi.drop 1) 0).toInt),.list aa ((V.nth ((gi.drop 1).drop 1) 0).toList),.bool true]
    else
    bif (ah:Int)==5 then
     (C wD [.int .i64 bL,.bool bK,.int .i64 ah,.int .i64 ar,.list aa af]).bind fun ng=>
     some [.int .i64 ((V.nth ng 0).toInt),.int .i64 ((V.nth (ng.drop 1) 0).toInt),.list aa ((V.nth ((ng.drop 1).drop 1) 0).toList),.int .i64 ((V.nth (((ng.drop 1).drop 1).drop 1) 0).toInt),.int .i64 ((V.nth ((((ng.drop 1).drop 1).drop 1).drop 1) 0).toInt),.list aa ((V.nth (((((ng.drop 1).drop 1).drop 1).drop 1).drop 1) 0).toList),.bool ((V.nth ((((((ng.drop 1).drop 1).drop 1).drop 1).drop 1).drop 1) 0).toBool)]
    else
     some [.int .i64 1,.int .i64 0,.list aa ([]:List V),.int .i64 1,.int .i64 0,.list aa ([]:List V),.bool false]
   else
   bif (ah:Int)==8 then
    (C wC [.int .i64 bL,.bool bK,.int .i64 ah,.int .i64 ar,.list aa af]).bind fun fF=>
    some [.int .i64 ((V.nth fF 0).toInt),.int .i64 ((V.nth (fF.drop 1) 0).toInt),.list aa ((V.nth ((fF.drop 1).drop 1) 0).toList),.int .i64 ((V.nth (((fF.drop 1).drop 1).drop 1) 0).toInt),.int .i64 ((V.nth ((((fF.drop 1).drop 1).drop 1).drop 1) 0).toInt),.list aa ((V.nth (((((fF.drop 1).drop 1).drop 1).drop 1).drop 1) 0).toList),.bool ((V.nth ((((((fF.drop 1).drop 1).drop 1).drop 1).drop 1).drop 1) 0).toBool)]
   else
    bif (ah:Int)==7 then
    (af[0]?).bind fun qJ=>
    (C oe [.int .i64 bL,.bool bK,.int .i64 ((qJ.cell 0).toInt),.int .i64 ((qJ.cell 1).toInt),.list aa ((qJ.cell 2).toList)]).bind fun jF=>
    (C j7 [.int .i64 7,.list aa ([.agg [.int .i64 ((V.nth (((jF.drop 1).drop 1).drop 1) 0).toInt),.int .i64 ((V.nth ((((jF.drop 1).drop 1).drop 1).drop 1) 0).toInt),.list aa ((V.nth (((((jF.drop 1).drop 1).drop 1).drop 1).drop 1) 0).toList)]]:List V)]).bind fun ep=>
    (C j7 [.int .i64 5,.list aa ([.agg [.int .i64 ((V.nth jF 0).toInt),.int .i64 ((V.nth (jF.drop 1) 0).toInt),.list aa ((V.nth ((jF.drop 1).drop 1) 0).toList)],.agg [.int .i64 ((V.nth ep 0).toInt),.int .i64 ((V.nth (ep.drop 1) 0).toInt),.list aa ((V.nth ((ep.drop 1).drop 1) 0).toList)]]:List V)]).bind fun jk=>
    some [.int .i64 ((V.nth jk 0).toInt),.int .i64 ((V.nth (jk.drop 1) 0).toInt),.list aa ((V.nth ((jk.drop 1).drop 1) 0).toList),.int .i64 ((V.nth ep 0).toInt),.int .i64 ((V.nth (ep.drop 1) 0).toInt),.list aa ((V.nth ((ep.drop 1).drop 1) 0).toList),.bool true]
    else
    bif (ah:Int)==5 then
     (C wD [.int .i64 bL,.bool bK,.int .i64 ah,.int .i64 ar,.list aa af]).bind fun ox=>
     some [.int .i64 ((V.nth ox 0).toInt),.int .i64 ((V.nth (ox.drop 1) 0).toInt),.list aa ((V.nth ((ox.drop 1).drop 1) 0).toList),.int .i64 ((V.nth (((ox.drop 1).drop 1).drop 1) 0).toInt),.int .i64 ((V.nth ((((ox.drop 1).drop 1).drop 1).drop 1) 0).toInt),.list aa ((V.nth (((((ox.drop 1).drop 1).drop 1).drop 1).drop 1) 0).toList),.bool ((V.nth ((((((ox.drop 1).drop 1).drop 1).drop 1).drop 1).drop 1) 0).toBool)]
    else
     some [.int .i64 1,.int .i64 0,.list aa ([]:List V),.int .i64 1,.int .i64 0,.list aa ([]:List V),.bool false]
theorem afr {bL:Int} {bK:Bool} {ah ar:Int} {af:List V} {r:Option (List V)} (h:Tl CC bL bK ah ar af=r):CC oe [.int .i64 bL,.bool bK,.int .i64 ah,.int .i64 ar,.list aa af]=r:=
 aY (key:=50) (L:=Tk CC) (bs:=[.cond 24 (aw [1,1,0,1,0,1,1,1,0,0,1,0] FI) (aw [1,1,0,1,0,1,1,1,0,0,1,1] FI)]) (by kernel_rfl) (bG (afp CC) av) (aW (by kernel_rfl) h)
end Go.AM
set_option maxRecDepth 100000
namespace Go.AM
open Go.Proofs Ex
def qT (c:Int) (e:Ex):List V:=bW (aK (cl c e)) (bW (aK e) [.bool e.c6])
theorem Lc {c:Int} {e:Ex} (hw:e.wf 6=true):(aK (cl c e)).size≤e.size*e.size:=
 lE (Ax _ (uR e hw)) (Ta e 6 hw)
theorem FM {a m:Nat} (h:a≤m):a*a≤m*m:=Nat.mul_le_mul h h
theorem Tm {e:Ex} (hw:e.wf 6=true) (hs:e.size≤1000000):Gd 6 (aK e)∧(aK e).Ok∧(aK e).size≤e.size:=by
 have h1:=lr e hw
 have U:=Ax e hw
 exact ⟨h1,qI (by omega) _ h1.2 (by omega),U⟩
def mr (c:Int):List Ex→List Ex
 | []=>[]
 | k::ks=>aK (cl c k)::(if k.c6=true then mr c ks else [])
def Bj (ss:List Ex):Nat→List Ex→List Ex
 | _,[]=>[]
 | i,d::ds=>(if d.op=1 then d else dA 5 0 (d::ss.drop (i+1)))::Bj ss (i+1) ds
theorem Tn {c:Int}: ∀(ks pre:List Ex),Bj ((pre++ks).map aK) pre.length (mr c ks)=sD c ks
 | [],pre=>rfl
 | k::ks,pre=>by
  have ih:=Tn (c:=c) ks (pre++[k])
  have e1:((pre++k::ks).map aK).drop (pre.length+1)=ks.map aK:=by
   rw[fU,cO,show pre.length+1=(pre.map aK++[aK k]).length by simp,show pre.map aK++aK k::ks.map aK=(pre.map aK++[aK k])++ks.map aK by simp,List.drop_left]
  unfold mr sD Bj FD
  rw[e1]
  refine congrArg _ ?_
  split
  ·rw[←ih];simp
  ·rfl
theorem To {c:Int}: ∀ks:List Ex,(mr c ks).length≤ks.length
 | []=>cf _
 | k::ks=>by
  have:=To (c:=c) ks
  unfold mr
  split<;>simp<;>omega
theorem Tp {c:Int}: ∀{ks:List Ex} {d:Ex},d∈mr c ks→∃k∈ks,d=aK (cl c k)
 | k::ks,d,h=>by
  unfold mr at h
  rcases df.1 h with rfl|h
  ·exact ⟨k,by simp,rfl⟩
  ·split at h
   ·obtain ⟨x,hx,e⟩:=Tp h
    exact ⟨x,by simp[hx],e⟩
   ·cases h
theorem Ld: ∀{ks:List Ex},(∀k∈ks,k.wf 6=true)→aJ (ks.map aK)≤aJ ks
 | [],_=>by simp[aJ]
 | k::ks,h=>by
  have a:=Ax k (h k (by simp))
  have b:=Ld (ks:=ks) fun k hk=>h k (by simp[hk])
  simp only[cO,aJ];omega
theorem Lf {ks:List Ex} {f:Ex→Ex} (h: ∀k∈ks,Gd 6 (f k)∧(f k).Ok):(∀k∈ks.map f,Gd 6 k)∧∀k∈ks.map f,k.Ok:=
 ⟨fun x hx=>by obtain ⟨k,hk,rfl⟩:=gx.1 hx;exact (h k hk).1,fun x hx=>by obtain ⟨k,hk,rfl⟩:=gx.1 hx;exact (h k hk).2⟩
def kN (ks:List Ex):Nat:=(ks.filter Ex.c6).length
section
variable {c:Int} {nm:Bool} {ks:List Ex}
variable (hn:ks.length≤1000) (ih: ∀k∈ks,CC oe (.int .i64 c:: .bool nm::bW k [])=some (qT c k))
include hn ih
theorem afs {a b c1 c2 c3 c4:Int} {b1:Bool} {l1 l2 l3:List V}: ∀(aN pre:List Ex),ks=pre++aN→
  Loop (FE CC (ks.map enc) (ks.length:Int) c nm a b l1 c1 c2 c3 c4 b1 l2 l3) (((kN pre:Nat):Int),((pre.length:Nat):Int),(pre.map fun k=>aK (cl c k)).map enc++List.replicate aN.length zE,(pre.map aK).map enc++List.replicate aN.length zE)
   = some (((kN ks:Nat):Int),(ks.length:Int),false,(ks.map fun k=>aK (cl c k)).map enc,(ks.map aK).map enc):=by
 intro aN
 induction aN with
 | nil=>
  intro pre e
  rw[dH] at e
  subst e
  refine bd ?_
  simp only[FE,Bf,un]
  rw[aB,ai (by omega),bZ (by omega)]
  simp
 | cons k aN gh=>
  intro pre e
  have b7:pre.length<ks.length:=by rw[e];simp
  have cq:idx (ks.map enc) (pre.length:Int)=some k.enc:=by rw[e];exact j8 _ _ _
  refine (bR ?_).trans (gh (pre++[k]) (by simp[e]))
  simp only[FE,Bf,un]
  refine bT (oz b7) (bs cq ?_)
  rw[bn,bp,bq]
  refine bs (ih k (by rw[e];simp)) ?_
  refine (sB (by simp)).trans ?_
  refine (sB (by simp)).trans ?_
  rw[Int.toNat_natCast]
  have hc:kN (pre++[k])=kN pre+(if k.c6=true then 1 else 0):=by
   unfold kN
   rw[mz,cv]
   cases hk:k.c6<;>simp[hk]
  have kE:kN pre≤pre.length:=sP _ _
  have vq:pre.length=((pre.map fun k=>aK (cl c k)).map enc).length:=by simp
  have jM:pre.length=((pre.map aK).map enc).length:=by simp
  rw[List.length_cons,sC vq,sC jM]
  cases hk:k.c6 with
  | true=>
   refine bT hk ?_
   rw[mq (by omega),mq (by omega),hc,hk]
   simp only[dm,fU,cO,gy,cv,List.length_cons,List.length_nil]
   rw[eC (aK (cl c k)),eC (aK k)]
   rfl
  | false=>
   refine bF hk ?_
   rw[mq (by omega),hc,hk]
   simp only[ai Bool.false_ne_true,fU,cO,gy,cv,List.length_cons,List.length_nil]
   rw[eC (aK (cl c k)),eC (aK k)]
   rfl
theorem aft {c1 c2 c3 c4:Int} {b1:Bool} {l1 l2:List V} (hs: ∀k∈ks,CC zS (.int .i64 c:: .bool nm::bW k [])=some (ia (aK k))): ∀(aN pre B:List Ex) (b:Bool),ks=pre++aN→B.length≤pre.length→
  Loop (Bh CC (ks.map enc) (ks.length:Int) c nm c1 c2 c3 c4 b1 l1 l2) (b,((pre.length:Nat):Int),B.map enc,(pre.map aK).map enc++List.replicate aN.length zE)
   = some (b&&aN.all Ex.c6,(ks.length:Int),false,(B++(if b=true then mr c aN else [])).map enc,(ks.map aK).map enc):=by
 intro aN
 induction aN with
 | nil=>
  intro pre B b e hB
  rw[dH] at e
  subst e
  refine bd ?_
  simp only[Bh,xM,un]
  rw[aB,ai (by omega),bZ (by omega)]
  simp[mr]
 | cons k aN gh=>
  intro pre B b e hB
  have b7:pre.length<ks.length:=by rw[e];simp
  have cq:idx (ks.map enc) (pre.length:Int)=some k.enc:=by rw[e];exact j8 _ _ _
  have jM:pre.length=((pre.map aK).map enc).length:=by simp
  cases b with
  | false=>
   refine (bR ?_).trans (gh (pre++[k]) B false (by simp[e]) (by simp;omega))
   simp only[Bh,xM,un]
   refine bT (oz b7) (bs cq (bT rfl ?_))
   rw[bn,bp,bq]
   refine bs (hs k (by rw[e];simp)) ?_
   refine (sB (by simp)).trans ?_
   rw[Int.toNat_natCast,List.length_cons,sC jM,mq (by omega)]
   simp only[fU,cO,gy,cv,List.length_cons,List.length_nil]
   rw[eC (aK k)]
   rfl
  | true=>
   refine ((bR ?_).trans (gh (pre++[k]) (B++[aK (cl c k)]) k.c6 (by simp[e]) (by simp;omega))).trans ?_
   ·simp only[Bh,xM,un]
    refine bT (oz b7) (bs cq (bF rfl ?_))
    rw[bn,bp,bq]
    refine bs (ih k (by rw[e];simp)) ?_
    refine bT (K7 (by simp;omega)) ?_
    refine (sB (by simp)).trans ?_
    rw[Int.toNat_natCast,List.length_cons,sC jM,mq (by omega)]
    simp only[fU,cO,gy,cv,List.length_cons,List.length_nil]
    rw[eC (aK k),eC (aK (cl c k))]
    rfl
   ·simp only[lF,List.all_cons,dm]
    rw[show mr c (k::aN)=aK (cl c k)::(if k.c6=true then mr c aN else []) from rfl,cm]
    rfl
end
theorem afu {ss D:List Ex} {b b1:Bool} {c1 c2 c3 c4:Int} {l1 l2:List V} (hD:D.length≤ss.length) (hss:ss.length≤1000) (hd: ∀d∈D,Gd 6 d∧d.Ok∧d.size≤500000) (hsg: ∀k∈ss,Gd 6 k∧k.Ok) (aU:aJ ss≤500000): ∀(aN pre P:List Ex),D=pre++aN→P.length=pre.length→
  Loop (FH CC b (D.length:Int) c1 c2 c3 c4 b1 (ss.map enc) (D.map enc) l1 l2) (((pre.length:Nat):Int),P.map enc++List.replicate aN.length zE)
   = some ((D.length:Int),false,(P++Bj ss pre.length aN).map enc):=by
 intro aN
 induction aN with
 | nil=>
  intro pre P e hP
  rw[dH] at e
  subst e
  refine bd ?_
  simp only[FH,Bi,un]
  rw[aB,ai (by omega),bZ (by omega)]
  simp[Bj]
 | cons d aN gh=>
  intro pre P e hP
  have b7:pre.length<D.length:=by rw[e];simp
  have hm:d∈D:=by rw[e];simp
  have cq:(D.map enc)[pre.length]? =some d.enc:=by rw[e];simp
  have jM:pre.length=(P.map enc).length:=by simp[hP]
  refine ((bR ?_).trans (gh (pre++[d]) (P++[if d.op=1 then d else dA 5 0 (d::ss.drop (pre.length+1))]) (by simp[e]) (by simp[hP]))).trans ?_
  ·simp only[FH,Bi,un]
   refine bT (oz b7) ?_
   refine (sA cq).trans ?_
   rw[bn,bp,bq,eL]
   by_cases h1:d.op=1
   ·rw[aj h1,aj h1]
    refine (sB jM).trans ?_
    rw[Int.toNat_natCast,List.length_cons,sC jM,mq (by omega)]
    simp only[fU,cO,gy,cv,List.length_cons,List.length_nil]
    rw[eC d]
   ·rw[ai h1,ai h1,mq (by omega),Int.toNat_natCast,ba]
    refine bT (u6.2 ⟨c7 (by omega),c7 (by omega)⟩) ?_
    have ht:((ss.map enc).drop (pre.length+1)).take (ss.length-(pre.length+1))=(ss.drop (pre.length+1)).map enc:=by
     rw[←List.map_drop,List.take_of_length_le (by simp)]
    rw[ht]
    refine bT (K7 (by simp;omega)) ?_
    have hg: ∀k∈d::ss.drop (pre.length+1),Gd 6 k∧k.Ok:=fun k hk=>by
     rcases df.1 hk with rfl|hk
     ·exact ⟨(hd _ hm).1,(hd _ hm).2.1⟩
     ·exact hsg k (List.mem_of_mem_drop hk)
    have hz:aJ (d::ss.drop (pre.length+1))≤1000000:=by
     have h1:=(hd d hm).2.2
     have U:=E0 (ss.take (pre.length+1)) (ss.drop (pre.length+1))
     rw[BV] at U
     simp only[aJ];omega
    rw[K4,←fU]
    refine bs (qP (o:=5) (fun k hk=>(hg k hk).1) (fun k hk=>(hg k hk).2) hz (by omega)) ?_
    refine (sB jM).trans ?_
    rw[Int.toNat_natCast,List.length_cons,sC jM]
    simp only[fU,cO,gy,cv,List.length_cons,List.length_nil]
    rw[eC (dA 5 0 (d::ss.drop (pre.length+1)))]
    rfl
  ·rw[cv,cm]
   rfl
theorem Tq: ∀ks:List Ex,oq ks=ks.all Ex.c6
 | []=>rfl
 | k::ks=>by simp[oq,Tq ks]
theorem Tr: ∀ks:List Ex,mf ks=decide ((kN ks:Int)>0)
 | []=>by simp[mf,kN]
 | k::ks=>by
  have:=Tr ks
  unfold kN at*
  cases hk:k.c6
  ·simp[mf,hk,this]
  ·simp[mf,hk]
theorem Ts: ∀ks:List Ex,oq ks=((kN ks:Int)==(ks.length:Int))
 | []=>by simp[oq,kN]
 | k::ks=>by
  have h:=Ts ks
  have hl:kN ks≤ks.length:=sP _ _
  unfold kN at*
  rw[oq,h,nD]
  cases hk:k.c6
  ·simp[hk];omega
  ·simp[hk]
theorem afv {c:Int} {nm:Bool}: ∀e:Ex,e.wf 6=true→e.size≤400→(nm=true→Gd 6 e)→CC oe (.int .i64 c:: .bool nm::bW e [])=some (qT c e):=
 ind fun o l ks ih hw hs kS=>by
  obtain ⟨h1,U⟩:=hY hw
  have hl:=pk ks
  have Tt:aJ ks≤399:=by simp only[size] at hs;omega
  have FN: ∀k∈ks,k.size≤399:=fun k hk=>lE (Al hk) Tt
  have kD: ∀k∈ks,CC oe (.int .i64 c:: .bool nm::bW k [])=some (qT c k):=fun k hk=>ih k hk (U k hk) (by have:=FN k hk;omega) fun h=>(kS h).kids k hk
  have hsm: ∀k∈ks,CC zS (.int .i64 c:: .bool nm::bW k [])=some (ia (aK k)):=fun k hk=>by
   refine afb ?_
   unfold Tb
   cases nm with
   | true=>refine bT rfl ?_;rw[Kv k ((kS rfl).kids k hk)];rfl
   | false=>
    refine bF rfl ?_
    have:=FN k hk
    exact bs (S3 (n:=6) (by omega) k (U k hk) (by omega)) rfl
  have dE: ∀k∈ks,(aK (cl c k)).size≤160000:=fun k hk=>by
   have a:=Lc (c:=c) (U k hk)
   have b:=FM (FN k hk)
   omega
  have Bk: ∀k∈ks,Gd 6 (aK (cl c k))∧(aK (cl c k)).Ok:=fun k hk=>by
   have a:=lr _ (uR (c:=c) k (U k hk))
   have b:=dE k hk
   exact ⟨a,qI (by omega) _ a.2 (by omega)⟩
  have FO: ∀k∈ks,Gd 6 (aK k)∧(aK k).Ok:=fun k hk=>by
   have a:=Tm (U k hk) (by have:=FN k hk;omega)
   exact ⟨a.1,a.2.1⟩
  have hnz:=Ld U
  have hbz:aJ (ks.map fun k=>aK (cl c k))≤160000:=by
   have a:=K8 (f:=fun k=>aK (cl c k)) fun k hk=>Lc (c:=c) (U k hk)
   have b:=FM Tt
   omega
  have Lh:(o=4∨o=6∨o=8)→CC wC (.int .i64 c:: .bool nm::bW (.node o l ks) [])=some (qT c (.node o l ks)):=fun ho=>by
   obtain ⟨a1,a2⟩:=Lf Bk
   obtain ⟨b1,b2⟩:=Lf FO
   have jt:l=0:=by rcases eN h1 with h|h<;>omega
   refine afg ?_
   unfold Te
   simp only[Ex.op,Ex.kids,Ex.cS,ba]
   refine bT (FA (by omega)) (bT (FA (by omega)) ?_)
   have Li:=afs (ks:=ks) (nm:=nm) (c:=c) (by omega) kD (a:=o) (b:=l) (c1:=0) (c2:=0) (c3:=0) (c4:=0) (b1:=false) (l1:=ks.map enc) (l2:=[]) (l3:=[]) ks [] rfl
   rw[Int.toNat_natCast]
   refine bs Li ?_
   unfold qT
   rw[ae7 ho,mh,jt]
   rcases ho with rfl|rfl|rfl
   ·refine bs (qP a1 a2 (by omega) (.inl rfl)) ?_
    refine bs (qP b1 b2 (by omega) (.inl rfl)) ?_
    refine bT rfl ?_
    rw[←Tr]
    rfl
   ·refine bs (qP a1 a2 (by omega) (.inr (.inr rfl))) ?_
    refine bs (qP b1 b2 (by omega) (.inr (.inr rfl))) ?_
    refine bF rfl (bT rfl ?_)
    rw[←Ts]
    rfl
   ·obtain ⟨k,rfl⟩:=yl.1 (show ks.length=1 by rcases eN h1 with h|h<;>omega)
    refine bs (Fz (Bk k (by simp)).1 (.inr rfl)) ?_
    refine bs (Fz (FO k (by simp)).1 (.inr rfl)) ?_
    refine bF rfl (bF rfl (bT rfl ?_))
    refine congrArg some ?_
    have:(((kN [k]:Nat):Int)==0)=(Ex.node 8 0 [k]).c6:=by
     simp only[Ex.c6,kN]
     cases hk:k.c6<;>simp[hk,mf]
    rw[this]
    rfl
  have afw:o=5→CC wD (.int .i64 c:: .bool nm::bW (.node o l ks) [])=some (qT c (.node o l ks)):=fun ho=>by
   subst ho
   have bu:ks≠[]:=by rintro rfl;rcases eN h1 with h|h<;>simp at h<;>omega
   have jt:l=0:=by rcases eN h1 with h|h<;>omega
   obtain ⟨b1,b2⟩:=Lf FO
   have hD:=To (c:=c) ks
   refine afk ?_
   unfold Th
   simp only[Ex.op,Ex.kids,Ex.cS,ba]
   refine bT (FA (by omega)) ?_
   rw[Int.toNat_natCast]
   have Li:=aft (ks:=ks) (nm:=nm) (c:=c) (by omega) kD (c1:=0) (c2:=0) (c3:=0) (c4:=0) (b1:=false) (l1:=[]) (l2:=[]) hsm ks [] [] true rfl (cf _)
   refine bs Li ?_
   simp only[un,List.nil_append,dm,lF,ba]
   refine bT (FA (by omega)) ?_
   rw[Int.toNat_natCast]
   have b7:=afu (ss:=ks.map aK) (D:=mr c ks) (b:=ks.all Ex.c6) (c1:=0) (c2:=0) (c3:=0) (c4:=0) (b1:=false) (l1:=[]) (l2:=[]) (by simp;omega) (by simp;omega) (fun d hd=>by
    obtain ⟨k,hk,rfl⟩:=Tp hd
    have:=dE k hk
    exact ⟨(Bk k hk).1,(Bk k hk).2,by omega⟩) (fun k hk=>⟨b1 k hk,b2 k hk⟩) (by omega) (mr c ks) [] [] rfl rfl
   have he:=Tn (c:=c) ks []
   rw[List.nil_append] at he
   rw[List.length_nil] at b7 he
   rw[he] at b7
   refine bs b7 ?_
   simp only[un,List.nil_append]
   have vz:=parts_eq (c:=c) U
   have Tu:=FC (c:=c) U fun k hk=>uR k (U k hk)
   have hcz:aJ (iO c ks)≤160000:=by
    have a:=K9 (c:=c) (ks:=ks) fun k hk=>Ta k 6 (U k hk)
    have b:=FM (show 1+aJ ks≤400 by omega)
    omega
   have hpz:aJ (sD c ks)≤160000:=by rw[vz];have:=Ld Tu;omega
   have Tv: ∀k∈sD c ks,Gd 6 k∧k.Ok:=fun k hk=>by
    have hz:=Al hk
    rw[vz] at hk
    obtain ⟨x,hx,rfl⟩:=gx.1 hk
    have a:=lr x (Tu x hx)
    exact ⟨a,qI (by omega) _ a.2 (by omega)⟩
   refine bs (qP (fun k hk=>(Tv k hk).1) (fun k hk=>(Tv k hk).2) (by omega) (.inl rfl)) ?_
   refine bs (qP b1 b2 (by omega) (.inr (.inl rfl))) ?_
   unfold qT
   rw[afa bu U,mh,jt,←Tq]
   rfl
  refine afr ?_
  unfold Tl FJ
  simp only[Ex.op,Ex.kids,Ex.cS]
  rcases eN h1 with ⟨rfl,h⟩|⟨rfl,⟨rfl,h⟩|⟨rfl,h⟩|⟨rfl,h⟩|⟨rfl,h⟩|⟨rfl,h⟩|⟨rfl,h⟩|⟨rfl,h⟩⟩
  ·obtain rfl:=pK.1 (show ks.length=0 by omega)
   refine bF rfl (bT rfl ?_)
   unfold qT
   rw[xL,aj rfl,mh,lq (by omega)]
   rw[eL]
   by_cases v8:l=c
   ·rw[aj v8,aj v8];rfl
   ·rw[ai v8,ai v8];rfl
  ·obtain rfl:=pK.1 (show ks.length=0 by omega)
   rfl
  ·obtain rfl:=pK.1 (show ks.length=0 by omega)
   rfl
  ·exact bF rfl (bF rfl (bT rfl (bT rfl (bs (Lh (.inl rfl)) rfl))))
  ·refine bF rfl (bF rfl (bF rfl (bF rfl (bF rfl (bF rfl (bT rfl ?_))))))
   exact bs (afw rfl) rfl
  ·exact bF rfl (bF rfl (bF rfl (bT rfl (bT rfl (bs (Lh (.inr (.inl rfl))) rfl)))))
  ·obtain ⟨k,rfl⟩:=yl.1 (show ks.length=1 by omega)
   refine bF rfl (bF rfl (bF rfl (bF rfl (bF rfl (bT rfl ?_)))))
   refine bs (a:=k.enc) rfl ?_
   rw[bn,bp,bq]
   refine bs (kD k (by simp)) ?_
   have hk:=FO k (by simp)
   have hb:=Bk k (by simp)
   have hj:=Fz hk.1 (o:=7) (.inl rfl)
   rw[cO,gy,eC] at hj
   refine bs hj ?_
   have qf:dA 7 0 [aK k]=aK (.node 7 0 [k]):=by rw[mh];rfl
   have Lj:=Tm hw (by omega)
   have hz2:=dE k (by simp)
   have fM:=qP (n:=6) (ks:=[aK (cl c k),aK (.node 7 0 [k])]) (o:=5) (fun x hx=>by
    rcases df.1 hx with rfl|hx
    ·exact hb.1
    ·rw[dW.1 hx];exact Lj.1) (fun x hx=>by
    rcases df.1 hx with rfl|hx
    ·exact hb.2
    ·rw[dW.1 hx];exact Lj.2.1) (by have:=Lj.2.2;simp only[aJ];omega) (by omega)
   rw[cO,cO,gy,eC (aK (cl c k)),eC (aK (.node 7 0 [k])),←qf] at fM
   refine bs fM ?_
   unfold qT
   rw[ae8,←qf]
   rfl
  ·exact bF rfl (bF rfl (bF rfl (bF rfl (bT rfl (bs (Lh (.inr (.inr rfl))) rfl)))))
structure Dv where
 L:Int
 es:List Ex
 nx:List (List Int)
 dn:Int
deriving DecidableEq
def Dv.zero:Dv:=⟨0,[],[],0⟩
def qU (e:Ex) (c:Nat):Option Ex:=if (aK (cl c e)).val 6=0 then some (aK (cl c e)) else none
def nq (e:Ex):Nat→Nat→List Ex→List Int→Option (List Ex × List Int)
 | 0,_,es,row=>some (es,row)
 | n+1,x,es,row=>(qU e x).bind fun d=>
  if d∈es then nq e n (x+1) es (row++[(es.idxOf d:Int)])
  else if es.length=512 then none else nq e n (x+1) (es++[d]) (row++[(es.length:Int)])
def proc (s:Dv):Option Dv:=(nq (s.es.getD s.dn.toNat aP) s.L.toNat 0 s.es []).map fun p=>⟨s.L,p.1,s.nx++[p.2],s.dn+1⟩
def ey:Nat→Dv→Option Dv
 | 0,s=>some s
 | n+1,s=>if s.dn<s.es.length then (proc s).bind (ey n) else some s
def nr:Nat→Dv→Option Dv
 | 0,s=>some s
 | n+1,s=>if s.dn<s.es.length then (proc s).bind (nr n) else none
def ez (e:Ex) (L:Int):Dv:=⟨L,[aK e],[],0⟩
def nt (d:Dv):Bool:=decide (d.es≠[]∧d.es.length≤512∧(d.es.getD 0 aP).val d.L=0∧0≤d.dn∧nr d.dn.toNat (ez (d.es.getD 0 aP) d.L)=some d)
def FP (d:Dv) (b:Int):Dv × Int:=if nt d=true then (if b<0 then (.zero,1) else match ey b.toNat d with|none=>(.zero,3)|some t=>(t,0)) else (.zero,8)
theorem Tw {L:Int} (h:L≤6): ∀e:Ex,e.wf L=true→e.wf 6=true:=ind fun o l ks ih hw=>by
 obtain ⟨h1,U⟩:=hY hw
 refine uq ?_ fun k hk=>ih k hk (U k hk)
 unfold dz at h1⊢
 by_cases ho:o=3
 ·rw[aj ho] at h1⊢
  have:=gP h1
  exact c7 (by omega)
 ·rw[ai ho] at h1⊢;exact h1
theorem FQ {e:Ex} {L:Int} (h:e.val L=0):(1≤L∧L≤6)∧e.depth≤40∧e.size≤400∧e.wf L=true:=by
 unfold Ex.val at h
 repeat' split at h
 all_goals first|omega|skip
 next a b c=>exact ⟨a,b.1,b.2,c⟩
theorem val_mk {e:Ex} {L:Int} (h:(1≤L∧L≤6)∧e.depth≤40∧e.size≤400∧e.wf L=true):e.val L=0:=by
 unfold Ex.val
 rw[aj h.1,aj ⟨h.2.1,h.2.2.1⟩,aj h.2.2.2]
theorem uT {e:Ex} {L:Int} (h:e.val L=0):e.val 6=0:=by
 obtain ⟨h1,U,h3,h4⟩:=FQ h
 exact val_mk ⟨by omega,U,h3,Tw h1.2 e h4⟩
theorem FR {e:Ex} {L:Int} (h:e.val L=0):(aK e).val L=0:=by
 obtain ⟨h1,U,h3,h4⟩:=FQ h
 have:=Ax e h4
 have:=acq e h4
 exact val_mk ⟨h1,by omega,by omega,(lr e h4).2⟩
def Nv (e:Ex):Prop:=Gd 6 e∧e.val 6=0
theorem Nv.aK {e:Ex} (h:Nv e):aK e=e:=Kv e h.1
theorem Tx {e d:Ex} {c:Nat} (he:Nv e) (h:qU e c=some d):Nv d∧d=Go.AM.aK (cl c e):=by
 unfold qU at h
 split at h
 ·next hv=>
  cases h
  exact ⟨⟨lr _ (uR e he.1.2),hv⟩,rfl⟩
 ·cases h
structure Es (es:List Ex):Prop where
 le:es.length≤512
 nv: ∀e∈es,Nv e
 nd:es.Nodup
def py (e:Ex) (es:List Ex) (n:Nat) (row:List Int):Prop:=row.length=n∧∀x,x<n→∃j:Nat,row.getD x 0=j∧j<es.length∧qU e x=some (es.getD j aP)
theorem py.mono {e:Ex} {es t:List Ex} {n:Nat} {row:List Int} (h:py e es n row):py e (es++t) n row:=⟨h.1,fun x hx=>by
 obtain ⟨j,h1,U,h3⟩:=h.2 x hx
 refine ⟨j,h1,by rw[cv];omega,?_⟩
 rw[h3,fV,fV,ij U]⟩
theorem py.snoc {e:Ex} {es:List Ex} {n j:Nat} {row:List Int} (h:py e es n row) (h1:j<es.length) (U:qU e n=some (es.getD j aP)):py e es (n+1) (row++[(j:Int)]):=by
 refine ⟨by rw[cv,h.1];rfl,fun x hx=> ?_⟩
 rcases oE x n with c|c
 ·obtain ⟨i,i1,i2,i3⟩:=h.2 x c
  refine ⟨i,?_,i2,i3⟩
  rw[←i1,fV,fV,ij (by rw[h.1];exact c)]
 ·obtain rfl:x=n:=by omega
  refine ⟨j,?_,h1,U⟩
  rw[fV,ik (by rw[h.1];exact cf _),h.1]
  simp
theorem Es.snoc {es:List Ex} {d:Ex} (h:Es es) (hd:Nv d) (hn:d∉es) (hl:es.length≠512):Es (es++[d]):=by
 refine ⟨by have:=h.le;simp;omega,fun e he=> ?_,?_⟩
 ·rcases eh.1 he with he|he
  ·exact h.nv e he
  ·rw[dW.1 he];exact hd
 ·rw[BX]
  refine ⟨h.nd,by simp,fun a ha b hb=> ?_⟩
  rw[dW.1 hb]
  rintro rfl
  exact hn ha
theorem afx {es:List Ex} {d:Ex} (h:d∈es):es.getD (es.idxOf d) aP=d:=by
 have:=List.idxOf_lt_length_iff.2 h
 rw[fV,bx this,Option.getD_some,List.getElem_idxOf]
theorem Lk {e:Ex} (he:Nv e): ∀(n x:Nat) (es:List Ex) (row:List Int) (p:List Ex × List Int),Es es→py e es x row→nq e n x es row=some p→Es p.1∧py e p.1 (x+n) p.2∧∃t,p.1=es++t
 | 0,x,es,row,p,h1,U,h=>by
  cases h
  exact ⟨h1,U,[],by simp⟩
 | n+1,x,es,row,p,h1,U,h=>by
  rw[nq] at h
  cases hs:qU e x with
  | none=>rw[hs] at h;cases h
  | some d=>
   rw[hs] at h
   obtain ⟨hd,_⟩:=Tx he hs
   simp only[Option.bind_some] at h
   by_cases hm:d∈es
   ·rw[aj hm] at h
    have:=Lk he n (x+1) es _ p h1 (U.snoc (List.idxOf_lt_length_iff.2 hm) (by rw[hs,afx hm])) h
    rw[show x+(n+1)=x+1+n by omega]
    exact this
   ·rw[ai hm] at h
    by_cases hl:es.length=512
    ·rw[aj hl] at h;cases h
    ·rw[ai hl] at h
     obtain ⟨a,b,t,c⟩:=Lk he n (x+1) (es++[d]) _ p (h1.snoc hd hm hl) (U.mono.snoc (by simp) (by rw[hs,fV];simp)) h
     rw[show x+(n+1)=x+1+n by omega]
     exact ⟨a,b,d::t,by rw[c,cm];rfl⟩
structure Gs (s:Dv):Prop where
 L:1≤s.L∧s.L≤6
 ne:s.es≠[]
 es:Es s.es
 dn:0≤s.dn∧s.dn≤s.es.length
 nl:s.nx.length=s.dn.toNat
 row: ∀q,q<s.dn.toNat→py (s.es.getD q aP) s.es s.L.toNat (s.nx.getD q [])
theorem FT {α:Type} {a b:List α} {i:Nat} {z:α} (h:i<a.length):(a++b).getD i z=a.getD i z:=by
 rw[fV,fV,ij h]
theorem uU {α:Type} {a:List α} {i:Nat} {z:α} (h:i<a.length):a.getD i z∈a:=by
 rw[fV,bx h];simp
theorem Tz {s t:Dv} (h:proc s=some t): ∃p,nq (s.es.getD s.dn.toNat aP) s.L.toNat 0 s.es []=some p∧t=⟨s.L,p.1,s.nx++[p.2],s.dn+1⟩:=by
 unfold proc at h
 cases hr:nq (s.es.getD s.dn.toNat aP) s.L.toNat 0 s.es [] with
 | none=>rw[hr] at h;cases h
 | some p=>rw[hr] at h;cases h;exact ⟨p,rfl,rfl⟩
theorem Bl {s t:Dv} (hs:Gs s) (hd:s.dn<s.es.length) (h:proc s=some t):Gs t∧t.L=s.L∧t.dn=s.dn+1∧∃r,t.es=s.es++r:=by
 obtain ⟨p,hp,rfl⟩:=Tz h
 have FU:=hs.dn
 have hq:s.dn.toNat<s.es.length:=by omega
 obtain ⟨a,b,r,c⟩:=Lk (hs.es.nv _ (uU hq)) _ 0 _ _ p hs.es ⟨rfl,fun x hx=>by omega⟩ hp
 have hn:=hs.nl
 refine ⟨⟨hs.L,by rw[c];simp[hs.ne],a,⟨by show 0≤s.dn+1;omega,?_⟩,?_,fun q zb=> ?_⟩,rfl,rfl,r,c⟩
 ·show s.dn+1≤(p.1.length:Int)
  rw[c,cv];omega
 ·show (s.nx++[p.2]).length=(s.dn+1).toNat
  rw[cv,hn];simp;omega
 ·have hq3:q<(s.dn+1).toNat:=zb
  show py (p.1.getD q aP) p.1 s.L.toNat ((s.nx++[p.2]).getD q [])
  rcases oE q s.dn.toNat with e|e
  ·rw[FT (by omega),c,FT (by omega)]
   exact (hs.row q e).mono
  ·obtain rfl:q=s.dn.toNat:=by omega
   rw[fV (l:=s.nx++[p.2]),ik (by omega),hn,Nat.sub_self]
   simp only[List.getElem?_cons_zero,Option.getD_some]
   rw[fS] at b
   have e1:p.1.getD s.dn.toNat aP=s.es.getD s.dn.toNat aP:=by rw[c,FT (by omega)]
   rw[e1]
   exact b
theorem xN: ∀(n:Nat) (s t:Dv),Gs s→ey n s=some t→Gs t∧t.L=s.L∧(∃r,t.es=s.es++r)∧(t.dn=t.es.length∨t.dn=s.dn+n)
 | 0,s,t,hs,h=>by cases h;exact ⟨hs,rfl,⟨[],by simp⟩,.inr (by simp)⟩
 | n+1,s,t,hs,h=>by
  rw[ey] at h
  by_cases hd:s.dn<s.es.length
  ·rw[aj hd] at h
   cases hp:proc s with
   | none=>rw[hp] at h;cases h
   | some u=>
    rw[hp] at h
    obtain ⟨a,b,c,r,d⟩:=Bl hs hd hp
    obtain ⟨e,f,⟨r2,g⟩,i⟩:=xN n u t a h
    refine ⟨e,f.trans b,⟨r++r2,by rw[g,d,cm]⟩,?_⟩
    rcases i with i|i
    ·exact .inl i
    ·exact .inr (by rw[i,c];omega)
  ·rw[ai hd] at h
   cases h
   exact ⟨hs,rfl,⟨[],by simp⟩,.inl (by have:=hs.dn;omega)⟩
theorem TA {n:Nat} {s:Dv} (h: ¬s.dn<s.es.length):ey n s=some s:=by
 cases n with
 | zero=>rfl
 | succ n=>rw[ey,ai h]
theorem TB: ∀(m n:Nat) (s:Dv),ey (m+n) s=(ey m s).bind (ey n)
 | 0,n,s=>by rw[fS];rfl
 | m+1,n,s=>by
  rw[show m+1+n=(m+n)+1 by omega,ey,ey]
  by_cases hd:s.dn<s.es.length
  ·rw[aj hd,aj hd]
   cases hp:proc s with
   | none=>rfl
   | some u=>exact TB m n u
  ·rw[ai hd,ai hd]
   exact (TA hd).symm
theorem TC: ∀(n:Nat) (s t:Dv),Gs s→ey n s=some t→∃k:Nat,nr k s=some t∧t.dn=s.dn+k
 | 0,s,t,_,h=>⟨0,h,by cases h;simp⟩
 | n+1,s,t,hs,h=>by
  rw[ey] at h
  by_cases hd:s.dn<s.es.length
  ·rw[aj hd] at h
   cases hp:proc s with
   | none=>rw[hp] at h;cases h
   | some u=>
    rw[hp] at h
    obtain ⟨a,b,c,_⟩:=Bl hs hd hp
    obtain ⟨k,h1,U⟩:=TC n u t a h
    refine ⟨k+1,?_,by rw[U,c];omega⟩
    rw[nr,aj hd,hp];exact h1
  ·rw[ai hd] at h
   cases h
   exact ⟨0,rfl,by simp⟩
theorem Ll: ∀(n:Nat) (s t:Dv),nr n s=some t→ey n s=some t
 | 0,s,t,h=>h
 | n+1,s,t,h=>by
  rw[nr] at h
  by_cases hd:s.dn<s.es.length
  ·rw[aj hd] at h
   rw[ey,aj hd]
   cases hp:proc s with
   | none=>rw[hp] at h;cases h
   | some u=>rw[hp] at h;exact Ll n u t h
  ·rw[ai hd] at h;cases h
theorem xO {e:Ex} {L:Int} (h:e.val L=0):Gs (ez e L):=by
 obtain ⟨h1,U,h3,h4⟩:=FQ h
 refine ⟨h1,by simp[ez],⟨by simp[ez],fun x hx=> ?_,by simp[ez]⟩,by simp[ez],rfl,fun q hq=>by simp[ez] at hq⟩
 rw[dW.1 hx]
 exact ⟨lr e (Tw h1.2 e h4),uT (FR h)⟩
theorem afy {e:Ex} {L:Int} (h:e.val L=0):aK (aK e)=aK e:=Kv _ (lr e (FQ h).2.2.2)
theorem TD {e:Ex} {L:Int} (h:e.val L=0) {n:Nat} {t:Dv} (ht:ey n (ez e L)=some t):nt t=true:=by
 have hs:=xO h
 obtain ⟨g,g1,⟨r,g2⟩,_⟩:=xN n _ _ hs ht
 obtain ⟨k,k1,k2⟩:=TC n _ _ hs ht
 have e0:t.es.getD 0 aP=aK e:=by rw[g2];rfl
 have e1:t.L=L:=g1
 have e2:ez (aK e) L=ez e L:=by unfold ez;rw[afy h]
 refine c7 ⟨g.ne,g.es.le,by rw[e0,e1];exact FR h,g.dn.1,?_⟩
 rw[e0,e1,e2]
 have:t.dn.toNat=k:=by
  rw[k2];show ((0:Int)+k).toNat=k;omega
 rw[this];exact k1
theorem TE {d:Dv} (h:nt d=true):Gs d∧∃n,ey n (ez (d.es.getD 0 aP) d.L)=some d:=by
 obtain ⟨h1,U,h3,h4,h5⟩:=gP h
 have:=Ll _ _ _ h5
 exact ⟨(xN _ _ _ (xO h3) this).1,_,this⟩
end Go.AM
set_option maxRecDepth 100000
namespace Go.AM
open Go.Proofs
noncomputable def TF (C:ag) (bL bK:Int) (ed:List V) (eB Lm:Int) (Ln:List V) (Lo:Bool):Option (List V):=
 (C rX [.int .i64 bL,.int .i64 bK,.list aa ed,.int .i64 6]).bind fun r1=>
 bif (((V.nth r1 0).toInt):Int) != 0 then
  some [.int .i64 0,.int .i64 0,.list aa ([]:List V),.int .i64 3]
 else
  some [.int .i64 bL,.int .i64 bK,.list aa ed,.int .i64 0]
theorem afz {bL bK:Int} {ed:List V} {eB Lm:Int} {Ln:List V} {Lo:Bool} {r:Option (List V)} (h:TF CC bL bK ed eB Lm Ln Lo=r):CC IN [.int .i64 bL,.int .i64 bK,.list aa ed,.int .i64 eB,.int .i64 Lm,.list aa Ln,.bool Lo]=r:=
 aY (key:=149) (L:=cb) (bs:=[]) (by kernel_rfl) av (aW (by kernel_rfl) h)
noncomputable def TG (C:ag) (ah ar:Int) (af:List V) (cS:Int):Option (List V):=
 (C oe [.int .i64 cS,.bool true,.int .i64 ah,.int .i64 ar,.list aa af]).bind fun r1=>
 (C IN [.int .i64 ((V.nth r1 0).toInt),.int .i64 ((V.nth (r1.drop 1) 0).toInt),.list aa ((V.nth ((r1.drop 1).drop 1) 0).toList),.int .i64 ((V.nth (((r1.drop 1).drop 1).drop 1) 0).toInt),.int .i64 ((V.nth ((((r1.drop 1).drop 1).drop 1).drop 1) 0).toInt),.list aa ((V.nth (((((r1.drop 1).drop 1).drop 1).drop 1).drop 1) 0).toList),.bool ((V.nth ((((((r1.drop 1).drop 1).drop 1).drop 1).drop 1).drop 1) 0).toBool)]).bind fun r2=>
 some [.int .i64 ((V.nth r2 0).toInt),.int .i64 ((V.nth (r2.drop 1) 0).toInt),.list aa ((V.nth ((r2.drop 1).drop 1) 0).toList),.int .i64 ((V.nth (r2.drop 3) 0).toInt)]
theorem afA {ah ar:Int} {af:List V} {cS:Int} {r:Option (List V)} (h:TG CC ah ar af cS=r):CC Eb [.int .i64 ah,.int .i64 ar,.list aa af,.int .i64 cS]=r:=
 aY (key:=53) (L:=cb) (bs:=[]) (by kernel_rfl) av (aW (by kernel_rfl) h)
end Go.AM
set_option maxRecDepth 100000
namespace Go.AM
open Go.Proofs Ex
abbrev TH (p:Ex × Int):List V:=bW p.1 [.int .i64 p.2]
def xP (x:Ex):Ex × Int:=if x.val 6=0 then (x,0) else (aP,3)
theorem afB {x y:Ex} {b:Bool} (hx:x.Ok):CC IN (bW x (bW y [.bool b]))=some (TH (xP x)):=by
 refine afz ?_
 unfold TF xP
 refine bs (uj x hx 6) ?_
 by_cases hv:x.val 6=0
 ·rw[aj hv]
  exact bF (by simp[hv]) rfl
 ·rw[ai hv]
  exact bT (by simp[hv]) rfl
theorem afC {c:Int} {e:Ex} (hv:e.val 6=0):Gd 6 (aK (cl c e))∧(aK (cl c e)).Ok∧(aK (cl c e)).size≤160000:=by
 obtain ⟨_,U,h3⟩:=m7 hv
 have a:=lr _ (uR (c:=c) e h3)
 have b:=Lc (c:=c) h3
 have d:=FM U
 exact ⟨a,qI (by omega) _ a.2 (by omega),by omega⟩
theorem afD {e:Ex} (he:Nv e) (c:Int):CC Eb (bW e [.int .i64 c])=some (TH (xP (aK (cl c e)))):=by
 obtain ⟨_,U,h3⟩:=m7 he.2
 refine afA ?_
 unfold TG
 refine bs (afv (c:=c) (nm:=true) e h3 U fun _=>he.1) ?_
 refine bs (afB (y:=aK e) (b:=e.c6) (afC (c:=c) he.2).2.1) ?_
 unfold xP
 split<;>rfl
def fG (op:Int):Int:=if op=4 then 1 else if op=6 then 2 else if op=5 then 3 else if op=8 then 4 else if op=7 then 5 else 6
def eg (op least:Int) (t:List UInt8):List UInt8:=if fG op<least then 40::(t++[41]) else t
mutual
def Ex.text:Ex→List UInt8
 | .node o l ks=>
  if o=1 then [48] else if o=2 then [49] else if o=3 then [UInt8.ofNat (97+l).toNat]
  else if o=8 then 33::texts [] 4 true ks else if o=7 then texts [] 5 true ks++[42]
  else if o=4 then texts [124] 2 true ks else if o=6 then texts [38] 3 true ks else texts [] 4 true ks
def Ex.texts (sep:List UInt8) (least:Int) (first:Bool):List Ex→List UInt8
 | []=>[]
 | k::ks=>(if first then [] else sep)++(eg k.op least (text k)++texts sep least false ks)
end
theorem afE (op least:Int) (t:List UInt8):(eg op least t).length≤t.length+2:=by
 unfold eg;split<;>simp
theorem TI (sep:List UInt8) (hs:sep.length≤1) (least:Int): ∀(ks:List Ex) (f:Bool),(∀k∈ks,k.text.length+3≤4*k.size)→(texts sep least f ks).length≤4*aJ ks
 | [],f,_=>by simp[texts]
 | k::ks,f,h=>by
  have h1:=h k (by simp)
  have U:=TI sep hs least ks false fun k hk=>h k (by simp[hk])
  have h3:=afE k.op least k.text
  simp only[texts,cv,aJ]
  cases f<;>simp<;>omega
theorem TJ: ∀e:Ex,e.text.length+3≤4*e.size:=ind fun o l ks ih=>by
 have h:=fun sep hs least=>TI sep hs least ks true ih
 have h1:=h [] (by simp) 4
 have U:=h [] (by simp) 5
 have h3:=h [124] (by simp) 2
 have h4:=h [38] (by simp) 3
 simp only[text,size]
 repeat' split
 all_goals simp
 all_goals omega
def TX (m:Int) (k:Ex):List UInt8:=eg k.op m k.text
def mb (o:Int) (e:Ex):List Ex:=if e.op=o then e.kids else [e]
theorem Bm (sep:List UInt8) (m:Int) (k:Ex) (ks:List Ex):texts sep m false (k::ks)=sep++(TX m k++texts sep m false ks):=by simp[texts,TX]
theorem Bn (sep:List UInt8) (m:Int) (k:Ex) (ks:List Ex):texts sep m true (k::ks)=TX m k++texts sep m false ks:=by simp[texts,TX]
theorem TK (e:Ex):TX 1 e=texts [124] 2 true (mb 4 e):=by
 obtain ⟨o,l,ks⟩:=e
 unfold mb TX
 by_cases h:o=4
 ·subst h;simp[Ex.op,Ex.kids,fG,text,eg]
 ·have hl:2≤fG o:=by
   unfold fG
   repeat' split
   all_goals omega
  rw[ai (show¬(Ex.node o l ks).op=4 from h),Bn]
  show eg o 1 _=eg o 2 _++[]
  rw[dH]
  unfold eg
  by_cases U:fG o<1
  ·rw[aj U,aj (by omega)]
  ·rw[ai U,ai (by omega)]
theorem TL (e:Ex):TX 2 e=texts [38] 3 true (mb 6 e):=by
 obtain ⟨o,l,ks⟩:=e
 unfold mb TX
 by_cases h:o=6
 ·subst h;simp[Ex.op,Ex.kids,fG,text,eg]
 ·have hl:fG o≠2:=by
   unfold fG
   repeat' split
   all_goals omega
  rw[ai (show¬(Ex.node o l ks).op=6 from h),Bn]
  show eg o 2 _=eg o 3 _++[]
  rw[dH]
  unfold eg
  by_cases U:fG o<2
  ·rw[aj U,aj (by omega)]
  ·rw[ai U,ai (by omega)]
theorem TM (e:Ex):TX 3 e=texts [] 4 true (mb 5 e):=by
 obtain ⟨o,l,ks⟩:=e
 unfold mb TX
 by_cases h:o=5
 ·subst h;simp[Ex.op,Ex.kids,fG,text,eg]
 ·have hl:fG o≠3:=by
   unfold fG
   repeat' split
   all_goals omega
  rw[ai (show¬(Ex.node o l ks).op=5 from h),Bn]
  show eg o 3 _=eg o 4 _++[]
  rw[dH]
  unfold eg
  by_cases U:fG o<3
  ·rw[aj U,aj (by omega)]
  ·rw[ai U,ai (by omega)]
theorem Bo (l:Int) (k:Ex):TX 4 (.node 8 l [k])=33::TX 4 k:=by
 simp[TX,eg,Ex.op,fG,text,texts]
theorem Bp {e:Ex} (h:e.op≠8):TX 4 e=TX 5 e:=by
 unfold TX eg fG
 repeat' split
 all_goals first|rfl|omega
theorem afF (l:Int) (k:Ex):TX 5 (.node 7 l [k])=TX 5 k++[42]:=by
 simp[TX,eg,Ex.op,fG,text,texts]
theorem afG {e:Ex} (h:e.op≠7):TX 5 e=TX 6 e:=by
 unfold TX eg fG
 repeat' split
 all_goals first|rfl|omega
theorem pz {e:Ex} (h:4≤e.op∧e.op≤8):TX 6 e=40::(TX 1 e++[41]):=by
 unfold TX eg fG
 repeat' split
 all_goals first|rfl|omega
theorem Lp {e:Ex} (h:e.wf 6=true):(e= .node 1 0 []∨e= .node 2 0 []∨(∃l:Int,0≤l∧l<6∧e= .node 3 l []))∨(4≤e.op∧e.op≤8):=by
 obtain ⟨o,l,ks⟩:=e
 obtain ⟨h1,U⟩:=hY h
 simp only[Ex.op]
 rcases eN h1 with ⟨rfl,h,h3,h4⟩|⟨rfl,⟨rfl,h⟩|⟨rfl,h⟩|⟨rfl,h⟩|⟨rfl,h⟩|⟨rfl,h⟩|⟨rfl,h⟩|⟨rfl,h⟩⟩
 ·obtain rfl:=pK.1 (show ks.length=0 by omega)
  exact .inl (.inr (.inr ⟨l,h3,h4,rfl⟩))
 ·obtain rfl:=pK.1 (show ks.length=0 by omega)
  exact .inl (.inl rfl)
 ·obtain rfl:=pK.1 (show ks.length=0 by omega)
  exact .inl (.inr (.inl rfl))
 all_goals exact .inr (by omega)
def Bq (c:UInt8):Prop:=c=48∨c=49∨c=40∨c=97∨c=98∨c=99∨c=100∨c=101∨c=102
theorem qV {l:Int} (h0:0≤l) (h1:l<6):UInt8.ofNat (97+l).toNat=97∧l=0∨UInt8.ofNat (97+l).toNat=98∧l=1∨UInt8.ofNat (97+l).toNat=99∧l=2∨UInt8.ofNat (97+l).toNat=100∧l=3∨UInt8.ofNat (97+l).toNat=101∧l=4∨UInt8.ofNat (97+l).toNat=102∧l=5:=by
 rcases (show l=0∨l=1∨l=2∨l=3∨l=4∨l=5 by omega) with rfl|rfl|rfl|rfl|rfl|rfl<;>decide
theorem afH {e:Ex} (h:e.wf 6=true): ∃c t,TX 6 e=c::t∧Bq c:=by
 rcases Lp h with (rfl|rfl|⟨l,h0,h1,rfl⟩)|h
 ·exact ⟨48,[],rfl,.inl rfl⟩
 ·exact ⟨49,[],rfl,.inr (.inl rfl)⟩
 ·refine ⟨UInt8.ofNat (97+l).toNat,[],by simp[TX,eg,fG,Ex.op,text],?_⟩
  unfold Bq
  rcases qV h0 h1 with h|h|h|h|h|h<;>simp[h.1]
 ·exact ⟨40,_,pz h,.inr (.inr (.inl rfl))⟩
theorem Br {o l:Int} {ks:List Ex} (h:(Ex.node o l ks).wf 6=true) (ho:o=7∨o=8): ∃k,ks=[k]∧k.wf 6=true∧l=0:=by
 obtain ⟨h1,U⟩:=hY h
 rcases eN h1 with h|⟨h0,h⟩
 ·omega
 ·obtain ⟨k,rfl⟩:=yl.1 (show ks.length=1 by omega)
  exact ⟨k,rfl,U k (by simp),h0⟩
def Lq (e:Ex):Nat→Ex
 | 0=>e
 | n+1=> .node 7 0 [Lq e n]
theorem Lr: ∀e:Ex,e.wf 6=true→∃(b:Ex) (n:Nat),e=Lq b n∧b.op≠7∧b.wf 6=true∧TX 5 e=TX 6 b++List.replicate n 42:=ind fun o l ks ih h=>by
 by_cases ho:o=7
 ·subst ho
  obtain ⟨k,rfl,hk,rfl⟩:=Br h (.inl rfl)
  obtain ⟨b,n,h1,U,h3,h4⟩:=ih k (by simp) hk
  exact ⟨b,n+1,by rw[h1];rfl,U,h3,by rw[afF,h4,List.replicate_succ',cm]⟩
 ·exact ⟨.node o l ks,0,rfl,ho,h,by rw[afG (show (Ex.node o l ks).op≠7 from ho)];simp⟩
theorem Lt {e:Ex} (h:e.wf 6=true): ∃c t,TX 5 e=c::t∧Bq c:=by
 obtain ⟨b,n,_,_,h3,h4⟩:=Lr e h
 obtain ⟨c,t,h5,h6⟩:=afH h3
 exact ⟨c,t++List.replicate n 42,by rw[h4,h5];rfl,h6⟩
theorem afI {e:Ex} (h:e.wf 6=true): ∃c t,TX 4 e=c::t∧(c=33∨Bq c):=by
 by_cases ho:e.op=8
 ·obtain ⟨o,l,ks⟩:=e
  obtain rfl:o=8:=ho
  obtain ⟨k,rfl,_⟩:=Br h (.inr rfl)
  exact ⟨33,TX 4 k,Bo _ _,.inl rfl⟩
 ·obtain ⟨c,t,h1,U⟩:=Lt h
  exact ⟨c,t,by rw[Bp ho,h1],.inr U⟩
def gu (m:Int) (c:UInt8):Prop:=if m=1 then c=41 else if m=2 then c=41∨c=124 else if m=3 then c=41∨c=124∨c=38 else if m=6 then True else c≠42
def fo (m:Int) (r:List UInt8):Prop:= ∀c t,r=c::t→gu m c
theorem TN {m:Int}:fo m []:=fun c t h=>by cases h
theorem Lu {m:Int} {c:UInt8} {t:List UInt8} (h:gu m c):fo m (c::t):=fun c' t' e=>by cases e;exact h
def jG (m:Int) (e:Ex):Prop:= ∀(e':Ex) (r r':List UInt8),e'.wf 6=true→fo m r→fo m r'→TX m e++r=TX m e'++r'→e=e'∧r=r'
theorem Bs {o:Int} {e:Ex} (h:e.wf 6=true): ∀x∈mb o e,x.wf 6=true:=fun x hx=>by
 unfold mb at hx
 split at hx
 ·obtain ⟨o,l,ks⟩:=e
  exact (hY h).2 x hx
 ·rw[dW.1 hx];exact h
theorem TO {o:Int} {e:Ex} (ho:4≤o∧o≤6) (h:e.wf 6=true): ∃x xs,mb o e=x::xs:=by
 unfold mb
 split
 ·next k0=>
  obtain ⟨o,l,ks⟩:=e
  obtain ⟨h1,U⟩:=hY h
  simp only[Ex.op] at k0
  match ks,h1 with
  | [],h1=>rcases eN h1 with h|⟨_,h⟩<;>simp at h<;>omega
  | x::xs,_=>exact ⟨x,xs,rfl⟩
 ·exact ⟨e,[],rfl⟩
theorem afJ {o:Int} {e e':Ex} (ho:4≤o∧o≤6) (h:e.wf 6=true) (h':e'.wf 6=true) (he:mb o e=mb o e'):e=e':=by
 have hl: ∀{x:Ex},x.wf 6=true→x.op=o→x.cS=0∧2≤x.kids.length:=fun {x} hx Ia=>by
  obtain ⟨o,l,ks⟩:=x
  obtain ⟨h1,U⟩:=hY hx
  simp only[Ex.op,Ex.cS,Ex.kids] at*
  rcases eN h1 with h|⟨_,h⟩<;>omega
 unfold mb at he
 by_cases h1:e.op=o
 ·obtain ⟨a1,a2⟩:=hl h h1
  rw[aj h1] at he
  by_cases U:e'.op=o
  ·obtain ⟨b1,b2⟩:=hl h' U
   rw[aj U] at he
   obtain ⟨o1,l1,k1⟩:=e
   obtain ⟨o2,l2,k2⟩:=e'
   simp only[Ex.op,Ex.cS,Ex.kids] at*
   subst he h1 U a1 b1
   rfl
  ·rw[ai U] at he
   rw[he] at a2
   simp at a2
 ·rw[ai h1] at he
  by_cases U:e'.op=o
  ·obtain ⟨b1,b2⟩:=hl h' U
   rw[aj U] at he
   rw[←he] at b2
   simp at b2
  ·rw[ai U] at he
   exact (fT he).1
section
variable {sep:List UInt8} {m:Int} (hh: ∀y:Ex,y.wf 6=true→∃c t,sep++TX m y=c::t∧gu m c∧¬gu (m-1) c) (hf: ∀c,gu (m-1) c→gu m c)
include hh hf
theorem FV {ys:List Ex} {r:List UInt8} (hy: ∀y∈ys,y.wf 6=true) (hr:fo (m-1) r):fo m (texts sep m false ys++r):=by
 cases ys with
 | nil=>exact fun c t e=>hf c (hr c t e)
 | cons y ys=>
  obtain ⟨c,t,h1,U,h3⟩:=hh y (hy y (by simp))
  rw[Bm,←cm sep,h1]
  exact Lu U
theorem TP: ∀(xs ys:List Ex) (r r':List UInt8),(∀x∈xs,x.wf 6=true∧jG m x)→(∀y∈ys,y.wf 6=true)→fo (m-1) r→fo (m-1) r'→texts sep m false xs++r=texts sep m false ys++r'→xs=ys∧r=r'
 | [],[],r,r',_,_,_,_,h=>⟨rfl,h⟩
 | [],y::ys,r,r',_,hy,hr,_,h=>by
  obtain ⟨c,t,h1,U,h3⟩:=hh y (hy y (by simp))
  rw[Bm,←cm sep,h1] at h
  exact absurd (hr c _ (by simpa[texts] using h)) h3
 | x::xs,[],r,r',hx,_,_,hr,h=>by
  obtain ⟨c,t,h1,U,h3⟩:=hh x (hx x (by simp)).1
  rw[Bm,←cm sep,h1] at h
  exact absurd (hr c _ (by simpa[texts] using h.symm)) h3
 | x::xs,y::ys,r,r',hx,hy,hr,g9,h=>by
  rw[Bm,Bm,cm,cm,cm,cm] at h
  obtain ⟨rfl,U⟩:=(hx x (by simp)).2 y _ _ (hy y (by simp)) (FV hh hf (fun z hz=>(hx z (by simp[hz])).1) hr) (FV hh hf (fun z hz=>hy z (by simp[hz])) g9) (List.append_cancel_left h)
  obtain ⟨rfl,h3⟩:=TP xs ys r r' (fun z hz=>hx z (by simp[hz])) (fun z hz=>hy z (by simp[hz])) hr g9 U
  exact ⟨rfl,h3⟩
theorem Lv {o:Int} (ho:4≤o∧o≤6) (ht: ∀e:Ex,TX (m-1) e=texts sep m true (mb o e)) {e:Ex} (he:e.wf 6=true) (ih: ∀x∈mb o e,jG m x):jG (m-1) e:=by
 intro e' r r' gF hr g9 h
 rw[ht,ht] at h
 obtain ⟨x,xs,hx⟩:=TO ho he
 obtain ⟨y,ys,hy⟩:=TO ho gF
 have wx:=Bs (o:=o) he
 have wy:=Bs (o:=o) gF
 rw[hx] at wx ih
 rw[hy] at wy
 rw[hx,hy,Bn,Bn,cm,cm] at h
 obtain ⟨rfl,U⟩:=ih x (by simp) y _ _ (wy y (by simp)) (FV hh hf (fun z hz=>wx z (by simp[hz])) hr) (FV hh hf (fun z hz=>wy z (by simp[hz])) g9) h
 obtain ⟨rfl,h3⟩:=TP hh hf xs ys r r' (fun z hz=>⟨wx z (by simp[hz]),ih z (by simp[hz])⟩) (fun z hz=>wy z (by simp[hz])) hr g9 U
 exact ⟨afJ ho he gF (by rw[hx,hy]),h3⟩
end
theorem Lw {c:UInt8} (h:Bq c):c≠33∧c≠41∧c≠42∧c≠124∧c≠38:=by
 rcases h with rfl|rfl|rfl|rfl|rfl|rfl|rfl|rfl|rfl<;>decide
theorem afK {e:Ex} (he:e.wf 6=true) (ih: ∀x∈mb 4 e,jG 2 x):jG 1 e:=
 Lv (sep:=[124]) (m:=2) (fun y _=>⟨124,_,rfl,by simp[gu],by simp[gu]⟩) (fun c h=>by simp[gu] at h⊢;exact .inl h) (o:=4) (by omega) TK he ih
theorem sQ {e:Ex} (he:e.wf 6=true) (ih: ∀x∈mb 6 e,jG 3 x):jG 2 e:=
 Lv (sep:=[38]) (m:=3) (fun y _=>⟨38,_,rfl,by simp[gu],by simp[gu]⟩) (fun c h=>by simp[gu] at h⊢;rcases h with h|h<;>simp[h]) (o:=6) (by omega) TL he ih
theorem afL {e:Ex} (he:e.wf 6=true) (ih: ∀x∈mb 5 e,jG 4 x):jG 3 e:=
 Lv (sep:=[]) (m:=4) (fun y hy=>by
  obtain ⟨c,t,h1,U⟩:=afI hy
  refine ⟨c,t,h1,?_⟩
  rcases U with rfl|U
  ·simp[gu]
  ·have:=Lw U
   simp[gu,this]) (fun c h=>by simp[gu] at h⊢;rcases h with rfl|rfl|rfl<;>decide) (o:=5) (by omega) TM he ih
theorem afM {e:Ex} (he:e.wf 6=true) (ih8: ∀k,e= .node 8 0 [k]→jG 4 k) (ih:e.op≠8→jG 5 e):jG 4 e:=by
 intro e' r r' gF hr g9 h
 by_cases h1:e.op=8
 ·obtain ⟨o,l,ks⟩:=e
  obtain rfl:o=8:=h1
  obtain ⟨k,rfl,hk,rfl⟩:=Br he (.inr rfl)
  rw[Bo] at h
  by_cases U:e'.op=8
  ·obtain ⟨o',l',ch⟩:=e'
   obtain rfl:o'=8:=U
   obtain ⟨k',rfl,db,rfl⟩:=Br gF (.inr rfl)
   rw[Bo] at h
   obtain ⟨rfl,h3⟩:=ih8 k rfl k' r r' db hr g9 (fT h).2
   exact ⟨rfl,h3⟩
  ·rw[Bp U] at h
   obtain ⟨c,t,h3,h4⟩:=Lt gF
   rw[h3] at h
   exact absurd (fT h).1.symm (Lw h4).1
 ·rw[Bp h1] at h
  by_cases U:e'.op=8
  ·obtain ⟨o',l',ch⟩:=e'
   obtain rfl:o'=8:=U
   obtain ⟨k',rfl,db,rfl⟩:=Br gF (.inr rfl)
   rw[Bo] at h
   obtain ⟨c,t,h3,h4⟩:=Lt he
   rw[h3] at h
   exact absurd (fT h).1 (Lw h4).1
  ·rw[Bp U] at h
   exact ih h1 e' r r' gF (by simpa[fo,gu] using hr) (by simpa[fo,gu] using g9) h
theorem TQ {r r':List UInt8} (hr:fo 5 r) (g9:fo 5 r'): ∀{n n':Nat},List.replicate n 42++r=List.replicate n' 42++r'→n=n'∧r=r'
 | 0,0,h=>⟨rfl,h⟩
 | 0,n+1,h=>by
  have:=hr 42 (List.replicate n 42++r') (by simpa[List.replicate_succ] using h)
  simp[gu] at this
 | n+1,0,h=>by
  have:=g9 42 (List.replicate n 42++r) (by simpa[List.replicate_succ] using h.symm)
  simp[gu] at this
 | n+1,n'+1,h=>by
  rw[List.replicate_succ,List.replicate_succ] at h
  obtain ⟨rfl,U⟩:=TQ hr g9 (fT h).2
  exact ⟨rfl,U⟩
theorem TR (r:List UInt8):fo 6 r:=fun c t _=>by simp[gu]
theorem afN {b:Ex} {n:Nat} {e:Ex} (h1:e=Lq b n) (U:TX 5 e=TX 6 b++List.replicate n 42) (ih:jG 6 b):jG 5 e:=by
 intro e' r r' gF hr g9 h
 obtain ⟨b',n',e1,e2,e3,e4⟩:=Lr e' gF
 rw[U,e4,cm,cm] at h
 obtain ⟨rfl,h3⟩:=ih b' _ _ e3 (TR _) (TR _) h
 obtain ⟨rfl,h4⟩:=TQ hr g9 h3
 exact ⟨by rw[h1,e1],h4⟩
theorem afO {e:Ex} (he:e.wf 6=true) (ih:4≤e.op∧e.op≤8→jG 1 e):jG 6 e:=by
 intro e' r r' gF hr g9 h
 have hl: ∀l:Int,TX 6 (.node 3 l [])=[UInt8.ofNat (97+l).toNat]:=fun l=>by simp[TX,eg,fG,Ex.op,text]
 have t1:TX 6 (.node 1 0 [])=[48]:=rfl
 have t2:TX 6 (.node 2 0 [])=[49]:=rfl
 rcases Lp he with (rfl|rfl|⟨l,h0,h1,rfl⟩)|ho<;>rcases Lp gF with (rfl|rfl|⟨l',vR,ju,rfl⟩)|iX
 ·exact ⟨rfl,List.append_cancel_left h⟩
 ·rw[t1,t2] at h;cases (fT h).1
 ·rw[t1,hl] at h
  have:=(fT h).1
  rcases qV vR ju with h|h|h|h|h|h<;>(rw[h.1] at this;cases this)
 ·rw[t1,pz iX] at h;cases (fT h).1
 ·rw[t1,t2] at h;cases (fT h).1
 ·exact ⟨rfl,List.append_cancel_left h⟩
 ·rw[t2,hl] at h
  have:=(fT h).1
  rcases qV vR ju with h|h|h|h|h|h<;>(rw[h.1] at this;cases this)
 ·rw[t2,pz iX] at h;cases (fT h).1
 ·rw[t1,hl] at h
  have:=(fT h).1
  rcases qV h0 h1 with h|h|h|h|h|h<;>(rw[h.1] at this;cases this)
 ·rw[t2,hl] at h
  have:=(fT h).1
  rcases qV h0 h1 with h|h|h|h|h|h<;>(rw[h.1] at this;cases this)
 ·rw[hl,hl] at h
  obtain ⟨U,h3⟩:=fT h
  refine ⟨?_,h3⟩
  have:l=l':=by
   rcases qV h0 h1 with ⟨a,rfl⟩|⟨a,rfl⟩|⟨a,rfl⟩|⟨a,rfl⟩|⟨a,rfl⟩|⟨a,rfl⟩<;>rcases qV vR ju with ⟨b,rfl⟩|⟨b,rfl⟩|⟨b,rfl⟩|⟨b,rfl⟩|⟨b,rfl⟩|⟨b,rfl⟩<;>first|rfl|(rw[a,b] at U;cases U)
  rw[this]
 ·rw[hl,pz iX] at h
  have:=(fT h).1
  rcases qV h0 h1 with h|h|h|h|h|h<;>(rw[h.1] at this;cases this)
 ·rw[t1,pz ho] at h;cases (fT h).1
 ·rw[t2,pz ho] at h;cases (fT h).1
 ·rw[hl,pz ho] at h
  have:=(fT h).1
  rcases qV vR ju with h|h|h|h|h|h<;>(rw[h.1] at this;cases this)
 ·rw[pz ho,pz iX] at h
  have U:(TX 1 e++[41])++r=(TX 1 e'++[41])++r':=(fT h).2
  rw[cm,cm] at U
  obtain ⟨h3,h4⟩:=ih ho e' _ _ gF (Lu (by simp[gu])) (Lu (by simp[gu])) U
  exact ⟨h3,(fT h4).2⟩
theorem FW {sep:List UInt8} {m:Int}: ∀{xs:List Ex} {f:Bool} {x:Ex},x∈xs→(TX m x).length≤(texts sep m f xs).length
 | y::ys,f,x,h=>by
  simp only[texts,cv]
  rcases df.1 h with rfl|h
  ·show (eg x.op m x.text).length≤_;omega
  ·have:=FW (sep:=sep) (m:=m) (f:=false) h
   omega
theorem TS: ∀(n:Nat) (m:Int) (e:Ex),1≤m→m≤6→e.wf 6=true→8*(TX m e).length+(7-m).toNat<n→jG m e
 | 0,m,e,_,_,_,h=>by omega
 | n+1,m,e,h1,h6,he,h=>by
  have ih:=TS n
  rcases (show m=1∨m=2∨m=3∨m=4∨m=5∨m=6 by omega) with rfl|rfl|rfl|rfl|rfl|rfl
  ·refine afK he fun x hx=>ih 2 x (by omega) (by omega) (Bs he x hx) ?_
   have:=FW (sep:=[124]) (m:=2) (f:=true) hx
   rw[TK] at h
   omega
  ·refine sQ he fun x hx=>ih 3 x (by omega) (by omega) (Bs he x hx) ?_
   have:=FW (sep:=[38]) (m:=3) (f:=true) hx
   rw[TL] at h
   omega
  ·refine afL he fun x hx=>ih 4 x (by omega) (by omega) (Bs he x hx) ?_
   have:=FW (sep:=[]) (m:=4) (f:=true) hx
   rw[TM] at h
   omega
  ·refine afM he (fun k hk=> ?_) fun ho=> ?_
   ·subst hk
    rw[Bo,List.length_cons] at h
    exact ih 4 k (by omega) (by omega) ((hY he).2 k (by simp)) (by omega)
   ·rw[Bp ho] at h
    exact ih 5 e (by omega) (by omega) he (by omega)
  ·obtain ⟨b,k,e1,e2,e3,e4⟩:=Lr e he
   refine afN e1 e4 (ih 6 b (by omega) (by omega) e3 ?_)
   rw[e4,cv] at h
   omega
  ·refine afO he fun ho=>ih 1 e (by omega) (by omega) he ?_
   rw[pz ho,List.length_cons,cv] at h
   simp only[List.length_cons,List.length_nil] at h
   omega
theorem TT (e:Ex):TX 1 e=e.text:=by
 unfold TX eg
 rw[ai]
 unfold fG
 repeat' split
 all_goals omega
theorem TU {a b:Ex} (ha:a.wf 6=true) (hb:b.wf 6=true) (h:a.text=b.text):a=b:=
 (TS _ 1 a (by omega) (by omega) ha (xY _) b [] [] hb TN TN (by rw[TT,TT,h])).1
end Go.AM
set_option maxRecDepth 100000
namespace Go.AM
open Go.Proofs
noncomputable def TV (C:ag) (ah ar:Int) (af:List V):Option (List V):=
 (C zQ [.int .i64 ah,.int .i64 ar,.list aa af]).bind fun r1=>
 bif !((V.nth r1 0).toBool) then
  some [.str []]
 else
  (C r0 [.int .i64 ah,.int .i64 ar,.list aa af,.list cV ([]:List V)]).bind fun r2=>
  (C Ed [.list cV ((V.nth r2 0).toList)]).bind fun r3=>
  some [.str ((V.nth r3 0).toStr)]
theorem afP {ah ar:Int} {af:List V} {r:Option (List V)} (h:TV CC ah ar af=r):CC wB [.int .i64 ah,.int .i64 ar,.list aa af]=r:=
 aY (key:=60) (L:=cb) (bs:=[]) (by kernel_rfl) av (aW (by kernel_rfl) h)
noncomputable abbrev ig:Code:=cL Try.prog (ax.aX 75)
noncomputable def FX (C:ag) (t5:Int) (t28:Bool) (gg eY:Int) (ee bz:List V) {β:Type} (kr:(List V)→Option β):Option β:=
 bif t28 then
  (C sb [.list aa ee,.str [38],.int .i64 3,.list cV bz]).bind fun r5=>
  kr ((V.nth r5 0).toList)
 else
  bif (t5:Int)==5 then
  (C sb [.list aa ee,.str [],.int .i64 4,.list cV bz]).bind fun r6=>
  kr ((V.nth r6 0).toList)
  else
  bif (t5:Int)==8 then
   (C pb [.int .u8 33,.list cV bz]).bind fun r7=>
   (C sb [.list aa ee,.str [],.int .i64 4,.list cV ((V.nth r7 0).toList)]).bind fun r8=>
   kr ((V.nth r8 0).toList)
  else
   bif (t5:Int)==7 then
   (C sb [.list aa ee,.str [],.int .i64 5,.list cV bz]).bind fun r9=>
   (C pb [.int .u8 42,.list cV ((V.nth r9 0).toList)]).bind fun dV=>
   kr ((V.nth dV 0).toList)
   else
   kr bz
noncomputable def FY (C:ag) (t5:Int) (t22:Bool) (gg eY:Int) (ee bz:List V) {β:Type} (kr:(List V)→Option β):Option β:=
 bif t22 then
  (C sb [.list aa ee,.str [124],.int .i64 2,.list cV bz]).bind fun r4=>
  kr ((V.nth r4 0).toList)
 else
  FX C t5 ((t5:Int)==6) gg eY ee bz (fun (uV:List V)=>
   kr uV)
noncomputable def FZ (C:ag) (t5:Int) (t14:Bool) (gg eY:Int) (ee bz:List V) {β:Type} (kr:(List V)→Option β):Option β:=
 bif t14 then
  (C pb [.int .u8 (IntKind.wrap .u8 (97+(IntKind.wrap .u8 eY))),.list cV bz]).bind fun r3=>
  kr ((V.nth r3 0).toList)
 else
  FY C t5 ((t5:Int)==4) gg eY ee bz (fun (Bt:List V)=>
   kr Bt)
noncomputable def F0 (C:ag) (t5:Int) (t10:Bool) (gg eY:Int) (ee bz:List V) {β:Type} (kr:(List V)→Option β):Option β:=
 bif t10 then
  (C pb [.int .u8 49,.list cV bz]).bind fun r2=>
  kr ((V.nth r2 0).toList)
 else
  FZ C t5 ((t5:Int)==3) gg eY ee bz (fun (uW:List V)=>
   kr uW)
noncomputable def F1 (C:ag) (t5:Int) (t6:Bool) (gg eY:Int) (ee bz:List V) {β:Type} (kr:(List V)→Option β):Option β:=
 bif t6 then
  (C pb [.int .u8 48,.list cV bz]).bind fun r1=>
  kr ((V.nth r1 0).toList)
 else
  F0 C t5 ((t5:Int)==2) gg eY ee bz (fun (qW:List V)=>
   kr qW)
noncomputable def TW (C:ag):cB:=fun β n ds k=>
 bif Nat.beq n 463 then iJ Jh [[0]] (@FX C) ds k else
 bif Nat.beq n 367 then iJ Ji [[0]] (@FY C) ds k else
 bif Nat.beq n 239 then iJ Jj [[0]] (@FZ C) ds k else
 bif Nat.beq n 175 then iJ Jk [[0]] (@F0 C) ds k else
 bif Nat.beq n 111 then iJ Jl [[0]] (@F1 C) ds k else
 none
abbrev Bu (C:ag) (b:cx):Prop:=cy Try.prog ax C (TW C) 75 (cP Try.prog (ax.aX 75)) (ax.sin 75).a8.length b
theorem afQ (C:ag):Bu C (.cond 28 (aw [1,1,0,1,1,1,1,1,1,1,1,1,0] ig) (aw [1,1,0,1,1,1,1,1,1,1,1,1,1] ig)):=
 jb Jh [[0]] (@FX C) (by kernel_rfl) (bh (bs:=[]) (by kernel_rfl) av) (bh (bs:=[]) (by kernel_rfl) av) (fun ds=>by kernel_rfl) (fun i β k=>by kernel_rfl) (fun β ds k=>by kernel_rfl)
theorem afR (C:ag):Bu C (.cond 22 (aw [1,1,0,1,1,1,1,1,1,1,0] ig) (aw [1,1,0,1,1,1,1,1,1,1,1] ig)):=
 jb Ji [[0]] (@FY C) (by kernel_rfl) (bh (bs:=[]) (by kernel_rfl) av) (bh (bs:=[.cond 28 (aw [1,1,0,1,1,1,1,1,1,1,1,1,0] ig) (aw [1,1,0,1,1,1,1,1,1,1,1,1,1] ig)]) (by kernel_rfl) (bG (afQ C) av)) (fun ds=>by kernel_rfl) (fun i β k=>by kernel_rfl) (fun β ds k=>by kernel_rfl)
theorem afS (C:ag):Bu C (.cond 14 (aw [1,1,0,1,1,1,1,1,0] ig) (aw [1,1,0,1,1,1,1,1,1] ig)):=
 jb Jj [[0]] (@FZ C) (by kernel_rfl) (bh (bs:=[]) (by kernel_rfl) av) (bh (bs:=[.cond 22 (aw [1,1,0,1,1,1,1,1,1,1,0] ig) (aw [1,1,0,1,1,1,1,1,1,1,1] ig)]) (by kernel_rfl) (bG (afR C) av)) (fun ds=>by kernel_rfl) (fun i β k=>by kernel_rfl) (fun β ds k=>by kernel_rfl)
theorem afT (C:ag):Bu C (.cond 10 (aw [1,1,0,1,1,1,0] ig) (aw [1,1,0,1,1,1,1] ig)):=
 jb Jk [[0]] (@F0 C) (by kernel_rfl) (bh (bs:=[]) (by kernel_rfl) av) (bh (bs:=[.cond 14 (aw [1,1,0,1,1,1,1,1,0] ig) (aw [1,1,0,1,1,1,1,1,1] ig)]) (by kernel_rfl) (bG (afS C) av)) (fun ds=>by kernel_rfl) (fun i β k=>by kernel_rfl) (fun β ds k=>by kernel_rfl)
theorem afU (C:ag):Bu C (.cond 6 (aw [1,1,0,1,0] ig) (aw [1,1,0,1,1] ig)):=
 jb Jl [[0]] (@F1 C) (by kernel_rfl) (bh (bs:=[]) (by kernel_rfl) av) (bh (bs:=[.cond 10 (aw [1,1,0,1,1,1,0] ig) (aw [1,1,0,1,1,1,1] ig)]) (by kernel_rfl) (bG (afT C) av)) (fun ds=>by kernel_rfl) (fun i β k=>by kernel_rfl) (fun β ds k=>by kernel_rfl)
noncomputable def TY (C:ag) (ah ar:Int) (af bC:List V):Option (List V):=
 F1 C ah ((ah:Int)==1) ah ar af bC (fun (sF:List V)=>
  some [.list cV sF])
theorem afV {ah ar:Int} {af bC:List V} {r:Option (List V)} (h:TY CC ah ar af bC=r):CC r0 [.int .i64 ah,.int .i64 ar,.list aa af,.list cV bC]=r:=
 aY (key:=75) (L:=TW CC) (bs:=[.cond 6 (aw [1,1,0,1,0] ig) (aw [1,1,0,1,1] ig)]) (by kernel_rfl) (bG (afU CC) av) (aW (by kernel_rfl) h)
noncomputable abbrev xQ:Code:=cL Try.prog (ax.aX 91)
noncomputable def Bv (C:ag) (separator:List UInt8) (least:Int) (t10:List V) (t11 t12:Int) (t18:Bool) (aiW aiX:Int) (aiY bz:List V) {β:Type} (kr:(List V)→Option β):Option β:=
 bif t18 then
  (C Ek [.str separator,.list cV bz]).bind fun r2=>
  kr ((V.nth (r2.drop 1) 0).toList)
 else
  kr bz
noncomputable def Bw (C:ag) (separator:List UInt8) (least:Int) (t10:List V) (t11 t12:Int) (cN:List V) {β:Type} (kn:(Int × (List V))→Option β) (kr:(Int × Bool × (List V))→Option β):Option β:=
 bif decide ((t12:Int)<t11) then
  (idx t10 t12).bind fun x1=>
  Bv C separator least t10 t11 t12 (decide ((t12:Int)>0)) ((x1.cell 0).toInt) ((x1.cell 1).toInt) ((x1.cell 2).toList) cN (fun (FL:List V)=>
   (C El [.int .i64 ((x1.cell 0).toInt)]).bind fun r4=>
   bif decide ((((V.nth r4 0).toInt):Int)≥least) then
   (C r0 [.int .i64 ((x1.cell 0).toInt),.int .i64 ((x1.cell 1).toInt),.list aa ((x1.cell 2).toList),.list cV FL]).bind fun r5=>
   kn (IntKind.wrap .i64 (t12+1),(V.nth r5 0).toList)
   else
   (C pb [.int .u8 40,.list cV FL]).bind fun r6=>
   (C r0 [.int .i64 ((x1.cell 0).toInt),.int .i64 ((x1.cell 1).toInt),.list aa ((x1.cell 2).toList),.list cV ((V.nth r6 0).toList)]).bind fun r7=>
   (C pb [.int .u8 41,.list cV ((V.nth r7 0).toList)]).bind fun r8=>
   kn (IntKind.wrap .i64 (t12+1),(V.nth r8 0).toList))
 else
  kr (t12,decide ((t12:Int)<t11),cN)
noncomputable def Bx (C:ag) (separator:List UInt8) (least:Int) (t10:List V) (t11:Int):(Int × (List V))→Option ((Int × (List V)) ⊕ (Int × Bool × (List V))):=un fun t12 cN=>Bw C separator least t10 t11 t12 cN (fun y=>some (.inl y)) (fun r=>some (.inr r))
noncomputable def TZ (C:ag):cB:=fun β n ds k=>
 bif Nat.beq n 303 then iJ Jq [[1,2,3,4,5,7,8,9,0]] (@Bv C) ds k else
 bif Nat.beq n 17 then cj Jr [false,false,false,false,true,true] [[1,2,3,4,0,0,0]] (@Bw C) ds k else
 none
abbrev T2 (C:ag) (b:cx):Prop:=cy Try.prog ax C (TZ C) 91 (cP Try.prog (ax.aX 91)) (ax.sin 91).a8.length b
theorem afW (C:ag):T2 C (.cond 18 (aw [1,0,0,1,1,0,0,1,0,1,0] xQ) (aw [1,0,0,1,1,0,0,1,0,1,1] xQ)):=
 jb Jq [[1,2,3,4,5,7,8,9,0]] (@Bv C) (by kernel_rfl) (bh (bs:=[]) (by kernel_rfl) av) (bh (bs:=[]) (by kernel_rfl) av) (fun ds=>by kernel_rfl) (fun i β k=>by kernel_rfl) (fun β ds k=>by kernel_rfl)
theorem afX (C:ag):T2 C (.loop (aw [1,0,0] xQ)):=
 cr Jr [false,false,false,false,true,true] [[1,2,3,4,0,0,0]] (@Bw C) (by kernel_rfl) (bh (bs:=[.cond 18 (aw [1,0,0,1,1,0,0,1,0,1,0] xQ) (aw [1,0,0,1,1,0,0,1,0,1,1] xQ)]) (by kernel_rfl) (bG (afW C) av)) (fun ds=>by kernel_rfl) (fun i x=>by kernel_rfl) (fun i x β k=>by kernel_rfl) (fun β ds k=>by kernel_rfl)
noncomputable def T4 (C:ag) (kids:List V) (separator:List UInt8) (least:Int) (bC:List V):Option (List V):=
 (Loop (Bx C separator least kids (kids.length:Int)) (0,bC)).bind (un fun (sd:Int)=>un fun (wR:Bool) (uV:List V)=>
  some [.list cV uV])
theorem afY {kids:List V} {separator:List UInt8} {least:Int} {bC:List V} {r:Option (List V)} (h:T4 CC kids separator least bC=r):CC sb [.list aa kids,.str separator,.int .i64 least,.list cV bC]=r:=
 aY (key:=91) (L:=TZ CC) (bs:=[.loop (aw [1,0,0] xQ)]) (by kernel_rfl) (bG (afX CC) av) (aW (by kernel_rfl) h)
noncomputable def T6 (C:ag) (op:Int):Option (List V):=
 bif (op:Int)==4 then
  some [.int .i64 1]
 else
  bif (op:Int)==6 then
  some [.int .i64 2]
  else
  bif (op:Int)==5 then
   some [.int .i64 3]
  else
   bif (op:Int)==8 then
   some [.int .i64 4]
   else
   bif (op:Int)==7 then
    some [.int .i64 5]
   else
    some [.int .i64 6]
theorem afZ {op:Int} {r:Option (List V)} (h:T6 CC op=r):CC El [.int .i64 op]=r:=
 aY (key:=104) (L:=cb) (bs:=[]) (by kernel_rfl) av (aW (by kernel_rfl) h)
noncomputable def T7 (C:ag) (c:Int) (bC:List V):Option (List V):=
 bif Nat.ble ((bC.length+([.int .u8 c]:List V).length)*1) cI then
  some [.list cV (bC++([.int .u8 c]:List V))]
 else none
theorem af0 {c:Int} {bC:List V} {r:Option (List V)} (h:T7 CC c bC=r):CC pb [.int .u8 c,.list cV bC]=r:=
 aY (key:=90) (L:=cb) (bs:=[]) (by kernel_rfl) av (aW (by kernel_rfl) h)
noncomputable def T8 (C:ag) (s:List UInt8) (bC:List V):Option (List V):=
 bif Nat.ble ((bC.length+(s.map di).length)*1) cI then
  some [.int .i64 (s.length:Int),.list cV (bC++(s.map di))]
 else none
theorem af1 {s:List UInt8} {bC:List V} {r:Option (List V)} (h:T8 CC s bC=r):CC Ek [.str s,.list cV bC]=r:=
 aY (key:=103) (L:=cb) (bs:=[]) (by kernel_rfl) av (aW (by kernel_rfl) h)
noncomputable def T9 (C:ag) (bC:List V):Option (List V):=
 bif Nat.blt 0 bC.length then
  bif decide (0<(bC.length:Int))&&(decide ((bC.length:Int)≤(bC.length:Int))&&(Nat.ble (((bC.length:Int):Int).toNat) ry&&(bC.take (((bC.length:Int):Int).toNat)).all vl)) then
  some [.str (ko (bC.take (((bC.length:Int):Int).toNat)))]
  else none
 else none
theorem af2 {bC:List V} {r:Option (List V)} (h:T9 CC bC=r):CC Ed [.list cV bC]=r:=
 aY (key:=76) (L:=cb) (bs:=[]) (by kernel_rfl) av (aW (by kernel_rfl) h)
end Go.AM
set_option maxRecDepth 100000
namespace Go.AM
open Go.Proofs Ex
theorem uX (c:UInt8) (b:List UInt8) (h:b.length<2^40):CC pb [.int .u8 c.toNat,.list cV (b.map di)]=some [.list cV ((b++[c]).map di)]:=by
 refine af0 ?_
 unfold T7
 simp only[IB]
 rw[aj (by simp[cI];omega)]
 simp[di]
theorem af3 (s b:List UInt8) (h:b.length+s.length<2^40):CC Ek [.str s,.list cV (b.map di)]=some [.int .i64 s.length,.list cV ((b++s).map di)]:=by
 refine af1 ?_
 unfold T8
 simp only[IB]
 rw[aj (by simp[cI];omega)]
 simp
theorem af4 (b:List UInt8):ko (b.map di)=b:=by
 unfold ko
 rw[List.map_map]
 have:((fun x:V=>UInt8.ofNat x.toInt.toNat) ∘ di)=id:=by
  funext c
  simp[di]
 rw[this,List.map_id]
theorem af5 (b:List UInt8) (h0:b≠[]) (h:b.length<2^40):CC Ed [.list cV (b.map di)]=some [.str b]:=by
 refine af2 ?_
 unfold T9
 have hp:0<b.length:=by cases b<;>simp at h0⊢
 have h1:Nat.blt 0 (b.map di).length=true:=by rw[jK];simpa using hp
 have U:(((b.map di).length:Int)).toNat=(b.map di).length:=by simp
 have h3:Nat.ble (b.map di).length ry=true:=Nat.ble_eq_true_of_le (by simp[ry];omega)
 have h4:(b.map di).all vl=true:=by
  rw[e6]
  intro x hx
  obtain ⟨c,_,rfl⟩:=gx.1 hx
  have:=c.toNat_lt
  simp[vl,di]
  omega
 rw[h1,U,pG,h3,h4,af4]
 simp[hp]
theorem af6 (op:Int):CC El [.int .i64 op]=some [.int .i64 (fG op)]:=by
 refine afZ ?_
 unfold T6 fG
 simp only[eL]
 repeat' split
 all_goals rfl
theorem af7 {ks:List Ex} (hlen:ks.length≤maxLen) (ih: ∀k∈ks,∀b:List UInt8,b.length+k.text.length<2^40→CC r0 (bW k [.list cV (b.map di)])=some [.list cV ((b++k.text).map di)]) (sep:List UInt8) (least:Int):
  ∀(aN pre:List Ex) (b:List UInt8),ks=pre++aN→b.length+(texts sep least pre.isEmpty aN).length<2^40→
  ∃i t,Loop (Bx CC sep least (ks.map enc) ((ks.map enc).length:Int)) (((pre.length:Nat):Int),b.map di)=some (i,t,(b++texts sep least pre.isEmpty aN).map di):=by
 intro aN
 induction aN with
 | nil=>
  intro pre b bf hb
  subst bf
  refine ⟨((pre.length:Nat):Int),false,bd ?_⟩
  simp only[Bx,Bw,un,dH,ba,aB,texts]
  rw[ai (by omega)]
  simp
 | cons k aN gh=>
  intro pre b bf hb
  have b7:pre.length<ks.length:=by rw[bf];simp
  have hm:k∈ks:=by rw[bf];simp
  have:=oj
  have cq:idx (ks.map enc) (pre.length:Int)=some k.enc:=by rw[bf];exact j8 _ _ _
  generalize gH:(if pre.isEmpty then [] else sep)=sp
  have ht:texts sep least pre.isEmpty (k::aN)=sp++(eg k.op least k.text++texts sep least false aN):=by simp only[texts,gH]
  rw[ht] at hb⊢
  simp only[cv] at hb
  have dD:Bx CC sep least (ks.map enc) ((ks.map enc).length:Int) (((pre.length:Nat):Int),b.map di)=some (.inl ((((pre++[k]).length:Nat):Int),(b++sp++eg k.op least k.text).map di)):=by
   have h1: ∀{β:Type} (kr:List V→Option β) (o l:Int) (es:List V),Bv CC sep least (ks.map enc) ((ks.length:Nat):Int) ((pre.length:Nat):Int) (decide (((pre.length:Nat):Int)>0)) o l es (b.map di) kr=kr ((b++sp).map di):=by
    intro β kr o l es
    unfold Bv
    cases pre with
    | nil=>
     simp at gH
     subst gH
     simp
    | cons a pre=>
     simp at gH
     subst gH
     rw[af3 _ _ (by omega)]
     have:(0:Int)<((a::pre).length:Int):=by simp only[List.length_cons];omega
     simp[this]
   simp only[Bx,Bw,un,ba,aB]
   rw[aj (by omega),cq]
   simp only[Option.bind_some,bn,bp,bq]
   rw[h1,af6]
   simp only[Option.bind_some,V.aR,V.toInt_int,aB]
   unfold eg at hb⊢
   by_cases hl:fG k.op<least
   ·rw[ai (by omega),aj hl]
    rw[aj hl] at hb
    simp only[List.length_cons,cv,List.length_nil] at hb
    rw[show (V.int .u8 40)= .int .u8 (((40:UInt8).toNat:Nat):Int) by rfl,show (V.int .u8 41)= .int .u8 (((41:UInt8).toNat:Nat):Int) by rfl]
    rw[uX _ _ (by simp;omega)]
    simp only[Option.bind_some,V.aR,V.ln]
    rw[ih k hm _ (by simp;omega)]
    simp only[Option.bind_some,V.aR,V.ln]
    rw[uX _ _ (by simp;omega),wrap64 (by omega) (by omega)]
    simp
   ·rw[aj (by omega),ai hl]
    rw[ai hl] at hb
    rw[ih k hm _ (by simp;omega)]
    simp only[Option.bind_some,V.aR,V.ln]
    rw[wrap64 (by omega) (by omega)]
    simp
  rw[bR dD]
  have hE:(pre++[k]).isEmpty=false:=by cases pre<;>rfl
  have h3:=gh (pre++[k]) (b++sp++eg k.op least k.text) (by rw[bf];simp)
  rw[hE] at h3
  obtain ⟨i,t,U⟩:=h3 (by simp only[cv];omega)
  refine ⟨i,t,U.trans ?_⟩
  simp
theorem af8 {ks:List Ex} (hlen:ks.length≤maxLen) (ih: ∀k∈ks,∀b:List UInt8,b.length+k.text.length<2^40→CC r0 (bW k [.list cV (b.map di)])=some [.list cV ((b++k.text).map di)]) (sep:List UInt8) (least:Int) (b:List UInt8)
  (hb:b.length+(texts sep least true ks).length<2^40):CC sb [.list aa (ks.map enc),.str sep,.int .i64 least,.list cV (b.map di)]=some [.list cV ((b++texts sep least true ks).map di)]:=by
 refine afY ?_
 unfold T4
 obtain ⟨i,t,h⟩:=af7 hlen ih sep least ks [] b rfl hb
 simp only[List.length_nil,Int.ofNat_zero,Int.natCast_zero,List.isEmpty_nil] at h
 erw [h]
 rfl
theorem af9 {l n:Int} (h:dz 3 l n 6=true):0≤l∧l<6:=by
 simp[dz] at h;omega
theorem Ua {o l n letters:Int} (ho:o<1∨8<o):dz o l n letters=false:=by
 have n1:o≠1:=by omega
 have n2:o≠2:=by omega
 have n3:o≠3:=by omega
 have n7:o≠7:=by omega
 have n8:o≠8:=by omega
 have n9: ¬(4≤o∧o≤6∧2≤n):=by omega
 simp[dz,n1,n2,n3,n7,n8,n9]
theorem aga: ∀e:Ex,e.Ok→e.wf 6=true→∀b:List UInt8,b.length+e.text.length<2^40→CC r0 (bW e [.list cV (b.map di)])=some [.list cV ((b++e.text).map di)]:=
 ind fun o l ks ih au zI b hb=>by
  obtain ⟨w1,w2⟩:=hY zI
  have hw:=fun sep least b=>af8 au.len (fun k hk=>ih k hk (au.om k hk) (w2 k hk)) sep least b
  refine afV ?_
  unfold TY F1 F0 FZ FY FX
  simp only[Ex.op,Ex.cS,Ex.kids]
  rcases Aj o with rfl|rfl|rfl|rfl|rfl|rfl|rfl|rfl|ho
  case inr.inr.inr.inr.inr.inr.inr.inr=>rw[Ua ho] at w1;cases w1
  ·simp[text] at hb⊢
   rw[show (V.int .u8 48)= .int .u8 (((48:UInt8).toNat:Nat):Int) by rfl,uX _ _ (by omega)]
   simp
  ·simp[text] at hb⊢
   rw[show (V.int .u8 49)= .int .u8 (((49:UInt8).toNat:Nat):Int) by rfl,uX _ _ (by omega)]
   simp
  ·have hl:=af9 w1
   simp[text] at hb⊢
   rw[DV (x:=l) (by omega) (by omega),DV (by omega) (by omega)]
   have:(V.int .u8 (97+l))= .int .u8 (((UInt8.ofNat (97+l).toNat).toNat:Nat):Int):=by
    have:(97+l).toNat<256:=by omega
    simp only[UInt8.toNat_ofNat']
    congr 1
    omega
   rw[this,uX _ _ (by omega)]
   simp
  ·simp[text] at hb⊢
   rw[hw _ _ _ (by omega)]
   simp
  ·simp[text] at hb⊢
   rw[hw _ _ _ (by omega)]
   simp
  ·simp[text] at hb⊢
   rw[hw _ _ _ (by omega)]
   simp
  ·simp[text] at hb⊢
   rw[hw _ _ _ (by omega)]
   simp only[Option.bind_some,V.aR,V.ln]
   rw[show (V.int .u8 42)= .int .u8 (((42:UInt8).toNat:Nat):Int) by rfl,uX _ _ (by simp;omega)]
   simp
  ·simp[text] at hb⊢
   rw[show (V.int .u8 33)= .int .u8 (((33:UInt8).toNat:Nat):Int) by rfl,uX _ _ (by omega)]
   simp only[Option.bind_some,V.aR,V.ln]
   rw[hw _ _ _ (by simp;omega)]
   simp
theorem agb: ∀e:Ex,e.wf 6=true→e.text≠[]:=ind fun o l ks ih h=>by
 obtain ⟨w1,w2⟩:=hY h
 rcases Aj o with rfl|rfl|rfl|rfl|rfl|rfl|rfl|rfl|ho
 case inr.inr.inr.inr.inr.inr.inr.inr=>rw[Ua ho] at w1;cases w1
 case inr.inr.inr.inl=>
  intro hh
  match ks,w1,hh with
  | [],w1,_=>simp[dz] at w1
  | [a],w1,_=>simp[dz] at w1
  | a::b::l,_,hh=>simp[text,texts] at hh
 case inr.inr.inr.inr.inr.inl=>
  intro hh
  match ks,w1,hh with
  | [],w1,_=>simp[dz] at w1
  | [a],w1,_=>simp[dz] at w1
  | a::b::l,_,hh=>simp[text,texts] at hh
 case inr.inr.inr.inr.inl=>
  intro hh
  match ks,w1,w2,hh,ih with
  | [],w1,_,_,_=>simp[dz] at w1
  | a::ks,_,w2,hh,ih=>
   have:=ih a (by simp) (w2 a (by simp))
   simp[text,texts,eg] at hh
   split at hh
   ·simp at hh
   ·exact this hh.1
 all_goals simp[text]
theorem agc (e:Ex) (h:e.Ok):CC wB (bW e [])=some [.str (if e.val 6=0 then e.text else [])]:=by
 refine afP ?_
 unfold TV
 rw[QE e h]
 by_cases hv:e.val 6=0
 ·obtain ⟨_,U,h3⟩:=m7 hv
  have hl:=TJ e
  have hw:=aga e h h3 [] (by simp;omega)
  simp only[gy,List.nil_append] at hw
  simp only[Option.bind_some,V.aR,V.dy,hv,rh,pI,cond_false,dm]
  rw[hw]
  simp only[Option.bind_some,V.aR,V.ln]
  rw[af5 _ (agb e h3) (by omega)]
  simp
 ·simp[hv]
end Go.AM
set_option maxRecDepth 100000
namespace Go.AM
structure Da where
 L:Nat
 st:Nat
 F:List Bool
 N:List (List Nat)
deriving DecidableEq
namespace Da
def n (d:Da):Nat:=d.F.length
def nx (d:Da) (q x:Nat):Nat:=(d.N.getD q []).getD x 0
def fin (d:Da) (q:Nat):Bool:=d.F.getD q false
def run (d:Da) (q:Nat) (w:List Nat):Nat:=w.foldl d.nx q
def acc (d:Da) (q:Nat) (w:List Nat):Bool:=d.fin (d.run q w)
structure Ok (d:Da):Prop where
 l1:1≤d.L
 l6:d.L≤6
 nN:d.N.length=d.n
 row: ∀r∈d.N,r.length=d.L∧∀q∈r,q<d.n
 s:d.st<d.n
 cH:d.n≤512
end Da
def WL (L:Nat) (w:List Nat):Prop:= ∀x∈w,x<L
theorem WL.nil {L:Nat}:WL L []:=fun _ h=>by cases h
theorem WL.cons {L x:Nat} {w:List Nat} (h:x<L) (hw:WL L w):WL L (x::w):=fun y hy=>by
 rcases df.1 hy with rfl|hy
 ·exact h
 ·exact hw y hy
theorem WL.tail {L x:Nat} {w:List Nat} (h:WL L (x::w)):WL L w:=fun y hy=>h y (by simp[hy])
theorem WL.app {L:Nat} {v w:List Nat}:WL L (v++w)↔WL L v∧WL L w:=by
 unfold WL
 simp only[eh]
 exact ⟨fun h=>⟨fun x hx=>h x (.inl hx),fun x hx=>h x (.inr hx)⟩,fun h x hx=>hx.elim (h.1 x) (h.2 x)⟩
namespace Da
def F2 (d:Da) (q:Nat) (d':Da) (q':Nat):Prop:= ∀w,WL d.L w→d.acc q w=d'.acc q' w
theorem F2.nx {d d':Da} {q q' x:Nat} (h:d.F2 q d' q') (hx:x<d.L):d.F2 (d.nx q x) d' (d'.nx q' x):=fun w hw=>h (x::w) (hw.cons hx)
def pos (d:Da) (t:Nat):Nat:=d.nx (t/d.L) (t %d.L)
def mt (d:Da):Nat→Nat
 | 0=>1
 | t+1=>if d.pos t=d.mt t then d.mt t+1 else d.mt t
structure Num (d:Da):Prop where
 le: ∀t,t<d.n*d.L→d.pos t≤d.mt t
 row: ∀q,q<d.n→q<d.mt (q*d.L)
 all:d.mt (d.n*d.L)=d.n
structure Canon (d:Da) (L:Nat) (K:List Nat→Bool):Prop where
 ok:d.Ok
 hL:d.L=L
 st:d.st=0
 num:d.Num
 red: ∀p q,p<d.n→q<d.n→d.F2 p d q→p=q
 Ub: ∀w,WL L w→d.acc 0 w=K w
end Da
section
variable {α:Type} [DecidableEq α]
def agd (S:List α) (a:α):List α:=if a∈S then S else S++[a]
def Uc (next:α→Nat→α) (S:List α) (a:α):Nat→List α
 | 0=>S
 | x+1=>agd (Uc next S a x) (next a x)
def By (L:Nat) (next:α→Nat→α) (a0:α):Nat→List α
 | 0=>[a0]
 | i+1=>match (By L next a0 i)[i]? with
  | some a=>Uc next (By L next a0 i) a L
  | none=>By L next a0 i
variable {L:Nat} {next:α→Nat→α} {a0:α}
section
variable {k:Nat} (hd:(By L next a0 k).length≤k)
include hd
end
section
variable {k:Nat} (hd:(By L next a0 k).length≤k) {fin:α→Bool}
include hd
end
end
namespace Da
end Da
end Go.AM
set_option maxRecDepth 100000
namespace Go.AM
open Go.Proofs
section
variable {α:Type} (ke:α→V)
def lD (i:Nat):List α→List V
 | []=>[]
 | a::S=> .bc [ke a,iV (i:Int)]::lD (i+1) S
where iV (n:Int):V:= .int .i64 n
end
section
variable {α:Type} [DecidableEq α] {ke:α→V}
variable (hk: ∀a b,lI (ke a) (ke b)=decide (a=b))
include hk
theorem Ud (x:α): ∀(S:List α) (i:Nat),kV (ke x) (lD ke i S)=decide (x∈S)
 | [],_=>by simp[lD,kV]
 | a::S,i=>by
  have c: ∀(p q:V),(V.bc [p,q]).comp 0=p:=fun p q=>rfl
  rw[lD,kV,c,hk,Ud x S (i+1)]
  rw[nD]
  simp
theorem Ue (x:α) (z:V): ∀(S:List α) (i:Nat),x∈S→lJ (ke x) (lD ke i S) z= .int .i64 ((i+S.idxOf x:Nat):Int)
 | [],_,h=>by cases h
 | a::S,i,h=>by
  have c: ∀(p q:V),(V.bc [p,q]).comp 0=p:=fun p q=>rfl
  have c1: ∀(p q:V),(V.bc [p,q]).comp 1=q:=fun p q=>rfl
  rw[lD,lJ,c,c1,hk]
  by_cases e:x=a
  ·subst e
   rw[c7 rfl]
   simp[lD.iV]
  ·rw[bZ e,cond_false,Ue x z S (i+1) ((df.1 h).resolve_left e),show (a::S).idxOf x=S.idxOf x+1 from by rw[List.idxOf_cons,show (a==x)=false from oF.2 fun h=>e h.symm];rfl]
   congr 2
   omega
theorem Uf (x:α): ∀(S:List α) (i:Nat),x∉S→il (ke x) (.int .i64 ((i+S.length:Nat):Int)) (lD ke i S)=lD ke i (S++[x])
 | [],i,_=>by simp[lD,il,lD.iV]
 | a::S,i,h=>by
  have c: ∀(p q:V),(V.bc [p,q]).comp 0=p:=fun p q=>rfl
  have e:x≠a:=fun e=>h (by simp[e])
  rw[lD,il,c,hk,bZ e,cond_false,List.cons_append,lD]
  congr 1
  have:=Uf x S (i+1) fun hx=>h (by simp[hx])
  rw[←this]
  simp only[List.length_cons]
  congr 3
  omega
end
noncomputable def Ug (C:ag) (ah ar:Int) (af:List V) (bQ bY:Int) (bC cN bz:List V):Option (List V):=
 (C wB [.int .i64 ah,.int .i64 ar,.list aa af]).bind fun r1=>
 bif Nat.ble (((V.nth r1 0).toStr).length) maxLen&&true then
  bif Nat.ble ((bC.length+([.agg [.int .i64 0,.int .i64 0,.list aa ([]:List V)]]:List V).length)*40) cI then
  bif (decide (0≤(bC.length:Int)))&&(decide ((bC.length:Int)<((bC++([.agg [.int .i64 0,.int .i64 0,.list aa ([]:List V)]]:List V)).length:Int))) then
   ((bC++([.agg [.int .i64 0,.int .i64 0,.list aa ([]:List V)]]:List V))[((bC.length:Int):Int).toNat]?).bind fun x2=>
   some [.int .i64 (bC.length:Int),.int .i64 bQ,.int .i64 bY,.list cd (il (.str ((V.nth r1 0).toStr)) (.int .i64 (bC.length:Int)) bz),.list aa ((bC++([.agg [.int .i64 0,.int .i64 0,.list aa ([]:List V)]]:List V)).set (((bC.length:Int):Int).toNat) (.agg [.int .i64 ah,.int .i64 ar,.list aa af])),.list aZ cN]
  else none
  else none
 else none
theorem age {ah ar:Int} {af:List V} {bQ bY:Int} {bC cN bz:List V} {r:Option (List V)} (h:Ug CC ah ar af bQ bY bC cN bz=r):CC zP [.int .i64 ah,.int .i64 ar,.list aa af,.int .i64 bQ,.int .i64 bY,.list aa bC,.list aZ cN,.list cd bz]=r:=
 aY (key:=57) (L:=cb) (bs:=[]) (by kernel_rfl) av (aW (by kernel_rfl) h)
noncomputable def Uh (C:ag) (ah ar:Int) (af:List V) (letters:Int):Option (List V):=
 (C zP [.int .i64 ah,.int .i64 ar,.list aa af,.int .i64 letters,.int .i64 0,.list aa ([]:List V),.list aZ ([]:List V),.list cd ([]:List V)]).bind fun r1=>
 some [.int .i64 ((V.nth (r1.drop 1) 0).toInt),.int .i64 ((V.nth ((r1.drop 1).drop 1) 0).toInt),.list aa ((V.nth (((r1.drop 1).drop 2).drop 1) 0).toList),.list aZ ((V.nth ((((r1.drop 1).drop 2).drop 1).drop 1) 0).toList),.list cd ((V.nth ((r1.drop 1).drop 2) 0).toList)]
theorem agf {ah ar:Int} {af:List V} {letters:Int} {r:Option (List V)} (h:Uh CC ah ar af letters=r):CC wv [.int .i64 ah,.int .i64 ar,.list aa af,.int .i64 letters]=r:=
 aY (key:=40) (L:=cb) (bs:=[]) (by kernel_rfl) av (aW (by kernel_rfl) h)
noncomputable def Ui (C:ag) (bQ bY:Int) (bC cN bz:List V):Option (List V):=
 some [.bool ((bY:Int)==(bC.length:Int)),.int .i64 bQ,.int .i64 bY,.list cd bz,.list aa bC,.list aZ cN]
theorem agh {bQ bY:Int} {bC cN bz:List V} {r:Option (List V)} (h:Ui CC bQ bY bC cN bz=r):CC rY [.int .i64 bQ,.int .i64 bY,.list aa bC,.list aZ cN,.list cd bz]=r:=
 aY (key:=42) (L:=cb) (bs:=[]) (by kernel_rfl) av (aW (by kernel_rfl) h)
noncomputable abbrev Uj:Code:=cL Try.prog (ax.aX 43)
noncomputable def sG (C:ag) (t16 t17 bQ bY:Int) (bz rows ew gO:List V) {β:Type} (kn:(Int × Int × Int × (List V) × (List V) × (List V) × (List V))→Option β) (kr:((Int × Int × Int × (List V) × (List V) × (List V)) ⊕ (Int × Bool × Int × Int × (List V) × (List V) × (List V) × (List V)))→Option β):Option β:=
 bif decide ((t17:Int)<t16) then
  bif (decide (0≤bY))&&(decide (bY<(ew.length:Int))) then
  (ew[(bY:Int).toNat]?).bind fun x1=>
  (C Eb [.int .i64 ((x1.cell 0).toInt),.int .i64 ((x1.cell 1).toInt),.list aa ((x1.cell 2).toList),.int .i64 t17]).bind fun r2=>
  bif (((V.nth (r2.drop 3) 0).toInt):Int) != 0 then
   kr (.inl ((V.nth (r2.drop 3) 0).toInt,bQ,bY,bz,ew,gO))
  else
   (C wB [.int .i64 ((V.nth r2 0).toInt),.int .i64 ((V.nth (r2.drop 1) 0).toInt),.list aa ((V.nth ((r2.drop 1).drop 1) 0).toList)]).bind fun r3=>
   bif Nat.ble (((V.nth r3 0).toStr).length) maxLen&&true then
   bif !(kV (.str ((V.nth r3 0).toStr)) bz) then
    bif ((ew.length:Int):Int)==512 then
    kr (.inl (3,bQ,bY,bz,ew,gO))
    else
    (C zP [.int .i64 ((V.nth r2 0).toInt),.int .i64 ((V.nth (r2.drop 1) 0).toInt),.list aa ((V.nth ((r2.drop 1).drop 1) 0).toList),.int .i64 bQ,.int .i64 bY,.list aa ew,.list aZ gO,.list cd bz]).bind fun r4=>
    bif (decide (0≤t17))&&(decide (t17<(rows.length:Int))) then
     (rows[(t17:Int).toNat]?).bind fun x5=>
     kn (IntKind.wrap .i64 (t17+1),(V.nth (r4.drop 1) 0).toInt,(V.nth ((r4.drop 1).drop 1) 0).toInt,(V.nth ((r4.drop 1).drop 2) 0).toList,rows.set ((t17:Int).toNat) (.int .i64 ((V.nth r4 0).toInt)),(V.nth (((r4.drop 1).drop 2).drop 1) 0).toList,(V.nth ((((r4.drop 1).drop 2).drop 1).drop 1) 0).toList)
    else none
   else
    bif (decide (0≤t17))&&(decide (t17<(rows.length:Int))) then
    (rows[(t17:Int).toNat]?).bind fun x6=>
    kn (IntKind.wrap .i64 (t17+1),bQ,bY,bz,rows.set ((t17:Int).toNat) (.int .i64 ((lJ (.str ((V.nth r3 0).toStr)) bz (.int .i64 0)).toInt)),ew,gO)
    else none
   else none
  else none
 else
  kr (.inr (t17,decide ((t17:Int)<t16),bQ,bY,bz,rows,ew,gO))
noncomputable def oA (C:ag) (t16:Int):(Int × Int × Int × (List V) × (List V) × (List V) × (List V))→Option ((Int × Int × Int × (List V) × (List V) × (List V) × (List V)) ⊕ ((Int × Int × Int × (List V) × (List V) × (List V)) ⊕ (Int × Bool × Int × Int × (List V) × (List V) × (List V) × (List V)))):=un fun t17=>un fun bQ=>un fun bY=>un fun bz=>un fun rows=>un fun ew gO=>sG C t16 t17 bQ bY bz rows ew gO (fun y=>some (.inl y)) (fun r=>some (.inr r))
noncomputable def Uk (C:ag):cB:=fun β n ds k=>
 bif Nat.beq n 49 then cj I6 [false,true,true,true,true,true,true,true] [[0,0,0,0,0,0],[1,0,0,0,0,0,0,0,0]] (@sG C) ds k else
 none
abbrev agi (C:ag) (b:cx):Prop:=cy Try.prog ax C (Uk C) 43 (cP Try.prog (ax.aX 43)) (ax.sin 43).a8.length b
theorem agj (C:ag):agi C (.loop (aw [1,1,0,1,0,0] Uj)):=
 cr I6 [false,true,true,true,true,true,true,true] [[0,0,0,0,0,0],[1,0,0,0,0,0,0,0,0]] (@sG C) (by kernel_rfl) (bh (bs:=[]) (by kernel_rfl) av) (fun ds=>by kernel_rfl) (fun i x=>by kernel_rfl) (fun i x β k=>by kernel_rfl) (fun β ds k=>by kernel_rfl)
noncomputable def Ul (C:ag) (bQ bY:Int) (bC cN bz:List V):Option (List V):=
 bif (decide (0≤bQ))&&((decide (bQ≤bQ))&&(Nat.ble (((bQ:Int).toNat)*8) cI)) then
  (Loop (oA C ((List.replicate ((bQ:Int).toNat) (V.int .i64 0)).length:Int)) (0,bQ,bY,bz,List.replicate ((bQ:Int).toNat) (V.int .i64 0),bC,cN)).bind (bX (un fun (ph:Int)=>un fun (Bz:Int)=>un fun (BA:Int)=>un fun (BB:List V)=>un fun (uV:List V) (Bt:List V)=>
   some [.int .i64 ph,.int .i64 Bz,.int .i64 BA,.list cd BB,.list aa uV,.list aZ Bt]) (un fun (EO:Int)=>un fun (wS:Bool)=>un fun (Lx:Int)=>un fun (Ly:Int)=>un fun (LA:List V)=>un fun (BC:List V)=>un fun (LB:List V) (BD:List V)=>
   bif Nat.ble ((BD.length+([.list jc BC]:List V).length)*24) cI then
   some [.int .i64 0,.int .i64 Lx,.int .i64 (IntKind.wrap .i64 (Ly+1)),.list cd LA,.list aa LB,.list aZ (BD++([.list jc BC]:List V))]
   else none))
 else none
theorem agk {bQ bY:Int} {bC cN bz:List V} {r:Option (List V)} (h:Ul CC bQ bY bC cN bz=r):CC rZ [.int .i64 bQ,.int .i64 bY,.list aa bC,.list aZ cN,.list cd bz]=r:=
 aY (key:=43) (L:=Uk CC) (bs:=[.loop (aw [1,1,0,1,0,0] Uj)]) (by kernel_rfl) (bG (agj CC) av) (aW (by kernel_rfl) h)
end Go.AM
set_option maxRecDepth 100000
namespace Go.AM
open Go.Proofs Ex
def dk (r:List Int):V:= .list jc (r.map fun n=> .int .i64 n)
def eS (es:List Ex):List V:=lD V.str 0 (es.map Ex.text)
theorem LC (a b:List UInt8):lI (.str a) (.str b)=decide (a=b):=by
 simp only[lI,V.cells,sS,vf,Bool.and_true]
 rw[nD]
 simp
theorem LD {es:List Ex} (h: ∀e∈es,Nv e) {d:Ex} (hd:Nv d):d.text∈es.map Ex.text↔d∈es:=by
 rw[gx]
 constructor
 ·rintro ⟨a,ha,he⟩
  rw[←TU (h a ha).1.2 hd.1.2 he];exact ha
 ·exact fun hx=>⟨d,hx,rfl⟩
theorem Um {α β:Type} [DecidableEq α] [DecidableEq β] {f:α→β} {d:α}: ∀{es:List α},(∀e∈es,f e=f d→e=d)→(es.map f).idxOf (f d)=es.idxOf d
 | [],_=>rfl
 | e::es,h=>by
  rw[cO,List.idxOf_cons,List.idxOf_cons,Um fun x hx=>h x (by simp[hx])]
  have:(f e==f d)=(e==d):=by
   rw[nD,nB,nB]
   exact ⟨h e (by simp),fun h=>by rw[h]⟩
  rw[this]
theorem F3 {e:Ex} (h:e.val 6=0):(Nat.ble e.text.length maxLen&&true)=true:=by
 have a:=TJ e
 have b:=m7 h
 rw[Bool.and_true,dN]
 unfold maxLen
 omega
theorem F4 {e:Ex} (h:Nv e):CC wB (bW e [])=some [.str e.text]:=by
 rw[agc e (agl h),aj h.2]
where agl {e:Ex} (h:Nv e):e.Ok:=qI (by omega) e h.1.2 (by have:=m7 h.2;omega)
def pA (s:Dv):List V:=[.int .i64 s.L,.int .i64 s.dn,.list aa (s.es.map enc),.list aZ (s.nx.map dk),.list cd (eS s.es)]
def F5 (s:Dv):List V:=[.int .i64 s.L,.int .i64 s.dn,.list cd (eS s.es),.list aa (s.es.map enc),.list aZ (s.nx.map dk)]
theorem agm {es:List Ex} (h: ∀e∈es,Nv e) {d:Ex} (hd:Nv d) (hn:d∉es):il (.str d.text) (.int .i64 (es.length:Int)) (eS es)=eS (es++[d]):=by
 have:=Uf (ke:=V.str) LC d.text (es.map Ex.text) 0 fun hx=>hn ((LD h hd).1 hx)
 rw[ba,fS] at this
 unfold eS
 rw[this,fU]
 rfl
theorem agn {α:Type} (a:List α) (x y:α):(a++[x]).set a.length y=a++[y]:=by
 simp[List.set_append_right]
theorem Un {L dn:Int} {es:List Ex} {d:Ex} {nx:List V} (h: ∀e∈es,Nv e) (hd:Nv d) (hn:d∉es) (hl:es.length≤1000):
  CC zP (bW d [.int .i64 L,.int .i64 dn,.list aa (es.map enc),.list aZ nx,.list cd (eS es)])=some [.int .i64 (es.length:Int),.int .i64 L,.int .i64 dn,.list cd (eS (es++[d])),.list aa ((es++[d]).map enc),.list aZ nx]:=by
 refine age ?_
 unfold Ug
 refine bs (F4 hd) ?_
 refine bT (F3 hd.2) ?_
 refine bT (K7 (by simp;omega)) ?_
 refine (sA (i:=(es.map enc).length) (v:= .agg [.int .i64 0,.int .i64 0,.list aa ([]:List V)]) (by simp)).trans ?_
 rw[Int.toNat_natCast,agn]
 have h1:=agm h hd hn
 rw[ba]
 show some [V.int .i64 (es.length:Int),.int .i64 L,.int .i64 dn,.list cd (il (.str d.text) (.int .i64 (es.length:Int)) (eS es)),.list aa (es.map enc++[.agg [.int .i64 d.op,.int .i64 d.cS,.list aa (d.kids.map enc)]]),.list aZ nx]=_
 rw[h1,ae3,fU]
 rfl
theorem LF {e:Ex} {L:Int} (h:Nv e):CC wv (bW e [.int .i64 L])=some (pA ⟨L,[e],[],0⟩):=by
 refine agf ?_
 unfold Uh
 refine bs (Un (L:=L) (dn:=0) (es:=[]) (d:=e) (nx:=[]) (by simp) h (by simp) (by simp)) ?_
 rfl
theorem oB (s:Dv):CC rY (pA s)=some (.bool (s.dn==s.es.length)::F5 s):=by
 refine agh ?_
 unfold Ui
 rw[ba]
 rfl
theorem LG {L dn:Int} {e:Ex} {k:Nat} {nx:List V} (hk:dn=(k:Int)) (he:Nv e): ∀(n x:Nat) (es:List Ex) (row:List Int),L=((x+n:Nat):Int)→x+n≤10→Es es→k<es.length→es.getD k aP=e→row.length=x→
  (∀p,nq e n x es row=some p→Loop (oA CC L) (((x:Nat):Int),L,dn,eS es,(row.map fun n=>V.int .i64 n)++List.replicate n (.int .i64 0),es.map enc,nx)=some (.inr (L,false,L,dn,eS p.1,(p.2.map fun n=>V.int .i64 n),p.1.map enc,nx)))
  ∧(nq e n x es row=none→∃y,Loop (oA CC L) (((x:Nat):Int),L,dn,eS es,(row.map fun n=>V.int .i64 n)++List.replicate n (.int .i64 0),es.map enc,nx)=some (.inl (3,y)))
 | 0,x,es,row,hL,hx,nW,hU,tz,hr=>by
  refine ⟨fun p hp=> ?_,fun hp=>by simp[nq] at hp⟩
  cases hp
  refine bd ?_
  simp only[oA,sG,un]
  rw[aB,ai (by omega),bZ (by omega),show L=((x:Nat):Int) by omega]
  simp
 | n+1,x,es,row,hL,hx,nW,hU,tz,hr=>by
  subst hk
  have aO:decide ((x:Int)<L)=true:=c7 (by omega)
  have cq:(es.map enc)[k]? =some e.enc:=by
   rw[fH,bx hU,←tz,fV,bx hU];rfl
  have hb:=afD he (x:Int)
  have ago:xP (aK (cl x e))=match qU e x with|some d=>(d,0)|none=>(aP,3):=by
   unfold xP qU;split<;>rfl
  rw[ago] at hb
  have F6:x=(row.map fun n=>V.int .i64 n).length:=by simp[hr]
  rw[nq]
  cases b9:qU e x with
  | none=>
   rw[b9] at hb
   refine ⟨fun p hp=>(by cases hp),fun _=>⟨(L,(k:Int),eS es,es.map enc,nx),bd ?_⟩⟩
   ·simp only[oA,sG,un]
    refine bT aO ((sA cq).trans ?_)
    rw[bn,bp,bq]
    refine bs hb ?_
    exact bT rfl rfl
  | some d=>
   rw[b9] at hb
   have hd:=(Tx he b9).1
   have LH:kV (.str d.text) (eS es)=decide (d∈es):=by
    unfold eS
    rw[Ud LC,yi]
    exact LD nW.nv hd
   simp only[Option.bind_some]
   by_cases hm:d∈es
   ·rw[aj hm]
    have V3:es.idxOf d<es.length:=List.idxOf_lt_length_iff.2 hm
    obtain ⟨i1,i2⟩:=LG (L:=L) (e:=e) (k:=k) (nx:=nx) rfl he n (x+1) es (row++[(es.idxOf d:Int)]) (by omega) (by omega) nW hU tz (by simp[hr])
    have dD:oA CC L (((x:Nat):Int),L,(k:Int),eS es,(row.map fun n=>V.int .i64 n)++List.replicate (n+1) (.int .i64 0),es.map enc,nx)=some (.inl (((x+1:Nat):Int),L,(k:Int),eS es,((row++[(es.idxOf d:Int)]).map fun n=>V.int .i64 n)++List.replicate n (.int .i64 0),es.map enc,nx)):=by
     simp only[oA,sG,un]
     refine bT aO ((sA cq).trans ?_)
     rw[bn,bp,bq]
     refine bs hb (bF rfl (bs (F4 hd) (bT (F3 hd.2) ?_)))
     refine bF (by rw[V.aR,V.DU,LH,c7 hm];rfl) ?_
     refine (sB F6).trans ?_
     rw[Int.toNat_natCast,sC F6,mq (by omega),V.aR,V.DU]
     have hg:lJ (.str d.text) (eS es) (.int .i64 0)= .int .i64 (es.idxOf d:Int):=by
      unfold eS
      rw[Ue LC _ _ _ _ ((LD nW.nv hd).2 hm),Um fun x hx=>TU (nW.nv x hx).1.2 hd.1.2,fS]
     rw[hg,V.toInt_int,fU]
     rfl
    exact ⟨fun p hp=>(bR dD).trans (i1 p hp),fun hp=>by obtain ⟨y,hy⟩:=i2 hp;exact ⟨y,(bR dD).trans hy⟩⟩
   ·rw[ai hm]
    by_cases F7:es.length=512
    ·rw[aj F7]
     refine ⟨fun p hp=>(by cases hp),fun _=>⟨(L,(k:Int),eS es,es.map enc,nx),bd ?_⟩⟩
     ·simp only[oA,sG,un]
      refine bT aO ((sA cq).trans ?_)
      rw[bn,bp,bq]
      refine bs hb (bF rfl (bs (F4 hd) (bT (F3 hd.2) ?_)))
      refine bT (by rw[V.aR,V.DU,LH,bZ hm];rfl) ?_
      exact bT (by rw[ba,F7];rfl) rfl
    ·rw[ai F7]
     have hl:=nW.le
     obtain ⟨i1,i2⟩:=LG (L:=L) (e:=e) (k:=k) (nx:=nx) rfl he n (x+1) (es++[d]) (row++[(es.length:Int)]) (by omega) (by omega) (nW.snoc hd hm F7) (by simp;omega) (by rw[FT hU,tz]) (by simp[hr])
     have dD:oA CC L (((x:Nat):Int),L,(k:Int),eS es,(row.map fun n=>V.int .i64 n)++List.replicate (n+1) (.int .i64 0),es.map enc,nx)=some (.inl (((x+1:Nat):Int),L,(k:Int),eS (es++[d]),((row++[(es.length:Int)]).map fun n=>V.int .i64 n)++List.replicate n (.int .i64 0),(es++[d]).map enc,nx)):=by
      simp only[oA,sG,un]
      refine bT aO ((sA cq).trans ?_)
      rw[bn,bp,bq]
      refine bs hb (bF rfl (bs (F4 hd) (bT (F3 hd.2) ?_)))
      refine bT (by rw[V.aR,V.DU,LH,bZ hm];rfl) ?_
      refine bF (by rw[ba,oF];omega) ?_
      refine bs (Un nW.nv hd hm (by omega)) ?_
      refine (sB F6).trans ?_
      rw[Int.toNat_natCast,sC F6,mq (by omega),fU (l₁:=row)]
      rfl
     exact ⟨fun p hp=>(bR dD).trans (i1 p hp),fun hp=>by obtain ⟨y,hy⟩:=i2 hp;exact ⟨y,(bR dD).trans hy⟩⟩
theorem LI {s:Dv} (hs:Gs s) (hd:s.dn<s.es.length):
  (∀t,proc s=some t→CC rZ (pA s)=some (.int .i64 0::F5 t))∧(proc s=none→∃l,CC rZ (pA s)=some (.int .i64 3::l)):=by
 have FU:=hs.dn
 have hL:=hs.L
 have hq:s.dn.toNat<s.es.length:=by omega
 have ld:=hs.nl
 have hle:=hs.es.le
 have hN:((s.L.toNat:Nat):Int)=s.L:=by omega
 obtain ⟨l1,l2⟩:=LG (L:=s.L) (dn:=s.dn) (e:=s.es.getD s.dn.toNat aP) (k:=s.dn.toNat) (nx:=s.nx.map dk) (by omega) (hs.es.nv _ (uU hq)) s.L.toNat 0 s.es [] (by omega) (by omega) hs.es hq rfl rfl
 have hf: ∀{r:Option (List V)},((Loop (oA CC s.L) (((0:Nat):Int),s.L,s.dn,eS s.es,List.replicate s.L.toNat (V.int .i64 0),s.es.map enc,s.nx.map dk)).bind (bX (un fun (ph:Int)=>un fun (Bz:Int)=>un fun (BA:Int)=>un fun (BB:List V)=>un fun (uV:List V) (Bt:List V)=>some [V.int .i64 ph,.int .i64 Bz,.int .i64 BA,.list cd BB,.list aa uV,.list aZ Bt]) (un fun (EO:Int)=>un fun (wS:Bool)=>un fun (Lx:Int)=>un fun (Ly:Int)=>un fun (LA:List V)=>un fun (BC:List V)=>un fun (LB:List V) (BD:List V)=>bif Nat.ble ((BD.length+([.list jc BC]:List V).length)*24) cI then some [.int .i64 0,.int .i64 Lx,.int .i64 (IntKind.wrap .i64 (Ly+1)),.list cd LA,.list aa LB,.list aZ (BD++([.list jc BC]:List V))] else none)))=r→CC rZ (pA s)=r:=fun h=>by
  refine agk ?_
  unfold Ul
  refine bT ?_ ?_
  ·refine u6.2 ⟨c7 (by omega),u6.2 ⟨c7 (by omega),?_⟩⟩
   rw[dN,qE];omega
  ·rw[sM,hN]
   exact h
 refine ⟨fun t ht=>hf ?_,fun ht=> ?_⟩
 ·obtain ⟨p,hp,rfl⟩:=Tz ht
  refine bs (l1 p hp) ?_
  simp only[bX,un]
  refine bT (by rw[dN,qE];simp;omega) ?_
  rw[wrap64 (by omega) (by omega)]
  unfold F5
  simp only[fU]
  rfl
 ·have hr:nq (s.es.getD s.dn.toNat aP) s.L.toNat 0 s.es []=none:=by
   unfold proc at ht
   rwa [Option.map_eq_none_iff] at ht
  obtain ⟨y,hy⟩:=l2 hr
  exact ⟨_,hf (bs hy rfl)⟩
end Go.AM
set_option maxRecDepth 100000
namespace Go.AM
open Go.Proofs
noncomputable abbrev Uo:Code:=cL Try.prog (ax.aX 44)
noncomputable def BE (C:ag) (t22 Up Uq:Int) (bz:List V) (Bc Bd lA lB:Int) (F8 FK Ur Us:List V) (t23:Int) (BF:List V) {β:Type} (kn:(Int × (List V))→Option β) (kr:(Int × Bool × (List V))→Option β):Option β:=
 bif decide ((t23:Int)<t22) then
  bif (decide (0≤t23))&&(decide (t23<(F8.length:Int))) then
  (F8[(t23:Int).toNat]?).bind fun x1=>
  (C j6 [.int .i64 ((x1.cell 0).toInt),.int .i64 ((x1.cell 1).toInt),.list aa ((x1.cell 2).toList)]).bind fun r2=>
  bif Nat.ble ((BF.length+([.bool ((V.nth r2 0).toBool)]:List V).length)*1) cI then
   kn (IntKind.wrap .i64 (t23+1),BF++([.bool ((V.nth r2 0).toBool)]:List V))
  else none
  else none
 else
  kr (t23,decide ((t23:Int)<t22),BF)
noncomputable def F9 (C:ag) (t22 Up Uq:Int) (bz:List V) (Bc Bd lA lB:Int) (F8 FK Ur Us:List V):(Int × (List V))→Option ((Int × (List V)) ⊕ (Int × Bool × (List V))):=un fun t23 BF=>BE C t22 Up Uq bz Bc Bd lA lB F8 FK Ur Us t23 BF (fun y=>some (.inl y)) (fun r=>some (.inr r))
noncomputable def Ut (C:ag):cB:=fun β n ds k=>
 bif Nat.beq n 49 then cj I7 [false,true,false,false,false,false,false,false,false,false,false,false,false,true] [[1,0,0,3,4,5,6,7,8,9,10,11,12,13,0]] (@BE C) ds k else
 none
abbrev agp (C:ag) (b:cx):Prop:=cy Try.prog ax C (Ut C) 44 (cP Try.prog (ax.aX 44)) (ax.sin 44).a8.length b
theorem agq (C:ag):agp C (.loop (aw [1,1,0,1,0,0] Uo)):=
 cr I7 [false,true,false,false,false,false,false,false,false,false,false,false,false,true] [[1,0,0,3,4,5,6,7,8,9,10,11,12,13,0]] (@BE C) (by kernel_rfl) (bh (bs:=[]) (by kernel_rfl) av) (fun ds=>by kernel_rfl) (fun i x=>by kernel_rfl) (fun i x β k=>by kernel_rfl) (fun β ds k=>by kernel_rfl)
noncomputable def Uu (C:ag) (bQ bY:Int) (bC cN bz:List V):Option (List V):=
 (Loop (F9 C (bC.length:Int) bQ bY bz 0 0 bQ 0 bC cN ([]:List V) ([]:List V)) (0,([]:List V))).bind (un fun (je:Int)=>un fun (jf:Bool) (b_5:List V)=>
  some [.int .i64 bQ,.int .i64 0,.int .i64 bQ,.int .i64 bY,.list cd bz,.list eM b_5,.list aZ cN,.list aa bC])
theorem agr {bQ bY:Int} {bC cN bz:List V} {r:Option (List V)} (h:Uu CC bQ bY bC cN bz=r):CC zO [.int .i64 bQ,.int .i64 bY,.list aa bC,.list aZ cN,.list cd bz]=r:=
 aY (key:=44) (L:=Ut CC) (bs:=[.loop (aw [1,1,0,1,0,0] Uo)]) (by kernel_rfl) (bG (agq CC) av) (aW (by kernel_rfl) h)
noncomputable abbrev Uv:Code:=cL Try.prog (ax.aX 14)
noncomputable def xR (C:ag) (kL kM:Int) (cN bz:List V) (bQ bY:Int) (ic ew gO:List V) {β:Type} (kn:(Int × Int × (List V) × (List V) × (List V))→Option β) (kr:((Int × Int × Int × (List V) × (List V)) ⊕ (Bool × Int × Int × (List V) × (List V) × (List V)))→Option β):Option β:=
 (C rY [.int .i64 bQ,.int .i64 bY,.list aa ic,.list aZ ew,.list cd gO]).bind fun r4=>
 bif !((V.nth r4 0).toBool) then
  (C rZ [.int .i64 ((V.nth (r4.drop 1) 0).toInt),.int .i64 ((V.nth ((r4.drop 1).drop 1) 0).toInt),.list aa ((V.nth (((r4.drop 1).drop 2).drop 1) 0).toList),.list aZ ((V.nth ((((r4.drop 1).drop 2).drop 1).drop 1) 0).toList),.list cd ((V.nth ((r4.drop 1).drop 2) 0).toList)]).bind fun r5=>
  bif (((V.nth r5 0).toInt):Int) != 0 then
  kr (.inl ((V.nth r5 0).toInt,0,0,([]:List V),([]:List V)))
  else
  kn ((V.nth (r5.drop 1) 0).toInt,(V.nth ((r5.drop 1).drop 1) 0).toInt,(V.nth (((r5.drop 1).drop 2).drop 1) 0).toList,(V.nth ((((r5.drop 1).drop 2).drop 1).drop 1) 0).toList,(V.nth ((r5.drop 1).drop 2) 0).toList)
 else
  kr (.inr (!((V.nth r4 0).toBool),(V.nth (r4.drop 1) 0).toInt,(V.nth ((r4.drop 1).drop 1) 0).toInt,(V.nth (((r4.drop 1).drop 2).drop 1) 0).toList,(V.nth ((((r4.drop 1).drop 2).drop 1).drop 1) 0).toList,(V.nth ((r4.drop 1).drop 2) 0).toList))
noncomputable def uY (C:ag) (kL kM:Int) (cN bz:List V):(Int × Int × (List V) × (List V) × (List V))→Option ((Int × Int × (List V) × (List V) × (List V)) ⊕ ((Int × Int × Int × (List V) × (List V)) ⊕ (Bool × Int × Int × (List V) × (List V) × (List V)))):=un fun bQ=>un fun bY=>un fun ic=>un fun ew gO=>xR C kL kM cN bz bQ bY ic ew gO (fun y=>some (.inl y)) (fun r=>some (.inr r))
noncomputable def Uw (C:ag):cB:=fun β n ds k=>
 bif Nat.beq n 81 then cj IW [false,false,true,true,false,false,true,true,true] [[0,0,0,0,0],[0,1,2,0,0,5,6,0,0,0]] (@xR C) ds k else
 none
abbrev ags (C:ag) (b:cx):Prop:=cy Try.prog ax C (Uw C) 14 (cP Try.prog (ax.aX 14)) (ax.sin 14).a8.length b
theorem agt (C:ag):ags C (.loop (aw [1,1,1,0,0,0] Uv)):=
 cr IW [false,false,true,true,false,false,true,true,true] [[0,0,0,0,0],[0,1,2,0,0,5,6,0,0,0]] (@xR C) (by kernel_rfl) (bh (bs:=[]) (by kernel_rfl) av) (fun ds=>by kernel_rfl) (fun i x=>by kernel_rfl) (fun i x β k=>by kernel_rfl) (fun β ds k=>by kernel_rfl)
noncomputable def Ux (C:ag) (ah ar:Int) (af:List V) (letters:Int):Option (List V):=
 (C rX [.int .i64 ah,.int .i64 ar,.list aa af,.int .i64 letters]).bind fun r1=>
 bif (((V.nth r1 0).toInt):Int) != 0 then
  some [.int .i64 0,.int .i64 0,.int .i64 ((V.nth r1 0).toInt),.list eM ([]:List V),.list aZ ([]:List V)]
 else
  (C wz [.int .i64 ah,.int .i64 ar,.list aa af]).bind fun r2=>
  (C wv [.int .i64 ((V.nth r2 0).toInt),.int .i64 ((V.nth (r2.drop 1) 0).toInt),.list aa ((V.nth ((r2.drop 1).drop 1) 0).toList),.int .i64 letters]).bind fun r3=>
  (Loop (uY C 0 0 ([]:List V) ([]:List V)) ((V.nth r3 0).toInt,(V.nth (r3.drop 1) 0).toInt,(V.nth (r3.drop 2) 0).toList,(V.nth ((r3.drop 2).drop 1) 0).toList,(V.nth (((r3.drop 2).drop 1).drop 1) 0).toList)).bind (bX (un fun (oo:Int)=>un fun (agu:Int)=>un fun (agv:Int)=>un fun (BA:List V) (BB:List V)=>
   some [.int .i64 agu,.int .i64 agv,.int .i64 oo,.list eM BA,.list aZ BB]) (un fun (EN:Bool)=>un fun (uZ:Int)=>un fun (agw:Int)=>un fun (qW:List V)=>un fun (sF:List V) (agx:List V)=>
   (C zO [.int .i64 uZ,.int .i64 agw,.list aa qW,.list aZ sF,.list cd agx]).bind fun dU=>
   some [.int .i64 ((V.nth dU 0).toInt),.int .i64 ((V.nth (dU.drop 1) 0).toInt),.int .i64 0,.list eM ((V.nth (((dU.drop 2).drop 2).drop 1) 0).toList),.list aZ ((V.nth ((((dU.drop 2).drop 2).drop 1).drop 1) 0).toList)]))
theorem agy {ah ar:Int} {af:List V} {letters:Int} {r:Option (List V)} (h:Ux CC ah ar af letters=r):CC zN [.int .i64 ah,.int .i64 ar,.list aa af,.int .i64 letters]=r:=
 aY (key:=14) (L:=Uw CC) (bs:=[.loop (aw [1,1,1,0,0,0] Uv)]) (by kernel_rfl) (bG (agt CC) av) (aW (by kernel_rfl) h)
end Go.AM
set_option maxRecDepth 100000
namespace Go.AM
open Go.Proofs Ex
abbrev qX (d:Dv) (l:List V):List V:= .int .i64 d.L:: .list aa (d.es.map enc):: .list aZ (d.nx.map dk):: .int .i64 d.dn::l
structure Dv.Ok (d:Dv):Prop where
 es: ∀e∈d.es,e.Ok
 el:d.es.length≤maxLen
 nl:d.nx.length≤maxLen
 rl: ∀r∈d.nx,r.length≤maxLen
theorem agz {α:Type} {a b:List α} {z:α} (hl:a.length=b.length) (h: ∀i,i<a.length→a.getD i z=b.getD i z):a=b:=by
 refine List.ext_getElem hl fun i h1 U=> ?_
 have:=h i h1
 rw[fV,fV,bx h1,bx U] at this
 exact this
theorem xS {α:Type} {a b:List α} {z:α} (hl:a.length=b.length):(∀i,i<a.length→a.getD i z=b.getD i z)↔a=b:=
 ⟨agz hl,fun h=>by rw[h];exact fun _ _=>rfl⟩
theorem pB {α:Type} {f:α→V} {l:List α} {z:α} {i:Nat} (h:i<l.length):idx (l.map f) (i:Int)=some (f (l.getD i z)):=by
 rw[YU rfl,fH,bx h,fV,bx h];rfl
theorem Ga {s:Dv} (hs:Gs s):s.Ok:=by
 have h1:=hs.es.le
 have U:=hs.nl
 have h3:=hs.dn
 have h4:=hs.L
 refine ⟨fun e he=>qI (by omega) e (hs.es.nv e he).1.2 (by have:=m7 (hs.es.nv e he).2;omega),by unfold maxLen;omega,by unfold maxLen;omega,fun r hr=> ?_⟩
 obtain ⟨q,hq,rfl⟩:=BY hr
 have:=(hs.row q (by omega)).1
 rw[fV,bx hq,Option.getD_some] at this
 rw[this];unfold maxLen;omega
abbrev jH (s:Dv):Int × Int × List V × List V × List V:=(s.L,s.dn,s.es.map enc,s.nx.map dk,eS s.es)
abbrev Uy (p:Dv × Int):List V:=[.int .i64 p.1.L,.int .i64 p.1.dn,.int .i64 p.2,.list aa (p.1.es.map enc),.list aZ (p.1.nx.map dk)]
theorem Uz {e:Ex} {L:Int} (h:e.val L=0):Nv (aK e):=⟨lr e (m7 (uT h)).2.2,FR (uT h)⟩
structure Fa where
 L:Int
 F:List Bool
 N:List (List Int)
abbrev UA (p:Fa × Int):List V:=[.int .i64 p.1.L,.int .i64 0,.int .i64 p.2,.list eM (p.1.F.map V.bool),.list aZ (p.1.N.map dk)]
def Fa.zero:Fa:=⟨0,[],[]⟩
def LJ (d:Dv):Fa:=⟨d.L,d.es.map Ex.c6,d.nx⟩
theorem agA {es:List Ex} (hn:es.length≤1000) (ho: ∀e∈es,Nv e) {a b c1 c2 c3 c4:Int} {l1 l2 l3 l4:List V}: ∀(aN pre:List Ex),es=pre++aN→
  Loop (F9 CC (es.length:Int) a b l1 c1 c2 c3 c4 (es.map enc) l2 l3 l4) (((pre.length:Nat):Int),(pre.map Ex.c6).map V.bool)=some ((es.length:Int),false,(es.map Ex.c6).map V.bool):=by
 intro aN
 induction aN with
 | nil=>
  intro pre e
  rw[dH] at e
  subst e
  refine bd ?_
  simp only[F9,BE,un]
  rw[aB,ai (by omega),bZ (by omega)]
 | cons k aN gh=>
  intro pre e
  have b7:pre.length<es.length:=by rw[e];simp
  have hk:k∈es:=by rw[e];simp
  have cq:(es.map enc)[pre.length]? =some k.enc:=by rw[e];simp
  have hv:=m7 (ho k hk).2
  refine (bR ?_).trans (gh (pre++[k]) (by simp[e]))
  simp only[F9,BE,un]
  refine bT (oz b7) ((sA cq).trans ?_)
  rw[bn,bp,bq]
  refine bs (abI (letters:=6) k (qI (by omega) k hv.2.2 (by omega)) hv.2.2) ?_
  refine bT (by rw[dN,qE];simp;omega) ?_
  rw[mq (by omega)]
  simp only[fU,cO,gy,cv,List.length_cons,List.length_nil]
  rfl
theorem UB {s:Dv} (hs:Gs s): ∃l,CC zO (pA s)=some l∧(V.nth l 0).toInt=s.L∧(V.nth (l.drop 1) 0).toInt=0∧(V.nth (((l.drop 2).drop 2).drop 1) 0).toList=(s.es.map Ex.c6).map V.bool∧(V.nth ((((l.drop 2).drop 2).drop 1).drop 1) 0).toList=s.nx.map dk:=by
 have hl:=hs.es.le
 refine ⟨[.int .i64 s.L,.int .i64 0,.int .i64 s.L,.int .i64 s.dn,.list cd (eS s.es),.list eM ((s.es.map Ex.c6).map V.bool),.list aZ (s.nx.map dk),.list aa (s.es.map enc)],agr ?_,?_⟩
 ·unfold Uu
  rw[ba]
  refine bs (agA (by omega) hs.es.nv s.es [] rfl) ?_
  simp only[un]
 ·exact ⟨rfl,rfl,rfl,rfl⟩
def xT (e:Ex) (L:Int):Fa × Int:=if e.val L=0 then (match ey 513 (ez e L) with|some t=>(LJ t,0)|none=>(.zero,3)) else (.zero,e.val L)
theorem UC {a b:Int} {l1 l2:List V}: ∀(n:Nat) (s:Dv),Gs s→513≤s.dn+n→
  (∀t,ey n s=some t→Loop (uY CC a b l1 l2) (jH s)=some (.inr (false,t.L,t.dn,t.es.map enc,t.nx.map dk,eS t.es)))∧(ey n s=none→Loop (uY CC a b l1 l2) (jH s)=some (.inl (3,0,0,[],[])))
 | 0,s,hs,hn=>by have:=hs.dn;have:=hs.es.le;omega
 | n+1,s,hs,hn=>by
  rw[ey]
  have FU:=hs.dn
  by_cases hd:s.dn<s.es.length
  ·rw[aj hd]
   obtain ⟨p1,p2⟩:=LI hs hd
   have hf:(!(s.dn==(s.es.length:Int)))=true:=by rw[ki,oF];omega
   cases hp:proc s with
   | none=>
    obtain ⟨l,hl⟩:=p2 hp
    refine ⟨fun t ht=>(by cases ht),fun _=>bd ?_⟩
    simp only[uY,xR,un]
    refine bs (oB s) (bT hf ?_)
    refine bs hl ?_
    rfl
   | some u=>
    obtain ⟨g,_,g2,_⟩:=Bl hs hd hp
    obtain ⟨i1,i2⟩:=UC (a:=a) (b:=b) (l1:=l1) (l2:=l2) n u g (by omega)
    have dD:uY CC a b l1 l2 (jH s)=some (.inl (jH u)):=by
     simp only[uY,xR,un]
     refine bs (oB s) (bT hf ?_)
     refine bs (p1 u hp) ?_
     rfl
    exact ⟨fun t ht=>(bR dD).trans (i1 t ht),fun ht=>(bR dD).trans (i2 ht)⟩
  ·rw[ai hd]
   refine ⟨fun t ht=> ?_,fun ht=>(by cases ht)⟩
   cases ht
   refine bd ?_
   have hf:(!(s.dn==(s.es.length:Int)))=false:=by rw[B1,nB];omega
   simp only[uY,xR,un]
   refine bs (oB s) (bF hf ?_)
   exact congrArg (fun b=>some (Sum.inr (Sum.inr (b,s.L,s.dn,s.es.map enc,s.nx.map dk,eS s.es)))) hf
theorem UD {e:Ex} (h:e.Ok) (L:Int):CC zN (bW e [.int .i64 L])=some (UA (xT e L)):=by
 refine agy ?_
 unfold Ux xT
 refine bs (uj e h L) ?_
 by_cases hv:e.val L=0
 ·rw[aj hv]
  refine bF (by rw[V.aR,V.toInt_int,hv];rfl) ?_
  have hN:=K5 e h
  rw[aj (uT hv)] at hN
  refine bs hN (bs (LF (L:=L) (Uz hv)) ?_)
  obtain ⟨l1,l2⟩:=UC (a:=0) (b:=0) (l1:=[]) (l2:=[]) 513 (ez e L) (xO hv) (by show 513≤(0:Int)+_;omega)
  cases hp:ey 513 (ez e L) with
  | none=>exact bs (l2 hp) rfl
  | some t=>
   refine bs (l1 t hp) ?_
   obtain ⟨l,a1,a2,a3,a4,a5⟩:=UB (xN 513 _ _ (xO hv) hp).1
   refine bs a1 ?_
   rw[a2,a3,a4,a5]
   rfl
 ·rw[ai hv]
  refine bT ?_ rfl
  rw[V.aR,V.toInt_int,u7];exact hv
end Go.AM
set_option maxRecDepth 100000
namespace Go.AM
open Go.Proofs
noncomputable def UE (C:ag) (ah ar:Int) (af:List V) (letters:Int):Option (List V):=
 (C rX [.int .i64 ah,.int .i64 ar,.list aa af,.int .i64 letters]).bind fun r1=>
 bif (((V.nth r1 0).toInt):Int) != 0 then
  some [.int .i64 0,.int .i64 0,.int .i64 ((V.nth r1 0).toInt),.list aa ([]:List V),.list aZ ([]:List V)]
 else
  (C wz [.int .i64 ah,.int .i64 ar,.list aa af]).bind fun r2=>
  (C wv [.int .i64 ((V.nth r2 0).toInt),.int .i64 ((V.nth (r2.drop 1) 0).toInt),.list aa ((V.nth ((r2.drop 1).drop 1) 0).toList),.int .i64 letters]).bind fun r3=>
  some [.int .i64 ((V.nth r3 0).toInt),.int .i64 ((V.nth (r3.drop 1) 0).toInt),.int .i64 0,.list aa ((V.nth (r3.drop 2) 0).toList),.list aZ ((V.nth ((r3.drop 2).drop 1) 0).toList)]
theorem agB {ah ar:Int} {af:List V} {letters:Int} {r:Option (List V)} (h:UE CC ah ar af letters=r):CC D3 [.int .i64 ah,.int .i64 ar,.list aa af,.int .i64 letters]=r:=
 aY (key:=21) (L:=cb) (bs:=[]) (by kernel_rfl) av (aW (by kernel_rfl) h)
end Go.AM
set_option maxRecDepth 100000
namespace Go.AM
open Go.Proofs Ex
def LL (e:Ex) (L:Int):Dv × Int:=if e.val L=0 then (ez e L,0) else (.zero,e.val L)
theorem agC {e:Ex} (h:e.Ok) (L:Int):CC D3 (bW e [.int .i64 L])=some (Uy (LL e L)):=by
 refine agB ?_
 unfold UE LL
 refine bs (uj e h L) ?_
 by_cases hv:e.val L=0
 ·rw[aj hv]
  refine bF (by rw[V.aR,V.toInt_int,hv];rfl) ?_
  have hN:=K5 e h
  rw[aj (uT hv)] at hN
  refine bs hN (bs (LF (L:=L) (Uz hv)) ?_)
  rfl
 ·rw[ai hv]
  refine bT ?_ rfl
  rw[V.aR,V.toInt_int,u7];exact hv
def LM (d:Dv):Fa × Int:=if nt d=true then (if d.dn<d.es.length then (.zero,7) else (LJ d,0)) else (.zero,8)
end Go.AM
set_option maxRecDepth 100000
namespace Go.AM
open Go.Proofs
noncomputable def UF (C:ag) (bL:Int) (bK ed:List V) (eB bQ bY:Int) (bC cN bz:List V):Option (List V):=
 bif (bQ:Int)==bL then
  bif (bY:Int)==eB then
  (C Ei [.list aa bC,.list aa bK]).bind fun r1=>
  bif (V.nth r1 0).toBool then
   (C Ej [.list aZ cN,.list aZ ed]).bind fun r2=>
   some [.bool ((V.nth r2 0).toBool),.int .i64 bQ,.int .i64 bY,.list cd bz,.list aa bC,.list aZ cN]
  else
   some [.bool false,.int .i64 bQ,.int .i64 bY,.list cd bz,.list aa bC,.list aZ cN]
  else
  some [.bool false,.int .i64 bQ,.int .i64 bY,.list cd bz,.list aa bC,.list aZ cN]
 else
  some [.bool false,.int .i64 bQ,.int .i64 bY,.list cd bz,.list aa bC,.list aZ cN]
theorem agD {bL:Int} {bK ed:List V} {eB bQ bY:Int} {bC cN bz:List V} {r:Option (List V)} (h:UF CC bL bK ed eB bQ bY bC cN bz=r):CC zR [.int .i64 bL,.list aa bK,.list aZ ed,.int .i64 eB,.int .i64 bQ,.int .i64 bY,.list aa bC,.list aZ cN,.list cd bz]=r:=
 aY (key:=73) (L:=cb) (bs:=[]) (by kernel_rfl) av (aW (by kernel_rfl) h)
noncomputable def UG (C:ag) (gj gk:Int) (gl:List V) (gm gn:Int) (gM:List V):Option (List V):=
 (C a9 [.int .i64 gj,.int .i64 gk,.list aa gl,.int .i64 gm,.int .i64 gn,.list aa gM]).bind fun r1=>
 some [.bool ((((V.nth r1 0).toInt):Int)==0)]
theorem agE {gj gk:Int} {gl:List V} {gm gn:Int} {gM:List V} {r:Option (List V)} (h:UG CC gj gk gl gm gn gM=r):CC tX [.int .i64 gj,.int .i64 gk,.list aa gl,.int .i64 gm,.int .i64 gn,.list aa gM]=r:=
 aY (key:=86) (L:=cb) (bs:=[]) (by kernel_rfl) av (aW (by kernel_rfl) h)
noncomputable abbrev UH:Code:=cL Try.prog (ax.aX 54)
noncomputable def sH (C:ag) (lA:Int) (lB UI:List V) (Gb bQ bY:Int) (cN bz ic:List V) {β:Type} (kn:(Int × Int × (List V) × (List V) × (List V))→Option β) (kr:((Unit) ⊕ (Bool × Int × Int × (List V) × (List V) × (List V)))→Option β):Option β:=
 bif decide ((bY:Int)<Gb) then
  (C rY [.int .i64 bQ,.int .i64 bY,.list aa cN,.list aZ bz,.list cd ic]).bind fun r8=>
  bif (V.nth r8 0).toBool then
  kr (.inl ())
  else
  (C rZ [.int .i64 ((V.nth (r8.drop 1) 0).toInt),.int .i64 ((V.nth ((r8.drop 1).drop 1) 0).toInt),.list aa ((V.nth (((r8.drop 1).drop 2).drop 1) 0).toList),.list aZ ((V.nth ((((r8.drop 1).drop 2).drop 1).drop 1) 0).toList),.list cd ((V.nth ((r8.drop 1).drop 2) 0).toList)]).bind fun r9=>
  bif (((V.nth r9 0).toInt):Int) != 0 then
   kr (.inl ())
  else
   kn ((V.nth (r9.drop 1) 0).toInt,(V.nth ((r9.drop 1).drop 1) 0).toInt,(V.nth (((r9.drop 1).drop 2).drop 1) 0).toList,(V.nth ((((r9.drop 1).drop 2).drop 1).drop 1) 0).toList,(V.nth ((r9.drop 1).drop 2) 0).toList)
 else
  kr (.inr (decide ((bY:Int)<Gb),bQ,bY,cN,bz,ic))
noncomputable def oC (C:ag) (lA:Int) (lB UI:List V) (Gb:Int):(Int × Int × (List V) × (List V) × (List V))→Option ((Int × Int × (List V) × (List V) × (List V)) ⊕ ((Unit) ⊕ (Bool × Int × Int × (List V) × (List V) × (List V)))):=un fun bQ=>un fun bY=>un fun cN=>un fun bz ic=>sH C lA lB UI Gb bQ bY cN bz ic (fun y=>some (.inl y)) (fun r=>some (.inr r))
noncomputable def UJ (C:ag):cB:=fun β n ds k=>
 bif Nat.beq n 113 then cj I9 [false,false,false,false,true,true,true,true,true] [[],[0,1,2,3,4,0,0,0,0,0]] (@sH C) ds k else
 none
abbrev agF (C:ag) (b:cx):Prop:=cy Try.prog ax C (UJ C) 54 (cP Try.prog (ax.aX 54)) (ax.sin 54).a8.length b
theorem agG (C:ag):agF C (.loop (aw [1,1,1,1,1,0,0,0] UH)):=
 cr I9 [false,false,false,false,true,true,true,true,true] [[],[0,1,2,3,4,0,0,0,0,0]] (@sH C) (by kernel_rfl) (bh (bs:=[]) (by kernel_rfl) av) (fun ds=>by kernel_rfl) (fun i x=>by kernel_rfl) (fun i x β k=>by kernel_rfl) (fun β ds k=>by kernel_rfl)
noncomputable def sI (C:ag) (bL:Int) (bK ed:List V) (eB:Int):Option (List V):=
 bif ((bK.length:Int):Int)==0 then
  some [V.bool true]
 else
  bif decide (((bK.length:Int):Int)>512) then
  some [V.bool true]
  else
  (bK[0]?).bind fun x1=>
  (C rX [.int .i64 ((x1.cell 0).toInt),.int .i64 ((x1.cell 1).toInt),.list aa ((x1.cell 2).toList),.int .i64 bL]).bind fun r2=>
  bif (((V.nth r2 0).toInt):Int) != 0 then
   some [V.bool true]
  else
   (bK[0]?).bind fun x3=>
   (C wz [.int .i64 ((x3.cell 0).toInt),.int .i64 ((x3.cell 1).toInt),.list aa ((x3.cell 2).toList)]).bind fun r4=>
   (bK[0]?).bind fun x5=>
   (C a9 [.int .i64 ((V.nth r4 0).toInt),.int .i64 ((V.nth (r4.drop 1) 0).toInt),.list aa ((V.nth ((r4.drop 1).drop 1) 0).toList),.int .i64 ((x5.cell 0).toInt),.int .i64 ((x5.cell 1).toInt),.list aa ((x5.cell 2).toList)]).bind fun r6=>
   bif (((V.nth r6 0).toInt):Int) != 0 then
   some [V.bool true]
   else
   (C wv [.int .i64 ((V.nth r4 0).toInt),.int .i64 ((V.nth (r4.drop 1) 0).toInt),.list aa ((V.nth ((r4.drop 1).drop 1) 0).toList),.int .i64 bL]).bind fun r7=>
   (Loop (oC C bL bK ed eB) ((V.nth r7 0).toInt,(V.nth (r7.drop 1) 0).toInt,(V.nth (r7.drop 2) 0).toList,(V.nth ((r7.drop 2).drop 1) 0).toList,(V.nth (((r7.drop 2).drop 1).drop 1) 0).toList)).bind (bX (fun _=>
    some [V.bool true]) (un fun (wR:Bool)=>un fun (BG:Int)=>un fun (uZ:Int)=>un fun (uW:List V)=>un fun (qW:List V) (sF:List V)=>
    (C zR [.int .i64 bL,.list aa bK,.list aZ ed,.int .i64 eB,.int .i64 BG,.int .i64 uZ,.list aa uW,.list aZ qW,.list cd sF]).bind fun fF=>
    some [V.bool false,.bool ((V.nth fF 0).toBool),.int .i64 ((V.nth (fF.drop 1) 0).toInt),.int .i64 ((V.nth ((fF.drop 1).drop 1) 0).toInt),.list aa ((V.nth (((fF.drop 1).drop 2).drop 1) 0).toList),.list aZ ((V.nth ((((fF.drop 1).drop 2).drop 1).drop 1) 0).toList),.list cd ((V.nth ((fF.drop 1).drop 2) 0).toList)]))
theorem agH {bL:Int} {bK ed:List V} {eB:Int} {r:Option (List V)} (h:sI CC bL bK ed eB=r):CC o9 [.int .i64 bL,.list aa bK,.list aZ ed,.int .i64 eB]=r:=
 aY (key:=54) (L:=UJ CC) (bs:=[.loop (aw [1,1,1,1,1,0,0,0] UH)]) (by kernel_rfl) (bG (agG CC) av) (aW (by kernel_rfl) h)
noncomputable abbrev UK:Code:=cL Try.prog (ax.aX 87)
noncomputable def BH (C:ag) (s2 t15:List V) (t16 t17:Int) {β:Type} (kn:Int→Option β) (kr:((Bool) ⊕ (Int × Bool))→Option β):Option β:=
 bif decide ((t17:Int)<t16) then
  (idx t15 t17).bind fun x1=>
  (idx s2 t17).bind fun x2=>
  (C tX [.int .i64 ((x1.cell 0).toInt),.int .i64 ((x1.cell 1).toInt),.list aa ((x1.cell 2).toList),.int .i64 ((x2.cell 0).toInt),.int .i64 ((x2.cell 1).toInt),.list aa ((x2.cell 2).toList)]).bind fun r3=>
  bif !((V.nth r3 0).toBool) then
  kr (.inl false)
  else
  kn (IntKind.wrap .i64 (t17+1))
 else
  kr (.inr (t17,decide ((t17:Int)<t16)))
noncomputable def Gc (C:ag) (s2 t15:List V) (t16:Int):(Int)→Option ((Int) ⊕ ((Bool) ⊕ (Int × Bool))):=fun t17=>BH C s2 t15 t16 t17 (fun y=>some (.inl y)) (fun r=>some (.inr r))
noncomputable def UL (C:ag):cB:=fun β n ds k=>
 bif Nat.beq n 65 then cj Jn [false,false,false,true] [[0],[1,2,3,0,0]] (@BH C) ds k else
 none
abbrev agI (C:ag) (b:cx):Prop:=cy Try.prog ax C (UL C) 87 (cP Try.prog (ax.aX 87)) (ax.sin 87).a8.length b
theorem agJ (C:ag):agI C (.loop (aw [1,1,0,1,0,0] UK)):=
 cr Jn [false,false,false,true] [[0],[1,2,3,0,0]] (@BH C) (by kernel_rfl) (bh (bs:=[]) (by kernel_rfl) av) (fun ds=>by kernel_rfl) (fun i x=>by kernel_rfl) (fun i x β k=>by kernel_rfl) (fun β ds k=>by kernel_rfl)
noncomputable def UM (C:ag) (s1 s2:List V):Option (List V):=
 bif ((s1.length:Int):Int) != (s2.length:Int) then
  some [.bool false]
 else
  (Loop (Gc C s2 s1 (s1.length:Int)) 0).bind (bX (fun (jf:Bool)=>
   some [.bool jf]) (un fun (me:Int) (oo:Bool)=>
   some [.bool true]))
theorem agK {s1 s2:List V} {r:Option (List V)} (h:UM CC s1 s2=r):CC Ei [.list aa s1,.list aa s2]=r:=
 aY (key:=87) (L:=UL CC) (bs:=[.loop (aw [1,1,0,1,0,0] UK)]) (by kernel_rfl) (bG (agJ CC) av) (aW (by kernel_rfl) h)
noncomputable abbrev UN:Code:=cL Try.prog (ax.aX 88)
noncomputable def BI (C:ag) (s2 t15:List V) (t16 t17:Int) {β:Type} (kn:Int→Option β) (kr:((Bool) ⊕ (Int × Bool))→Option β):Option β:=
 bif decide ((t17:Int)<t16) then
  (idx t15 t17).bind fun x1=>
  (idx s2 t17).bind fun x2=>
  (C tY [.list jc x1.toList,.list jc x2.toList]).bind fun r3=>
  bif !((V.nth r3 0).toBool) then
  kr (.inl false)
  else
  kn (IntKind.wrap .i64 (t17+1))
 else
  kr (.inr (t17,decide ((t17:Int)<t16)))
noncomputable def Ge (C:ag) (s2 t15:List V) (t16:Int):(Int)→Option ((Int) ⊕ ((Bool) ⊕ (Int × Bool))):=fun t17=>BI C s2 t15 t16 t17 (fun y=>some (.inl y)) (fun r=>some (.inr r))
noncomputable def UO (C:ag):cB:=fun β n ds k=>
 bif Nat.beq n 65 then cj Jo [false,false,false,true] [[0],[1,2,3,0,0]] (@BI C) ds k else
 none
abbrev agL (C:ag) (b:cx):Prop:=cy Try.prog ax C (UO C) 88 (cP Try.prog (ax.aX 88)) (ax.sin 88).a8.length b
theorem agM (C:ag):agL C (.loop (aw [1,1,0,1,0,0] UN)):=
 cr Jo [false,false,false,true] [[0],[1,2,3,0,0]] (@BI C) (by kernel_rfl) (bh (bs:=[]) (by kernel_rfl) av) (fun ds=>by kernel_rfl) (fun i x=>by kernel_rfl) (fun i x β k=>by kernel_rfl) (fun β ds k=>by kernel_rfl)
noncomputable def UP (C:ag) (s1 s2:List V):Option (List V):=
 bif ((s1.length:Int):Int) != (s2.length:Int) then
  some [.bool false]
 else
  (Loop (Ge C s2 s1 (s1.length:Int)) 0).bind (bX (fun (jf:Bool)=>
   some [.bool jf]) (un fun (me:Int) (oo:Bool)=>
   some [.bool true]))
theorem agN {s1 s2:List V} {r:Option (List V)} (h:UP CC s1 s2=r):CC Ej [.list aZ s1,.list aZ s2]=r:=
 aY (key:=88) (L:=UO CC) (bs:=[.loop (aw [1,1,0,1,0,0] UN)]) (by kernel_rfl) (bG (agM CC) av) (aW (by kernel_rfl) h)
noncomputable abbrev UQ:Code:=cL Try.prog (ax.aX 89)
noncomputable def BJ (C:ag) (s1 s2:List V) (t12 t13:Int) {β:Type} (kn:Int→Option β) (kr:((Bool) ⊕ (Int × Bool))→Option β):Option β:=
 bif decide ((t13:Int)<t12) then
  (idx s1 t13).bind fun x1=>
  (idx s2 t13).bind fun x2=>
  bif (x1.toInt:Int) != x2.toInt then
  kr (.inl false)
  else
  kn (IntKind.wrap .i64 (t13+1))
 else
  kr (.inr (t13,decide ((t13:Int)<t12)))
noncomputable def Gf (C:ag) (s1 s2:List V) (t12:Int):(Int)→Option ((Int) ⊕ ((Bool) ⊕ (Int × Bool))):=fun t13=>BJ C s1 s2 t12 t13 (fun y=>some (.inl y)) (fun r=>some (.inr r))
noncomputable def UR (C:ag):cB:=fun β n ds k=>
 bif Nat.beq n 65 then cj Jp [false,false,false,true] [[0],[1,2,3,0,0]] (@BJ C) ds k else
 none
abbrev agO (C:ag) (b:cx):Prop:=cy Try.prog ax C (UR C) 89 (cP Try.prog (ax.aX 89)) (ax.sin 89).a8.length b
theorem agP (C:ag):agO C (.loop (aw [1,1,0,1,0,0] UQ)):=
 cr Jp [false,false,false,true] [[0],[1,2,3,0,0]] (@BJ C) (by kernel_rfl) (bh (bs:=[]) (by kernel_rfl) av) (fun ds=>by kernel_rfl) (fun i x=>by kernel_rfl) (fun i x β k=>by kernel_rfl) (fun β ds k=>by kernel_rfl)
noncomputable def US (C:ag) (s1 s2:List V):Option (List V):=
 bif ((s1.length:Int):Int) != (s2.length:Int) then
  some [.bool false]
 else
  (Loop (Gf C s1 s2 (s1.length:Int)) 0).bind (bX (fun (je:Bool)=>
   some [.bool je]) (un fun (jf:Int) (me:Bool)=>
   some [.bool true]))
theorem agQ {s1 s2:List V} {r:Option (List V)} (h:US CC s1 s2=r):CC tY [.list jc s1,.list jc s2]=r:=
 aY (key:=89) (L:=UR CC) (bs:=[.loop (aw [1,1,0,1,0,0] UQ)]) (by kernel_rfl) (bG (agP CC) av) (aW (by kernel_rfl) h)
end Go.AM
set_option maxRecDepth 100000
namespace Go.AM
open Go.Proofs Ex
theorem agR (a:Ex) (ha:a.Ok) (b:Ex) (hb:b.Ok):CC tX (bW a (bW b []))=some [.bool (decide (a=b))]:=by
 refine agE ?_
 unfold UG
 refine bs (ES a ha b hb) ?_
 rw[V.aR,V.toInt_int,show (cmp a b==0)=decide (a=b) from nD.2 (by rw[nB,dF];exact EU)]
theorem agS {a b:List Ex} (ha: ∀e∈a,e.Ok) (hb: ∀e∈b,e.Ok) (hl:a.length≤maxLen):CC Ei [.list aa (a.map enc),.list aa (b.map enc)]=some [.bool (decide (a=b))]:=by
 have hm:=oj
 refine agK ?_
 unfold UM
 by_cases he:a.length=b.length
 ·refine bF (by simp[he]) ?_
  have loop:Loop (Gc CC (b.map enc) (a.map enc) ((a.map enc).length:Int)) 0=some (if∀i,i<a.length→a.getD i aP=b.getD i aP then .inr ((a.length:Int),false) else .inl false):=by
   refine J7 (good:=fun i=>a.getD i aP=b.getD i aP) a.length (fun i=>(i:Int)) (Sum.inl false:Bool ⊕ (Int × Bool)) (Sum.inr ((a.length:Int),false)) (fun i hi=> ?_) ?_
   ·simp only[Gc,BH,ba]
    refine bT (oz hi) (bs (pB (z:=aP) hi) (bs (pB (z:=aP) (by omega)) ?_))
    rw[bn,bp,bq,bn,bp,bq]
    refine bs (agR _ (ha _ (uU hi)) _ (hb _ (uU (by omega)))) ?_
    by_cases h:a.getD i aP=b.getD i aP
    ·rw[aj h]
     refine bF (by rw[V.aR,V.dy,c7 h];rfl) ?_
     rw[wrap64 (by omega) (by omega)]
     rfl
    ·rw[ai h]
     exact bT (by rw[V.aR,V.dy,bZ h];rfl) rfl
   ·simp only[Gc,BH,ba]
    rw[aB,ai (by omega),bZ (by omega)]
  refine bs loop ?_
  by_cases h:a=b
  ·rw[aj ((xS he).2 h),c7 h];rfl
  ·rw[ai fun hx=>h ((xS he).1 hx),bZ h];rfl
 ·rw[bZ fun h=>he (by rw[h])]
  exact bT (by simp;omega) rfl
theorem agT {a b:List Int} (hl:a.length≤maxLen):CC tY [dk a,dk b]=some [.bool (decide (a=b))]:=by
 have hm:=oj
 refine agQ ?_
 unfold US
 by_cases he:a.length=b.length
 ·refine bF (by simp[he]) ?_
  have loop:Loop (Gf CC (a.map fun n=>V.int .i64 n) (b.map fun n=>V.int .i64 n) ((a.map fun n=>V.int .i64 n).length:Int)) 0=some (if∀i,i<a.length→a.getD i 0=b.getD i 0 then .inr ((a.length:Int),false) else .inl false):=by
   refine J7 (good:=fun i=>a.getD i 0=b.getD i 0) a.length (fun i=>(i:Int)) (Sum.inl false:Bool ⊕ (Int × Bool)) (Sum.inr ((a.length:Int),false)) (fun i hi=> ?_) ?_
   ·simp only[Gf,BJ,ba]
    refine bT (oz hi) (bs (pB (z:=0) hi) (bs (pB (z:=0) (by omega)) ?_))
    rw[V.toInt_int,V.toInt_int]
    by_cases h:a.getD i 0=b.getD i 0
    ·rw[aj h]
     refine bF (by rw[bne_eq_false_iff_eq];exact h) ?_
     rw[wrap64 (by omega) (by omega)]
     rfl
    ·rw[ai h]
     exact bT (by rw[u7];exact h) rfl
   ·simp only[Gf,BJ,ba]
    rw[aB,ai (by omega),bZ (by omega)]
  refine bs loop ?_
  by_cases h:a=b
  ·rw[aj ((xS he).2 h),c7 h];rfl
  ·rw[ai fun hx=>h ((xS he).1 hx),bZ h];rfl
 ·rw[bZ fun h=>he (by rw[h])]
  exact bT (by simp;omega) rfl
theorem UT (r:List Int):V.list jc (dk r).toList=dk r:=rfl
theorem agU {a b:List (List Int)} (hr: ∀r∈a,r.length≤maxLen) (hl:a.length≤maxLen):CC Ej [.list aZ (a.map dk),.list aZ (b.map dk)]=some [.bool (decide (a=b))]:=by
 have hm:=oj
 refine agN ?_
 unfold UP
 by_cases he:a.length=b.length
 ·refine bF (by simp[he]) ?_
  have loop:Loop (Ge CC (b.map dk) (a.map dk) ((a.map dk).length:Int)) 0=some (if∀i,i<a.length→a.getD i []=b.getD i [] then .inr ((a.length:Int),false) else .inl false):=by
   refine J7 (good:=fun i=>a.getD i []=b.getD i []) a.length (fun i=>(i:Int)) (Sum.inl false:Bool ⊕ (Int × Bool)) (Sum.inr ((a.length:Int),false)) (fun i hi=> ?_) ?_
   ·simp only[Ge,BI,ba]
    refine bT (oz hi) (bs (pB (z:=[]) hi) (bs (pB (z:=[]) (by omega)) ?_))
    rw[UT,UT]
    refine bs (agT (hr _ (uU hi))) ?_
    by_cases h:a.getD i []=b.getD i []
    ·rw[aj h]
     refine bF (by rw[V.aR,V.dy,c7 h];rfl) ?_
     rw[wrap64 (by omega) (by omega)]
     rfl
    ·rw[ai h]
     exact bT (by rw[V.aR,V.dy,bZ h];rfl) rfl
   ·simp only[Ge,BI,ba]
    rw[aB,ai (by omega),bZ (by omega)]
  refine bs loop ?_
  by_cases h:a=b
  ·rw[aj ((xS he).2 h),c7 h];rfl
  ·rw[ai fun hx=>h ((xS he).1 hx),bZ h];rfl
 ·rw[bZ fun h=>he (by rw[h])]
  exact bT (by simp;omega) rfl
theorem agV {d s:Dv} (hd:d.Ok) (hs:Gs s):CC zR (qX d (pA s))=some (.bool (decide (s=d))::F5 s):=by
 have ho:=Ga hs
 refine agD ?_
 unfold UF
 obtain ⟨L,es,nx,dn⟩:=s
 obtain ⟨L',aH,UU,UW⟩:=d
 rw[eL]
 by_cases hL:L=L'
 ·rw[aj hL,eL]
  by_cases hn:dn=UW
  ·rw[aj hn]
   refine bs (agS ho.es hd.es ho.el) ?_
   by_cases he:es=aH
   ·refine bT (by rw[V.aR,V.dy];exact c7 he) ?_
    refine bs (agU ho.rl ho.nl) ?_
    have:decide (nx=UU)=decide (Dv.mk L es nx dn=Dv.mk L' aH UU UW):=by
     rw[yi,Dv.mk.injEq]
     exact ⟨fun h=>⟨hL,he,h,hn⟩,fun h=>h.2.2.1⟩
    rw[←this]
    rfl
   ·refine bF (by rw[V.aR,V.dy];exact bZ he) ?_
    rw[bZ fun h=>he (Dv.mk.inj h).2.1]
    rfl
  ·rw[ai hn,bZ fun h=>hn (Dv.mk.inj h).2.2.2]
   rfl
 ·rw[ai hL,bZ fun h=>hL (Dv.mk.inj h).1]
  rfl
theorem UX {d:Dv} {a:Int} {l1 l2:List V}: ∀(n:Nat) (s:Dv),Gs s→s.dn+n=d.dn→
  (∀t,nr n s=some t→Loop (oC CC a l1 l2 d.dn) (jH s)=some (.inr (false,jH t)))∧(nr n s=none→Loop (oC CC a l1 l2 d.dn) (jH s)=some (.inl ()))
 | 0,s,hs,hn=>by
  refine ⟨fun t ht=> ?_,fun h=>by simp[nr] at h⟩
  cases ht
  refine bd ?_
  simp only[oC,sH,un]
  rw[aB,ai (by omega),bZ (by omega)]
 | n+1,s,hs,hn=>by
  rw[nr]
  have aO:decide (s.dn<d.dn)=true:=c7 (by omega)
  by_cases hd:s.dn<s.es.length
  ·rw[aj hd]
   obtain ⟨p1,p2⟩:=LI hs hd
   have hf:(s.dn==(s.es.length:Int))=false:=by rw[oF];omega
   cases hp:proc s with
   | none=>
    obtain ⟨l,hl⟩:=p2 hp
    refine ⟨fun t ht=>(by cases ht),fun _=>bd ?_⟩
    simp only[oC,sH,un]
    refine bT aO (bs (oB s) (bF hf ?_))
    refine bs hl ?_
    rfl
   | some u=>
    obtain ⟨g,_,g2,_⟩:=Bl hs hd hp
    obtain ⟨i1,i2⟩:=UX (d:=d) (a:=a) (l1:=l1) (l2:=l2) n u g (by omega)
    have dD:oC CC a l1 l2 d.dn (jH s)=some (.inl (jH u)):=by
     simp only[oC,sH,un]
     refine bT aO (bs (oB s) (bF hf ?_))
     refine bs (p1 u hp) ?_
     rfl
    exact ⟨fun t ht=>(bR dD).trans (i1 t ht),fun ht=>(bR dD).trans (i2 ht)⟩
  ·rw[ai hd]
   refine ⟨fun t ht=>(by cases ht),fun _=>bd ?_⟩
   have FU:=hs.dn
   simp only[oC,sH,un]
   refine bT aO (bs (oB s) (bT ?_ rfl))
   show (s.dn==(s.es.length:Int))=true
   rw[nB];omega
theorem UY {n:Nat} {s t:Dv} (hs:Gs s) (h:nr n s=some t):Gs t∧∃r,t.es=s.es++r:=by
 obtain ⟨a,_,b,_⟩:=xN n s t hs (Ll n s t h)
 exact ⟨a,b⟩
theorem LN {d:Dv} (hd:d.Ok):(nt d=true→CC o9 (qX d [])=some (.bool false:: .bool true::pA d))∧
  (nt d=false→CC o9 (qX d [])=some [.bool true]∨∃s,CC o9 (qX d [])=some (.bool false:: .bool false::pA s)):=by
 have hf: ∀{r:Option (List V)},sI CC d.L (d.es.map enc) (d.nx.map dk) d.dn=r→CC o9 (qX d [])=r:=fun h=>agH h
 by_cases h0:d.es=[]
 ·refine ⟨fun h=>absurd h0 (gP h).1,fun _=> .inl (hf ?_)⟩
  unfold sI
  exact bT (by rw[h0];rfl) rfl
 have hp:0<d.es.length:=List.length_pos_iff.2 h0
 by_cases h5:d.es.length≤512
 case neg=>
  refine ⟨fun h=>absurd (gP h).2.1 h5,fun _=> .inl (hf ?_)⟩
  unfold sI
  refine bF (by rw[ba,oF];omega) ?_
  exact bT (c7 (by rw[ba];omega)) rfl
 have hx:(d.es.map enc)[0]? =some (d.es.getD 0 aP).enc:=by
  rw[fH,bx hp,fV,bx hp];rfl
 have ho:=hd.es _ (uU (z:=aP) hp)
 have b1:(((d.es.map enc).length:Int)==0)=false:=by rw[ba,oF];omega
 have b2:decide ((((d.es.map enc).length:Int))>512)=false:=bZ (by rw[ba];omega)
 by_cases hv:(d.es.getD 0 aP).val d.L=0
 case neg=>
  refine ⟨fun h=>absurd (gP h).2.2.1 hv,fun _=> .inl (hf ?_)⟩
  unfold sI
  refine bF b1 (bF b2 (bs hx ?_))
  rw[bn,bp,bq]
  refine bs (uj _ ho d.L) (bT ?_ rfl)
  rw[V.aR,V.toInt_int,u7];exact hv
 have hg:=xO hv
 have hN:=K5 _ ho
 rw[aj (uT hv)] at hN
 have LO:Nv (aK (d.es.getD 0 aP)):=agW (uT hv)
 have lW:(aK (d.es.getD 0 aP)).Ok:=qI (by omega) _ LO.1.2 (by have:=m7 LO.2;omega)
 have hC:=ES _ lW _ ho
 by_cases hn:aK (d.es.getD 0 aP)=d.es.getD 0 aP
 case neg=>
  refine ⟨fun h=> ?_,fun _=> .inl (hf ?_)⟩
  ·obtain ⟨_,_,_,_,h⟩:=gP h
   obtain ⟨_,r,hr⟩:=UY hg h
   refine absurd ?_ hn
   have e:=congrArg (fun l=>List.getD l 0 aP) hr
   exact e.symm
  ·unfold sI
   refine bF b1 (bF b2 (bs hx ?_))
   rw[bn,bp,bq]
   refine bs (uj _ ho d.L) (bF (by rw[V.aR,V.toInt_int,hv];rfl) (bs hx ?_))
   rw[bn,bp,bq]
   refine bs hN (bs hx ?_)
   rw[bn,bp,bq]
   refine bs hC (bT ?_ rfl)
   rw[V.aR,V.toInt_int,u7]
   exact fun h=>hn (EU.1 h)
 have pre: ∀{r:Option (List V)},((Loop (oC CC d.L (d.es.map enc) (d.nx.map dk) d.dn) (jH (ez (d.es.getD 0 aP) d.L))).bind (bX (fun _=>some [V.bool true]) (un fun (wR:Bool)=>un fun (BG:Int)=>un fun (uZ:Int)=>un fun (uW:List V)=>un fun (qW:List V) (sF:List V)=>
    (CC zR [.int .i64 d.L,.list aa (d.es.map enc),.list aZ (d.nx.map dk),.int .i64 d.dn,.int .i64 BG,.int .i64 uZ,.list aa uW,.list aZ qW,.list cd sF]).bind fun fF=>
    some [V.bool false,.bool ((V.nth fF 0).toBool),.int .i64 ((V.nth (fF.drop 1) 0).toInt),.int .i64 ((V.nth ((fF.drop 1).drop 1) 0).toInt),.list aa ((V.nth (((fF.drop 1).drop 2).drop 1) 0).toList),.list aZ ((V.nth ((((fF.drop 1).drop 2).drop 1).drop 1) 0).toList),.list cd ((V.nth ((fF.drop 1).drop 2) 0).toList)])))=r→sI CC d.L (d.es.map enc) (d.nx.map dk) d.dn=r:=fun h=>by
  unfold sI
  refine bF b1 (bF b2 (bs hx ?_))
  rw[bn,bp,bq]
  refine bs (uj _ ho d.L) (bF (by rw[V.aR,V.toInt_int,hv];rfl) (bs hx ?_))
  rw[bn,bp,bq]
  refine bs hN (bs hx ?_)
  rw[bn,bp,bq]
  refine bs hC (bF ?_ ?_)
  ·rw[V.aR,V.toInt_int,EU.2 hn];rfl
  ·refine bs (LF (L:=d.L) LO) ?_
   exact h
 have fin: ∀(s:Dv),Gs s→Loop (oC CC d.L (d.es.map enc) (d.nx.map dk) d.dn) (jH (ez (d.es.getD 0 aP) d.L))=some (.inr (false,jH s))→CC o9 (qX d [])=some (.bool false:: .bool (decide (s=d))::pA s):=fun s hs hl=>by
  refine hf (pre ?_)
  refine bs hl ?_
  refine bs (agV hd hs) ?_
  rfl
 by_cases BK:0≤d.dn
 case neg=>
  have bu:ez (d.es.getD 0 aP) d.L≠d:=fun h=>BK (by rw[←h];exact Int.le_refl 0)
  refine ⟨fun h=>absurd (gP h).2.2.2.1 BK,fun _=> .inr ⟨ez (d.es.getD 0 aP) d.L,?_⟩⟩
  have:=fin (ez (d.es.getD 0 aP) d.L) hg (by
   refine bd ?_
   have h0: ¬(ez (d.es.getD 0 aP) d.L).dn<d.dn:=by show¬(0:Int)<d.dn;omega
   simp only[oC,sH,un]
   rw[aB,ai h0,bZ h0])
  rw[bZ bu] at this
  exact this
 obtain ⟨l1,l2⟩:=UX (d:=d) (a:=d.L) (l1:=d.es.map enc) (l2:=d.nx.map dk) d.dn.toNat (ez (d.es.getD 0 aP) d.L) hg (by show (0:Int)+_=_;omega)
 cases hs:nr d.dn.toNat (ez (d.es.getD 0 aP) d.L) with
 | none=>
  refine ⟨fun h=> ?_,fun _=> .inl (hf (pre ?_))⟩
  ·have:=(gP h).2.2.2.2
   rw[hs] at this
   cases this
  ·exact bs (l2 hs) rfl
 | some s=>
  have Iy:=(UY hg hs).1
  have pw:=fin s Iy (l1 s hs)
  by_cases he:s=d
  ·rw[c7 he] at pw
   refine ⟨fun _=>by rw[pw,he],fun h=> ?_⟩
   have:nt d=true:=c7 ⟨h0,h5,hv,BK,by rw[hs,he]⟩
   rw[this] at h;cases h
  ·rw[bZ he] at pw
   refine ⟨fun h=> ?_,fun _=> .inr ⟨_,pw⟩⟩
   have:=(gP h).2.2.2.2
   rw[hs] at this
   exact absurd (cY this) he
where agW {e:Ex} (h:e.val 6=0):Nv (aK e):=⟨lr e (m7 h).2.2,FR h⟩
end Go.AM
set_option maxRecDepth 100000
namespace Go.AM
open Go.Proofs
noncomputable abbrev UZ:Code:=cL Try.prog (ax.aX 30)
noncomputable def u0 (C:ag) (kL kM:Int) (cN bz:List V) (jI bQ bY:Int) (ic ew gO:List V) {β:Type} (kn:(Int × Int × Int × (List V) × (List V) × (List V))→Option β) (kr:((Int × Int × Int × (List V) × (List V)) ⊕ (Int × Bool × Int × Int × (List V) × (List V) × (List V)))→Option β):Option β:=
 bif decide ((jI:Int)>0) then
  (C rY [.int .i64 bQ,.int .i64 bY,.list aa ic,.list aZ ew,.list cd gO]).bind fun r2=>
  bif !((V.nth r2 0).toBool) then
  (C rZ [.int .i64 ((V.nth (r2.drop 1) 0).toInt),.int .i64 ((V.nth ((r2.drop 1).drop 1) 0).toInt),.list aa ((V.nth (((r2.drop 1).drop 2).drop 1) 0).toList),.list aZ ((V.nth ((((r2.drop 1).drop 2).drop 1).drop 1) 0).toList),.list cd ((V.nth ((r2.drop 1).drop 2) 0).toList)]).bind fun r3=>
  bif (((V.nth r3 0).toInt):Int) != 0 then
   kr (.inl ((V.nth r3 0).toInt,0,0,([]:List V),([]:List V)))
  else
   kn (IntKind.wrap .i64 (jI-1),(V.nth (r3.drop 1) 0).toInt,(V.nth ((r3.drop 1).drop 1) 0).toInt,(V.nth (((r3.drop 1).drop 2).drop 1) 0).toList,(V.nth ((((r3.drop 1).drop 2).drop 1).drop 1) 0).toList,(V.nth ((r3.drop 1).drop 2) 0).toList)
  else
  kr (.inr (jI,!((V.nth r2 0).toBool),(V.nth (r2.drop 1) 0).toInt,(V.nth ((r2.drop 1).drop 1) 0).toInt,(V.nth (((r2.drop 1).drop 2).drop 1) 0).toList,(V.nth ((((r2.drop 1).drop 2).drop 1).drop 1) 0).toList,(V.nth ((r2.drop 1).drop 2) 0).toList))
 else
  kr (.inr (jI,false,bQ,bY,ic,ew,gO))
noncomputable def sJ (C:ag) (kL kM:Int) (cN bz:List V):(Int × Int × Int × (List V) × (List V) × (List V))→Option ((Int × Int × Int × (List V) × (List V) × (List V)) ⊕ ((Int × Int × Int × (List V) × (List V)) ⊕ (Int × Bool × Int × Int × (List V) × (List V) × (List V)))):=un fun jI=>un fun bQ=>un fun bY=>un fun ic=>un fun ew gO=>u0 C kL kM cN bz jI bQ bY ic ew gO (fun y=>some (.inl y)) (fun r=>some (.inr r))
noncomputable def U0 (C:ag):cB:=fun β n ds k=>
 bif Nat.beq n 97 then cj I0 [true,false,false,true,true,false,false,true,true,true] [[0,0,0,0,0],[0,0,2,3,0,0,6,7,0,0,0]] (@u0 C) ds k else
 none
abbrev agX (C:ag) (b:cx):Prop:=cy Try.prog ax C (U0 C) 30 (cP Try.prog (ax.aX 30)) (ax.sin 30).a8.length b
theorem agY (C:ag):agX C (.loop (aw [1,1,1,1,0,0,0] UZ)):=
 cr I0 [true,false,false,true,true,false,false,true,true,true] [[0,0,0,0,0],[0,0,2,3,0,0,6,7,0,0,0]] (@u0 C) (by kernel_rfl) (bh (bs:=[]) (by kernel_rfl) av) (fun ds=>by kernel_rfl) (fun i x=>by kernel_rfl) (fun i x β k=>by kernel_rfl) (fun β ds k=>by kernel_rfl)
noncomputable def U1 (C:ag) (bL:Int) (bK ed:List V) (eB jI:Int):Option (List V):=
 (C o9 [.int .i64 bL,.list aa bK,.list aZ ed,.int .i64 eB]).bind fun r1=>
 bif (V.nth r1 0).toBool then
  some [.int .i64 0,.int .i64 0,.int .i64 8,.list aa ([]:List V),.list aZ ([]:List V)]
 else
  bif !((V.nth (r1.drop 1) 0).toBool) then
  some [.int .i64 0,.int .i64 0,.int .i64 8,.list aa ([]:List V),.list aZ ([]:List V)]
  else
  bif decide ((jI:Int)<0) then
   some [.int .i64 0,.int .i64 0,.int .i64 1,.list aa ([]:List V),.list aZ ([]:List V)]
  else
   (Loop (sJ C 0 0 ([]:List V) ([]:List V)) (jI,(V.nth ((r1.drop 1).drop 1) 0).toInt,(V.nth (((r1.drop 1).drop 1).drop 1) 0).toInt,(V.nth (((r1.drop 1).drop 1).drop 2) 0).toList,(V.nth ((((r1.drop 1).drop 1).drop 2).drop 1) 0).toList,(V.nth (((((r1.drop 1).drop 1).drop 2).drop 1).drop 1) 0).toList)).bind (bX (un fun (jf:Int)=>un fun (agZ:Int)=>un fun (ag0:Int)=>un fun (b_7:List V) (Bz:List V)=>
    some [.int .i64 agZ,.int .i64 ag0,.int .i64 jf,.list aa b_7,.list aZ Bz]) (un fun (aiZ:Int)=>un fun (wR:Bool)=>un fun (BG:Int)=>un fun (uZ:Int)=>un fun (uW:List V)=>un fun (qW:List V) (sF:List V)=>
    some [.int .i64 BG,.int .i64 uZ,.int .i64 0,.list aa uW,.list aZ qW]))
theorem ag1 {bL:Int} {bK ed:List V} {eB jI:Int} {r:Option (List V)} (h:U1 CC bL bK ed eB jI=r):CC D5 [.int .i64 bL,.list aa bK,.list aZ ed,.int .i64 eB,.int .i64 jI]=r:=
 aY (key:=30) (L:=U0 CC) (bs:=[.loop (aw [1,1,1,1,0,0,0] UZ)]) (by kernel_rfl) (bG (agY CC) av) (aW (by kernel_rfl) h)
noncomputable def U2 (C:ag) (bL:Int) (bK ed:List V) (eB:Int):Option (List V):=
 (C o9 [.int .i64 bL,.list aa bK,.list aZ ed,.int .i64 eB]).bind fun r1=>
 bif (V.nth r1 0).toBool then
  some [.bool false]
 else
  bif (V.nth (r1.drop 1) 0).toBool then
  (C rY [.int .i64 ((V.nth ((r1.drop 1).drop 1) 0).toInt),.int .i64 ((V.nth (((r1.drop 1).drop 1).drop 1) 0).toInt),.list aa ((V.nth (((r1.drop 1).drop 1).drop 2) 0).toList),.list aZ ((V.nth ((((r1.drop 1).drop 1).drop 2).drop 1) 0).toList),.list cd ((V.nth (((((r1.drop 1).drop 1).drop 2).drop 1).drop 1) 0).toList)]).bind fun r2=>
  some [.bool ((V.nth r2 0).toBool)]
  else
  some [.bool false]
theorem ag2 {bL:Int} {bK ed:List V} {eB:Int} {r:Option (List V)} (h:U2 CC bL bK ed eB=r):CC D7 [.int .i64 bL,.list aa bK,.list aZ ed,.int .i64 eB]=r:=
 aY (key:=33) (L:=cb) (bs:=[]) (by kernel_rfl) av (aW (by kernel_rfl) h)
end Go.AM
set_option maxRecDepth 100000
namespace Go.AM
open Go.Proofs Ex
theorem step_loop {a b:Int} {l1 l2:List V}: ∀(n:Nat) (s:Dv),Gs s→n≤1000000→
  (∀t,ey n s=some t→∃x y,Loop (sJ CC a b l1 l2) ((n:Int),jH s)=some (.inr (x,y,jH t)))∧(ey n s=none→Loop (sJ CC a b l1 l2) ((n:Int),jH s)=some (.inl (3,0,0,[],[])))
 | 0,s,hs,_=>by
  refine ⟨fun t ht=>⟨0,false,?_⟩,fun h=>by simp[ey] at h⟩
  cases ht
  refine bd ?_
  simp only[sJ,u0,un]
  rfl
 | n+1,s,hs,hn=>by
  rw[ey]
  have iW:decide (((n+1:Nat):Int)>0)=true:=c7 (by omega)
  have FU:=hs.dn
  by_cases hd:s.dn<s.es.length
  ·rw[aj hd]
   obtain ⟨p1,p2⟩:=LI hs hd
   have hf:(!(s.dn==(s.es.length:Int)))=true:=by rw[ki,oF];omega
   cases hp:proc s with
   | none=>
    obtain ⟨l,hl⟩:=p2 hp
    refine ⟨fun t ht=>(by cases ht),fun _=>bd ?_⟩
    simp only[sJ,u0,un]
    refine bT iW (bs (oB s) (bT hf ?_))
    refine bs hl ?_
    rfl
   | some u=>
    obtain ⟨g,_,g2,_⟩:=Bl hs hd hp
    obtain ⟨i1,i2⟩:=step_loop (a:=a) (b:=b) (l1:=l1) (l2:=l2) n u g (by omega)
    have dD:sJ CC a b l1 l2 (((n+1:Nat):Int),jH s)=some (.inl ((n:Int),jH u)):=by
     simp only[sJ,u0,un]
     refine bT iW (bs (oB s) (bT hf ?_))
     refine bs (p1 u hp) ?_
     rw[wrap64 (by omega) (by omega),show ((n+1:Nat):Int)-1=(n:Int) by omega]
     rfl
    refine ⟨fun t ht=> ?_,fun ht=>(bR dD).trans (i2 ht)⟩
    obtain ⟨x,y,h⟩:=i1 t ht
    exact ⟨x,y,(bR dD).trans h⟩
  ·rw[ai hd]
   refine ⟨fun t ht=>⟨((n+1:Nat):Int),false,?_⟩,fun ht=>(by cases ht)⟩
   cases ht
   refine bd ?_
   have hf:(!(s.dn==(s.es.length:Int)))=false:=by rw[B1,nB];omega
   simp only[sJ,u0,un]
   refine bT iW (bs (oB s) (bF hf ?_))
   exact congrArg (fun b=>some (Sum.inr (Sum.inr (((n+1:Nat):Int),b,s.L,s.dn,s.es.map enc,s.nx.map dk,eS s.es)))) hf
theorem ag3 {d:Dv} (hd:d.Ok) (b:Int) (hb:b≤1000000):CC D5 (qX d [.int .i64 b])=some (Uy (FP d b)):=by
 obtain ⟨h1,U⟩:=LN hd
 refine ag1 ?_
 unfold U1 FP
 cases hs:nt d with
 | false=>
  rcases U hs with h|⟨s,h⟩
  ·exact bs h (bT rfl rfl)
  ·exact bs h (bF rfl (bT rfl rfl))
 | true=>
  refine bs (h1 hs) (bF rfl (bF rfl ?_))
  rw[aj rfl]
  by_cases h0:b<0
  ·rw[aj h0];exact bT (c7 h0) rfl
  ·rw[ai h0]
   refine bF (bZ h0) ?_
   have g:=(TE hs).1
   obtain ⟨l1,l2⟩:=step_loop (a:=0) (b:=0) (l1:=[]) (l2:=[]) b.toNat d g (by omega)
   rw[show ((b.toNat:Nat):Int)=b by omega] at l1 l2
   cases hp:ey b.toNat d with
   | none=>exact bs (l2 hp) rfl
   | some t=>
    obtain ⟨x,y,h⟩:=l1 t hp
    exact bs h rfl
theorem ag4 {d:Dv} (hd:d.Ok):CC D7 (qX d [])=some [.bool (nt d&&(d.dn==d.es.length))]:=by
 obtain ⟨h1,U⟩:=LN hd
 refine ag2 ?_
 unfold U2
 cases hs:nt d with
 | false=>
  rcases U hs with h|⟨s,h⟩
  ·exact bs h (bT rfl rfl)
  ·exact bs h (bF rfl (bF rfl rfl))
 | true=>exact bs (h1 hs) (bF rfl (bT rfl (bs (oB d) rfl)))
end Go.AM
set_option maxRecDepth 100000
namespace Go.AM
open Go.Proofs
noncomputable def U3 (C:ag) (bL:Int) (bK ed:List V) (eB:Int):Option (List V):=
 (C o9 [.int .i64 bL,.list aa bK,.list aZ ed,.int .i64 eB]).bind fun r1=>
 bif (V.nth r1 0).toBool then
  some [.int .i64 0,.int .i64 0,.int .i64 8,.list eM ([]:List V),.list aZ ([]:List V)]
 else
  bif !((V.nth (r1.drop 1) 0).toBool) then
  some [.int .i64 0,.int .i64 0,.int .i64 8,.list eM ([]:List V),.list aZ ([]:List V)]
  else
  (C rY [.int .i64 ((V.nth ((r1.drop 1).drop 1) 0).toInt),.int .i64 ((V.nth (((r1.drop 1).drop 1).drop 1) 0).toInt),.list aa ((V.nth (((r1.drop 1).drop 1).drop 2) 0).toList),.list aZ ((V.nth ((((r1.drop 1).drop 1).drop 2).drop 1) 0).toList),.list cd ((V.nth (((((r1.drop 1).drop 1).drop 2).drop 1).drop 1) 0).toList)]).bind fun r2=>
  bif !((V.nth r2 0).toBool) then
   some [.int .i64 0,.int .i64 0,.int .i64 7,.list eM ([]:List V),.list aZ ([]:List V)]
  else
   (C zO [.int .i64 ((V.nth (r2.drop 1) 0).toInt),.int .i64 ((V.nth ((r2.drop 1).drop 1) 0).toInt),.list aa ((V.nth (((r2.drop 1).drop 2).drop 1) 0).toList),.list aZ ((V.nth ((((r2.drop 1).drop 2).drop 1).drop 1) 0).toList),.list cd ((V.nth ((r2.drop 1).drop 2) 0).toList)]).bind fun r3=>
   some [.int .i64 ((V.nth r3 0).toInt),.int .i64 ((V.nth (r3.drop 1) 0).toInt),.int .i64 0,.list eM ((V.nth (((r3.drop 2).drop 2).drop 1) 0).toList),.list aZ ((V.nth ((((r3.drop 2).drop 2).drop 1).drop 1) 0).toList)]
theorem ag5 {bL:Int} {bK ed:List V} {eB:Int} {r:Option (List V)} (h:U3 CC bL bK ed eB=r):CC D6 [.int .i64 bL,.list aa bK,.list aZ ed,.int .i64 eB]=r:=
 aY (key:=32) (L:=cb) (bs:=[]) (by kernel_rfl) av (aW (by kernel_rfl) h)
end Go.AM
set_option maxRecDepth 100000
namespace Go.AM
open Go.Proofs Ex
theorem U4 {d:Dv} (hd:d.Ok):CC D6 (qX d [])=some (UA (LM d)):=by
 obtain ⟨h1,U⟩:=LN hd
 refine ag5 ?_
 unfold U3 LM
 cases hs:nt d with
 | false=>
  rcases U hs with h|⟨s,h⟩
  ·exact bs h (bT rfl rfl)
  ·exact bs h (bF rfl (bT rfl rfl))
 | true=>
  have g:=(TE hs).1
  have BK:=g.dn
  refine bs (h1 hs) (bF rfl (bF rfl (bs (oB d) ?_)))
  rw[aj rfl]
  by_cases h:d.dn<(d.es.length:Int)
  ·rw[aj h]
   refine bT ?_ rfl
   show (!(d.dn==(d.es.length:Int)))=true
   rw[ki,oF];omega
  ·rw[ai h]
   refine bF ?_ ?_
   ·show (!(d.dn==(d.es.length:Int)))=false
    rw[B1,nB];omega
   ·obtain ⟨l,a1,a2,a3,a4,a5⟩:=UB g
    refine bs a1 ?_
    rw[a2,a3,a4,a5]
    rfl
end Go.AM
set_option maxRecDepth 100000
namespace Go.AM
open Go.Proofs
noncomputable def U5 (C:ag) (ah ar:Int) (af:List V) (cH:Int):Option (List V):=
 (C D4 [.int .i64 ah,.int .i64 ar,.list aa af]).bind fun r1=>
 bif (V.nth r1 0).toBool then
  (C D0 [.int .i64 ah,.int .i64 ar,.list aa af]).bind fun r2=>
  some [.bool (decide ((((V.nth r2 0).toInt):Int)≤cH))]
 else
  some [.bool false]
theorem ag6 {ah ar:Int} {af:List V} {cH:Int} {r:Option (List V)} (h:U5 CC ah ar af cH=r):CC D2 [.int .i64 ah,.int .i64 ar,.list aa af,.int .i64 cH]=r:=
 aY (key:=17) (L:=cb) (bs:=[]) (by kernel_rfl) av (aW (by kernel_rfl) h)
end Go.AM
set_option maxRecDepth 100000
namespace Go.AM
open Go.Proofs Ex
theorem ag7 (e:Ex) (h:e.Ok) (m:Int):CC D2 (bW e [.int .i64 m])=some [.bool (decide (e.val 6=0∧(e.size:Int)≤m))]:=by
 refine ag6 ?_
 unfold U5
 refine bs (abx e h) ?_
 by_cases hv:e.val 6=0
 ·refine bT (c7 hv) (bs (abA e h (m7 hv).2.1) ?_)
  rw[V.aR,V.toInt_int]
  refine congrArg (fun b=>some [V.bool b]) ?_
  rw[yi]
  exact ⟨fun x=>⟨hv,x⟩,fun x=>x.2⟩
 ·refine bF (bZ hv) ?_
  rw[bZ fun x=>hv x.1]
end Go.AM
set_option maxRecDepth 100000
namespace Go.AM
open Go.Proofs
noncomputable def U6 (C:ag):Option (List V):=
 some [.int .i64 7,.int .i64 0,.list aa ([.agg [.int .i64 5,.int .i64 0,.list aa ([.agg [.int .i64 3,.int .i64 0,.list aa ([]:List V)],.agg [.int .i64 3,.int .i64 1,.list aa ([]:List V)]]:List V)]]:List V)]
theorem ag8 {r:Option (List V)} (h:U6 CC=r):CC Ea []=r:=
 aY (key:=38) (L:=cb) (bs:=[]) (by kernel_rfl) av (aW (by kernel_rfl) h)
noncomputable def U7 (C:ag):Option (List V):=
 (C Ea []).bind fun r1=>
 (C zN [.int .i64 ((V.nth r1 0).toInt),.int .i64 ((V.nth (r1.drop 1) 0).toInt),.list aa ((V.nth (r1.drop 2) 0).toList),.int .i64 2]).bind fun r2=>
 bif (((V.nth (r2.drop 2) 0).toInt):Int)==0 then
  bif ((((V.nth (r2.drop 3) 0).toList).length:Int):Int)==3 then
  bif decide (0<(((V.nth (r2.drop 3) 0).toList).length:Int)) then
   (((V.nth (r2.drop 3) 0).toList)[0]?).bind fun x3=>
   bif x3.toBool then
   bif decide (1<(((V.nth (r2.drop 3) 0).toList).length:Int)) then
    (((V.nth (r2.drop 3) 0).toList)[1]?).bind fun x4=>
    some [.bool (!x4.toBool)]
   else none
   else
   some [.bool false]
  else none
  else
  some [.bool false]
 else
  some [.bool false]
theorem ag9 {r:Option (List V)} (h:U7 CC=r):CC rW []=r:=
 aY (key:=13) (L:=cb) (bs:=[]) (by kernel_rfl) av (aW (by kernel_rfl) h)
end Go.AM
set_option maxRecDepth 100000
namespace Go.AM
open Go.Proofs Ex
def xU:Ex:= .node 7 0 [.node 5 0 [.node 3 0 [],.node 3 1 []]]
theorem aha:xU.Ok:=by
 refine .node (by omega) (by omega) (by unfold maxLen;simp) fun k hk=> ?_
 rw[dW.1 hk]
 refine .node (by omega) (by omega) (by unfold maxLen;simp) fun k hk=> ?_
 rcases df.1 hk with rfl|hk
 ·exact .node (by omega) (by omega) (by simp) (by simp)
 ·rw[dW.1 hk]
  exact .node (by omega) (by omega) (by simp) (by simp)
theorem ahb:(xT xU 2).2=0∧(xT xU 2).1.F=[true,false,false]:=by decide+kernel
theorem BL:CC rW []=some [.bool true]:=by
 refine ag9 ?_
 unfold U7
 have eV:CC Ea []=some (ia xU):=by
  refine ag8 ?_
  unfold U6 xU
  simp only[ia,Ex.op,Ex.cS,Ex.kids,cO,gy,eC]
 refine bs eV ?_
 refine bs (UD aha 2) ?_
 obtain ⟨h1,U⟩:=ahb
 generalize xT xU 2=p at h1 U
 obtain ⟨⟨L,F,N⟩,f⟩:=p
 simp only at h1 U
 subst h1 U
 rfl
end Go.AM
set_option maxRecDepth 100000
namespace Go.AM
open Go.Proofs
abbrev Lg:=List UInt8→Prop
def L2 (A B:Lg):Lg:=fun w=> ∃u v,w=u++v∧A u∧B v
inductive kO (A:Lg):Lg
 | nil:kO A []
 | cons {u v:List UInt8}:A u→kO A v→kO A (u++v)
def U8:List Lg→Lg
 | []=>fun _=>False
 | L::_=>L
def ahc:List Lg→Lg
 | []=>fun w=>w=[]
 | L::Ls=>Ls.foldl L2 L
def opL (o l:Int) (Ls:List Lg):Lg:=fun w=>
 if o=2 then w=[] else if o=3 then∃c:UInt8,w=[c]∧(c.toNat:Int)-97=l
 else if o=4 then∃L∈Ls,L w else if o=5 then ahc Ls w else if o=6 then∀L∈Ls,L w
 else if o=7 then kO (U8 Ls) w else if o=8 then¬U8 Ls w else False
mutual
def Ex.Ub:Ex→Lg
 | .node o l ks=>opL o l (Ex.U9 ks)
def Ex.U9:List Ex→List Lg
 | []=>[]
 | k::ks=>Ex.Ub k::Ex.U9 ks
end
theorem kO.append {A:Lg} {u v:List UInt8} (h:kO A u) (U:kO A v):kO A (u++v):=by
 induction h with
 | nil=>exact U
 | cons a _ ih=>rw[cm];exact .cons a ih
theorem kO.one {A:Lg} {u:List UInt8} (h:A u):kO A u:=by
 have:=kO.cons h (kO.nil (A:=A));rwa [dH] at this
theorem kO.first {A:Lg} {w:List UInt8} (h:kO A w):w=[]∨∃u v,u≠[]∧w=u++v∧A u∧kO A v:=by
 induction h with
 | nil=>exact .inl rfl
 | @cons u v a hv ih=>
  by_cases hu:u=[]
  ·subst hu;simpa using ih
  ·exact .inr ⟨u,v,hu,rfl,a,hv⟩
def sl (w:List UInt8) (i j:Nat):List UInt8:=(w.drop i).take (j-i)
def Va (w:List UInt8) (i:Nat):Int:=((w.getD i 0).toNat:Int)-97
def Vb (w:List UInt8) (L:Int):Prop:=1≤L∧L≤6∧w.length≤2048∧∀i,i<w.length→0≤Va w i∧Va w i<L
instance (w:List UInt8) (L:Int):Decidable (Vb w L):=by unfold Vb;infer_instance
end Go.AM
set_option maxRecDepth 100000
namespace Go.AM
open Go.Proofs Ex
abbrev Vc (p:Fa) (l:List V):List V:= .int .i64 p.L:: .int .i64 0:: .list eM (p.F.map V.bool):: .list aZ (p.N.map dk)::l
structure Fa.Ok (p:Fa):Prop where
 fl:p.F.length≤1000
 nl:p.N.length≤1000
 rl: ∀r∈p.N,r.length≤1000
theorem ahd (r:List Int):((dk r).toList.length:Int)=(r.length:Int):=by
 show (((r.map fun n=>V.int .i64 n).length:Nat):Int)=_
 rw[ba]
theorem ahe {s:Dv} (hs:Gs s):(LJ s).Ok:=by
 have h1:=hs.es.le
 have U:=hs.nl
 have h3:=hs.dn
 have h4:=hs.L
 refine ⟨by show (s.es.map Ex.c6).length≤_;rw[ba];omega,by show s.nx.length≤_;omega,fun r hr=> ?_⟩
 obtain ⟨q,hq,rfl⟩:=BY (show r∈s.nx from hr)
 have:=(hs.row q (by omega)).1
 rw[fV,bx hq,Option.getD_some] at this
 omega
end Go.AM
set_option maxRecDepth 100000
namespace Go.AM
open Go.Proofs
noncomputable abbrev xV:Code:=cL Try.prog (ax.aX 16)
noncomputable def BM (C:ag) (t40 qY qZ:Int) (pC nu:List V) (q0 ra:Int) (pD oD:List V) (t41:Int) {β:Type} (kn:Int→Option β) (kr:((Bool) ⊕ (Int × Bool))→Option β):Option β:=
 bif decide ((t41:Int)<t40) then
  (idx pC t41).bind fun x1=>
  (idx pD t41).bind fun x2=>
  bif !(x1.toBool==x2.toBool) then
  kr (.inl false)
  else
  kn (IntKind.wrap .i64 (t41+1))
 else
  kr (.inr (t41,decide ((t41:Int)<t40)))
noncomputable def Gg (C:ag) (t40 qY qZ:Int) (pC nu:List V) (q0 ra:Int) (pD oD:List V):(Int)→Option ((Int) ⊕ ((Bool) ⊕ (Int × Bool))):=fun t41=>BM C t40 qY qZ pC nu q0 ra pD oD t41 (fun y=>some (.inl y)) (fun r=>some (.inr r))
noncomputable def BN (C:ag) (q t58 t59 t80 qY qZ:Int) (pC nu:List V) (q0 ra:Int) (pD oD:List V) (t81:Int) {β:Type} (kn:Int→Option β) (kr:((Bool) ⊕ (Int × Bool))→Option β):Option β:=
 bif decide ((t81:Int)<t80) then
  (idx nu q).bind fun x9=>
  (idx x9.toList t81).bind fun lu=>
  (idx oD q).bind fun et=>
  (idx et.toList t81).bind fun w5=>
  bif (lu.toInt:Int) != w5.toInt then
  kr (.inl false)
  else
  kn (IntKind.wrap .i64 (t81+1))
 else
  kr (.inr (t81,decide ((t81:Int)<t80)))
noncomputable def Gh (C:ag) (q t58 t59 t80 qY qZ:Int) (pC nu:List V) (q0 ra:Int) (pD oD:List V):(Int)→Option ((Int) ⊕ ((Bool) ⊕ (Int × Bool))):=fun t81=>BN C q t58 t59 t80 qY qZ pC nu q0 ra pD oD t81 (fun y=>some (.inl y)) (fun r=>some (.inr r))
noncomputable def BO (C:ag) (t58 qY qZ:Int) (pC nu:List V) (q0 ra:Int) (pD oD:List V) (t59:Int) {β:Type} (kn:Int→Option β) (kr:((Bool) ⊕ (Int × Bool))→Option β):Option β:=
 bif decide ((t59:Int)<t58) then
  (idx nu t59).bind fun x6=>
  (idx oD t59).bind fun x7=>
  bif ((x6.toList.length:Int):Int) != (x7.toList.length:Int) then
  kr (.inl false)
  else
  (idx nu t59).bind fun x8=>
  (Loop (Gh C t59 t58 t59 (x8.toList.length:Int) qY qZ pC nu q0 ra pD oD) 0).bind (bX (fun (EO:Bool)=>
   kr (.inl EO)) (un fun (wS:Int) (wU:Bool)=>
   kn (IntKind.wrap .i64 (t59+1))))
 else
  kr (.inr (t59,decide ((t59:Int)<t58)))
noncomputable def Gi (C:ag) (t58 qY qZ:Int) (pC nu:List V) (q0 ra:Int) (pD oD:List V):(Int)→Option ((Int) ⊕ ((Bool) ⊕ (Int × Bool))):=fun t59=>BO C t58 qY qZ pC nu q0 ra pD oD t59 (fun y=>some (.inl y)) (fun r=>some (.inr r))
noncomputable def Vd (C:ag):cB:=fun β n ds k=>
 bif Nat.beq n 65 then cj IX [false,true,false,false,false,false,false,false,false,false] [[0],[1,0,0,3,4,5,6,7,8,9,10]] (@BM C) ds k else
 bif Nat.beq n 241 then cj IY [false,false,false,false,true,false,false,false,false,false,false,false,false] [[0],[1,2,3,4,0,0,6,7,8,9,10,11,12,13]] (@BN C) ds k else
 bif Nat.beq n 161 then cj IZ [false,true,false,false,false,false,false,false,false,false] [[0],[1,0,0,3,4,5,6,7,8,9,10]] (@BO C) ds k else
 none
abbrev LP (C:ag) (b:cx):Prop:=cy Try.prog ax C (Vd C) 16 (cP Try.prog (ax.aX 16)) (ax.sin 16).a8.length b
theorem ahf (C:ag):LP C (.loop (aw [1,1,0,1,0,0] xV)):=
 cr IX [false,true,false,false,false,false,false,false,false,false] [[0],[1,0,0,3,4,5,6,7,8,9,10]] (@BM C) (by kernel_rfl) (bh (bs:=[]) (by kernel_rfl) av) (fun ds=>by kernel_rfl) (fun i x=>by kernel_rfl) (fun i x β k=>by kernel_rfl) (fun β ds k=>by kernel_rfl)
theorem ahg (C:ag):LP C (.loop (aw [1,1,1,0,1,0,0,1,1,0,0,1,1,1,0,0] xV)):=
 cr IY [false,false,false,false,true,false,false,false,false,false,false,false,false] [[0],[1,2,3,4,0,0,6,7,8,9,10,11,12,13]] (@BN C) (by kernel_rfl) (bh (bs:=[]) (by kernel_rfl) av) (fun ds=>by kernel_rfl) (fun i x=>by kernel_rfl) (fun i x β k=>by kernel_rfl) (fun β ds k=>by kernel_rfl)
theorem ahh (C:ag):LP C (.loop (aw [1,1,1,0,1,0,0] xV)):=
 cr IZ [false,true,false,false,false,false,false,false,false,false] [[0],[1,0,0,3,4,5,6,7,8,9,10]] (@BO C) (by kernel_rfl) (bh (bs:=[.loop (aw [1,1,1,0,1,0,0,1,1,0,0,1,1,1,0,0] xV)]) (by kernel_rfl) (bG (ahg C) av)) (fun ds=>by kernel_rfl) (fun i x=>by kernel_rfl) (fun i x β k=>by kernel_rfl) (fun β ds k=>by kernel_rfl)
noncomputable def Ve (C:ag) (gj gk:Int) (gl u3:List V) (gm gn:Int) (gM xW:List V):Option (List V):=
 bif (gj:Int) != gm then
  some [.bool false]
 else
  bif (gk:Int) != gn then
  some [.bool false]
  else
  bif ((gl.length:Int):Int) != (gM.length:Int) then
   some [.bool false]
  else
   bif ((u3.length:Int):Int) != (xW.length:Int) then
   some [.bool false]
   else
   (Loop (Gg C (gl.length:Int) gj gk gl u3 gm gn gM xW) 0).bind (bX (fun (je:Bool)=>
    some [.bool je]) (un fun (jf:Int) (me:Bool)=>
    (Loop (Gi C (u3.length:Int) gj gk gl u3 gm gn gM xW) 0).bind (bX (fun (EP:Bool)=>
     some [.bool EP]) (un fun (Qc:Int) (J9:Bool)=>
     some [.bool true]))))
theorem ahi {gj gk:Int} {gl u3:List V} {gm gn:Int} {gM xW:List V} {r:Option (List V)} (h:Ve CC gj gk gl u3 gm gn gM xW=r):CC D1 [.int .i64 gj,.int .i64 gk,.list eM gl,.list aZ u3,.int .i64 gm,.int .i64 gn,.list eM gM,.list aZ xW]=r:=
 aY (key:=16) (L:=Vd CC) (bs:=[.loop (aw [1,1,0,1,0,0] xV),.loop (aw [1,1,1,0,1,0,0] xV)]) (by kernel_rfl) (bG (ahf CC) (bG (ahh CC) av)) (aW (by kernel_rfl) h)
end Go.AM
set_option maxRecDepth 100000
namespace Go.AM
open Go.Proofs Ex
theorem ahj {p:Fa} (h:p.Ok):CC D1 (Vc p (Vc p []))=some [.bool true]:=by
 have hf:=h.fl
 have hn:=h.nl
 refine ahi ?_
 unfold Ve
 simp only[ba]
 refine bF (ym _) (bF rfl (bF (ym _) (bF (ym _) ?_)))
 have l1: ∀{x1 x2 x3 x4:Int} {k1 k2:List V},Loop (Gg CC (p.F.length:Int) x1 x2 (p.F.map V.bool) k1 x3 x4 (p.F.map V.bool) k2) 0=some (.inr ((p.F.length:Int),false)):=fun {x1 x2 x3 x4 k1 k2}=>by
  refine K6 p.F.length (fun i=>(i:Int)) _ (fun i hi=> ?_) ?_
  ·have hx:=pB (f:=V.bool) (z:=false) hi
   simp only[Gg,BM]
   refine bT (oz hi) (bs hx (bs hx (bF ?_ ?_)))
   ·rw[beq_self_eq_true];rfl
   ·rw[mq (by omega)]
  ·simp only[Gg,BM]
   rw[aB,ai (by omega),bZ (by omega)]
 refine bs l1 ?_
 simp only[bX,un]
 have l2: ∀{i:Nat},i<p.N.length→∀{y1 y2 x1 x2 x3 x4:Int} {k1 k2:List V},Loop (Gh CC (i:Int) y1 y2 ((p.N.getD i []).length:Int) x1 x2 k1 (p.N.map dk) x3 x4 k2 (p.N.map dk)) 0=some (.inr (((p.N.getD i []).length:Int),false)):=fun {i} hi {y1 y2 x1 x2 x3 x4 k1 k2}=>by
  have hr:=h.rl _ (uU (z:=[]) hi)
  refine K6 (p.N.getD i []).length (fun i=>(i:Int)) _ (fun j hj=> ?_) ?_
  ·have hx:=pB (f:=dk) (z:=[]) hi
   have hy:=pB (f:=fun n=>V.int .i64 n) (z:=0) hj
   simp only[Gh,BN]
   refine bT (oz hj) (bs hx (bs hy (bs hx (bs hy (bF (ym _) ?_)))))
   rw[mq (by omega)]
  ·simp only[Gh,BN]
   rw[aB,ai (by omega),bZ (by omega)]
 have l3: ∀{x1 x2 x3 x4:Int} {k1 k2:List V},Loop (Gi CC (p.N.length:Int) x1 x2 k1 (p.N.map dk) x3 x4 k2 (p.N.map dk)) 0=some (.inr ((p.N.length:Int),false)):=fun {x1 x2 x3 x4 k1 k2}=>by
  refine K6 p.N.length (fun i=>(i:Int)) _ (fun i hi=> ?_) ?_
  ·have hx:=pB (f:=dk) (z:=[]) hi
   simp only[Gi,BO]
   refine bT (oz hi) (bs hx (bs hx (bF (ym _) (bs hx ?_))))
   rw[ahd]
   refine bs (l2 hi) ?_
   simp only[bX,un]
   rw[mq (by omega)]
  ·simp only[Gi,BO]
   rw[aB,ai (by omega),bZ (by omega)]
 exact bs l3 rfl
end Go.AM
set_option maxRecDepth 100000
namespace Go.AM
open Go.Proofs
noncomputable def Vf (C:ag) (ah ar:Int) (af:List V) (jI:Int):Option (List V):=
 (C D2 [.int .i64 ah,.int .i64 ar,.list aa af,.int .i64 11]).bind fun r1=>
 bif !((V.nth r1 0).toBool) then
  (C rW []).bind fun r2=>
  some [.bool ((V.nth r2 0).toBool)]
 else
  (C zM [.int .i64 ah,.int .i64 ar,.list aa af,.int .i64 2]).bind fun r3=>
  bif (((V.nth r3 0).toInt):Int) != 0 then
  (C rW []).bind fun r4=>
  some [.bool ((V.nth r4 0).toBool)]
  else
  (C D3 [.int .i64 ah,.int .i64 ar,.list aa af,.int .i64 2]).bind fun r5=>
  bif (((V.nth (r5.drop 2) 0).toInt):Int) != 0 then
   some [.bool false]
  else
   (C D5 [.int .i64 ((V.nth r5 0).toInt),.list aa ((V.nth (r5.drop 3) 0).toList),.list aZ ((V.nth ((r5.drop 3).drop 1) 0).toList),.int .i64 ((V.nth (r5.drop 1) 0).toInt),.int .i64 (IntKind.wrap .i64 jI)]).bind fun r6=>
   (C D6 [.int .i64 ((V.nth r6 0).toInt),.list aa ((V.nth (r6.drop 3) 0).toList),.list aZ ((V.nth ((r6.drop 3).drop 1) 0).toList),.int .i64 ((V.nth (r6.drop 1) 0).toInt)]).bind fun r7=>
   (C zN [.int .i64 ah,.int .i64 ar,.list aa af,.int .i64 2]).bind fun r8=>
   bif (((V.nth (r6.drop 2) 0).toInt):Int) != 0 then
   bif (((V.nth (r6.drop 2) 0).toInt):Int)==3 then
    bif (((V.nth (r8.drop 2) 0).toInt):Int)==3 then
    (C rW []).bind fun r9=>
    some [.bool ((V.nth r9 0).toBool)]
    else
    some [.bool false]
   else
    some [.bool false]
   else
   (C D7 [.int .i64 ((V.nth r6 0).toInt),.list aa ((V.nth (r6.drop 3) 0).toList),.list aZ ((V.nth ((r6.drop 3).drop 1) 0).toList),.int .i64 ((V.nth (r6.drop 1) 0).toInt)]).bind fun dV=>
   bif !((V.nth dV 0).toBool) then
    bif (((V.nth (r7.drop 2) 0).toInt):Int)==7 then
    (C rW []).bind fun eR=>
    some [.bool ((V.nth eR 0).toBool)]
    else
    some [.bool false]
   else
    bif (((V.nth (r7.drop 2) 0).toInt):Int)==0 then
    bif (((V.nth (r8.drop 2) 0).toInt):Int)==0 then
     (C D1 [.int .i64 ((V.nth r7 0).toInt),.int .i64 ((V.nth (r7.drop 1) 0).toInt),.list eM ((V.nth (r7.drop 3) 0).toList),.list aZ ((V.nth ((r7.drop 3).drop 1) 0).toList),.int .i64 ((V.nth r8 0).toInt),.int .i64 ((V.nth (r8.drop 1) 0).toInt),.list eM ((V.nth (r8.drop 3) 0).toList),.list aZ ((V.nth ((r8.drop 3).drop 1) 0).toList)]).bind fun fD=>
     bif (V.nth fD 0).toBool then
     bif ((((V.nth (r7.drop 3) 0).toList).length:Int):Int)==((V.nth (r6.drop 1) 0).toInt) then
      (C rW []).bind fun gi=>
      some [.bool ((V.nth gi 0).toBool)]
     else
      some [.bool false]
     else
     some [.bool false]
    else
     some [.bool false]
    else
    some [.bool false]
theorem ahk {ah ar:Int} {af:List V} {jI:Int} {r:Option (List V)} (h:Vf CC ah ar af jI=r):CC IL [.int .i64 ah,.int .i64 ar,.list aa af,.int .u8 jI]=r:=
 aY (key:=10) (L:=cb) (bs:=[]) (by kernel_rfl) av (aW (by kernel_rfl) h)
end Go.AM
set_option maxRecDepth 100000
namespace Go.AM
open Go.Proofs Ex
theorem ahl:Dv.zero.Ok:=⟨by simp[Dv.zero],by simp[Dv.zero],by simp[Dv.zero],by simp[Dv.zero]⟩
theorem Vk (e:Ex) (h:e.Ok) (b:Int) (hb:0≤b∧b≤255):CC IL (bW e [.int .u8 b])=some [.bool true]:=by
 refine ahk ?_
 unfold Vf
 rw[wrap64 (by omega) (by omega)]
 refine bs (ag7 e h 11) ?_
 by_cases hl:e.val 6=0∧(e.size:Int)≤11
 case neg=>exact bT (by rw[V.aR,V.dy,bZ hl];rfl) (bs BL rfl)
 refine bF (by rw[V.aR,V.dy,c7 hl];rfl) ?_
 refine bs (Qz e h 2) ?_
 by_cases hv:e.val 2=0
 case neg=>exact bT (by rw[V.aR,V.toInt_int,u7];exact hv) (bs BL rfl)
 refine bF (by rw[V.aR,V.toInt_int,hv];rfl) ?_
 have hS:=agC h 2
 rw[show LL e 2=(ez e 2,0) from aj hv] at hS
 refine bs hS (bF rfl ?_)
 have g0:=xO hv
 have st0:nt (ez e 2)=true:=TD hv (n:=0) rfl
 obtain ⟨m,hm⟩: ∃m:Nat,b=(m:Int):=⟨b.toNat,by omega⟩
 subst hm
 have sx:FP (ez e 2) (m:Int)=match ey m (ez e 2) with|none=>(.zero,3)|some t=>(t,0):=by
  unfold FP
  rw[aj st0,ai (by omega),Int.toNat_natCast]
  try rfl
 have h1:=ag3 (Ga g0) (m:Int) (by omega)
 rw[sx] at h1
 have hB:=UD h 2
 unfold xT at hB
 rw[aj hv,show 513=m+(513-m) by omega,TB] at hB
 refine bs h1 ?_
 cases hp:ey m (ez e 2) with
 | none=>
  rw[hp] at hB
  exact bs (U4 ahl) (bs hB (bT rfl (bT rfl (bT rfl (bs BL rfl)))))
 | some t=>
  rw[hp] at hB
  simp only[Option.bind_some] at hB
  have gt:=(xN _ _ _ g0 hp).1
  have st:=TD hv hp
  have hA:=U4 (Ga gt)
  have hF:=ag4 (Ga gt)
  unfold LM at hA
  rw[aj st] at hA
  rw[st,lF] at hF
  have BK:=gt.dn
  by_cases hf:t.dn<t.es.length
  ·rw[aj hf] at hA
   refine bs hA (bs hB (bF rfl (bs hF (bT ?_ (bT rfl (bs BL rfl))))))
   show (!(t.dn==(t.es.length:Int)))=true
   rw[ki,oF];omega
  ·rw[ai hf] at hA
   rw[TA hf] at hB
   refine bs hA (bs hB (bF rfl (bs hF (bF ?_ (bT rfl (bT rfl (bs (ahj (ahe gt)) (bT rfl (bT ?_ (bs BL rfl))))))))))
   ·show (!(t.dn==(t.es.length:Int)))=false
    rw[B1,nB];omega
   ·show ((((t.es.map Ex.c6).map V.bool).length:Int)==t.dn)=true
    rw[ba,ba,nB];omega
end Go.AM
set_option maxRecDepth 100000
namespace Go.AM
theorem WT.BP {P:Program} {t:TypeId} {x:V} (hu:P.underlying t=some (.int .u8)) (h:WT P t x): ∃n:Int,x= .int .u8 n∧0≤n∧n≤255:=by
 obtain ⟨n,rfl,h1,U⟩:=h.dJ hu
 have e1:IntKind.min .u8=0:=by decide
 have e2:IntKind.max .u8=255:=by decide
 rw[e1] at h1
 rw[e2] at U
 exact ⟨n,rfl,h1,U⟩
end Go.AM
