/-
  Functions of the program, lifted to plain data.
-/
import Derived.Test.YtmknicoledcapaaGreatDoorP6
set_option linter.unusedVariables false
set_option linter.unusedSimpArgs false
set_option linter.unusedSectionVars false
set_option maxRecDepth 100000
namespace Go.AM
open Go.IntKind (wrap)
open Go.Proofs
noncomputable def xT(C:af)(table cf:LV)(mO mP:Int)(mQ:LV)(mR mU:Int)(mV:LV)(eB:Int):Option LV:=
 (C 119 [ah table,ab cf,vI mO,vI mP,b8 mQ,vI mR,vI mU,b8 mV]).bind fun r1=>
 bif (gB r1)then
  bif ((gI (r1.drop 1)):Int) != 0 then
  some [vI 0,vI (gI (r1.drop 1)),ab ([]:LV)]
  else
  bif decide (eB<1)then
   some [vI 0,vI 1,ab ([]:LV)]
  else
   bif decide (eB>1048576)then
   some [vI 0,vI 1,ab ([]:LV)]
   else none
 else
  bif decide (eB<1)then
  some [vI 0,vI 1,ab ([]:LV)]
  else
  bif decide (eB>1048576)then
   some [vI 0,vI 1,ab ([]:LV)]
  else
   (C 120 [cZ (gL (r1.drop 1)),cZ (gL ((r1.drop 1).drop 1)),ah (gL (((r1.drop 1).drop 1).drop 1)),ah (gL ((r1.drop 1).drop 3)),vI (gI (((r1.drop 1).drop 3).drop 1)),ab (gL ((((r1.drop 1).drop 3).drop 1).drop 1)),ab (gL (((((r1.drop 1).drop 3).drop 1).drop 1).drop 1)),ab (gL ((((((r1.drop 1).drop 3).drop 1).drop 1).drop 1).drop 1)),ab (gL (((((((r1.drop 1).drop 3).drop 1).drop 1).drop 1).drop 1).drop 1)),ab (gL ((((((((r1.drop 1).drop 3).drop 1).drop 1).drop 1).drop 1).drop 1).drop 1)),ab (gL (((((((((r1.drop 1).drop 3).drop 1).drop 1).drop 1).drop 1).drop 1).drop 1).drop 1)),ab (gL ((((((((((r1.drop 1).drop 3).drop 1).drop 1).drop 1).drop 1).drop 1).drop 1).drop 1).drop 1)),ab (gL (((((((((((r1.drop 1).drop 3).drop 1).drop 1).drop 1).drop 1).drop 1).drop 1).drop 1).drop 1).drop 1)),ab (gL ((((((((((((r1.drop 1).drop 3).drop 1).drop 1).drop 1).drop 1).drop 1).drop 1).drop 1).drop 1).drop 1).drop 1)),ab (gL (((((((((((((r1.drop 1).drop 3).drop 1).drop 1).drop 1).drop 1).drop 1).drop 1).drop 1).drop 1).drop 1).drop 1).drop 1)),ab (gL ((((((((((((((r1.drop 1).drop 3).drop 1).drop 1).drop 1).drop 1).drop 1).drop 1).drop 1).drop 1).drop 1).drop 1).drop 1).drop 1)),ab (gL (((r1.drop 1).drop 3).drop 13))]).bind fun r2=>
   bif (gB r2)then
   some [vI 0,vI 9,ab ([]:LV)]
   else
   (C 121 [vI eB,cZ (gL (r2.drop 1)),cZ (gL ((r2.drop 1).drop 1)),ah (gL (((r2.drop 1).drop 1).drop 1)),ah (gL ((r2.drop 1).drop 3)),vI (gI (((r2.drop 1).drop 3).drop 1)),ab (gL ((((r2.drop 1).drop 3).drop 1).drop 1)),ab (gL (((((r2.drop 1).drop 3).drop 1).drop 1).drop 1)),ab (gL ((((((r2.drop 1).drop 3).drop 1).drop 1).drop 1).drop 1)),ab (gL (((((((r2.drop 1).drop 3).drop 1).drop 1).drop 1).drop 1).drop 1)),ab (gL ((((((((r2.drop 1).drop 3).drop 1).drop 1).drop 1).drop 1).drop 1).drop 1)),ab (gL (((((((((r2.drop 1).drop 3).drop 1).drop 1).drop 1).drop 1).drop 1).drop 1).drop 1)),ab (gL ((((((((((r2.drop 1).drop 3).drop 1).drop 1).drop 1).drop 1).drop 1).drop 1).drop 1).drop 1)),ab (gL (((((((((((r2.drop 1).drop 3).drop 1).drop 1).drop 1).drop 1).drop 1).drop 1).drop 1).drop 1).drop 1)),ab (gL ((((((((((((r2.drop 1).drop 3).drop 1).drop 1).drop 1).drop 1).drop 1).drop 1).drop 1).drop 1).drop 1).drop 1)),ab (gL (((((((((((((r2.drop 1).drop 3).drop 1).drop 1).drop 1).drop 1).drop 1).drop 1).drop 1).drop 1).drop 1).drop 1).drop 1)),ab (gL ((((((((((((((r2.drop 1).drop 3).drop 1).drop 1).drop 1).drop 1).drop 1).drop 1).drop 1).drop 1).drop 1).drop 1).drop 1).drop 1)),ab (gL (((r2.drop 1).drop 3).drop 13))]).bind fun r3=>
   bif (gB (r3.drop 1))then
    (C 122 [cZ (gL (r3.drop 3)),cZ (gL ((r3.drop 3).drop 1)),ah (gL (((r3.drop 3).drop 1).drop 1)),ah (gL ((r3.drop 3).drop 3)),vI (gI (((r3.drop 3).drop 3).drop 1)),ab (gL ((((r3.drop 3).drop 3).drop 1).drop 1)),ab (gL (((((r3.drop 3).drop 3).drop 1).drop 1).drop 1)),ab (gL ((((((r3.drop 3).drop 3).drop 1).drop 1).drop 1).drop 1)),ab (gL (((((((r3.drop 3).drop 3).drop 1).drop 1).drop 1).drop 1).drop 1)),ab (gL ((((((((r3.drop 3).drop 3).drop 1).drop 1).drop 1).drop 1).drop 1).drop 1)),ab (gL (((((((((r3.drop 3).drop 3).drop 1).drop 1).drop 1).drop 1).drop 1).drop 1).drop 1)),ab (gL ((((((((((r3.drop 3).drop 3).drop 1).drop 1).drop 1).drop 1).drop 1).drop 1).drop 1).drop 1)),ab (gL (((((((((((r3.drop 3).drop 3).drop 1).drop 1).drop 1).drop 1).drop 1).drop 1).drop 1).drop 1).drop 1)),ab (gL ((((((((((((r3.drop 3).drop 3).drop 1).drop 1).drop 1).drop 1).drop 1).drop 1).drop 1).drop 1).drop 1).drop 1)),ab (gL (((((((((((((r3.drop 3).drop 3).drop 1).drop 1).drop 1).drop 1).drop 1).drop 1).drop 1).drop 1).drop 1).drop 1).drop 1)),ab (gL ((((((((((((((r3.drop 3).drop 3).drop 1).drop 1).drop 1).drop 1).drop 1).drop 1).drop 1).drop 1).drop 1).drop 1).drop 1).drop 1)),ab (gL (((r3.drop 3).drop 3).drop 13))]).bind fun r4=>
    some [vI (gI r3),vI 0,ab (gL ((r4.drop 3).drop 13))]
   else
    bif (gB ((r3.drop 1).drop 1))then
    some [vI (gI r3),vI 9,ab ([]:LV)]
    else
    some [vI 0,vI 7,ab ([]:LV)]
theorem an5{table cf:LV}{mO mP:Int}{mQ:LV}{mR mU:Int}{mV:LV}{eB:Int}{r:Option LV}(h:xT CC table cf mO mP mQ mR mU mV eB=r):CC 78 [ah table,ab cf,vI mO,vI mP,b8 mQ,vI mR,vI mU,b8 mV,vI eB]=r:=bj (L:=bh) an h
structure ej where
 l0:Int
 l1:Int
 l2:LV
 r0:Int
 r1:Int
 r2:LV
 p:List (Nat×Nat)
 q:List (Nat×Nat)
 o1:Nat→Bool
 e1:Nat→Bool
 cP:Nat→Bool
 cQ:Nat→Bool
 nv:Nat
def iw(d:ej):List V:=[vI d.l0,vI d.l1,b8 d.l2,vI d.r0,vI d.r1,b8 d.r2]
def AN(o e:Nat→Bool):List V:=[.bool (o 0),.bool (o 1),.bool (o 2),.bool (o 3),.bool (o 4),.bool (o 5),.bool (e 0),.bool (e 1),.bool (e 2),.bool (e 3),.bool (e 4),.bool (e 5)]
structure mZ(d:ej):Prop where
 val:CC 148 (iw d)=some [vI 0]
 cl:CC 158 [vI d.l0,vI d.l1,b8 d.l2]=some [cZ (d.p.map dA)]
 cr:CC 158 [vI d.r0,vI d.r1,b8 d.r2]=some [cZ (d.q.map dA)]
 v1:CC FP ([vI d.l0,vI d.l1,b8 d.l2,vI 0,vI 0,b8 []]++AN (fun _=>false) (fun _=>false))=some (AN d.o1 d.e1)
 v2:CC FP ([vI d.r0,vI d.r1,b8 d.r2,vI 0,vI 0,b8 []]++AN d.o1 d.e1)=some (AN d.cP d.cQ)
 vars:CC 201 [b8 [.agg [vI d.l0,vI d.l1,b8 d.l2],.agg [vI d.r0,vI d.r1,b8 d.r2]]]=some [vI (d.nv:Int)]
 nv:d.nv≤6
 okp:∀s∈d.p,tx s
 okq:∀s∈d.q,tx s
 lp:d.p.length≤1000
 lq:d.q.length≤1000
 wp:ni d.nv d.p 0=some 1
 wq:ni d.nv d.q 0=some 1
noncomputable def Mr(C:af)(s:LV)(v t7 t8:Int){β:Type}(kn:Int→Option β)(kr:((Int) ⊕ (Int×Bool))→Option β):Option β:=
 bif decide (t8<t7)then
  (idx s t8).bind fun x1=>
  bif v==x1.toInt then
  kr (.inl t8)
  else
  kn (wrap .i64 (t8+1))
 else
  kr (.inr (t8,decide (t8<t7)))
noncomputable def SY(C:af)(s:LV)(v t7:Int):=fun t8=>Mr C s v t7 t8 (fun y=>some (Sum.inl y)) (fun r=>some (Sum.inr r))
noncomputable def aEb(C:af):cp:=bz 33 Zv [Q0,Q0,Q0,Q1] [[0],[1,2,3,0,0]] (@Mr C) bh
theorem aEc(C:af):bn C (aEb C) 145 (Lp [1,0,1,0,0] 145):=bA Zv [Q0,Q0,Q0,Q1] [[0],[1,2,3,0,0]] (@Mr C) (ba an)
noncomputable def abh(C:af)(s:LV)(v:Int):Option LV:=
 (Loop (SY C s v (s.length:Int)) 0).bind (ed (fun v9=>
  some [vI v9]) (un fun(iU:Int) (mr:Bool)=>
  some [vI (-1)]))
theorem alE{s:LV}{v:Int}{r:Option LV}(h:abh CC s v=r):CC 145 [ab s,vI v]=r:=bj (bp (aEc CC) an) h
noncomputable def alF(C:af)(s:LV)(v:Int):Option LV:=
 (C 145 [ab s,vI v]).bind fun r1=>
 some [.bool (decide (((gI r1):Int)≥0))]
theorem aEd{s:LV}{v:Int}{r:Option LV}(h:alF CC s v=r):CC 115 [ab s,vI v]=r:=bj (L:=bh) an h
noncomputable def Ms(C:af)(n ss:Int)(aT:LV)(kK oU:Int)(oV:Bool)(oW ms:Int)(aB aK br bH bP fU ko iE gi gj gE gU dY iD lT:LV)(i:Int)(gk iP:LV){β:Type}(kn:(Int×LV×LV)→Option β)(kr:(Int×Bool×LV×LV)→Option β):Option β:=
 bif decide (i<n)then
  aA gi i fun x3=>
  bif (decide (0≤x3.toInt))&&(decide (x3.toInt<(gk.length:Int)))then
  (gk[(x3.toInt:Int).toNat]?).bind fun x4=>
  aA gj i fun x5=>
  bif Nat.ble (x4.toStr.length+(me ([.int .u8 (wrap .u8 (wrap .i64 (97+x5.toInt)))]:LV)).length) qJ then
   aA gk i fun x6=>
   aA iP i fun x7=>
   kn (wrap .i64 (i+1),bc gk i (.str (x4.toStr++(me ([.int .u8 (wrap .u8 (wrap .i64 (97+x5.toInt)))]:LV)))),bc iP i (.bool true))
  else none
  else none
 else
  kr (i,decide (i<n),gk,iP)
noncomputable def Mt(C:af)(n ss:Int)(aT:LV)(kK oU:Int)(oV:Bool)(oW ms:Int)(aB aK br bH bP fU ko iE gi gj gE gU dY iD lT:LV):=un fun i=>un fun gk iP=>Ms C n ss aT kK oU oV oW ms aB aK br bH bP fU ko iE gi gj gE gU dY iD lT i gk iP (fun y=>some (Sum.inl y)) (fun r=>some (Sum.inr r))
noncomputable def Mu(C:af)(n i t87 t88 ss:Int)(aT:LV)(kK oU:Int)(oV:Bool)(oW ms:Int)(xk aK br bH bP fU ko iE gi gj gE gU gk iD lT iP:LV)(j:Int)(dY:LV){β:Type}(kn:(Int×LV)→Option β)(kr:(Int×Bool×LV)→Option β):Option β:=
 bif decide (j<n)then
  aA dY i fun PI=>
  aA dY i fun Wj=>
  aA gj j fun EV=>
  (ez Tryz.prog 22 dY [(i.toNat,0)]).bind fun PJ=>
  bif (decide (0≤EV.toInt))&&(decide (EV.toInt<(PJ.toList.length:Int)))then
  (ez Tryz.prog 22 dY [(i.toNat,0)]).bind fun EW=>
  (EW.toList[(EV.toInt:Int).toNat]?).bind fun JB=>
  bif (decide (0≤JB.toInt))&&(decide (JB.toInt<(xk.length:Int)))then
   (xk[(JB.toInt:Int).toNat]?).bind fun EX=>
   aA gE j fun PK=>
   (idx EX.toList PK.toInt).bind fun IY=>
   (ez Tryz.prog 22 dY [(i.toNat,0)]).bind fun IZ=>
   bif (decide (0≤j))&&(decide (j<(IZ.toList.length:Int)))then
   (ez Tryz.prog 22 dY [(i.toNat,0)]).bind fun PM=>
   (PM.toList[j.toNat]?).bind fun x31=>
   kn (wrap .i64 (j+1),setRow Tryz.prog (bc PM.toList j (vI IY.toInt)) 22 dY [(i.toNat,0)])
   else none
  else none
  else none
 else
  kr (j,decide (j<n),dY)
noncomputable def Gs(C:af)(n i t87 t88 ss:Int)(aT:LV)(kK oU:Int)(oV:Bool)(oW ms:Int)(xk aK br bH bP fU ko iE gi gj gE gU gk iD lT iP:LV):=un fun j dY=>Mu C n i t87 t88 ss aT kK oU oV oW ms xk aK br bH bP fU ko iE gi gj gE gU gk iD lT iP j dY (fun y=>some (Sum.inl y)) (fun r=>some (Sum.inr r))
noncomputable def Mv(C:af)(n t87 ss:Int)(aT:LV)(kK oU:Int)(oV:Bool)(oW ms:Int)(xk aK br bH bP fU ko iE gi gj gE gU gk iD lT:LV)(t88:Int)(dY iP:LV){β:Type}(kn:(Int×LV×LV)→Option β)(kr:(Int×Bool×LV×LV)→Option β):Option β:=
 bif decide (t88<t87)then
  aA xk t88 fun ka=>
  bif decide (0<(iP.length:Int))then
  (iP[0]?).bind fun EU=>
  bif EU.toBool then
   bif decide (0<(iP.length:Int))then
   (iP[0]?).bind fun EO=>
   bif (decide (0≤n))&&((decide (n≤n))&&(Nat.ble ((n.toNat)*8) aR))then
    aA dY t88 fun zV=>
    aA (bc dY t88 (ab (List.replicate (n.toNat) (vI 0)))) t88 fun zW=>
    (ez Tryz.prog 22 (bc dY t88 (ab (List.replicate (n.toNat) (vI 0)))) [(t88.toNat,0)]).bind fun uY=>
    bif decide (0<(uY.toList.length:Int))then
    (ez Tryz.prog 22 (bc dY t88 (ab (List.replicate (n.toNat) (vI 0)))) [(t88.toNat,0)]).bind fun EP=>
    (EP.toList[0]?).bind fun z7=>
    (Loop (Gs C n t88 t87 t88 ss aT kK oU oV oW ms xk aK br bH bP fU ko iE gi gj gE gU gk iD lT (iP.set 0 (.bool true))) (1,setRow Tryz.prog (EP.toList.set 0 (vI t88)) 22 (bc dY t88 (ab (List.replicate (n.toNat) (vI 0)))) [(t88.toNat,0)])).bind (un fun aHC=>un fun(aDI:Bool) (zT:LV)=>
     kn (wrap .i64 (t88+1),zT,iP.set 0 (.bool true)))
    else none
   else none
   else none
  else
   (C 115 [ab ka.toList,vI 0]).bind fun qe=>
   bif decide (0<(iP.length:Int))then
   (iP[0]?).bind fun x36=>
   bif (decide (0≤n))&&((decide (n≤n))&&(Nat.ble ((n.toNat)*8) aR))then
    aA dY t88 fun x37=>
    aA (bc dY t88 (ab (List.replicate (n.toNat) (vI 0)))) t88 fun x38=>
    (ez Tryz.prog 22 (bc dY t88 (ab (List.replicate (n.toNat) (vI 0)))) [(t88.toNat,0)]).bind fun Wk=>
    bif decide (0<(Wk.toList.length:Int))then
    (ez Tryz.prog 22 (bc dY t88 (ab (List.replicate (n.toNat) (vI 0)))) [(t88.toNat,0)]).bind fun PN=>
    (PN.toList[0]?).bind fun O4=>
    (Loop (Gs C n t88 t87 t88 ss aT kK oU oV oW ms xk aK br bH bP fU ko iE gi gj gE gU gk iD lT (iP.set 0 (.bool (gB qe)))) (1,setRow Tryz.prog (PN.toList.set 0 (vI t88)) 22 (bc dY t88 (ab (List.replicate (n.toNat) (vI 0)))) [(t88.toNat,0)])).bind (un fun aHD=>un fun(aaF:Bool) (Lx:LV)=>
     kn (wrap .i64 (t88+1),Lx,iP.set 0 (.bool (gB qe))))
    else none
   else none
   else none
  else none
 else
  kr (t88,decide (t88<t87),dY,iP)
noncomputable def SZ(C:af)(n t87 ss:Int)(aT:LV)(kK oU:Int)(oV:Bool)(oW ms:Int)(xk aK br bH bP fU ko iE gi gj gE gU gk iD lT:LV):=un fun t88=>un fun dY iP=>Mv C n t87 ss aT kK oU oV oW ms xk aK br bH bP fU ko iE gi gj gE gU gk iD lT t88 dY iP (fun y=>some (Sum.inl y)) (fun r=>some (Sum.inr r))
noncomputable def Mw(C:af)(n k' t163 t164 t176 Gt:Int)(aT:LV)(kK oU:Int)(oV:Bool)(oW ms abi:Int)(abj:LV)(abk:Int)(Dr abl bP fU ko iE gi gj gE gU dY gk iD lT iP Gu alG:LV)(t177:Int)(s6:LV){β:Type}(kn:(Int×LV)→Option β)(kr:(Int×Bool×LV)→Option β):Option β:=
 bif decide (t177<t176)then
  aA abl t177 fun Wl=>
  aA s6 k' fun x52=>
  (C 116 [vI abi,av abj,vI abk,ab Wl.toList]).bind fun r53=>
  (ez Tryz.prog 23 s6 [(k'.toNat,0)]).bind fun Wm=>
  bif (decide (0≤t177))&&(decide (t177<(Wm.toList.length:Int)))then
  (ez Tryz.prog 23 s6 [(k'.toNat,0)]).bind fun PO=>
  (PO.toList[t177.toNat]?).bind fun x56=>
  kn (wrap .i64 (t177+1),setRow Tryz.prog (bc PO.toList t177 (.bool (gB r53))) 23 s6 [(k'.toNat,0)])
  else none
 else
  kr (t177,decide (t177<t176),s6)
noncomputable def S3(C:af)(n k' t163 t164 t176 Gt:Int)(aT:LV)(kK oU:Int)(oV:Bool)(oW ms abi:Int)(abj:LV)(abk:Int)(Dr abl bP fU ko iE gi gj gE gU dY gk iD lT iP Gu alG:LV):=un fun t177 s6=>Mw C n k' t163 t164 t176 Gt aT kK oU oV oW ms abi abj abk Dr abl bP fU ko iE gi gj gE gU dY gk iD lT iP Gu alG t177 s6 (fun y=>some (Sum.inl y)) (fun r=>some (Sum.inr r))
noncomputable def Mx(C:af)(n t163 Gt:Int)(aT:LV)(kK oU:Int)(oV:Bool)(oW ms:Int)(Dr br bH bP fU ko iE gi gj gE gU dY gk iD lT iP Gu:LV)(t164:Int)(s6:LV){β:Type}(kn:(Int×LV)→Option β)(kr:(Int×Bool×LV)→Option β):Option β:=
 bif decide (t164<t163)then
  aA Dr t164 fun JC=>
  bif (decide (0≤n))&&((decide (n≤n))&&(Nat.ble ((n.toNat)*1) aR))then
  aA s6 t164 fun x50=>
  (Loop (S3 C n t164 t163 t164 (gi.length:Int) Gt aT kK oU oV oW ms ((JC.cell 0).toInt) ((JC.cell 1).toList) ((JC.cell 2).toInt) Dr gi br bH bP fU ko iE gj gE gU dY gk iD lT iP Gu) (0,bc s6 t164 (av (List.replicate (n.toNat) (V.bool false))))).bind (un fun aA8=>un fun(aA9:Bool) (aEe:LV)=>
   kn (wrap .i64 (t164+1),aEe))
  else none
 else
  kr (t164,decide (t164<t163),s6)
noncomputable def S4(C:af)(n t163 Gt:Int)(aT:LV)(kK oU:Int)(oV:Bool)(oW ms:Int)(Dr br bH bP fU ko iE gi gj gE gU dY gk iD lT iP Gu:LV):=un fun t164 s6=>Mx C n t163 Gt aT kK oU oV oW ms Dr br bH bP fU ko iE gi gj gE gU dY gk iD lT iP Gu t164 s6 (fun y=>some (Sum.inl y)) (fun r=>some (Sum.inr r))
noncomputable def My(C:af):cp:=bz 145 Zb [Q0,Q1,Q0,Q0,Q0,Q0,Q0,Q0,Q0,Q0,Q0,Q0,Q0,Q0,Q0,Q0,Q0,Q0,Q0,Q0,Q0,Q0,Q1,Q0,Q0,Q1] [[1,0,0,3,4,5,6,7,8,9,10,11,12,13,14,15,16,17,18,19,20,21,22,0,24,25,0]] (@Ms C) (bz 321 Zc [Q0,Q0,Q1,Q0,Q0,Q0,Q0,Q0,Q0,Q0,Q0,Q0,Q0,Q0,Q0,Q0,Q0,Q0,Q0,Q0,Q0,Q0,Q0,Q0,Q1,Q0,Q0,Q0,Q0] [[1,2,0,4,5,0,6,7,8,9,10,11,12,13,14,15,16,17,18,19,20,21,22,23,24,0,26,27,28,29]] (@Mu C) (bz 225 Zd [Q0,Q0,Q1,Q0,Q0,Q0,Q0,Q0,Q0,Q0,Q0,Q0,Q0,Q0,Q0,Q0,Q0,Q0,Q0,Q0,Q0,Q0,Q1,Q0,Q0,Q0,Q1] [[1,2,0,0,4,5,6,7,8,9,10,11,12,13,14,15,16,17,18,19,20,21,22,0,24,25,26,0]] (@Mv C) (bz 481 Ze [Q0,Q0,Q0,Q0,Q0,Q1,Q0,Q0,Q0,Q0,Q0,Q0,Q0,Q1,Q0,Q0,Q0,Q0,Q0,Q0,Q0,Q0,Q0,Q0,Q0,Q0,Q0,Q0,Q0,Q0,Q0,Q0,Q0,Q0] [[1,2,3,4,5,0,0,7,8,9,10,11,12,13,0,15,16,17,18,19,20,21,22,23,24,25,26,27,28,29,30,31,32,33,34]] (@Mw C) (bz 417 Zf [Q0,Q0,Q1,Q0,Q0,Q0,Q0,Q0,Q0,Q0,Q1,Q0,Q0,Q0,Q0,Q0,Q0,Q0,Q0,Q0,Q0,Q0,Q0,Q0,Q0,Q0,Q0,Q0] [[1,2,0,0,4,5,6,7,8,9,10,0,12,13,14,15,16,17,18,19,20,21,22,23,24,25,26,27,28]] (@Mx C) bh))))
theorem aEf(C:af):bn C (My C) 74 (Lp [1,1,1,1,1,1,0,1,0,0] 74):=bA Zb [Q0,Q1,Q0,Q0,Q0,Q0,Q0,Q0,Q0,Q0,Q0,Q0,Q0,Q0,Q0,Q0,Q0,Q0,Q0,Q0,Q0,Q0,Q1,Q0,Q0,Q1] [[1,0,0,3,4,5,6,7,8,9,10,11,12,13,14,15,16,17,18,19,20,21,22,0,24,25,0]] (@Ms C) (ba an)
theorem aEg(C:af):bn C (My C) 74 (Lp [1,1,1,1,1,1,1,0,1,0,0,1,1,0,0,1,1,1,1,1,0,0] 74):=bA Zc [Q0,Q0,Q1,Q0,Q0,Q0,Q0,Q0,Q0,Q0,Q0,Q0,Q0,Q0,Q0,Q0,Q0,Q0,Q0,Q0,Q0,Q0,Q0,Q0,Q1,Q0,Q0,Q0,Q0] [[1,2,0,4,5,0,6,7,8,9,10,11,12,13,14,15,16,17,18,19,20,21,22,23,24,0,26,27,28,29]] (@Mu C) (ba an)
theorem aEh(C:af):bn C (My C) 74 (Lp [1,1,1,1,1,1,1,0,1,0,0] 74):=bA Zd [Q0,Q0,Q1,Q0,Q0,Q0,Q0,Q0,Q0,Q0,Q0,Q0,Q0,Q0,Q0,Q0,Q0,Q0,Q0,Q0,Q0,Q0,Q1,Q0,Q0,Q0,Q1] [[1,2,0,0,4,5,6,7,8,9,10,11,12,13,14,15,16,17,18,19,20,21,22,0,24,25,26,0]] (@Mv C) (ba (bp (aEg C) an))
theorem aEi(C:af):bn C (My C) 74 (Lp [1,1,1,1,1,1,1,1,1,0,1,0,0,1,1,0,0,1,1,1,0,0] 74):=bA Ze [Q0,Q0,Q0,Q0,Q0,Q1,Q0,Q0,Q0,Q0,Q0,Q0,Q0,Q1,Q0,Q0,Q0,Q0,Q0,Q0,Q0,Q0,Q0,Q0,Q0,Q0,Q0,Q0,Q0,Q0,Q0,Q0,Q0,Q0] [[1,2,3,4,5,0,0,7,8,9,10,11,12,13,0,15,16,17,18,19,20,21,22,23,24,25,26,27,28,29,30,31,32,33,34]] (@Mw C) (ba an)
theorem aEj(C:af):bn C (My C) 74 (Lp [1,1,1,1,1,1,1,1,1,0,1,0,0] 74):=bA Zf [Q0,Q0,Q1,Q0,Q0,Q0,Q0,Q0,Q0,Q0,Q1,Q0,Q0,Q0,Q0,Q0,Q0,Q0,Q0,Q0,Q0,Q0,Q0,Q0,Q0,Q0,Q0,Q0] [[1,2,0,0,4,5,6,7,8,9,10,0,12,13,14,15,16,17,18,19,20,21,22,23,24,25,26,27,28]] (@Mx C) (ba (bp (aEi C) an))
noncomputable def Mz(C:af)(ss:Int)(aT aE:LV):Option LV:=
 (C 113 [ah aT,.bool true]).bind fun r1=>
 bif ((gI (r1.drop 3)):Int) != 0 then
  some [vI 0,ah ([]:LV),cY ([]:LV),ab ([]:LV),av ([]:LV),av ([]:LV),.list 23 ([]:LV),vI (gI (r1.drop 3)),vI ss,ah aT,sx aE]
 else
  bif decide ((((gL ((r1.drop 4).drop 1)).length:Int):Int)>400)then
  some [vI 0,ah ([]:LV),cY ([]:LV),ab ([]:LV),av ([]:LV),av ([]:LV),.list 23 ([]:LV),vI 3,vI ss,ah aT,sx aE]
  else
  bif (decide (0≤((gL ((r1.drop 4).drop 1)).length:Int)))&&((decide (((gL ((r1.drop 4).drop 1)).length:Int)≤((gL ((r1.drop 4).drop 1)).length:Int)))&&(Nat.ble (((((gL ((r1.drop 4).drop 1)).length:Int):Int).toNat)*24) aR))then
   bif (decide (0≤((gL ((r1.drop 4).drop 1)).length:Int)))&&((decide (((gL ((r1.drop 4).drop 1)).length:Int)≤((gL ((r1.drop 4).drop 1)).length:Int)))&&(Nat.ble (((((gL ((r1.drop 4).drop 1)).length:Int):Int).toNat)*16) aR))then
   bif decide (0<((gL (((((r1.drop 4).drop 1).drop 1).drop 1).drop 1)).length:Int))then
    ((gL (((((r1.drop 4).drop 1).drop 1).drop 1).drop 1))[0]?).bind fun x2=>
    bif Nat.ble (x2.toList.length*8) aR then
    bif (decide (0≤((gL ((r1.drop 4).drop 1)).length:Int)))&&((decide (((gL ((r1.drop 4).drop 1)).length:Int)≤((gL ((r1.drop 4).drop 1)).length:Int)))&&(Nat.ble (((((gL ((r1.drop 4).drop 1)).length:Int):Int).toNat)*1) aR))then
     (Loop (Mt C ((gL ((r1.drop 4).drop 1)).length:Int) ss aT 0 (gI r1) (gB (r1.drop 1)) (gI ((r1.drop 1).drop 1)) (aT.length:Int) aE ([]:LV) ([]:LV) ([]:LV) ([]:LV) ([]:LV) (gL (r1.drop 4)) (gL ((r1.drop 4).drop 1)) (gL (((r1.drop 4).drop 1).drop 1)) (gL ((((r1.drop 4).drop 1).drop 1).drop 1)) (gL (((((r1.drop 4).drop 1).drop 1).drop 1).drop 1)) (gL ((((((r1.drop 4).drop 1).drop 1).drop 1).drop 1).drop 1)) (List.replicate ((((gL ((r1.drop 4).drop 1)).length:Int):Int).toNat) (ab ([]:LV))) x2.toList ([]:LV)) (1,List.replicate ((((gL ((r1.drop 4).drop 1)).length:Int):Int).toNat) (V.str []),List.replicate ((((gL ((r1.drop 4).drop 1)).length:Int):Int).toNat) (V.bool false))).bind (un fun i_8=>un fun(uS:Bool)=>un fun(pq:LV) (yg:LV)=>
      (Loop (SZ C ((gL ((r1.drop 4).drop 1)).length:Int) ((gL (((((r1.drop 4).drop 1).drop 1).drop 1).drop 1)).length:Int) ss aT 0 (gI r1) (gB (r1.drop 1)) (gI ((r1.drop 1).drop 1)) (aT.length:Int) (gL (((((r1.drop 4).drop 1).drop 1).drop 1).drop 1)) aE ([]:LV) ([]:LV) ([]:LV) ([]:LV) ([]:LV) (gL (r1.drop 4)) (gL ((r1.drop 4).drop 1)) (gL (((r1.drop 4).drop 1).drop 1)) (gL ((((r1.drop 4).drop 1).drop 1).drop 1)) (gL ((((((r1.drop 4).drop 1).drop 1).drop 1).drop 1).drop 1)) pq x2.toList ([]:LV)) (0,List.replicate ((((gL ((r1.drop 4).drop 1)).length:Int):Int).toNat) (ab ([]:LV)),yg)).bind (un fun aHE=>un fun(aHF:Bool)=>un fun(Gk:LV) (AJ:LV)=>
       bif (decide (0≤(aE.length:Int)))&&((decide ((aE.length:Int)≤(aE.length:Int)))&&(Nat.ble (((aE.length:Int).toNat)*24) aR))then
       (Loop (S4 C ((gL ((r1.drop 4).drop 1)).length:Int) (aE.length:Int) ss aT 0 (gI r1) (gB (r1.drop 1)) (gI ((r1.drop 1).drop 1)) (aT.length:Int) aE ([]:LV) ([]:LV) ([]:LV) ([]:LV) ([]:LV) (gL (r1.drop 4)) (gL ((r1.drop 4).drop 1)) (gL (((r1.drop 4).drop 1).drop 1)) (gL ((((r1.drop 4).drop 1).drop 1).drop 1)) (gL (((((r1.drop 4).drop 1).drop 1).drop 1).drop 1)) (gL ((((((r1.drop 4).drop 1).drop 1).drop 1).drop 1).drop 1)) Gk pq x2.toList ([]:LV) AJ) (0,List.replicate ((aE.length:Int).toNat) (av ([]:LV)))).bind (un fun aHG=>un fun(aHH:Bool) (aEk:LV)=>
        some [vI (aT.length:Int),ah Gk,cY pq,ab x2.toList,av ([]:LV),av AJ,.list 23 aEk,vI 0,vI ss,ah aT,sx aE])
       else none))
    else none
    else none
   else none
   else none
  else none
theorem aEl{ss:Int}{aT aE:LV}{r:Option LV}(h:Mz CC ss aT aE=r):CC 74 [vI ss,ah aT,sx aE]=r:=bj (bp (aEf CC) (bp (aEh CC) (bp (aEj CC) an))) h
theorem aEm{l:List Nat}(hl:l.length≤1000000):CC 115 [ab (nS l),vI 0]=some [.bool (decide (0∈l))]:=by
 have key:∃k:Int,CC 145 [ab (nS l),vI 0]=some [vI k]∧decide (k≥0)=decide (0∈l):=by
  have hL:=aAa (step:=SY CC (nS l) 0 ((nS l).length:Int)) (fun i=>l.getD i 0==0) l.length (fun i=>(i:Int)) (fun i=> .inl (i:Int)) (.inr ((l.length:Int),false)) (fun i hi=> ?_) ?_
  ·rcases hL with⟨i,hi,hb,_,e⟩|⟨hb,e⟩
   ·refine⟨(i:Int),alE ?_,?_⟩
    ·unfold abh;exact bs e rfl
    grind
   ·refine⟨-1,alE ?_,?_⟩
    ·unfold abh;exact bs e rfl
    ·rw[dj (by omega),dj fun hm=> ?_];obtain⟨i,hi,e⟩:=GK hm;grind
  ·simp only[SY,Mr];rw[dE];refine bT (bt hi) (bs (iT hi) ?_);by_cases c:l[i]=0
   ·rw[aF (by grind)];exact bT (by show((0:Int)==((l[i]:Nat):Int))=true;rw[c];rfl) rfl
   ·rw[aD (by grind)];refine bF (by show((0:Int)==((l[i]:Nat):Int))=false;grind) ?_;rw[bu (by omega)]
  ·simp only[SY,Mr];rw[dE];grind
 obtain⟨k,e,h⟩:=key;refine aEd ?_;unfold alF;simp_all
theorem getD_map{l:List Nat}{k:Nat→Nat}{i:Nat}(h:i<l.length):(l.map k).getD i 0=k (l.getD i 0):=by
 grind
theorem abm{n:Nat}{f g k:List Nat}(hf:Tr n f)(hg:Tr n g):comp (comp f g) k=comp f (comp g k):=by
 unfold comp;rw[AQ];exact qA fun i hi=>(getD_map (k:=fun i=>k.getD i 0) (by rw[hg.1];exact hf.2 i hi)).symm
theorem comp_id{n:Nat}{f:List Nat}(hf:Tr n f):comp f (List.range n)=f:=by
 refine uj (by simp[comp]) fun i h1 h2=> ?_;have:=hf.at h2;simp[comp,this]
def cx(S:List (List Nat))(i j:Nat):Nat:=iO S (comp (S.getD i []) (S.getD j []))
def vA(S:List (List Nat))(i j:Nat):LV:=tab S.length fun b=>if b<j then nV (cx S i b)else vI 0
def s7(S:List (List Nat))(i j:Nat):LV:=tab S.length fun a=>if a<i then ab (vA S a S.length)else if a=i then ab (vA S i j)else ab []
def ug(S:List (List Nat))(i:Nat):LV:=tab S.length fun a=>if a<i then ab (vA S a S.length)else ab []
def xU(L:Nat)(g:Nat→List Nat)(S:List (List Nat))(i:Nat):Bool:=decide (∃a,a<i∧0∈e7 L g S (S.getD a []))
def kI(L:Nat)(g:Nat→List Nat)(S:List (List Nat))(i:Nat):LV:=tab S.length fun j=> .bool (if j=0 then xU L g S i else true)
def Big(n:Nat):Prop:= ∃T:List (List Nat),T.Nodup∧(∀f∈T,Tr n f)∧400<T.length
section
variable {L n:Nat}{g:Nat→List Nat}{S:List (List Nat)}{P K:List Int}{R:List (List Nat)}{W:List (List UInt8)}{B:List Int}{s:List Nat}
theorem nD.row(h:nD L n S.length g S P K R W B s):R=S.map (e7 L g S):=by rw[h.rr,xn]
theorem nD.S5(h:nD L n S.length g S P K R W B s){i:Nat}(hi:i<S.length):(sV R)[i]? =some (tV (e7 L g S (S.getD i []))):=by
 rw[h.row];simp[sV,hi]
theorem nD.cl'(h:nD L n S.length g S P K R W B s){f:List Nat}(hf:f∈S){x:Nat}(hx:x<L):bC g f x∈S:=h.cl f (by grind) x hx
theorem nD.word(h:nD L n S.length g S P K R W B s):∀{i:Nat},i<S.length→∃w,WL L w∧S.getD i []=w.foldl (bC g) (List.range n):=by
 intro i
 induction i using Nat.strongRecOn with
 |ind i ih=>
  intro hi;rcases GS i with rfl|h0
  ·refine⟨[],WL.nil,?_⟩;have:=h.I.id;cases S with
   |nil=>cases this
   |cons a S=>grind
  ·obtain⟨p,x,_,_,hp,hx,e⟩:=h.I.p i h0 hi;obtain⟨w,hw,e2⟩:=ih p hp (by omega);refine⟨w++[x],WL.app.2 ⟨hw,WL.nil.cons hx⟩,?_⟩;rw[AT,←e2,e];rfl
theorem nD.alH(h:nD L n S.length g S P K R W B s)(hg:∀x,x<L→Tr n (g x)){f:List Nat}(hf:f∈S):∀{j:Nat},j<S.length→comp f (S.getD j [])∈S:=by
 intro j hj
 induction j using Nat.strongRecOn with
 |ind j ih=>
  rcases GS j with rfl|h0
  ·have:S.getD 0 []=List.range n:=by
    have:=h.I.id;cases S with
    |nil=>cases this
    |cons a S=>grind
   rw[this,comp_id (h.I.tr f hf)];exact hf
  ·obtain⟨p,x,_,_,hp,hx,e⟩:=h.I.p j h0 hj;have fi:p<S.length:=by omega
   have htp:Tr n (S.getD p []):=by rw[ep fi];exact h.I.tr _ (dw fi)
   rw[e,←abm (h.I.tr f hf) htp];exact h.cl' (ih p hp fi) hx
theorem nD.aEn(h:nD L n S.length g S P K R W B s)(hg:∀x,x<L→Tr n (g x)){i j:Nat}(hi:i<S.length)(hj:j<S.length):cx S i j<S.length:=
 vu (h.alH hg (by grind) hj)
section
variable (h:nD L n S.length g S P K R W B s)(hg:∀x,x<L→Tr n (g x))
include h hg
theorem alI{i:Nat}(hi:i<S.length){k1 k2 k3 k4 k5 k6 k7:Int}{k8:Bool}{l1 l2 l3 l4 l5 l6 l7 l8 l9 l10 l11 l12 l13 l14:LV}:
  Loop (Gs CC (S.length:Int) (i:Int) k1 k2 k3 l1 k4 k5 k8 k6 k7 (sV R) l2 l3 l4 l5 l6 l7 l8 l9 (iL P) (iL K) l10 l11 l12 l13 l14) (1,s7 S i 1)=some ((S.length:Int),false,s7 S i S.length):=by
 have hlen:=h.I.len;have kD:∀{j:Nat},(s7 S i j)[i]? =some (ab (vA S i j)):=fun {j}=>by unfold s7;rw[nj hi,fZ,dG]
 have hl:∀{j:Nat},(vA S i j).length=S.length:=fun {j}=>en;have jK:∀{j:Nat},j<S.length→(s7 S i j).set i (ab ((vA S i j).set j (nV (cx S i j))))=s7 S i (j+1):=fun {j} hj=>by
  unfold s7 vA;rw[mw,mw];grind
 have hfi:Tr n (S.getD i []):=by rw[ep hi];exact h.I.tr _ (dw hi)
 have key:=nh (step:=Gs CC (S.length:Int) (i:Int) k1 k2 k3 l1 k4 k5 k8 k6 k7 (sV R) l2 l3 l4 l5 l6 l7 l8 l9 (iL P) (iL K) l10 l11 l12 l13 l14) (fun j x=>x=((j:Int),s7 S i j)) (fun r=>r=((S.length:Int),false,s7 S i S.length)) (S.length-1) 1 (1,s7 S i 1) (fun j h1 hj x hx=> ?_) (fun x hx=> ?_) rfl
 ·grind
 ·subst hx;have hj:j<S.length:=by omega
  obtain⟨p,x,eP,eK,hp,hx,e⟩:=h.I.p j (by omega) hj;have fi:p<S.length:=by omega
  have htp:Tr n (S.getD p []):=by rw[ep fi];exact h.I.tr _ (dw fi)
  have hm:=h.aEn hg hi fi;have hmm:S.getD (cx S i p) []=comp (S.getD i []) (S.getD p []):=by
   rw[ep hm];exact aav (h.alH hg (by grind) fi)
  have hv:(e7 L g S (S.getD (cx S i p) [])).getD x 0=cx S i j:=by
   unfold e7;rw[getD_map (by grind),ep (l:=List.range L) (by grind),M1,hmm];unfold cx bC;rw[abm hfi htp,←e]
  have hrl:(e7 L g S (S.getD (cx S i p) [])).length=L:=by simp[e7]
  refine⟨_,?_,rfl⟩;simp only[Gs,Mu,un,aA,bc,Int.toNat_natCast];have g1:(vA S i j)[p]? =some (nV (cx S i p)):=by unfold vA;rw[nj fi,aF hp]
  have g2:(vA S i j)[j]? =some (vI 0):=by unfold vA;rw[nj hj,fZ]
  refine bT (bt hj) ((bJ kD).trans ((bJ kD).trans ((bJ (xh (by rw[h.I.lP];exact hj))).trans (bs (sH kD) ?_))));rw[eP,V.eo];refine bT (ra (by grind)) (bs (sH kD) ?_);rw[V.eo,show(vI (p:Int)).toInt.toNat=p from rfl];refine bs g1 (bT (ra (by rw[AH,h.row,cT];exact hm)) (bs (by rw[show(nV (cx S i p)).toInt.toNat=cx S i p from rfl];exact h.S5 hm) ((bJ (xh (by rw[h.I.lK];exact hj))).trans ?_)));rw[eK,sZ];refine bs (iT (i:=x) (by omega)) (bs (sH kD) ?_);rw[V.eo];refine bT (ra (by grind)) (bs (sH kD) ?_);rw[V.eo];refine bs g2 ?_;have qT:(e7 L g S (S.getD (cx S i p) []))[x]'(by omega)=cx S i j:=(ep (d:=0) _).symm.trans hv;rw[Jl kD,bu (by omega),←jK hj,qT];rfl
 ·subst hx;have e1:1+(S.length-1)=S.length:=by omega
  rw[e1];refine⟨_,?_,rfl⟩;simp only[Gs,Mu,un];grind
end
end
section
variable {L n:Nat}{g:Nat→List Nat}{S:List (List Nat)}{P K:List Int}{R:List (List Nat)}{W:List (List UInt8)}{B:List Int}{s:List Nat}
section
variable (h:nD L n S.length g S P K R W B s)(hg:∀x,x<L→Tr n (g x))
include h
theorem nD.Gv:S.getD 0 []=List.range n:=by
 have:=h.I.id;cases S with
 |nil=>cases this
 |cons a S=>grind
theorem mul_zero{i:Nat}(hi:i<S.length):cx S i 0=i:=by
 unfold cx;have:=h.I.tr _ (dw hi);rw[h.Gv,ep hi,comp_id this];exact aaw h.I.nd hi
theorem aEo{k1 k2 k3 k4 k5:Int}{k8:Bool}{l1 l2 l3 l4 l5 l6 l7 l8 l9 l10 l11 l12 l13 l14:LV}:∃f:Nat→List UInt8,
  Loop (Mt CC (S.length:Int) k1 l1 k2 k3 k8 k4 k5 l2 l3 l4 l5 l6 l7 l8 l9 (iL P) (iL K) l10 l11 l12 l13 l14) (1,List.replicate S.length (V.str []),List.replicate S.length (V.bool false))=some ((S.length:Int),false,tab S.length fun j=> .str (f j),kI L g S 0):=by
 have hlen:=h.I.len;have key:=nh (step:=Mt CC (S.length:Int) k1 l1 k2 k3 k8 k4 k5 l2 l3 l4 l5 l6 l7 l8 l9 (iL P) (iL K) l10 l11 l12 l13 l14)
  (fun i x=> ∃f:Nat→List UInt8,x=((i:Int),(tab S.length fun j=>V.str (f j)),tab S.length fun j=>V.bool (decide (0<j∧j<i)))∧∀j,(f j).length≤j)
  (fun r=> ∃f:Nat→List UInt8,r=((S.length:Int),false,(tab S.length fun j=>V.str (f j)),kI L g S 0)) (S.length-1) 1
  (1,List.replicate S.length (V.str []),List.replicate S.length (V.bool false)) (fun i h1 hi x hx=> ?_) (fun x hx=> ?_) ⟨fun _=>[],?_,fun j=>by simp⟩
 ·obtain⟨r,e,f,rfl⟩:=key;exact⟨f,e⟩
 ·obtain⟨f,rfl,hf⟩:=hx;have bS:i<S.length:=by omega
  obtain⟨p,x,eP,eK,hp,hx,_⟩:=h.I.p i (by omega) bS;have fi:p<S.length:=by omega
  have hfp:=hf p;simp only[Mt,Ms,un,aA,bc];refine⟨_,bT (bt bS) ((bJ (xh (by rw[h.I.lP];exact bS))).trans ?_),fun j=>if j=i then f p++me [V.int .u8 (wrap .u8 (wrap .i64 (97+(x:Int))))]else f j,rfl,fun j=> ?_⟩
  ·rw[eP];refine bT (ra (by simp_all)) (bs (by rw[show(vI (p:Int)).toInt.toNat=p from rfl];exact nj fi) ((bJ (xh (by rw[h.I.lK];exact bS))).trans ?_));rw[eK];refine bT (AV ?_) ((tw (by simp_all)).trans ((tw (by simp_all)).trans ?_))
   ·show(f p).length+1≤qJ;unfold qJ;omega
   ·rw[bu (by omega),Int.toNat_natCast,mw,mw];refine congrArg (fun t=>some (Sum.inl t)) (dm rfl (dm (dW fun j _=> ?_) (dW fun j _=> ?_)))
    ·dsimp only;by_cases c:j=i
     all_goals simp_all
    ·by_cases c:j=i
     ·grind
     ·rw[aD c];by_cases c2:0<j∧j<i
      ·grind
      ·rw[dj c2,dj (by omega)]
  ·dsimp only;by_cases c:j=i
   ·rw[aF c,gY];show _+1≤j;omega
   grind
 ·obtain⟨f,rfl,hf⟩:=hx;have e1:1+(S.length-1)=S.length:=by have:=h.I.pos;omega
  rw[e1];simp only[Mt,Ms,un];refine⟨_,bF (cL (aW _)) rfl,f,?_⟩;rw[cL (aW _)];refine dm rfl (dm rfl (dm rfl (dW fun j hj=> ?_)));by_cases c:j=0
  ·rw[aF c,dj (by omega)];exact congrArg V.bool (dj (by omega)).symm
  ·rw[aD c,cB (by omega)]
 ·rw[p5,p5];refine dm rfl (dm rfl (dW fun j _=> ?_));rw[dj (by omega)]
include hg
theorem aEp(hL:L≤6){k1 k2 k3 k4 k5:Int}{k8:Bool}{l1 l2 l3 l4 l5 l6 l7 l8 l9 l10 l11 l12 l13:LV}:
  Loop (SZ CC (S.length:Int) (S.length:Int) k1 l1 k2 k3 k8 k4 k5 (sV R) l2 l3 l4 l5 l6 l7 l8 l9 (iL P) (iL K) l10 l11 l12 l13) (0,List.replicate S.length (ab ([]:LV)),kI L g S 0)=some ((S.length:Int),false,ug S S.length,kI L g S S.length):=by
 have hlen:=h.I.len;have gg:=h.I.pos;rw[show List.replicate S.length (ab ([]:LV))=ug S 0 from by rw[p5];exact dW fun j _=>by rw[fZ]];refine eZ S.length (fun i=>((i:Int),ug S i,kI L g S i)) _ (fun i hi=> ?_) ?_
 ·have hl:(kI L g S i).length=S.length:=en;have hy:(ug S i).length=S.length:=en;have e0:(kI L g S i)[0]? =some (.bool (xU L g S i)):=nj gg;have hz:((ug S i).set i (ab (List.replicate S.length (vI 0))))[i]? =some (ab (List.replicate S.length (vI 0))):=by
   rw[sa (by rw[hy];exact hi)]
  have kJ:setRow Tryz.prog ((List.replicate S.length (vI 0)).set 0 (vI (i:Int))) 22 ((ug S i).set i (ab (List.replicate S.length (vI 0)))) [(i,0)]=s7 S i 1:=by
   rw[Jl hz,GH];unfold ug s7;rw[mw];refine dW fun a _=> ?_;by_cases c:a=i
   ·subst c;rw[dG,fZ,dG,p5,mw];refine congrArg _ (dW fun b _=> ?_);by_cases c2:b=0
    ·rw[aF c2,dG,c2,mul_zero h hi];rfl
    ·rw[aD c2,fZ]
   ·rw[aD c];by_cases c2:a<i
    ·rw[aF c2,aF c2]
    ·rw[aD c2,aD c2,aD c]
  have lM:s7 S i S.length=ug S (i+1):=dW fun a _=>by
   by_cases c:a=i
   ·subst c;rw[fZ,dG,dG]
   ·by_cases c2:a<i
    ·rw[dG,dG]
    ·rw[fZ,aD c,fZ]
  have fi:∀c:Bool,c=xU L g S (i+1)→(kI L g S i).set 0 (.bool c)=kI L g S (i+1):=fun c hc=>by
   unfold kI;rw[mw];refine dW fun j _=> ?_;by_cases c2:j=0
   ·rw[aF c2,aF c2,hc]
   ·rw[aD c2,aD c2,aD c2]
  have S6:xU L g S (i+1)=(xU L g S i||decide (0∈e7 L g S (S.getD i []))):=by
   unfold xU;rw[Dz,GF,GY,GY,GY];constructor
   ·rintro⟨a,ha,hm⟩;rcases jG a i with c|c
    ·exact .inl ⟨a,c,hm⟩
    ·exact .inr (by rw[show i=a by omega];exact hm)
   ·rintro(⟨a,ha,hm⟩|hm)
    ·exact⟨a,by omega,hm⟩
    ·exact⟨i,by omega,hm⟩
  simp only[SZ,Mv,un,aA,bc,Int.toNat_natCast];have Gw:∀{l:LV},l.length=S.length→decide (0<(l.length:Int))=true:=fun {l} hl=>cB (by omega);have Gx:(decide (0≤(S.length:Int))&&(decide ((S.length:Int)≤(S.length:Int))&&(S.length*8).ble aR))=true:=by
   have:=gP (n:=S.length) (m:=8) (by omega) (by omega);rwa [Int.toNat_natCast]at this
  have Qz:(ug S i)[i]? =some (ab []):=by unfold ug;rw[nj hi,fZ]
  have hzi:(((ug S i).set i (ab (List.replicate S.length (vI 0)))).length)=S.length:=by rw[td,hy]
  have hz0:(List.replicate S.length (vI 0))[0]? =some (vI 0):=by rw[MQ,aF gg]
  cases hb:xU L g S i with
  |true=>
   rw[hb]at e0 S6;refine bT (bt hi) ((bJ (h.S5 hi)).trans (bT (Gw hl) (bs e0 (bT rfl (bT (Gw hl) (bs e0 (bT Gx ((bJ Qz).trans ((bJ hz).trans (bs (sH hz) ?_))))))))));rw[V.eo];refine bT (Gw (by simp)) (bs (sH hz) ?_);rw[V.eo];refine bs hz0 ?_;rw[kJ];refine bs (alI h hg hi) ?_;rw[fi true (by rw[S6];rfl),lM,bu (by omega)];rfl
  |false=>
   rw[hb]at e0 S6;have hC:=aEm (l:=e7 L g S (S.getD i [])) (by rw[e7,cT,lk];omega);refine bT (bt hi) ((bJ (h.S5 hi)).trans (bT (Gw hl) (bs e0 (bF rfl (bs (by rw[sZ];exact hC) (bT (Gw hl) (bs e0 (bT Gx ((bJ Qz).trans ((bJ hz).trans (bs (sH hz) ?_)))))))))));rw[V.eo];refine bT (Gw (by simp)) (bs (sH hz) ?_);rw[V.eo];refine bs hz0 ?_;rw[kJ];refine bs (alI h hg hi) ?_;rw[lM,bu (by omega)];show some (Sum.inl (_,_,(kI L g S i).set 0 (V.bool (decide (0∈e7 L g S (S.getD i []))))))=_;rw[fi _ (by rw[S6];rfl)]
 ·simp only[SZ,Mv,un];refine bF (cL (aW _)) ?_;rw[cL (aW _)]
end
end
def zD:Da:=⟨0,0,[],[]⟩
def BM(m:Da)(e:Int):List V:=[vI (m.L:Int),vI (m.st:Int),vI e,av m.dN,ah m.dX]
end Go.AM
set_option maxRecDepth 100000
namespace Go.AM
open Go.IntKind (wrap)
open Go.Proofs
namespace Da
def MA(a:Da)(k q:Nat):Prop:= ∃w,WL a.L w∧w.length≤k∧a.acc q w=true
def Live(a:Da)(q:Nat):Prop:= ∃w,WL a.L w∧a.acc q w=true
open Classical in
noncomputable def TP(a:Da)(q:Nat):Bool:=decide (a.Live q)
theorem MA.live{a:Da}{k q:Nat}(h:a.MA k q):a.Live q:=by obtain⟨w,h1,_,h3⟩:=h;exact⟨w,h1,h3⟩
theorem MA.mono{a:Da}{k m q:Nat}(h:a.MA k q)(hk:k≤m):a.MA m q:=by obtain⟨w,h1,h2,h3⟩:=h;exact⟨w,h1,by omega,h3⟩
end Da
def upd(r:Nat→Bool)(p:Nat)(b:Bool)(q:Nat):Bool:=if q=p then b else r q
structure LvI(a:Da)(r0 r:Nat→Bool)(c:Bool):Prop where
 good:∀q,q<a.n→r q=true→a.Live q
 up:∀q,q<a.n→r0 q=true→r q=true
 yes:c=true→∃q,q<a.n∧r0 q=false∧r q=true
 no:c=false→∀q,q<a.n→r q=r0 q
end Go.AM
set_option maxRecDepth 100000
namespace Go.AM
open Go.IntKind (wrap)
open Go.Proofs
noncomputable def alJ(C:af)(cD cE:Int)(cd cH:LV):Option LV:=
 (C 26 [vI cD,vI cE,av cd,ah cH]).bind fun r1=>
 bif ((gI r1):Int) != 0 then
  some [vI 0,vI 0,vI (gI r1),av ([]:LV),ah ([]:LV)]
 else
  (C 18 [vI cD,vI cE,av cd,ah cH]).bind fun r2=>
  some [vI (gI r2),vI (gI (r2.drop 1)),vI 0,av (gL (r2.drop 2)),ah (gL ((r2.drop 2).drop 1))]
theorem aEq{cD cE:Int}{cd cH:LV}{r:Option LV}(h:alJ CC cD cE cd cH=r):CC 11 [vI cD,vI cE,av cd,ah cH]=r:=bj (L:=bh) an h
theorem sw{a:Da}(h:a.Ok):(minD a).Ok:=(vX h).ok
theorem tB{a:Da}(h:a.Ok):(minD a).L=a.L:=(vX h).hL
theorem acW{a:Da}(h:a.Ok):(minD a).st=0:=(vX h).st
theorem zO{a:Da}(h:a.Ok){w:List Nat}(hw:WL a.L w):(minD a).acc (minD a).st w=a.acc a.st w:=by
 rw[acW h];exact(vX h).tN w hw
theorem VF{a b:Da}(ha:a.Ok)(hb:b.Ok)(hL:a.L=b.L)(hl:∀w,WL a.L w→a.acc a.st w=b.acc b.st w):minD a=minD b:=
 Wi hb (hL▸Canon.congr (vX ha) hl)
theorem aee{a:Da}(ha:a.Ok):minD (minD a)=minD a:=
 VF (sw ha) ha (tB ha) fun w hw=>zO ha (by rwa [tB ha]at hw)
theorem aqP{a:Da}(h:a.Ok):CC 11 (eu a)=some (BM (minD a) 0):=by
 refine aEq ?_;unfold alJ;refine bs (su h) (bF rfl ?_);refine bs (Bx h) ?_;rfl
noncomputable def xX(C:af)(cD cE:Int)(cd cH:LV):Option LV:=
 (C 26 [vI cD,vI cE,av cd,ah cH]).bind fun r1=>
 bif ((gI r1):Int) != 0 then
  some [vI 0,ah ([]:LV),cY ([]:LV),ab ([]:LV),av ([]:LV),av ([]:LV),vI (gI r1)]
 else
  (C 18 [vI cD,vI cE,av cd,ah cH]).bind fun r2=>
  (C 73 [vI (gI r2),vI (gI (r2.drop 1)),av (gL (r2.drop 2)),ah (gL ((r2.drop 2).drop 1)),vI 0]).bind fun r3=>
  bif ((gI r3):Int) != 0 then
  some [vI 0,ah ([]:LV),cY ([]:LV),ab ([]:LV),av ([]:LV),av ([]:LV),vI (gI r3)]
  else
  (C 74 [vI (gI (r3.drop 1)),ah (gL ((r3.drop 1).drop 1)),sx (gL (((r3.drop 1).drop 1).drop 1))]).bind fun r4=>
  bif ((gI ((r4.drop 6).drop 1)):Int) != 0 then
   some [vI 0,ah ([]:LV),cY ([]:LV),ab ([]:LV),av ([]:LV),av ([]:LV),vI (gI ((r4.drop 6).drop 1))]
  else
   ((gL (r4.drop 6))[0]?).bind fun x5=>
   some [vI (gI r4),ah (gL (r4.drop 1)),cY (gL ((r4.drop 1).drop 1)),ab (gL (((r4.drop 1).drop 1).drop 1)),av x5.toList,av (gL (((((r4.drop 1).drop 1).drop 1).drop 1).drop 1)),vI 0]
theorem Ow{cD cE:Int}{cd cH:LV}{r:Option LV}(h:xX CC cD cE cd cH=r):CC 45 [vI cD,vI cE,av cd,ah cH]=r:=bj (L:=bh) an h
structure sq(m:Da)(S:List (List Nat)):Prop where
 tr:∀f∈S,Tr m.n f
 nd:S.Nodup
 Gv:S.getD 0 []=List.range m.n
 pos:0<S.length
 cl:∀f∈S,∀x,x<m.L→bC m.gT f x∈S
 re:∀i,i<S.length→∃w,WL m.L w∧S.getD i []=w.foldl (bC m.gT) (List.range m.n)
 le:S.length≤400
def rh(S:List (List Nat)):LV:=tab S.length fun i=>ab (tab S.length fun j=>nV (cx S i j))
def nk(m:Da)(S:List (List Nat)):LV:=nS (e7 m.L m.gT S (List.range m.n))
def oy(m:Da)(S:List (List Nat)):LV:=tab S.length fun i=> .bool (m.fin ((S.getD i []).getD m.st 0))
def sr(m:Da)(S:List (List Nat))(f:Nat→List UInt8):List V:=
 [vI (m.L:Int),ah (rh S),cY (tab S.length fun j=> .str (f j)),ab (nk m S),av (oy m S),av (kI m.L m.gT S S.length)]
def syZ(e:Int):List V:=[vI 0,ah [],cY [],ab [],av [],av [],vI e]
theorem aEr{S:List (List Nat)}:ug S S.length=rh S:=dW fun i hi=>by
 rw[aF hi];exact congrArg _ (dW fun j hj=>aF hj)
section
variable {m:Da}(h:m.Ok)(nn:m.n≤32)
include h nn
theorem aEs{S:List (List Nat)}(hS:∀f∈S,Tr m.n f)(hl:S.length≤400){k1 k2 k3 k4 k5 k6 k7 k8:Int}{k9:Bool}{l1 l2 l3 l4 l5 l6 l7 l8 l9 l10 l11 l12 l13 l14 S7 S8 l17:LV}:
  Loop (S3 CC k1 0 k2 k3 (S.length:Int) k4 l1 k5 k6 k9 k7 k8 (m.st:Int) m.dN 0 l2 (sV S) l3 l4 l5 l6 l7 l8 l9 l10 l11 l12 l13 l14 S7 S8 l17) (0,[av (List.replicate S.length (V.bool false))])=some ((S.length:Int),false,[av (oy m S)]):=by
 refine vU (fun i a=>((i:Int),[av a])) S.length (fun i=> .bool (m.fin ((S.getD i []).getD m.st 0))) _ (by simp) (fun a=>((S.length:Int),false,[av a])) (fun i hi a ha=> ?_) ?_
 ·simp only[S3,Mw,un,aA,bc];have e0:([av a]:LV)[0]? =some (av a):=rfl;refine bT (bt hi) ((bJ (Lr hi)).trans ((bJ (i:=0) e0).trans (bs (by rw[sZ];exact aCy h nn (hS _ (dw hi))) (bs (alm e0) ?_))));rw[V.eo];refine bT (ra (by omega)) (bs (alm e0) ?_);rw[V.eo,Int.toNat_natCast];refine bs (bX (by omega)) ?_;rw[bu (by omega),ep hi];exact congrArg (fun t=>some (Sum.inl (((i+1:Nat):Int),t))) (aCv e0)
 ·simp only[S3,Mw,un];grind
theorem aEt:∃r,CC 74 [vI (m.n:Int),ah (gV m.L m.gT),sx (vz m)]=some r∧
  ((r=[vI 0,ah [],cY [],ab [],av [],av [],.list 23 [],vI 3,vI (m.n:Int),ah (gV m.L m.gT),sx (vz m)]∧Big m.n)∨
   ∃S,∃f:Nat→List UInt8,r=[vI (m.L:Int),ah (rh S),cY (tab S.length fun j=> .str (f j)),ab (nk m S),av [],av (kI m.L m.gT S S.length),.list 23 [av (oy m S)],vI 0,vI (m.n:Int),ah (gV m.L m.gT),sx (vz m)]∧sq m S):=by
 have hs:=h.s;have hL:=h.l6;have hg:∀x,x<m.L→Tr m.n (m.gT x):=fun x hx=>h.gT hx;obtain⟨r,e1,h1⟩:=aBM (n:=m.n) (by omega) nn hg h.l1 h.l6;have fin:∀z,Mz CC (m.n:Int) (gV m.L m.gT) (vz m)=z→CC 74 [vI (m.n:Int),ah (gV m.L m.gT),sx (vz m)]=z:=fun z h=>aEl h;rcases h1 with⟨rfl,T,t1,t2,t3⟩|⟨S,P,K,R,W,B,s,U,rfl,hE⟩
 ·refine⟨_,fin _ ?_,.inl ⟨rfl,T,t1,t2,by omega⟩⟩;unfold Mz;exact bs e1 (bT rfl rfl)
 ·rcases jG 400 S.length with c|c
  ·refine⟨_,fin _ ?_,.inl ⟨rfl,S,hE.I.nd,hE.I.tr,c⟩⟩;unfold Mz;exact bs e1 (bF rfl (bT (by show decide ((((sV S).length:Nat):Int)>400)=true;rw[AH];grind) rfl))
  ·have gg:=hE.I.pos;obtain⟨f,e2⟩:=aEo (L:=m.L) (g:=m.gT) hE (k1:=(m.n:Int)) (k2:=0) (k3:=(m.n:Int)) (k4:=(S.length:Int)) (k5:=((gV m.L m.gT).length:Int)) (k8:=true) (l1:=gV m.L m.gT) (l2:=vz m) (l3:=[]) (l4:=[]) (l5:=[]) (l6:=[]) (l7:=[]) (l8:=gV m.L m.gT) (l9:=sV S) (l10:=sV R) (l11:=U) (l12:=List.replicate S.length (ab [])) (l13:=nk m S) (l14:=[]);refine⟨_,fin _ ?_,.inr ⟨S,f,rfl,hE.I.tr,hE.I.nd,hE.Gv,gg,fun f hf x hx=>hE.cl' hf hx,fun i hi=>hE.word hi,c⟩⟩;unfold Mz;refine bs e1 (bF rfl (bF (by show decide ((((sV S).length:Nat):Int)>400)=false;rw[AH];grind) ?_));have lM:(sV R)[0]? =some (tV (e7 m.L m.gT S (List.range m.n))):=by rw[hE.S5 gg,hE.Gv]
   have Ej:(sV R).length=S.length:=by rw[AH,hE.row,cT]
   have e3:=aEp hE hg hL (k1:=(m.n:Int)) (k2:=0) (k3:=(m.n:Int)) (k4:=(S.length:Int)) (k5:=((gV m.L m.gT).length:Int)) (k8:=true) (l1:=gV m.L m.gT) (l2:=vz m) (l3:=[]) (l4:=[]) (l5:=[]) (l6:=[]) (l7:=[]) (l8:=gV m.L m.gT) (l9:=sV S) (l10:=U) (l11:=tab S.length fun j=> .str (f j)) (l12:=nk m S) (l13:=[]);have e4:∀{k1 k2 k3 k4 k5:Int} {k8:Bool} {l1 l2 l3 l4 l5 l6 l7 l8 l9 l10 l11 l12 l13 l14 S7 S8:LV},Loop (S4 CC (S.length:Int) 1 k1 l1 k2 k3 k8 k4 k5 (vz m) l2 l3 l4 l5 l6 l7 (sV S) l8 l9 l10 l11 l12 l13 l14 S7 S8) (0,[av []])=some (1,false,[av (oy m S)]):=by
    intro k1 k2 k3 k4 k5 k8 l1 l2 l3 l4 l5 l6 l7 l8 l9 l10 l11 l12 l13 l14 S7 S8;refine eZ 1 (fun i=>((i:Int),if i=0 then [av []]else [av (oy m S)])) _ (fun i hi=> ?_) ?_
    ·obtain rfl:i=0:=by omega
     simp only[S4,Mx,un,aA,bc];refine bT rfl ((bJ (es:=vz m) (i:=0) rfl).trans (bT (gP (by omega) (by omega)) ((bJ (i:=0) (v:=av []) rfl).trans ?_)));rw[AH];exact bs (aEs h nn hE.I.tr c) rfl
    ·simp only[S4,Mx,un];rfl
   have Gx:∀k,k≤1000→(decide (0≤(S.length:Int))&&(decide ((S.length:Int)≤(S.length:Int))&&(S.length*k).ble aR))=true:=fun k hk=>by
    have:=gP (n:=S.length) (m:=k) (by omega) hk;grind
   have ri:(nS (e7 m.L m.gT S (List.range m.n))).length≤6:=by rw[dE,e7,cT,lk];exact hL
   simp only[List.drop_succ_cons,y9,V.sy,V.eo,V.toInt_int,V.Iz,AH,Int.toNat_natCast,gI,gL,gB,gS];refine bT (Gx 24 (by omega)) (bT (Gx 16 (by omega)) (bT (cB (by simp_all)) (bs lM (bT (by rw[sZ];exact cap (b:=0) (by omega) (by omega)) (bT (Gx 1 (by omega)) ?_)))));rw[sZ];refine bs e2 ?_;rw[show R.length=S.length by simp_all];refine bs e3 ?_;simp only[un];rw[show(vz m).length=1 from rfl];refine bT (gP (n:=1) (by omega) (by omega)) (bs e4 ?_);rw[aEr,show(gV m.L m.gT).length=m.L from en];rfl
end
theorem aoc{a:Da}(h:a.Ok)(nn:(minD a).n≤32):(CC 45 (eu a)=some (syZ 3)∧Big (minD a).n)∨∃S,∃f:Nat→List UInt8,CC 45 (eu a)=some (sr (minD a) S f++[vI 0])∧sq (minD a) S:=by
 have hm:=sw h;obtain⟨r,e,h1⟩:=aEt hm nn;have fin:∀z,xX CC (a.L:Int) (a.st:Int) a.dN a.dX=z→CC 45 (eu a)=z:=fun z h=>Ow h;rcases h1 with⟨rfl,hb⟩|⟨S,f,rfl,hS⟩
 ·refine .inl ⟨fin _ ?_,hb⟩;unfold xX;exact bs (su h) (bF rfl (bs (Bx h) (bs (aln hm nn) (bF rfl (bs e (bT rfl rfl))))))
 ·refine .inr ⟨S,f,fin _ ?_,hS⟩;unfold xX;refine bs (su h) (bF rfl (bs (Bx h) (bs (aln hm nn) (bF rfl (bs e (bF rfl (bs (a:=av (oy (minD a) S)) rfl ?_)))))));rw[V.eo];rfl
def lE(m:Da)(w:List Nat):List Nat:=w.foldl (bC m.gT) (List.range m.n)
def vl(m:Da)(S:List (List Nat))(w:List Nat):Nat:=iO S (lE m w)
section
variable {m:Da}(hm:m.Ok)
include hm
theorem alK:∀(w:List Nat) {f:List Nat},Tr m.n f→WL m.L w→Tr m.n (w.foldl (bC m.gT) f)
 | [],_,hf,_=>hf
 |x::w,f,hf,hw=>alK w (f:=bC m.gT f x) (hf.comp (hm.gT hw.head)) hw.tail
theorem abn{w:List Nat}(hw:WL m.L w):Tr m.n (lE m w):=alK hm w Lo hw
theorem aEu:∀(w:List Nat) {f:List Nat},Tr m.n f→WL m.L w→w.foldl (bC m.gT) f=comp f (lE m w):=by
 intro w
 induction w with
 |nil=>exact fun {f} hf _=>(comp_id hf).symm
 |cons x w ih=>
  intro f hf hw;have h1:=hm.gT hw.head;have e1:lE m (x::w)=comp (m.gT x) (lE m w):=by
   show w.foldl (bC m.gT) (bC m.gT (List.range m.n) x)=_;rw[ih (f:=bC m.gT (List.range m.n) x) (Lo.comp h1) hw.tail,akW (L:=m.L) (fun x hx=>hm.gT hx) hw.head]
  rw[e1,←abm hf h1];exact ih (hf.comp h1) hw.tail
theorem aEv{u v:List Nat}(hu:WL m.L u)(hv:WL m.L v):lE m (u++v)=comp (lE m u) (lE m v):=by
 unfold lE;rw[AT];exact aEu hm v (abn hm hu) hv
theorem alL:∀(w:List Nat) {f:List Nat} {q:Nat},Tr m.n f→q<m.n→WL m.L w→(w.foldl (bC m.gT) f).getD q 0=m.run (f.getD q 0) w
 | [],_,_,_,_,_=>rfl
 |x::w,f,q,hf,hq,hw=>by
  have h1:=hm.gT hw.head;rw[List.foldl_cons,alL w (f:=bC m.gT f x) (hf.comp h1) hq hw.tail,Da.VD];refine congrArg (fun p=>m.run p w) ?_;have dS:q<f.length:=by rw[hf.1];exact hq
  have h2:=hf.at dS;unfold bC comp;rw[getD_map (k:=fun i=>(m.gT x).getD i 0) dS,ep dS,Da.gT,getD_map (by grind),ep (l:=List.range m.n) (by grind),M1]
theorem MB{w:List Nat}{q:Nat}(hq:q<m.n)(hw:WL m.L w):(lE m w).getD q 0=m.run q w:=by
 unfold lE;rw[alL hm w Lo hq hw,ep (by grind),M1]
theorem aEw{u v:List Nat}(hu:WL m.L u)(hv:WL m.L v):lE m u=lE m v↔∀q,q<m.n→m.run q u=m.run q v:=by
 constructor
 ·intro e q hq;rw[←MB hm hq hu,←MB hm hq hv,e]
 ·intro h;have h1:=abn hm hu;have h2:=abn hm hv;refine uj (h1.1.trans h2.1.symm) fun i a b=> ?_;have hi:i<m.n:=by rw[←h1.1];exact a
  rw[←ep (d:=0) a,←ep (d:=0) b,MB hm hi hu,MB hm hi hv,h i hi]
section
variable {S:List (List Nat)}(hS:sq m S)
include hS
omit hm in
theorem alM:∀(w:List Nat) {f:List Nat},f∈S→WL m.L w→w.foldl (bC m.gT) f∈S
 | [],_,hf,_=>hf
 |x::w,f,hf,hw=>alM w (hS.cl f hf x hw.head) hw.tail
omit hm in
theorem abo:List.range m.n∈S:=by
 rw[←hS.Gv,ep hS.pos];exact dw _
omit hm in
theorem alN{w:List Nat}(hw:WL m.L w):lE m w∈S:=alM hS w (abo hS) hw
omit hm in
theorem Bw{w:List Nat}(hw:WL m.L w):vl m S w<S.length:=vu (alN hS hw)
omit hm in
theorem zP{w:List Nat}(hw:WL m.L w):S.getD (vl m S w) []=lE m w:=by
 rw[ep (Bw hS hw)];exact aav (alN hS hw)
omit hm in
theorem vV{i:Nat}(hi:i<S.length):∃w,WL m.L w∧vl m S w=i:=by
 obtain⟨w,hw,e⟩:=hS.re i hi;refine⟨w,hw,?_⟩;unfold vl lE;rw[←e,ep hi];exact aaw hS.nd hi
omit hm in
theorem Ol:vl m S []=0:=by
 unfold vl;show iO S (List.range m.n)=0;rw[←hS.Gv,ep hS.pos];exact aaw hS.nd hS.pos
theorem vW{u v:List Nat}(hu:WL m.L u)(hv:WL m.L v):cx S (vl m S u) (vl m S v)=vl m S (u++v):=by
 unfold cx;rw[zP hS hu,zP hS hv,←aEv hm hu hv];rfl
theorem aoi{u v:List Nat}(hu:WL m.L u)(hv:WL m.L v):vl m S u=vl m S v↔∀q,q<m.n→m.run q u=m.run q v:=by
 rw[←aEw hm hu hv];exact⟨fun e=>by rw[←zP hS hu,←zP hS hv,e],fun e=>by unfold vl;rw[e]⟩
omit hm hS in
theorem ac0{w:List Nat}{x:Nat}(hx:x<m.L):(e7 m.L m.gT S (lE m w)).getD x 0=vl m S (w++[x]):=by
 unfold e7 vl lE;rw[getD_map (by simpa using hx),ep (by simpa using hx),M1,AT];rfl
theorem UG{i j:Nat}(hi:i<S.length)(hj:j<S.length):cx S i j<S.length:=by
 obtain⟨u,hu,rfl⟩:=vV hS hi;obtain⟨v,hv,rfl⟩:=vV hS hj;rw[vW hm hS hu hv];exact Bw hS (WL.app.2 ⟨hu,hv⟩)
theorem acT{i j k:Nat}(hi:i<S.length)(hj:j<S.length)(hk:k<S.length):cx S (cx S i j) k=cx S i (cx S j k):=by
 obtain⟨u,hu,rfl⟩:=vV hS hi;obtain⟨v,hv,rfl⟩:=vV hS hj;obtain⟨w,hw,rfl⟩:=vV hS hk;rw[vW hm hS hu hv,vW hm hS hv hw,vW hm hS (WL.app.2 ⟨hu,hv⟩) hw,vW hm hS hu (WL.app.2 ⟨hv,hw⟩),eY]
end
end
def lX(m:Da)(S:List (List Nat)):Da:=⟨m.L,0,tab S.length fun i=>m.fin ((S.getD i []).getD m.st 0),tab S.length fun i=>e7 m.L m.gT S (S.getD i [])⟩
section
variable {m:Da}(hm:m.Ok){S:List (List Nat)}(hS:sq m S)
theorem Gy:(lX m S).n=S.length:=en
theorem alO{i:Nat}(hi:i<S.length):(lX m S).fin i=m.fin ((S.getD i []).getD m.st 0):=CX hi
theorem alP{i x:Nat}(hi:i<S.length)(hx:x<m.L):(lX m S).nx i x=iO S (bC m.gT (S.getD i []) x):=by
 unfold Da.nx lX;simp only;rw[CX hi];unfold e7;grind
include hm hS
theorem alQ:(lX m S).Ok:=by
 refine⟨hm.l1,hm.l6,by rw[Gy];exact en,fun r hr=> ?_,by rw[Gy];exact hS.pos,by rw[Gy];have:=hS.le;omega⟩;obtain⟨i,hi,rfl⟩:=zR.1 hr;refine⟨by simp[e7,lX],fun q hq=> ?_⟩;obtain⟨x,hx,rfl⟩:=gm.1 hq;rw[Gy];exact vu (hS.cl _ (by grind) x (gn.1 hx))
omit hm in
theorem alR:∀(w:List Nat) {f:List Nat},f∈S→WL m.L w→(lX m S).run (iO S f) w=iO S (w.foldl (bC m.gT) f)
 | [],_,_,_=>rfl
 |x::w,f,hf,hw=>by
  rw[Da.VD,alP (vu hf) hw.head,ep (vu hf),aav hf];exact alR w (hS.cl f hf x hw.head) hw.tail
omit hm in
theorem aEx{w:List Nat}(hw:WL m.L w):(lX m S).run 0 w=vl m S w:=by
 have:=alR hS w (abo hS) hw;rwa [show iO S (List.range m.n)=0 from Ol hS]at this
theorem aEy{w:List Nat}(hw:WL m.L w):(lX m S).acc (lX m S).st w=m.acc m.st w:=by
 show(lX m S).fin ((lX m S).run 0 w)=m.fin (m.run m.st w);rw[aEx hS hw,alO (Bw hS hw),zP hS hw,MB hm hm.s hw]
end
theorem aEz{a:Da}(ha:a.Ok){S:List (List Nat)}(hS:sq (minD a) S):minD (lX (minD a) S)=minD a:=by
 have hm:=sw ha;refine(VF (alQ hm hS) hm rfl fun w hw=>aEy hm hS hw).trans (aee ha)
theorem aEA{a b:Da}(ha:a.Ok)(hb:b.Ok)(e:minD a=minD b):CC 45 (eu a)=CC 45 (eu b):=by
 have A:∀z,xX CC (a.L:Int) (a.st:Int) a.dN a.dX=z→CC 45 (eu a)=z:=fun z h=>Ow h;have B:∀z,xX CC (b.L:Int) (b.st:Int) b.dN b.dX=z→CC 45 (eu b)=z:=fun z h=>Ow h;refine A _ (Eq.trans ?_ (B _ rfl).symm);unfold xX;refine bs (su ha) (bF rfl (bs (Bx ha) ?_));rw[e];exact(bs (su hb) (bF rfl (bs (Bx hb) rfl))).symm
noncomputable def MC(C:af)(s1 s2:LV)(t12 t13:Int){β:Type}(kn:Int→Option β)(kr:((Bool) ⊕ (Int×Bool))→Option β):Option β:=
 bif decide (t13<t12)then
  (idx s1 t13).bind fun x1=>
  (idx s2 t13).bind fun x2=>
  bif (x1.toInt:Int) != x2.toInt then
  kr (.inl false)
  else
  kn (wrap .i64 (t13+1))
 else
  kr (.inr (t13,decide (t13<t12)))
noncomputable def abp(C:af)(s1 s2:LV)(t12:Int):=fun t13=>MC C s1 s2 t12 t13 (fun y=>some (Sum.inl y)) (fun r=>some (Sum.inr r))
noncomputable def aEB(C:af):cp:=bz 65 Zz [Q0,Q0,Q0,Q1] [[0],[1,2,3,0,0]] (@MC C) bh
theorem aEC(C:af):bn C (aEB C) 151 (Lp [1,1,0,1,0,0] 151):=bA Zz [Q0,Q0,Q0,Q1] [[0],[1,2,3,0,0]] (@MC C) (ba an)
noncomputable def alS(C:af)(s1 s2:LV):Option LV:=
 bif (s1.length:Int) != (s2.length:Int)then
  some [.bool false]
 else
  (Loop (abp C s1 s2 (s1.length:Int)) 0).bind (ed (fun(iU:Bool)=>
   some [.bool iU]) (un fun(mr:Int) (mu:Bool)=>
   some [.bool true]))
theorem aED{s1 s2:LV}{r:Option LV}(h:alS CC s1 s2=r):CC 151 [ab s1,ab s2]=r:=bj (bp (aEC CC) an) h
noncomputable def MD(C:af)(s1 s2:LV)(t12 t13:Int){β:Type}(kn:Int→Option β)(kr:((Bool) ⊕ (Int×Bool))→Option β):Option β:=
 bif decide (t13<t12)then
  (idx s1 t13).bind fun x1=>
  (idx s2 t13).bind fun x2=>
  bif !(x1.toBool==x2.toBool)then
  kr (.inl false)
  else
  kn (wrap .i64 (t13+1))
 else
  kr (.inr (t13,decide (t13<t12)))
noncomputable def abq(C:af)(s1 s2:LV)(t12:Int):=fun t13=>MD C s1 s2 t12 t13 (fun y=>some (Sum.inl y)) (fun r=>some (Sum.inr r))
noncomputable def aEE(C:af):cp:=bz 65 ZB [Q0,Q0,Q0,Q1] [[0],[1,2,3,0,0]] (@MD C) bh
theorem aEF(C:af):bn C (aEE C) 153 (Lp [1,1,0,1,0,0] 153):=bA ZB [Q0,Q0,Q0,Q1] [[0],[1,2,3,0,0]] (@MD C) (ba an)
noncomputable def alT(C:af)(s1 s2:LV):Option LV:=
 bif (s1.length:Int) != (s2.length:Int)then
  some [.bool false]
 else
  (Loop (abq C s1 s2 (s1.length:Int)) 0).bind (ed (fun(iU:Bool)=>
   some [.bool iU]) (un fun(mr:Int) (mu:Bool)=>
   some [.bool true]))
theorem aEG{s1 s2:LV}{r:Option LV}(h:alT CC s1 s2=r):CC 153 [av s1,av s2]=r:=bj (bp (aEF CC) an) h
noncomputable def ME(C:af)(s1 s2:LV)(t12 t13:Int){β:Type}(kn:Int→Option β)(kr:((Bool) ⊕ (Int×Bool))→Option β):Option β:=
 bif decide (t13<t12)then
  (idx s1 t13).bind fun x1=>
  (idx s2 t13).bind fun x2=>
  bif !(x1.toStr==x2.toStr)then
  kr (.inl false)
  else
  kn (wrap .i64 (t13+1))
 else
  kr (.inr (t13,decide (t13<t12)))
noncomputable def abr(C:af)(s1 s2:LV)(t12:Int):=fun t13=>ME C s1 s2 t12 t13 (fun y=>some (Sum.inl y)) (fun r=>some (Sum.inr r))
noncomputable def aEH(C:af):cp:=bz 65 ZA [Q0,Q0,Q0,Q1] [[0],[1,2,3,0,0]] (@ME C) bh
theorem aEI(C:af):bn C (aEH C) 152 (Lp [1,1,0,1,0,0] 152):=bA ZA [Q0,Q0,Q0,Q1] [[0],[1,2,3,0,0]] (@ME C) (ba an)
noncomputable def alU(C:af)(s1 s2:LV):Option LV:=
 bif (s1.length:Int) != (s2.length:Int)then
  some [.bool false]
 else
  (Loop (abr C s1 s2 (s1.length:Int)) 0).bind (ed (fun(iU:Bool)=>
   some [.bool iU]) (un fun(mr:Int) (mu:Bool)=>
   some [.bool true]))
theorem aEJ{s1 s2:LV}{r:Option LV}(h:alU CC s1 s2=r):CC 152 [cY s1,cY s2]=r:=bj (bp (aEI CC) an) h
noncomputable def MF(C:af)(n:Int)(t7:LV)(t8 t9:Int){β:Type}(kn:Int→Option β)(kr:((Bool) ⊕ (Int×Bool))→Option β):Option β:=
 bif decide (t9<t8)then
  (idx t7 t9).bind fun x1=>
  bif decide ((x1.toInt:Int)<0)then
  kr (.inl false)
  else
  bif decide ((x1.toInt:Int)≥n)then
   kr (.inl false)
  else
   kn (wrap .i64 (t9+1))
 else
  kr (.inr (t9,decide (t9<t8)))
noncomputable def abt(C:af)(n:Int)(t7:LV)(t8:Int):=fun t9=>MF C n t7 t8 t9 (fun y=>some (Sum.inl y)) (fun r=>some (Sum.inr r))
noncomputable def aEK(C:af):cp:=bz 33 ZR [Q0,Q0,Q0,Q1] [[0],[1,2,3,0,0]] (@MF C) bh
theorem aEL(C:af):bn C (aEK C) 189 (Lp [1,0,1,0,0] 189):=bA ZR [Q0,Q0,Q0,Q1] [[0],[1,2,3,0,0]] (@MF C) (ba an)
noncomputable def alV(C:af)(list:LV)(n:Int):Option LV:=
 (Loop (abt C n list (list.length:Int)) 0).bind (ed (fun(v9:Bool)=>
  some [.bool v9]) (un fun(iU:Int) (mr:Bool)=>
  some [.bool true]))
theorem aEM{list:LV}{n:Int}{r:Option LV}(h:alV CC list n=r):CC 189 [ab list,vI n]=r:=bj (bp (aEL CC) an) h
noncomputable def MG(C:af)(n:Int)(t53:LV)(t54 iS:Int)(dD na lC nc nf:LV)(t55:Int){β:Type}(kn:Int→Option β)(kr:((Bool) ⊕ (Int×Bool))→Option β):Option β:=
 bif decide (t55<t54)then
  (idx t53 t55).bind fun x1=>
  bif (x1.toList.length:Int) != n then
  kr (.inl false)
  else
  (C 189 [ab x1.toList,vI n]).bind fun r2=>
  bif !(gB r2)then
   kr (.inl false)
  else
   kn (wrap .i64 (t55+1))
 else
  kr (.inr (t55,decide (t55<t54)))
noncomputable def abu(C:af)(n:Int)(t53:LV)(t54 iS:Int)(dD na lC nc nf:LV):=fun t55=>MG C n t53 t54 iS dD na lC nc nf t55 (fun y=>some (Sum.inl y)) (fun r=>some (Sum.inr r))
noncomputable def aEN(C:af):cp:=bz 113 Zw [Q0,Q0,Q0,Q1,Q0,Q0,Q0,Q0,Q0,Q0] [[0],[1,2,3,0,0,5,6,7,8,9,10]] (@MG C) bh
theorem aEO(C:af):bn C (aEN C) 149 (Lp [1,1,1,1,0,1,0,0] 149):=bA Zw [Q0,Q0,Q0,Q1,Q0,Q0,Q0,Q0,Q0,Q0] [[0],[1,2,3,0,0,5,6,7,8,9,10]] (@MG C) (ba an)
noncomputable def alW(C:af)(gW:Int)(ey iQ iJ gX ij:LV):Option LV:=
 bif decide (gW<1)then
  some [.bool false]
 else
  bif decide (gW>6)then
  some [.bool false]
  else
  bif decide ((ey.length:Int)<1)then
   some [.bool false]
  else
   bif decide ((ey.length:Int)>400)then
   some [.bool false]
   else
   bif (iQ.length:Int) != (ey.length:Int)then
    some [.bool false]
   else
    bif (gX.length:Int) != (ey.length:Int)then
    some [.bool false]
    else
    bif (ij.length:Int) != (ey.length:Int)then
     some [.bool false]
    else
     bif (iJ.length:Int) != gW then
     some [.bool false]
     else
     (Loop (abu C (ey.length:Int) ey (ey.length:Int) gW ey iQ iJ gX ij) 0).bind (ed (fun(iU:Bool)=>
      some [.bool iU]) (un fun(mr:Int) (mu:Bool)=>
      (C 189 [ab iJ,vI (ey.length:Int)]).bind fun r6=>
      some [.bool (gB r6)]))
theorem aEP{gW:Int}{ey iQ iJ gX ij:LV}{r:Option LV}(h:alW CC gW ey iQ iJ gX ij=r):CC 149 [vI gW,ah ey,cY iQ,ab iJ,av gX,av ij]=r:=bj (bp (aEO CC) an) h
noncomputable def MH(C:af)(x:Int)(row t19:LV)(t20 t21:Int)(t34:LV)(t35 iS:Int)(dD na lC nc nf:LV)(eF eG bq bB:Int)(aH aL aP:LV)(t36:Int)(aB:LV){β:Type}(kn:(Int×LV)→Option β)(kr:(Int×Bool×LV)→Option β):Option β:=
 bif decide (t36<t35)then
  (idx t34 t36).bind fun x3=>
  aA aB x fun x4=>
  (idx row x3.toInt).bind fun x5=>
  (ez Tryz.prog 22 aB [(x.toNat,0)]).bind fun x6=>
  bif (decide (0≤t36))&&(decide (t36<(x6.toList.length:Int)))then
  (ez Tryz.prog 22 aB [(x.toNat,0)]).bind fun x7=>
  (x7.toList[t36.toNat]?).bind fun x8=>
  kn (wrap .i64 (t36+1),setRow Tryz.prog (bc x7.toList t36 (vI x5.toInt)) 22 aB [(x.toNat,0)])
  else none
 else
  kr (t36,decide (t36<t35),aB)
noncomputable def S9(C:af)(x:Int)(row t19:LV)(t20 t21:Int)(t34:LV)(t35 iS:Int)(dD na lC nc nf:LV)(eF eG bq bB:Int)(aH aL aP:LV):=un fun t36 aB=>MH C x row t19 t20 t21 t34 t35 iS dD na lC nc nf eF eG bq bB aH aL aP t36 aB (fun y=>some (Sum.inl y)) (fun r=>some (Sum.inr r))
noncomputable def MI(C:af)(t19:LV)(t20 iS:Int)(dD na lC nc nf:LV)(eF eG bq bB:Int)(aH aL aP:LV)(t21:Int)(aB:LV){β:Type}(kn:(Int×LV)→Option β)(kr:(Int×Bool×LV)→Option β):Option β:=
 bif decide (t21<t20)then
  (idx t19 t21).bind fun x1=>
  bif (decide (0≤iS))&&((decide (iS≤iS))&&(Nat.ble ((iS.toNat)*8) aR))then
  aA aB t21 fun x2=>
  (Loop (S9 C t21 x1.toList t19 t20 t21 lC (lC.length:Int) iS dD na lC nc nf eF eG bq bB aH aL aP) (0,bc aB t21 (ab (List.replicate (iS.toNat) (vI 0))))).bind (un fun uS=>un fun(Pf:Bool) (yg:LV)=>
   kn (wrap .i64 (t21+1),yg))
  else none
 else
  kr (t21,decide (t21<t20),aB)
noncomputable def abv(C:af)(t19:LV)(t20 iS:Int)(dD na lC nc nf:LV)(eF eG bq bB:Int)(aH aL aP:LV):=un fun t21 aB=>MI C t19 t20 iS dD na lC nc nf eF eG bq bB aH aL aP t21 aB (fun y=>some (Sum.inl y)) (fun r=>some (Sum.inr r))
noncomputable def alX(C:af):cp:=bz 113 Zx [Q0,Q0,Q0,Q0,Q0,Q0,Q0,Q1,Q0,Q0,Q0,Q0,Q0,Q0,Q0,Q0,Q0,Q0,Q0,Q0,Q0,Q1] [[1,2,3,4,5,6,7,0,0,9,10,11,12,13,14,15,16,17,18,19,20,21,0]] (@MH C) (bz 49 Zy [Q0,Q0,Q1,Q0,Q0,Q0,Q0,Q0,Q0,Q0,Q0,Q0,Q0,Q0,Q0,Q0,Q1] [[1,2,0,0,4,5,6,7,8,9,10,11,12,13,14,15,16,0]] (@MI C) bh)
theorem aEQ(C:af):bn C (alX C) 150 (Lp [1,1,0,1,0,0,1,1,0,0,1,1,1,0,0] 150):=bA Zx [Q0,Q0,Q0,Q0,Q0,Q0,Q0,Q1,Q0,Q0,Q0,Q0,Q0,Q0,Q0,Q0,Q0,Q0,Q0,Q0,Q0,Q1] [[1,2,3,4,5,6,7,0,0,9,10,11,12,13,14,15,16,17,18,19,20,21,0]] (@MH C) (ba an)
theorem aER(C:af):bn C (alX C) 150 (Lp [1,1,0,1,0,0] 150):=bA Zy [Q0,Q0,Q1,Q0,Q0,Q0,Q0,Q0,Q0,Q0,Q0,Q0,Q0,Q0,Q0,Q0,Q1] [[1,2,0,0,4,5,6,7,8,9,10,11,12,13,14,15,16,0]] (@MI C) (ba (bp (aEQ C) an))
noncomputable def alY(C:af)(gW:Int)(ey iQ iJ gX ij:LV):Option LV:=
 bif Nat.ble (gX.length*1) aR then
  bif (decide (0≤(ey.length:Int)))&&((decide ((ey.length:Int)≤(ey.length:Int)))&&(Nat.ble (((ey.length:Int).toNat)*24) aR))then
  (Loop (abv C ey (ey.length:Int) gW ey iQ iJ gX ij 0 0 gW 0 ([]:LV) ([]:LV) gX) (0,List.replicate ((ey.length:Int).toNat) (ab ([]:LV)))).bind (un fun EF=>un fun(yb:Bool) (pz:LV)=>
   some [vI gW,vI 0,av gX,ah pz])
  else none
 else none
theorem aES{gW:Int}{ey iQ iJ gX ij:LV}{r:Option LV}(h:alY CC gW ey iQ iJ gX ij=r):CC 150 [vI gW,ah ey,cY iQ,ab iJ,av gX,av ij]=r:=bj (bp (aER CC) an) h
noncomputable def MJ(C:af)(t28:LV)(t29 iS:Int)(dD na lC nc nf:LV)(fX:Int)(fY fq fb ic ig:LV)(t30:Int){β:Type}(kn:Int→Option β)(kr:((Int) ⊕ (Int×Bool))→Option β):Option β:=
 bif decide (t30<t29)then
  (idx t28 t30).bind fun x4=>
  (idx dD t30).bind fun x5=>
  (C 151 [ab x4.toList,ab x5.toList]).bind fun r6=>
  bif !(gB r6)then
  kr (.inl 8)
  else
  kn (wrap .i64 (t30+1))
 else
  kr (.inr (t30,decide (t30<t29)))
noncomputable def Ta(C:af)(t28:LV)(t29 iS:Int)(dD na lC nc nf:LV)(fX:Int)(fY fq fb ic ig:LV):=fun t30=>MJ C t28 t29 iS dD na lC nc nf fX fY fq fb ic ig t30 (fun y=>some (Sum.inl y)) (fun r=>some (Sum.inr r))
noncomputable def aET(C:af):cp:=bz 113 Zl [Q0,Q0,Q1,Q0,Q0,Q0,Q0,Q0,Q0,Q0,Q0,Q0,Q0,Q0,Q0] [[0],[1,2,0,0,4,5,6,7,8,9,10,11,12,13,14,15]] (@MJ C) bh
theorem aEU(C:af):bn C (aET C) 118 (Lp [1,1,1,1,0,1,0,0] 118):=bA Zl [Q0,Q0,Q1,Q0,Q0,Q0,Q0,Q0,Q0,Q0,Q0,Q0,Q0,Q0,Q0] [[0],[1,2,0,0,4,5,6,7,8,9,10,11,12,13,14,15]] (@MJ C) (ba an)
noncomputable def abw(C:af)(gW:Int)(ey iQ iJ gX ij:LV):Option LV:=
 (C 149 [vI gW,ah ey,cY iQ,ab iJ,av gX,av ij]).bind fun r1=>
 bif !(gB r1)then
  some [vI 8]
 else
  (C 150 [vI gW,ah ey,cY iQ,ab iJ,av gX,av ij]).bind fun r2=>
  (C 45 [vI (gI r2),vI (gI (r2.drop 1)),av (gL (r2.drop 2)),ah (gL ((r2.drop 2).drop 1))]).bind fun r3=>
  bif ((gI (r3.drop 6)):Int) != 0 then
  some [vI 8]
  else
  bif (((gL (r3.drop 1)).length:Int):Int) != (ey.length:Int)then
   some [vI 8]
  else
   (Loop (Ta C (gL (r3.drop 1)) ((gL (r3.drop 1)).length:Int) gW ey iQ iJ gX ij (gI r3) (gL (r3.drop 1)) (gL ((r3.drop 1).drop 1)) (gL (((r3.drop 1).drop 1).drop 1)) (gL ((((r3.drop 1).drop 1).drop 1).drop 1)) (gL (((((r3.drop 1).drop 1).drop 1).drop 1).drop 1))) 0).bind (ed (fun ng=>
    some [vI ng]) (un fun(v8:Int) (uS:Bool)=>
    (C 152 [cY (gL ((r3.drop 1).drop 1)),cY iQ]).bind fun fO=>
    bif !(gB fO)then
    some [vI 8]
    else
    (C 151 [ab (gL (((r3.drop 1).drop 1).drop 1)),ab iJ]).bind fun cq=>
    bif !(gB cq)then
     some [vI 8]
    else
     (C 153 [av (gL ((((r3.drop 1).drop 1).drop 1).drop 1)),av gX]).bind fun py=>
     bif !(gB py)then
     some [vI 8]
     else
     (C 153 [av (gL (((((r3.drop 1).drop 1).drop 1).drop 1).drop 1)),av ij]).bind fun iA=>
     bif !(gB iA)then
      some [vI 8]
     else
      some [vI 0]))
theorem aEV{gW:Int}{ey iQ iJ gX ij:LV}{r:Option LV}(h:abw CC gW ey iQ iJ gX ij=r):CC 118 [vI gW,ah ey,cY iQ,ab iJ,av gX,av ij]=r:=bj (bp (aEU CC) an) h
section
variable {l:LV}(hl:l.length≤1000000)
include hl
theorem alZ:CC 151 [ab l,ab l]=some [.bool true]:=by
 refine aED ?_;unfold alS;refine bF (by simp) (bs (eZ l.length (fun i=>(i:Int)) (.inr ((l.length:Int),false)) (fun i hi=> ?_) ?_) rfl)
 ·simp only[abp,MC];have e:=IA l i;rw[bX hi]at e;refine bT (bt hi) (bs e (bs e (bF (by simp) ?_)));rw[bu (by omega)]
 ·simp only[abp,MC];grind
theorem al0:CC 153 [av l,av l]=some [.bool true]:=by
 refine aEG ?_;unfold alT;refine bF (by simp) (bs (eZ l.length (fun i=>(i:Int)) (.inr ((l.length:Int),false)) (fun i hi=> ?_) ?_) rfl)
 ·simp only[abq,MD];have e:=IA l i;rw[bX hi]at e;refine bT (bt hi) (bs e (bs e (bF (by simp) ?_)));rw[bu (by omega)]
 ·simp only[abq,MD];grind
theorem aEW:CC 152 [cY l,cY l]=some [.bool true]:=by
 refine aEJ ?_;unfold alU;refine bF (by simp) (bs (eZ l.length (fun i=>(i:Int)) (.inr ((l.length:Int),false)) (fun i hi=> ?_) ?_) rfl)
 ·simp only[abr,ME];have e:=IA l i;rw[bX hi]at e;refine bT (bt hi) (bs e (bs e (bF (by simp) ?_)));rw[bu (by omega)]
 ·simp only[abr,ME];grind
end
theorem al1{l:List Nat}{n:Nat}(hl:l.length≤1000000)(h:∀y∈l,y<n):CC 189 [ab (nS l),vI (n:Int)]=some [.bool true]:=by
 refine aEM ?_;unfold alV;rw[dE];refine bs (eZ l.length (fun i=>(i:Int)) (.inr ((l.length:Int),false)) (fun i hi=> ?_) ?_) rfl
 ·simp only[abt,MF];refine bT (bt hi) (bs (iT hi) (bF zJ (bF (Gh (h _ (dw hi))) ?_)));rw[bu (by omega)]
 ·simp only[abt,MF];grind
section
variable {m:Da}(hm:m.Ok){S:List (List Nat)}(hS:sq m S)(f:Nat→List UInt8)
def s8(S:List (List Nat))(i:Nat):List Nat:=(List.range S.length).map fun j=>cx S i j
theorem aEX{i:Nat}:(tab S.length fun j=>nV (cx S i j))=nS (s8 S i):=by unfold s8 nS;rw[AQ];rfl
theorem Td{i:Nat}(hi:i<S.length):idx (rh S) (i:Int)=some (ab (nS (s8 S i))):=by rw[←aEX];exact pd hi
include hm hS
theorem aEY{i:Nat}(hi:i<S.length):∀y∈s8 S i,y<S.length:=fun y hy=>by
 obtain⟨j,hj,rfl⟩:=gm.1 hy;exact UG hm hS hi (gn.1 hj)
theorem aEZ:CC 149 (sr m S f)=some [.bool true]:=by
 have h1:=hm.l1;have h6:=hm.l6;have hp:=hS.pos;have hle:=hS.le;have e1:(rh S).length=S.length:=en;have e2:(nk m S).length=m.L:=by unfold nk;rw[dE,e7,cT,lk]
 have e3:(oy m S).length=S.length:=en;have e4:(kI m.L m.gT S S.length).length=S.length:=en;refine aEP ?_;unfold alW;rw[e1,e2,e3,e4,en];refine bF (dj (by omega)) (bF (dj (by omega)) (bF (dj (by omega)) (bF (dj (by omega)) (bF (by simp) (bF (by simp) (bF (by simp) (bF (by simp) ?_)))))));refine bs (eZ S.length (fun i=>(i:Int)) (.inr ((S.length:Int),false)) (fun i hi=> ?_) ?_) ?_
 ·simp only[abu,MG];refine bT (bt hi) (bs (Td hi) ?_);rw[V.eo];have e5:(nS (s8 S i)).length=S.length:=by rw[dE,s8,cT,lk]
  refine bF (by grind) (bs (al1 (by rw[dE]at e5;omega) (aEY hm hS hi)) (bF rfl ?_));rw[bu (by omega)]
 ·simp only[abu,MG];grind
 ·refine bs (al1 (l:=e7 m.L m.gT S (List.range m.n)) (by rw[e7,cT,lk];omega) fun y hy=> ?_) rfl;obtain⟨x,hx,rfl⟩:=gm.1 hy;exact vu (hS.cl _ (abo hS) x (gn.1 hx))
omit hm hS in
theorem aE0{x:Nat}(hx:x<m.L):idx (nk m S) (x:Int)=some (nV (vl m S [x])):=by
 unfold nk;rw[iT (by rw[e7,cT,lk];exact hx)];simp[e7,vl,lE]
theorem aE1{i x:Nat}(hi:i<S.length)(hx:x<m.L):idx (nS (s8 S i)) (vl m S [x]:Int)=some (nV (iO S (bC m.gT (S.getD i []) x))):=by
 have kJ:WL m.L [x]:=WL.nil.cons hx;have h1:=Bw hS kJ;rw[iT (by rw[s8,cT,lk];exact h1)];obtain⟨w,hw,rfl⟩:=vV hS hi;have:(s8 S (vl m S w))[vl m S [x]]'(by rw[s8,cT,lk];exact h1)=cx S (vl m S w) (vl m S [x]):=by simp[s8]
 rw[this,vW hm hS hw kJ,zP hS hw];unfold vl lE;grind
theorem aE2:CC 150 (sr m S f)=some (eu (lX m S)):=by
 have h6:=hm.l6;have hle:=hS.le;have e1:(rh S).length=S.length:=en;have e2:(nk m S).length=m.L:=by unfold nk;rw[dE,e7,cT,lk]
 have e3:(oy m S).length=S.length:=en;refine aES ?_;unfold alY;rw[e1,e3];refine bT (cap (b:=0) (by omega) (by omega)) (bT (gP (by omega) (by omega)) ?_);rw[Int.toNat_natCast];have iu:∀{i:Nat},i<S.length→∀{k1 k2 k3 k4 k5 k6 k7:Int} {l1 l2 l3 l4 l5 l6 l7 l8 l9:LV} {a:LV},a.length=S.length→Loop (S9 CC (i:Int) (nS (s8 S i)) l1 k1 k2 (nk m S) (m.L:Int) k3 l2 l3 l4 l5 l6 k4 k5 k6 k7 l7 l8 l9) (0,a.set i (ab (List.replicate m.L (vI 0))))=some ((m.L:Int),false,a.set i (mC m.L ((lX m S).nx i))):=by
  intro i hi k1 k2 k3 k4 k5 k6 k7 l1 l2 l3 l4 l5 l6 l7 l8 l9 a ha;refine vU (fun x b=>((x:Int),a.set i (ab b))) m.L (fun x=>nV ((lX m S).nx i x)) _ (by simp) (fun b=>((m.L:Int),false,a.set i (ab b))) (fun x hx b hb=> ?_) ?_
  ·simp only[S9,MH,un,aA,bc,Int.toNat_natCast];have e0:(a.set i (ab b))[i]? =some (ab b):=sa (by omega);refine bT (bt hx) (bs (aE0 hx) ((bJ e0).trans (bs (aE1 hm hS hi hx) (bs (sH e0) ?_))));rw[V.eo];refine bT (ra (by omega)) (bs (sH e0) ?_);rw[V.eo];refine bs (bX (by omega)) ?_;rw[Jl e0,GH,bu (by omega),alP hi hx];rfl
  ·simp only[S9,MH,un];grind
 refine bs (vU (fun i a=>((i:Int),a)) S.length (fun i=>mC m.L ((lX m S).nx i)) _ (by simp) (fun a=>((S.length:Int),false,a)) (fun i hi a ha=> ?_) ?_) ?_
 ·simp only[abv,MI,un,aA,bc];refine bT (bt hi) (bs (Td hi) (bT (gP (by omega) (by omega)) ((tw (by omega)).trans ?_)));rw[V.eo,e2,Int.toNat_natCast,Int.toNat_natCast];refine bs (iu hi ha) ?_;rw[bu (by omega)];rfl
 ·simp only[abv,MI,un];grind
 ·have e5:oy m S=(lX m S).dN:=by
   unfold oy Da.dN;rw[Gy];exact dW fun i hi=>by rw[alO hi]
  have e6:(tab S.length fun i=>mC m.L ((lX m S).nx i))=(lX m S).dX:=by unfold Da.dX;rw[Gy];rfl
  rw[e6,e5];rfl
end
section
variable {a:Da}(ha:a.Ok){S:List (List Nat)}{f:Nat→List UInt8}(hS:sq (minD a) S)(hOf:CC 45 (eu a)=some (sr (minD a) S f++[vI 0]))
include ha hS hOf
theorem aod:CC 118 (sr (minD a) S f)=some [vI 0]:=by
 have hm:=sw ha;have hle:=hS.le;have hL6:=hm.l6;have hO:CC 45 (eu (lX (minD a) S))=some (sr (minD a) S f++[vI 0]):=(aEA (alQ hm hS) ha (aEz ha hS)).trans hOf;have fin:∀z,abw CC ((minD a).L:Int) (rh S) (tab S.length fun j=> .str (f j)) (nk (minD a) S) (oy (minD a) S) (kI (minD a).L (minD a).gT S S.length)=z→CC 118 (sr (minD a) S f)=z:=fun z h=>aEV h;refine fin _ ?_;unfold abw;refine bs (aEZ hm hS f) (bF rfl (bs (aE2 hm hS f) (bs hO (bF rfl (bF (by simp[sr]) ?_)))));have e1:(rh S).length=S.length:=en;refine bs (a:= .inr ((S.length:Int),false)) ?_ ?_
 ·show Loop (Ta CC (rh S) ((rh S).length:Int) _ _ _ _ _ _ _ _ _ _ _ _) 0=_;rw[e1];refine eZ S.length (fun i=>(i:Int)) _ (fun i hi=> ?_) ?_
  ·simp only[Ta,MJ];refine bT (bt hi) (bs (Td hi) (bs (Td hi) (bs (alZ (by rw[V.eo,dE,s8,cT,lk];omega)) (bF rfl ?_))));rw[bu (by omega)]
  ·simp only[Ta,MJ];grind
 ·have e2:(nk (minD a) S).length=(minD a).L:=by unfold nk;rw[dE,e7,cT,lk]
  refine bs (aEW (l:=tab S.length fun j=> .str (f j)) (by simp;omega)) (bF rfl (bs (alZ (l:=nk (minD a) S) (by omega)) (bF rfl (bs (al0 (l:=oy (minD a) S) (by simp[oy];omega)) (bF rfl (bs (al0 (l:=kI (minD a).L (minD a).gT S S.length) (by simp[kI];omega)) (bF rfl rfl)))))))
end
noncomputable def Ic(C:af)(pI:Int)(t26:LV)(t27:Int)(lists:LV)(t28:Int)(uh:LV){β:Type}(kn:(Int×LV)→Option β)(kr:(Int×Bool×LV)→Option β):Option β:=
 bif decide (t28<t27)then
  (idx t26 t28).bind fun x3=>
  bif x3.toBool then
  bif Nat.ble ((uh.length+([vI t28]:LV).length)*8) aR then
   kn (wrap .i64 (t28+1),uh++([vI t28]:LV))
  else none
  else
  aA lists pI fun x4=>
  bif (x4.cell 1).toBool then
   bif Nat.ble ((uh.length+([vI t28]:LV).length)*8) aR then
   kn (wrap .i64 (t28+1),uh++([vI t28]:LV))
   else none
  else
   kn (wrap .i64 (t28+1),uh)
 else
  kr (t28,decide (t28<t27),uh)
noncomputable def UF(C:af)(pI:Int)(t26:LV)(t27:Int)(lists:LV):=un fun t28 uh=>Ic C pI t26 t27 lists t28 uh (fun y=>some (Sum.inl y)) (fun r=>some (Sum.inr r))
noncomputable def aE3(C:af):cp:=bz 145 Zh [Q0,Q0,Q0,Q1,Q0,Q1] [[1,2,3,0,0,5,0]] (@Ic C) bh
theorem aE4(C:af):bn C (aE3 C) 77 (Lp [1,1,1,1,1,0,1,0,0] 77):=bA Zh [Q0,Q0,Q0,Q1,Q0,Q1] [[1,2,3,0,0,5,0]] (@Ic C) (ba an)
noncomputable def UE(C:af)(gW:Int)(ey iQ iJ gX ij:LV)(pI:Int):Option LV:=
 (C 118 [vI gW,ah ey,cY iQ,ab iJ,av gX,av ij]).bind fun r1=>
 bif ((gI r1):Int) != 0 then
  some [vI (gI r1),ab ([]:LV)]
 else
  (C 75 []).bind fun r2=>
  bif decide (pI<0)then
  some [vI 1,ab ([]:LV)]
  else
  bif decide (pI≥((gL r2).length:Int))then
   some [vI 1,ab ([]:LV)]
  else
   (Loop (UF C pI ij (ij.length:Int) (gL r2)) (0,([]:LV))).bind (un fun mu=>un fun(jD:Bool) (aE5:LV)=>
    some [vI 0,ab aE5])
theorem an8{gW:Int}{ey iQ iJ gX ij:LV}{pI:Int}{r:Option LV}(h:UE CC gW ey iQ iJ gX ij pI=r):CC 77 [vI gW,ah ey,cY iQ,ab iJ,av gX,av ij,vI pI]=r:=bj (bp (aE4 CC) an) h
noncomputable def Ig(C:af)(eB t40 iS:Int)(dD na lC nc nf uh CZ:LV)(Ds t41:Int){β:Type}(kn:(Int×Int)→Option β)(kr:((Bool×Int×Int×Int×LV) ⊕ (Int×Int×Bool))→Option β):Option β:=
 bif decide (t41<t40)then
  aA CZ t41 fun x5=>
  bif Ds==eB then
  kr (.inl (false,0,0,7,([]:LV)))
  else
  (C 78 [ah dD,ab uh,vI ((x5.cell 0).toInt),vI ((x5.cell 1).toInt),b8 ((x5.cell 2).toList),vI ((x5.cell 3).toInt),vI ((x5.cell 4).toInt),b8 ((x5.cell 5).toList),vI (wrap .i64 (eB-Ds))]).bind fun r6=>
  bif ((gI (r6.drop 1)):Int)==0 then
   kr (.inl (false,t41,wrap .i64 (Ds+(gI r6)),0,(gL (r6.drop 2))))
  else
   bif ((gI (r6.drop 1)):Int)==9 then
   kn (wrap .i64 (Ds+(gI r6)),wrap .i64 (t41+1))
   else
   kr (.inl (false,0,0,(gI (r6.drop 1)),([]:LV)))
 else
  kr (.inr (Ds,t41,decide (t41<t40)))
noncomputable def Om(C:af)(eB t40 iS:Int)(dD na lC nc nf uh CZ:LV):=un fun Ds t41=>Ig C eB t40 iS dD na lC nc nf uh CZ Ds t41 (fun y=>some (Sum.inl y)) (fun r=>some (Sum.inr r))
noncomputable def aE6(C:af):cp:=bz 129 Y2 [Q0,Q1,Q0,Q1,Q0,Q0,Q0,Q0,Q0,Q0,Q0,Q0] [[0,0,0,0,0],[1,0,3,0,0,5,6,7,8,9,10,11,12]] (@Ig C) bh
theorem aE7(C:af):bn C (aE6 C) 47 (Lp [1,1,1,1,1,0,1,0,0] 47):=bA Y2 [Q0,Q1,Q0,Q1,Q0,Q0,Q0,Q0,Q0,Q0,Q0,Q0] [[0,0,0,0,0],[1,0,3,0,0,5,6,7,8,9,10,11,12]] (@Ig C) (ba an)
noncomputable def On(C:af)(gW:Int)(ey iQ iJ gX ij:LV)(pI eB:Int):Option LV:=
 (C 77 [vI gW,ah ey,cY iQ,ab iJ,av gX,av ij,vI pI]).bind fun r1=>
 bif ((gI r1):Int) != 0 then
  some [.bool false,vI 0,vI 0,vI (gI r1),ab ([]:LV)]
 else
  bif decide (eB<1)then
  some [.bool false,vI 0,vI 0,vI 1,ab ([]:LV)]
  else
  bif decide (eB>1048576)then
   some [.bool false,vI 0,vI 0,vI 1,ab ([]:LV)]
  else
   (C 75 []).bind fun r2=>
   aA (gL r2) pI fun x3=>
   (C 76 [.str ((x3.cell 0).toStr),.bool ((x3.cell 1).toBool),vI ((x3.cell 2).toInt),vI ((x3.cell 3).toInt),.str ((x3.cell 4).toStr),.str ((x3.cell 5).toStr)]).bind fun r4=>
   (Loop (Om C eB ((gL (r4.drop 4)).length:Int) gW ey iQ iJ gX ij (gL (r1.drop 1)) (gL (r4.drop 4))) (0,0)).bind (ed (un fun(ng:Bool)=>un fun v8=>un fun uS=>un fun(Pf:Int) (aE8:LV)=>
    some [.bool ng,vI v8,vI uS,vI Pf,ab aE8]) (un fun aE9=>un fun(yb:Int) (wb:Bool)=>
    some [.bool true,vI (-1),vI aE9,vI 0,ab ([]:LV)]))
theorem aoa{gW:Int}{ey iQ iJ gX ij:LV}{pI eB:Int}{r:Option LV}(h:On CC gW ey iQ iJ gX ij pI eB=r):CC 47 [vI gW,ah ey,cY iQ,ab iJ,av gX,av ij,vI pI,vI eB]=r:=bj (bp (aE7 CC) an) h
structure NQ(rows:LV)(kV:Nat→List ej):Prop where
 zI:CC 75 []=some [.list 132 rows]
 len:rows.length=17
 cls:∀c,c<17→∃x,rows[c]? =some x∧∃(a:List UInt8) (b:Bool) (e f:Int),CC 76 [.str (x.cell 0).toStr,.bool (x.cell 1).toBool,vI (x.cell 2).toInt,vI (x.cell 3).toInt,.str (x.cell 4).toStr,.str (x.cell 5).toStr]=some [.str a,.bool b,vI e,vI f,.list 142 ((kV c).map fun d=> .agg (iw d))]
 ok:∀c,c<17→∀d∈kV c,mZ d
 il:∀c,c<17→(kV c).length≤2
noncomputable def al2(C:af)(s:List UInt8):Option LV:=
 bif decide ((s.length:Int)>1000)then
  some [vI 0,vI 0,b8 ([]:LV),vI 0,vI 0,b8 ([]:LV),vI 0,vI 21]
 else
  (C 146 [.str s,vI 0]).bind fun r1=>
  bif !(gB (r1.drop 3))then
  some [vI 0,vI 0,b8 ([]:LV),vI 0,vI 0,b8 ([]:LV),vI (gI ((r1.drop 4).drop 1)),vI 2]
  else
  (C 147 [.int .u8 61,.str (gS (r1.drop 4)),vI (gI ((r1.drop 4).drop 1))]).bind fun r2=>
  bif !(gB r2)then
   some [vI 0,vI 0,b8 ([]:LV),vI 0,vI 0,b8 ([]:LV),vI (gI ((r2.drop 1).drop 1)),vI 2]
  else
   (C 146 [.str (gS (r2.drop 1)),vI (gI ((r2.drop 1).drop 1))]).bind fun r3=>
   bif !(gB (r3.drop 3))then
   some [vI 0,vI 0,b8 ([]:LV),vI 0,vI 0,b8 ([]:LV),vI (gI ((r3.drop 4).drop 1)),vI 2]
   else
   bif decide (((gI ((r3.drop 4).drop 1)):Int)<(s.length:Int))then
    some [vI 0,vI 0,b8 ([]:LV),vI 0,vI 0,b8 ([]:LV),vI (gI ((r3.drop 4).drop 1)),vI 2]
   else
    (C 148 [vI (gI r1),vI (gI (r1.drop 1)),b8 (gL ((r1.drop 1).drop 1)),vI (gI r3),vI (gI (r3.drop 1)),b8 (gL ((r3.drop 1).drop 1))]).bind fun r4=>
    bif ((gI r4):Int) != 0 then
    some [vI 0,vI 0,b8 ([]:LV),vI 0,vI 0,b8 ([]:LV),vI 0,vI (gI r4)]
    else
    some [vI (gI r1),vI (gI (r1.drop 1)),b8 (gL ((r1.drop 1).drop 1)),vI (gI r3),vI (gI (r3.drop 1)),b8 (gL ((r3.drop 1).drop 1)),vI (-1),vI 0]
theorem aFa{s:List UInt8}{r:Option LV}(h:al2 CC s=r):CC 117 [.str s]=r:=bj (L:=bh) an h
noncomputable def y8(C:af)(abx aby eF:List UInt8)(eG:Bool)(nu mE:Int)(al3:List UInt8)(al4:Bool)(al5 al6:Int)(aE:LV)(t23:Int)(aH:LV){β:Type}(kn:(Int×LV)→Option β)(kr:(Int×Bool×LV)→Option β):Option β:=
 bif decide (t23<2)then
  (idx ([.str abx,.str aby]:LV) t23).bind fun x1=>
  (C 117 [.str x1.toStr]).bind fun r2=>
  bif ((gI ((r2.drop 6).drop 1)):Int)==0 then
  bif Nat.ble ((aH.length+([.agg [vI (gI r2),vI (gI (r2.drop 1)),b8 (gL ((r2.drop 1).drop 1)),vI (gI (((r2.drop 1).drop 1).drop 1)),vI (gI ((((r2.drop 1).drop 1).drop 1).drop 1)),b8 (gL (((((r2.drop 1).drop 1).drop 1).drop 1).drop 1))]]:LV).length)*80) aR then
   kn (wrap .i64 (t23+1),aH++([.agg [vI (gI r2),vI (gI (r2.drop 1)),b8 (gL ((r2.drop 1).drop 1)),vI (gI (((r2.drop 1).drop 1).drop 1)),vI (gI ((((r2.drop 1).drop 1).drop 1).drop 1)),b8 (gL (((((r2.drop 1).drop 1).drop 1).drop 1).drop 1))]]:LV))
  else none
  else
  kn (wrap .i64 (t23+1),aH)
 else
  kr (t23,decide (t23<2),aH)
noncomputable def s9(C:af)(abx aby eF:List UInt8)(eG:Bool)(nu mE:Int)(al3:List UInt8)(al4:Bool)(al5 al6:Int)(aE:LV):=un fun t23 aH=>y8 C abx aby eF eG nu mE al3 al4 al5 al6 aE t23 aH (fun y=>some (Sum.inl y)) (fun r=>some (Sum.inr r))
noncomputable def aFb(C:af):cp:=bz 49 Zg [Q0,Q0,Q1,Q0,Q0,Q0,Q0,Q0,Q0,Q0,Q0,Q0,Q1] [[1,2,0,0,4,5,6,7,8,9,10,11,12,0]] (@y8 C) bh
theorem aFc(C:af):bn C (aFb C) 76 (Lp [1,1,0,1,0,0] 76):=bA Zg [Q0,Q0,Q1,Q0,Q0,Q0,Q0,Q0,Q0,Q0,Q0,Q0,Q1] [[1,2,0,0,4,5,6,7,8,9,10,11,12,0]] (@y8 C) (ba an)
noncomputable def abz(C:af)(pg:List UInt8)(ph:Bool)(pj MK:Int)(Te y7:List UInt8):Option LV:=
 (Loop (s9 C Te y7 [] false 0 0 pg ph pj MK ([]:LV)) (0,([]:LV))).bind (un fun iU=>un fun(mr:Bool) (VN:LV)=>
  some [.str pg,.bool ph,vI pj,vI MK,.list 142 VN])
theorem al7{pg:List UInt8}{ph:Bool}{pj MK:Int}{Te y7:List UInt8}{r:Option LV}(h:abz CC pg ph pj MK Te y7=r):CC 76 [.str pg,.bool ph,vI pj,vI MK,.str Te,.str y7]=r:=bj (bp (aFc CC) an) h
theorem aS{f:FuncId}{ds r:List V}(h:Ki PG lY 60 30 f ds=some r):CC f ds=some r:=e8 h
def q1:V:= .agg [vI 1,vI 0,b8 []]
def qx(n:Int):V:= .agg [vI 2,vI n,b8 []]
def qc(l:LV):V:= .agg [vI 3,vI 0,b8 l]
def qw(n:Int)(a:V):V:= .agg [vI 4,vI n,b8 [a]]
def rZ(l0 l1:Int)(l2:LV)(r0 r1:Int)(r2:LV)(p q:List (Nat×Nat))(a b c d:List Bool)(nv:Nat):ej:=⟨l0,l1,l2,r0,r1,r2,p,q,fun i=>a.getD i false,fun i=>b.getD i false,fun i=>c.getD i false,fun i=>d.getD i false,nv⟩
def pb(d:ej):Prop:=CC 148 (iw d)=some [vI 0]
def pS(d:ej):Prop:=CC 158 [vI d.l0,vI d.l1,b8 d.l2]=some [cZ (d.p.map dA)]
def pU(d:ej):Prop:=CC 158 [vI d.r0,vI d.r1,b8 d.r2]=some [cZ (d.q.map dA)]
def pV(d:ej):Prop:=CC FP ([vI d.l0,vI d.l1,b8 d.l2,vI 0,vI 0,b8 []]++AN (fun _=>false) (fun _=>false))=some (AN d.o1 d.e1)
def pW(d:ej):Prop:=CC FP ([vI d.r0,vI d.r1,b8 d.r2,vI 0,vI 0,b8 []]++AN d.o1 d.e1)=some (AN d.cP d.cQ)
def pX(d:ej):Prop:=CC 201 [b8 [.agg [vI d.l0,vI d.l1,b8 d.l2],.agg [vI d.r0,vI d.r1,b8 d.r2]]]=some [vI (d.nv:Int)]
def iv(s:List UInt8)(p a b:Int)(l:LV)(q:Int):Prop:=CC 146 [.str s,vI p]=some [vI a,vI b,b8 l,.bool true,.str s,vI q]
def pY(s:List UInt8)(p:Int):Prop:=CC 147 [.int .u8 61,.str s,vI p]=some [.bool true,.str s,vI (p+1)]
instance {s:Nat×Nat}:Decidable (tx s):=by unfold tx;infer_instance
theorem qW{d:ej}(h1:pb d)(h2:pS d)(h3:pU d)(h4:pV d)(h5:pW d)(h6:pX d)(h:d.nv≤6∧(∀s∈d.p,tx s)∧(∀s∈d.q,tx s)∧d.p.length≤1000∧d.q.length≤1000∧ni d.nv d.p 0=some 1∧ni d.nv d.q 0=some 1):mZ d:=⟨h1,h2,h3,h4,h5,h6,h.1,h.2.1,h.2.2.1,h.2.2.2.1,h.2.2.2.2.1,h.2.2.2.2.2.1,h.2.2.2.2.2.2⟩
def nW(s:List UInt8)(d:ej):Prop:=CC 117 [.str s]=some (iw d++[vI (-1),vI 0])
theorem qX{s:List UInt8}{d:ej}{p q:Int}(hs:s.length≤1000)(h1:iv s 0 d.l0 d.l1 d.l2 p)(h2:pY s p)(h3:iv s (p+1) d.r0 d.r1 d.r2 q)(hq:(s.length:Int)≤q)(hv:pb d):nW s d:=by
 refine aFa ?_;unfold al2;exact bF (dj (by omega)) (bs h1 (bF rfl (bs h2 (bF rfl (bs h3 (bF rfl (bF (dj (show¬q<(s.length:Int) by omega)) (bs hv (bF rfl rfl)))))))))
section
variable {n a b:List UInt8}{m:Bool}{f k:Int}{d e:ej}
theorem D8(h1:nW a d)(h2:nW b e):CC 76 [.str n,.bool m,vI f,vI k,.str a,.str b]=some [.str n,.bool m,vI f,vI k,.list 142 ([d,e].map fun d=> .agg (iw d))]:=by
 refine al7 ?_;unfold abz;have s1:s9 CC a b [] false 0 0 n m f k ([]:LV) (0,[])=some (.inl (1,[.agg (iw d)])):=by
  simp only[s9,y8,un];exact bT rfl (bs rfl (bs h1 (bT rfl rfl)))
 have s2:s9 CC a b [] false 0 0 n m f k ([]:LV) (1,[.agg (iw d)])=some (.inl (2,[.agg (iw d),.agg (iw e)])):=by
  simp only[s9,y8,un];exact bT rfl (bs rfl (bs h2 (bT rfl rfl)))
 have s3:s9 CC a b [] false 0 0 n m f k ([]:LV) (2,[.agg (iw d),.agg (iw e)])=some (.inr (2,false,[.agg (iw d),.agg (iw e)])):=by
  simp only[s9,y8,un];exact bF rfl rfl
 exact bs ((gp s1).trans ((gp s2).trans (gH s3))) rfl
theorem uI(h1:nW a d)(h2:CC 117 [.str []]=some [vI 0,vI 0,b8 [],vI 0,vI 0,b8 [],vI 0,vI 2]):CC 76 [.str n,.bool m,vI f,vI k,.str a,.str []]=some [.str n,.bool m,vI f,vI k,.list 142 ([d].map fun d=> .agg (iw d))]:=by
 refine al7 ?_;unfold abz;have s1:s9 CC a [] [] false 0 0 n m f k ([]:LV) (0,[])=some (.inl (1,[.agg (iw d)])):=by
  simp only[s9,y8,un];exact bT rfl (bs rfl (bs h1 (bT rfl rfl)))
 have s2:s9 CC a [] [] false 0 0 n m f k ([]:LV) (1,[.agg (iw d)])=some (.inl (2,[.agg (iw d)])):=by
  simp only[s9,y8,un];exact bT rfl (bs rfl (bs h2 (bF rfl rfl)))
 have s3:s9 CC a [] [] false 0 0 n m f k ([]:LV) (2,[.agg (iw d)])=some (.inr (2,false,[.agg (iw d)])):=by
  simp only[s9,y8,un];exact bF rfl rfl
 exact bs ((gp s1).trans ((gp s2).trans (gH s3))) rfl
end
def n0:ej:=rZ 2 0 [] 1 0 [] [(1,0)] [(0,0)] [Q1,Q0,Q0,Q0,Q0,Q0] [Q1,Q0,Q0,Q0,Q0,Q0] [Q1,Q0,Q0,Q0,Q0,Q0] [Q1,Q0,Q0,Q0,Q0,Q0] 1
def Tf:List UInt8:=[120,32,61,32,49]
def lI:ej:=rZ 3 0 [qx 0,qx 1] 3 0 [qx 1,qx 0] [(1,0),(1,1),(2,0)] [(1,1),(1,0),(2,0)] [Q1,Q1,Q0,Q0,Q0,Q0] [Q1,Q1,Q0,Q0,Q0,Q0] [Q1,Q1,Q0,Q0,Q0,Q0] [Q1,Q1,Q0,Q0,Q0,Q0] 2
def Tg:List UInt8:=[120,121,32,61,32,121,120]
def aY:ej:=rZ 4 1 [qx 0] 4 0 [qx 0] [(1,0),(3,1)] [(1,0),(3,0)] [Q1,Q0,Q0,Q0,Q0,Q0] [Q1,Q0,Q0,Q0,Q0,Q0] [Q1,Q0,Q0,Q0,Q0,Q0] [Q1,Q0,Q0,Q0,Q0,Q0] 1
def Th:List UInt8:=[120,94,40,119,43,49,41,32,61,32,120,94,119]
def la:ej:=rZ 4 0 [qx 0] 1 0 [] [(1,0),(3,0)] [(0,0)] [Q1,Q0,Q0,Q0,Q0,Q0] [Q0,Q0,Q0,Q0,Q0,Q0] [Q1,Q0,Q0,Q0,Q0,Q0] [Q0,Q0,Q0,Q0,Q0,Q0] 1
def Ti:List UInt8:=[120,94,119,32,61,32,49]
def oC:ej:=rZ 3 0 [qx 0,qx 0] 2 0 [] [(1,0),(1,0),(2,0)] [(1,0)] [Q1,Q0,Q0,Q0,Q0,Q0] [Q1,Q0,Q0,Q0,Q0,Q0] [Q1,Q0,Q0,Q0,Q0,Q0] [Q1,Q0,Q0,Q0,Q0,Q0] 1
def Tj:List UInt8:=[120,120,32,61,32,120]
def oD:ej:=rZ 3 0 [qw 0 (qc [qx 0,qx 1]),qx 0] 4 0 [qc [qx 0,qx 1]] [(1,0),(1,1),(2,0),(3,0),(1,0),(2,0)] [(1,0),(1,1),(2,0),(3,0)] [Q1,Q1,Q0,Q0,Q0,Q0] [Q1,Q1,Q0,Q0,Q0,Q0] [Q1,Q1,Q0,Q0,Q0,Q0] [Q1,Q1,Q0,Q0,Q0,Q0] 2
def Tk:List UInt8:=[40,120,121,41,94,119,120,32,61,32,40,120,121,41,94,119]
def oE:ej:=rZ 3 0 [qx 1,qw 0 (qc [qx 0,qx 1])] 4 0 [qc [qx 0,qx 1]] [(1,1),(1,0),(1,1),(2,0),(3,0),(2,0)] [(1,0),(1,1),(2,0),(3,0)] [Q1,Q1,Q0,Q0,Q0,Q0] [Q1,Q1,Q0,Q0,Q0,Q0] [Q1,Q1,Q0,Q0,Q0,Q0] [Q1,Q1,Q0,Q0,Q0,Q0] 2
def Tl:List UInt8:=[121,40,120,121,41,94,119,32,61,32,40,120,121,41,94,119]
def lJ:ej:=rZ 3 0 [qw 0 (qc [qx 0,qx 1]),qx 0,qw 0 (qc [qx 0,qx 1])] 4 0 [qc [qx 0,qx 1]] [(1,0),(1,1),(2,0),(3,0),(1,0),(2,0),(1,0),(1,1),(2,0),(3,0),(2,0)] [(1,0),(1,1),(2,0),(3,0)] [Q1,Q1,Q0,Q0,Q0,Q0] [Q1,Q1,Q0,Q0,Q0,Q0] [Q1,Q1,Q0,Q0,Q0,Q0] [Q1,Q1,Q0,Q0,Q0,Q0] 2
def Tm:List UInt8:=[40,120,121,41,94,119,120,40,120,121,41,94,119,32,61,32,40,120,121,41,94,119]
def oF:ej:=rZ 3 0 [qw 0 (qx 0),qx 1] 4 0 [qx 0] [(1,0),(3,0),(1,1),(2,0)] [(1,0),(3,0)] [Q1,Q1,Q0,Q0,Q0,Q0] [Q0,Q1,Q0,Q0,Q0,Q0] [Q1,Q1,Q0,Q0,Q0,Q0] [Q0,Q1,Q0,Q0,Q0,Q0] 2
def Tn:List UInt8:=[120,94,119,121,32,61,32,120,94,119]
def oG:ej:=rZ 3 0 [qx 1,qw 0 (qx 0)] 4 0 [qx 0] [(1,1),(1,0),(3,0),(2,0)] [(1,0),(3,0)] [Q1,Q1,Q0,Q0,Q0,Q0] [Q0,Q1,Q0,Q0,Q0,Q0] [Q1,Q1,Q0,Q0,Q0,Q0] [Q0,Q1,Q0,Q0,Q0,Q0] 2
def To:List UInt8:=[121,120,94,119,32,61,32,120,94,119]
def oH:ej:=rZ 3 0 [qw 0 (qx 0),qx 1,qw 0 (qx 0)] 4 0 [qx 0] [(1,0),(3,0),(1,1),(2,0),(1,0),(3,0),(2,0)] [(1,0),(3,0)] [Q1,Q1,Q0,Q0,Q0,Q0] [Q0,Q1,Q0,Q0,Q0,Q0] [Q1,Q1,Q0,Q0,Q0,Q0] [Q0,Q1,Q0,Q0,Q0,Q0] 2
def Ts:List UInt8:=[120,94,119,121,120,94,119,32,61,32,120,94,119]
def oI:ej:=rZ 3 0 [qw 0 (qx 0),qx 1,qw 0 (qx 0),qx 1,qw 0 (qx 0)] 3 0 [qw 0 (qx 0),qx 1,qw 0 (qx 0)] [(1,0),(3,0),(1,1),(2,0),(1,0),(3,0),(2,0),(1,1),(2,0),(1,0),(3,0),(2,0)] [(1,0),(3,0),(1,1),(2,0),(1,0),(3,0),(2,0)] [Q1,Q1,Q0,Q0,Q0,Q0] [Q0,Q1,Q0,Q0,Q0,Q0] [Q1,Q1,Q0,Q0,Q0,Q0] [Q0,Q1,Q0,Q0,Q0,Q0] 2
def Tt:List UInt8:=[120,94,119,121,120,94,119,121,120,94,119,32,61,32,120,94,119,121,120,94,119]
def oJ:ej:=rZ 3 0 [qw 0 (qx 0),qx 1,qw 0 (qx 0),qx 2,qw 0 (qx 0)] 3 0 [qw 0 (qx 0),qx 2,qw 0 (qx 0),qx 1,qw 0 (qx 0)] [(1,0),(3,0),(1,1),(2,0),(1,0),(3,0),(2,0),(1,2),(2,0),(1,0),(3,0),(2,0)] [(1,0),(3,0),(1,2),(2,0),(1,0),(3,0),(2,0),(1,1),(2,0),(1,0),(3,0),(2,0)] [Q1,Q1,Q1,Q0,Q0,Q0] [Q0,Q1,Q1,Q0,Q0,Q0] [Q1,Q1,Q1,Q0,Q0,Q0] [Q0,Q1,Q1,Q0,Q0,Q0] 3
def Tu:List UInt8:=[120,94,119,121,120,94,119,122,120,94,119,32,61,32,120,94,119,122,120,94,119,121,120,94,119]
def pR:ej:=rZ 3 0 [qw 0 (qc [qw 0 (qx 0),qx 2,qw 0 (qx 1),qx 3,qw 0 (qx 0)]),qw 0 (qx 0),qx 2,qw 0 (qx 1),qx 5,qw 0 (qx 0),qw 0 (qc [qw 0 (qx 0),qx 4,qw 0 (qx 1),qx 5,qw 0 (qx 0)])] 3 0 [qw 0 (qc [qw 0 (qx 0),qx 2,qw 0 (qx 1),qx 3,qw 0 (qx 0)]),qw 0 (qc [qw 0 (qx 0),qx 4,qw 0 (qx 1),qx 5,qw 0 (qx 0)])] [(1,0),(3,0),(1,2),(2,0),(1,1),(3,0),(2,0),(1,3),(2,0),(1,0),(3,0),(2,0),(3,0),(1,0),(3,0),(2,0),(1,2),(2,0),(1,1),(3,0),(2,0),(1,5),(2,0),(1,0),(3,0),(2,0),(1,0),(3,0),(1,4),(2,0),(1,1),(3,0),(2,0),(1,5),(2,0),(1,0),(3,0),(2,0),(3,0),(2,0)] [(1,0),(3,0),(1,2),(2,0),(1,1),(3,0),(2,0),(1,3),(2,0),(1,0),(3,0),(2,0),(3,0),(1,0),(3,0),(1,4),(2,0),(1,1),(3,0),(2,0),(1,5),(2,0),(1,0),(3,0),(2,0),(3,0),(2,0)] [Q1,Q1,Q1,Q1,Q1,Q1] [Q0,Q0,Q1,Q1,Q1,Q1] [Q1,Q1,Q1,Q1,Q1,Q1] [Q0,Q0,Q1,Q1,Q1,Q1] 6
def NP:List UInt8:=[40,120,94,119,122,121,94,119,117,120,94,119,41,94,119,120,94,119,122,121,94,119,116,120,94,119,40,120,94,119,118,121,94,119,116,120,94,119,41,94,119,32,61,32,40,120,94,119,122,121,94,119,117,120,94,119,41,94,119,40,120,94,119,118,121,94,119,116,120,94,119,41,94,119]
def zG:LV:=[.agg [.str [116,114,105,118,105,97,108],.bool true,vI 1,vI 0,.str [120,32,61,32,49],.str []],
 .agg [.str [99,111,109,109,117,116,97,116,105,118,101],.bool true,vI 4,vI 0,.str [120,121,32,61,32,121,120],.str []],
 .agg [.str [99,111,109,109,117,116,97,116,105,118,101,45,97,112,101,114,105,111,100,105,99],.bool true,vI 4,vI 0,.str [120,121,32,61,32,121,120],.str [120,94,40,119,43,49,41,32,61,32,120,94,119]],
 .agg [.str [97,98,101,108,105,97,110],.bool true,vI 4,vI 0,.str [120,121,32,61,32,121,120],.str [120,94,119,32,61,32,49]],
 .agg [.str [115,101,109,105,108,97,116,116,105,99,101],.bool true,vI 2,vI 6,.str [120,121,32,61,32,121,120],.str [120,120,32,61,32,120]],
 .agg [.str [97,112,101,114,105,111,100,105,99],.bool true,vI 1,vI 0,.str [120,94,40,119,43,49,41,32,61,32,120,94,119],.str []],
 .agg [.str [103,114,111,117,112],.bool true,vI 5,vI 0,.str [120,94,119,32,61,32,49],.str []],
 .agg [.str [106,45,116,114,105,118,105,97,108],.bool true,vI 2,vI 6,.str [40,120,121,41,94,119,120,32,61,32,40,120,121,41,94,119],.str [121,40,120,121,41,94,119,32,61,32,40,120,121,41,94,119]],
 .agg [.str [114,45,116,114,105,118,105,97,108],.bool true,vI 3,vI 1,.str [40,120,121,41,94,119,120,32,61,32,40,120,121,41,94,119],.str []],
 .agg [.str [108,45,116,114,105,118,105,97,108],.bool true,vI 3,vI 2,.str [121,40,120,121,41,94,119,32,61,32,40,120,121,41,94,119],.str []],
 .agg [.str [100,97],.bool true,vI 3,vI 3,.str [40,120,121,41,94,119,120,40,120,121,41,94,119,32,61,32,40,120,121,41,94,119],.str []],
 .agg [.str [102,105,110,105,116,101,45,111,114,45,99,111,102,105,110,105,116,101],.bool false,vI 2,vI 1,.str [120,94,119,121,32,61,32,120,94,119],.str [121,120,94,119,32,61,32,120,94,119]],
 .agg [.str [100,101,102,105,110,105,116,101],.bool false,vI 2,vI 3,.str [121,120,94,119,32,61,32,120,94,119],.str []],
 .agg [.str [114,101,118,101,114,115,101,45,100,101,102,105,110,105,116,101],.bool false,vI 2,vI 2,.str [120,94,119,121,32,61,32,120,94,119],.str []],
 .agg [.str [103,101,110,101,114,97,108,105,115,101,100,45,100,101,102,105,110,105,116,101],.bool false,vI 2,vI 4,.str [120,94,119,121,120,94,119,32,61,32,120,94,119],.str []],
 .agg [.str [108,111,99,97,108,108,121,45,116,101,115,116,97,98,108,101],.bool false,vI 2,vI 5,.str [120,94,119,121,120,94,119,121,120,94,119,32,61,32,120,94,119,121,120,94,119],.str [120,94,119,121,120,94,119,122,120,94,119,32,61,32,120,94,119,122,120,94,119,121,120,94,119]],
 .agg [.str [100,111,116,45,100,101,112,116,104,45,111,110,101],.bool false,vI 2,vI 7,.str [40,120,94,119,122,121,94,119,117,120,94,119,41,94,119,120,94,119,122,121,94,119,116,120,94,119,40,120,94,119,118,121,94,119,116,120,94,119,41,94,119,32,61,32,40,120,94,119,122,121,94,119,117,120,94,119,41,94,119,40,120,94,119,118,121,94,119,116,120,94,119,41,94,119],.str []]]
def idK(k:Nat):ej:=[n0,lI,aY,la,oC,oD,oE,lJ,oF,oG,oH,oI,oJ,pR].getD k n0
def Uk(c:Nat):List Nat:=[[0],[1],[1,2],[1,3],[1,4],[2],[3],[5,6],[5],[6],[7],[8,9],[9],[8],[10],[11,12],[13]].getD c []
def zH(c:Nat):List ej:=(Uk c).map idK
end Go.AM
