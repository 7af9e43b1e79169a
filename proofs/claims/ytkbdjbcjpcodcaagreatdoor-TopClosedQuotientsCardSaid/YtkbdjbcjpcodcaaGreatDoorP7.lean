/-
  Functions of the program, lifted to plain data.
-/
import Derived.Test.YtkbdjbcjpcodcaaGreatDoorP6
set_option linter.unusedVariables false
set_option linter.unusedSimpArgs false
set_option linter.unusedSectionVars false
set_option maxRecDepth 100000
namespace Go.AM
open Go.IntKind (wrap)
open Go.Proofs
noncomputable def vg (C:af) (table dO:LV) (lR lS:Int) (lT:LV) (lU lV:Int) (lX:LV) (ei:Int):Option LV:=
 (C BW [.list ag table,.list ab dO,V.int .i64 lR,V.int .i64 lS,.list ai lT,V.int .i64 lU,V.int .i64 lV,.list ai lX]).bind fun r1=>
 bif (V.nth r1 0).toBool then
  bif (((V.nth (r1.drop 1) 0).toInt):Int) != 0 then
  some [V.int .i64 0,V.int .i64 ((V.nth (r1.drop 1) 0).toInt),.list ab ([]:LV)]
  else
  bif decide (ei<1) then
   some [V.int .i64 0,V.int .i64 1,.list ab ([]:LV)]
  else
   bif decide (ei>1048576) then
   some [V.int .i64 0,V.int .i64 1,.list ab ([]:LV)]
   else none
 else
  bif decide (ei<1) then
  some [V.int .i64 0,V.int .i64 1,.list ab ([]:LV)]
  else
  bif decide (ei>1048576) then
   some [V.int .i64 0,V.int .i64 1,.list ab ([]:LV)]
  else
   (C BT [.list bJ ((V.nth (r1.drop 1) 0).toList),.list bJ ((V.nth ((r1.drop 1).drop 1) 0).toList),.list ag ((V.nth (((r1.drop 1).drop 1).drop 1) 0).toList),.list ag ((V.nth ((r1.drop 1).drop 3) 0).toList),V.int .i64 ((V.nth (((r1.drop 1).drop 3).drop 1) 0).toInt),.list ab ((V.nth ((((r1.drop 1).drop 3).drop 1).drop 1) 0).toList),.list ab ((V.nth (((((r1.drop 1).drop 3).drop 1).drop 1).drop 1) 0).toList),.list ab ((V.nth ((((((r1.drop 1).drop 3).drop 1).drop 1).drop 1).drop 1) 0).toList),.list ab ((V.nth (((((((r1.drop 1).drop 3).drop 1).drop 1).drop 1).drop 1).drop 1) 0).toList),.list ab ((V.nth ((((((((r1.drop 1).drop 3).drop 1).drop 1).drop 1).drop 1).drop 1).drop 1) 0).toList),.list ab ((V.nth (((((((((r1.drop 1).drop 3).drop 1).drop 1).drop 1).drop 1).drop 1).drop 1).drop 1) 0).toList),.list ab ((V.nth ((((((((((r1.drop 1).drop 3).drop 1).drop 1).drop 1).drop 1).drop 1).drop 1).drop 1).drop 1) 0).toList),.list ab ((V.nth (((((((((((r1.drop 1).drop 3).drop 1).drop 1).drop 1).drop 1).drop 1).drop 1).drop 1).drop 1).drop 1) 0).toList),.list ab ((V.nth ((((((((((((r1.drop 1).drop 3).drop 1).drop 1).drop 1).drop 1).drop 1).drop 1).drop 1).drop 1).drop 1).drop 1) 0).toList),.list ab ((V.nth (((((((((((((r1.drop 1).drop 3).drop 1).drop 1).drop 1).drop 1).drop 1).drop 1).drop 1).drop 1).drop 1).drop 1).drop 1) 0).toList),.list ab ((V.nth ((((((((((((((r1.drop 1).drop 3).drop 1).drop 1).drop 1).drop 1).drop 1).drop 1).drop 1).drop 1).drop 1).drop 1).drop 1).drop 1) 0).toList),.list ab ((V.nth (((r1.drop 1).drop 3).drop 13) 0).toList)]).bind fun r2=>
   bif (V.nth r2 0).toBool then
   some [V.int .i64 0,V.int .i64 9,.list ab ([]:LV)]
   else
   (C Fj [V.int .i64 ei,.list bJ ((V.nth (r2.drop 1) 0).toList),.list bJ ((V.nth ((r2.drop 1).drop 1) 0).toList),.list ag ((V.nth (((r2.drop 1).drop 1).drop 1) 0).toList),.list ag ((V.nth ((r2.drop 1).drop 3) 0).toList),V.int .i64 ((V.nth (((r2.drop 1).drop 3).drop 1) 0).toInt),.list ab ((V.nth ((((r2.drop 1).drop 3).drop 1).drop 1) 0).toList),.list ab ((V.nth (((((r2.drop 1).drop 3).drop 1).drop 1).drop 1) 0).toList),.list ab ((V.nth ((((((r2.drop 1).drop 3).drop 1).drop 1).drop 1).drop 1) 0).toList),.list ab ((V.nth (((((((r2.drop 1).drop 3).drop 1).drop 1).drop 1).drop 1).drop 1) 0).toList),.list ab ((V.nth ((((((((r2.drop 1).drop 3).drop 1).drop 1).drop 1).drop 1).drop 1).drop 1) 0).toList),.list ab ((V.nth (((((((((r2.drop 1).drop 3).drop 1).drop 1).drop 1).drop 1).drop 1).drop 1).drop 1) 0).toList),.list ab ((V.nth ((((((((((r2.drop 1).drop 3).drop 1).drop 1).drop 1).drop 1).drop 1).drop 1).drop 1).drop 1) 0).toList),.list ab ((V.nth (((((((((((r2.drop 1).drop 3).drop 1).drop 1).drop 1).drop 1).drop 1).drop 1).drop 1).drop 1).drop 1) 0).toList),.list ab ((V.nth ((((((((((((r2.drop 1).drop 3).drop 1).drop 1).drop 1).drop 1).drop 1).drop 1).drop 1).drop 1).drop 1).drop 1) 0).toList),.list ab ((V.nth (((((((((((((r2.drop 1).drop 3).drop 1).drop 1).drop 1).drop 1).drop 1).drop 1).drop 1).drop 1).drop 1).drop 1).drop 1) 0).toList),.list ab ((V.nth ((((((((((((((r2.drop 1).drop 3).drop 1).drop 1).drop 1).drop 1).drop 1).drop 1).drop 1).drop 1).drop 1).drop 1).drop 1).drop 1) 0).toList),.list ab ((V.nth (((r2.drop 1).drop 3).drop 13) 0).toList)]).bind fun r3=>
   bif (V.nth (r3.drop 1) 0).toBool then
    (C Ff [.list bJ ((V.nth (r3.drop 3) 0).toList),.list bJ ((V.nth ((r3.drop 3).drop 1) 0).toList),.list ag ((V.nth (((r3.drop 3).drop 1).drop 1) 0).toList),.list ag ((V.nth ((r3.drop 3).drop 3) 0).toList),V.int .i64 ((V.nth (((r3.drop 3).drop 3).drop 1) 0).toInt),.list ab ((V.nth ((((r3.drop 3).drop 3).drop 1).drop 1) 0).toList),.list ab ((V.nth (((((r3.drop 3).drop 3).drop 1).drop 1).drop 1) 0).toList),.list ab ((V.nth ((((((r3.drop 3).drop 3).drop 1).drop 1).drop 1).drop 1) 0).toList),.list ab ((V.nth (((((((r3.drop 3).drop 3).drop 1).drop 1).drop 1).drop 1).drop 1) 0).toList),.list ab ((V.nth ((((((((r3.drop 3).drop 3).drop 1).drop 1).drop 1).drop 1).drop 1).drop 1) 0).toList),.list ab ((V.nth (((((((((r3.drop 3).drop 3).drop 1).drop 1).drop 1).drop 1).drop 1).drop 1).drop 1) 0).toList),.list ab ((V.nth ((((((((((r3.drop 3).drop 3).drop 1).drop 1).drop 1).drop 1).drop 1).drop 1).drop 1).drop 1) 0).toList),.list ab ((V.nth (((((((((((r3.drop 3).drop 3).drop 1).drop 1).drop 1).drop 1).drop 1).drop 1).drop 1).drop 1).drop 1) 0).toList),.list ab ((V.nth ((((((((((((r3.drop 3).drop 3).drop 1).drop 1).drop 1).drop 1).drop 1).drop 1).drop 1).drop 1).drop 1).drop 1) 0).toList),.list ab ((V.nth (((((((((((((r3.drop 3).drop 3).drop 1).drop 1).drop 1).drop 1).drop 1).drop 1).drop 1).drop 1).drop 1).drop 1).drop 1) 0).toList),.list ab ((V.nth ((((((((((((((r3.drop 3).drop 3).drop 1).drop 1).drop 1).drop 1).drop 1).drop 1).drop 1).drop 1).drop 1).drop 1).drop 1).drop 1) 0).toList),.list ab ((V.nth (((r3.drop 3).drop 3).drop 13) 0).toList)]).bind fun r4=>
    some [V.int .i64 ((V.nth r3 0).toInt),V.int .i64 0,.list ab ((V.nth ((r4.drop 3).drop 13) 0).toList)]
   else
    bif (V.nth ((r3.drop 1).drop 1) 0).toBool then
    some [V.int .i64 ((V.nth r3 0).toInt),V.int .i64 9,.list ab ([]:LV)]
    else
    some [V.int .i64 0,V.int .i64 7,.list ab ([]:LV)]
theorem aiL {table dO:LV} {lR lS:Int} {lT:LV} {lU lV:Int} {lX:LV} {ei:Int} {r:Option LV} (h:vg CC table dO lR lS lT lU lV lX ei=r):CC Ft [.list ag table,.list ab dO,V.int .i64 lR,V.int .i64 lS,.list ai lT,V.int .i64 lU,V.int .i64 lV,.list ai lX,V.int .i64 ei]=r:=bO (L:=bM) av h
structure gC where
 l0:Int
 l1:Int
 l2:LV
 r0:Int
 r1:Int
 r2:LV
 p:List (Nat×Nat)
 q:List (Nat×Nat)
 o1:Nat→Bool
 e1:Nat→Bool
 bH:Nat→Bool
 bI:Nat→Bool
 nv:Nat
def cU (d:gC):List V:=[.int .i64 d.l0,.int .i64 d.l1,.list ai d.l2,.int .i64 d.r0,.int .i64 d.r1,.list ai d.r2]
def cZ (o e:Nat→Bool):List V:=[.bool (o 0),.bool (o 1),.bool (o 2),.bool (o 3),.bool (o 4),.bool (o 5),.bool (e 0),.bool (e 1),.bool (e 2),.bool (e 3),.bool (e 4),.bool (e 5)]
structure mN (d:gC):Prop where
 val:CC me (cU d)=some [.int .i64 0]
 cl:CC fP [.int .i64 d.l0,.int .i64 d.l1,.list ai d.l2]=some [.list bJ (d.p.map cp)]
 cr:CC fP [.int .i64 d.r0,.int .i64 d.r1,.list ai d.r2]=some [.list bJ (d.q.map cp)]
 v1:CC gB ([.int .i64 d.l0,.int .i64 d.l1,.list ai d.l2,.int .i64 0,.int .i64 0,.list ai []]++cZ (fun _=>false) (fun _=>false))=some (cZ d.o1 d.e1)
 v2:CC gB ([.int .i64 d.r0,.int .i64 d.r1,.list ai d.r2,.int .i64 0,.int .i64 0,.list ai []]++cZ d.o1 d.e1)=some (cZ d.bH d.bI)
 vars:CC nr [.list ai [.agg [.int .i64 d.l0,.int .i64 d.l1,.list ai d.l2],.agg [.int .i64 d.r0,.int .i64 d.r1,.list ai d.r2]]]=some [.int .i64 (d.nv:Int)]
 nv:d.nv≤6
 Yi: ∀s∈d.p,fo s
 Yj: ∀s∈d.q,fo s
 lp:d.p.length≤1000
 lq:d.q.length≤1000
 wp:mP d.nv d.p 0=some 1
 wq:mP d.nv d.q 0=some 1
section
variable {K:Nat} {mul:Nat→Nat→Nat} (h:Tb K mul) (ha: ∀i j k,i<K→j<K→k<K→mul (mul i j) k=mul i (mul j k)) (ae: ∀j,j<K→mul 0 j=j∧mul j 0=j) {Z:List Nat} (hZ: ∀z∈Z,z<K) (sE:Z.length≤400) {d:gC} (hd:mN d)
include hZ sE hd
end
noncomputable def IU (C:af) (s:LV) (v t7 t8:Int) {β:Type} (kn:Int→Option β) (kr:((Int) ⊕ (Int×Bool))→Option β):Option β:=
 bif decide (t8<t7) then
  (idx s t8).bind fun x1=>
  bif v==x1.toInt then
  kr (.inl t8)
  else
  kn (wrap .i64 (t8+1))
 else
  kr (.inr (t8,decide (t8<t7)))
noncomputable def OM (C:af) (s:LV) (v t7:Int):=fun t8=>IU C s v t7 t8 (fun y=>some (Sum.inl y)) (fun r=>some (Sum.inr r))
noncomputable def awl (C:af):cN:=bL 33 Uf [EQ,EQ,EQ,H1] [[0],[1,2,3,0,0]] (@IU C) bM
theorem awm (C:af):bD C (awl C) 101 (Lp [1,0,1,0,0] 101):=bN Uf [EQ,EQ,EQ,H1] [[0],[1,2,3,0,0]] (@IU C) (bA av)
noncomputable def Wl (C:af) (s:LV) (v:Int):Option LV:=
 (Loop (OM C s v (s.length:Int)) 0).bind (fJ (fun Aj=>
  some [V.int .i64 Aj]) (un fun (jN:Int) (mf:Bool)=>
  some [V.int .i64 (-1)]))
theorem aga {s:LV} {v:Int} {r:Option LV} (h:Wl CC s v=r):CC MK [.list ab s,V.int .i64 v]=r:=bO (bE (awm CC) av) h
noncomputable def agb (C:af) (s:LV) (v:Int):Option LV:=
 (C MK [.list ab s,V.int .i64 v]).bind fun r1=>
 some [.bool (decide ((((V.nth r1 0).toInt):Int)≥0))]
theorem awn {s:LV} {v:Int} {r:Option LV} (h:agb CC s v=r):CC MG [.list ab s,V.int .i64 v]=r:=bO (L:=bM) av h
noncomputable def IV (C:af) (n ss:Int) (bp:LV) (nR nT:Int) (nU:Bool) (nW ms:Int) (aF aU bC cb cv gF jO g0 fY fZ gq gE dW gZ lj:LV) (i:Int) (ga iy:LV) {β:Type} (kn:(Int×LV×LV)→Option β) (kr:(Int×Bool×LV×LV)→Option β):Option β:=
 bif decide (i<n) then
  aP fY i fun x3=>
  bif (decide (0≤x3.toInt))&&(decide (x3.toInt<(ga.length:Int))) then
  (ga[(x3.toInt:Int).toNat]?).bind fun x4=>
  aP fZ i fun x5=>
  bif Nat.ble (x4.toStr.length+(jU ([.int .u8 (wrap .u8 (wrap .i64 (97+x5.toInt)))]:LV)).length) pc then
   aP ga i fun x6=>
   aP iy i fun x7=>
   kn (wrap .i64 (i+1),bj ga i (.str (x4.toStr++(jU ([.int .u8 (wrap .u8 (wrap .i64 (97+x5.toInt)))]:LV)))),bj iy i (.bool true))
  else none
  else none
 else
  kr (i,decide (i<n),ga,iy)
noncomputable def IW (C:af) (n ss:Int) (bp:LV) (nR nT:Int) (nU:Bool) (nW ms:Int) (aF aU bC cb cv gF jO g0 fY fZ gq gE dW gZ lj:LV):=un fun i=>un fun ga iy=>IV C n ss bp nR nT nU nW ms aF aU bC cb cv gF jO g0 fY fZ gq gE dW gZ lj i ga iy (fun y=>some (Sum.inl y)) (fun r=>some (Sum.inr r))
noncomputable def IX (C:af) (n i t87 t88 ss:Int) (bp:LV) (nR nT:Int) (nU:Bool) (nW ms:Int) (uF aU bC cb cv gF jO g0 fY fZ gq gE ga gZ lj iy:LV) (j:Int) (dW:LV) {β:Type} (kn:(Int×LV)→Option β) (kr:(Int×Bool×LV)→Option β):Option β:=
 bif decide (j<n) then
  aP dW i fun x20=>
  aP dW i fun x21=>
  aP fZ j fun Ol=>
  (fl Tryz.prog ag dW [(i.toNat,0)]).bind fun x23=>
  bif (decide (0≤Ol.toInt))&&(decide (Ol.toInt<(x23.toList.length:Int))) then
  (fl Tryz.prog ag dW [(i.toNat,0)]).bind fun N4=>
  (N4.toList[(Ol.toInt:Int).toNat]?).bind fun Wm=>
  bif (decide (0≤Wm.toInt))&&(decide (Wm.toInt<(uF.length:Int))) then
   (uF[(Wm.toInt:Int).toNat]?).bind fun N3=>
   aP gq j fun x27=>
   (idx N3.toList x27.toInt).bind fun x28=>
   (fl Tryz.prog ag dW [(i.toNat,0)]).bind fun x29=>
   bif (decide (0≤j))&&(decide (j<(x29.toList.length:Int))) then
   (fl Tryz.prog ag dW [(i.toNat,0)]).bind fun x30=>
   (x30.toList[j.toNat]?).bind fun x31=>
   kn (wrap .i64 (j+1),setRow Tryz.prog (bj x30.toList j (V.int .i64 x28.toInt)) ag dW [(i.toNat,0)])
   else none
  else none
  else none
 else
  kr (j,decide (j<n),dW)
noncomputable def DT (C:af) (n i t87 t88 ss:Int) (bp:LV) (nR nT:Int) (nU:Bool) (nW ms:Int) (uF aU bC cb cv gF jO g0 fY fZ gq gE ga gZ lj iy:LV):=un fun j dW=>IX C n i t87 t88 ss bp nR nT nU nW ms uF aU bC cb cv gF jO g0 fY fZ gq gE ga gZ lj iy j dW (fun y=>some (Sum.inl y)) (fun r=>some (Sum.inr r))
noncomputable def IY (C:af) (n t87 ss:Int) (bp:LV) (nR nT:Int) (nU:Bool) (nW ms:Int) (uF aU bC cb cv gF jO g0 fY fZ gq gE ga gZ lj:LV) (t88:Int) (dW iy:LV) {β:Type} (kn:(Int×LV×LV)→Option β) (kr:(Int×Bool×LV×LV)→Option β):Option β:=
 bif decide (t88<t87) then
  aP uF t88 fun j9=>
  bif decide (0<(iy.length:Int)) then
  (iy[0]?).bind fun Cg=>
  bif Cg.toBool then
   bif decide (0<(iy.length:Int)) then
   (iy[0]?).bind fun B7=>
   bif (decide (0≤n))&&((decide (n≤n))&&(Nat.ble ((n.toNat)*8) ba)) then
    aP dW t88 fun K7=>
    aP (bj dW t88 (.list ab (List.replicate (n.toNat) (V.int .i64 0)))) t88 fun K8=>
    (fl Tryz.prog ag (bj dW t88 (.list ab (List.replicate (n.toNat) (V.int .i64 0)))) [(t88.toNat,0)]).bind fun vp=>
    bif decide (0<(vp.toList.length:Int)) then
    (fl Tryz.prog ag (bj dW t88 (.list ab (List.replicate (n.toNat) (V.int .i64 0)))) [(t88.toNat,0)]).bind fun K9=>
    (K9.toList[0]?).bind fun DR=>
    (Loop (DT C n t88 t87 t88 ss bp nR nT nU nW ms uF aU bC cb cv gF jO g0 fY fZ gq gE ga gZ lj (iy.set 0 (.bool true))) (1,setRow Tryz.prog (K9.toList.set 0 (V.int .i64 t88)) ag (bj dW t88 (.list ab (List.replicate (n.toNat) (V.int .i64 0)))) [(t88.toNat,0)])).bind (un fun azF=>un fun (avS:Bool) (Ah:LV)=>
     kn (wrap .i64 (t88+1),Ah,iy.set 0 (.bool true)))
    else none
   else none
   else none
  else
   (C MG [.list ab j9.toList,V.int .i64 0]).bind fun r35=>
   bif decide (0<(iy.length:Int)) then
   (iy[0]?).bind fun x36=>
   bif (decide (0≤n))&&((decide (n≤n))&&(Nat.ble ((n.toNat)*8) ba)) then
    aP dW t88 fun x37=>
    aP (bj dW t88 (.list ab (List.replicate (n.toNat) (V.int .i64 0)))) t88 fun x38=>
    (fl Tryz.prog ag (bj dW t88 (.list ab (List.replicate (n.toNat) (V.int .i64 0)))) [(t88.toNat,0)]).bind fun x39=>
    bif decide (0<(x39.toList.length:Int)) then
    (fl Tryz.prog ag (bj dW t88 (.list ab (List.replicate (n.toNat) (V.int .i64 0)))) [(t88.toNat,0)]).bind fun x40=>
    (x40.toList[0]?).bind fun x41=>
    (Loop (DT C n t88 t87 t88 ss bp nR nT nU nW ms uF aU bC cb cv gF jO g0 fY fZ gq gE ga gZ lj (iy.set 0 (.bool ((V.nth r35 0).toBool)))) (1,setRow Tryz.prog (x40.toList.set 0 (V.int .i64 t88)) ag (bj dW t88 (.list ab (List.replicate (n.toNat) (V.int .i64 0)))) [(t88.toNat,0)])).bind (un fun azG=>un fun (VA:Bool) (H4:LV)=>
     kn (wrap .i64 (t88+1),H4,iy.set 0 (.bool ((V.nth r35 0).toBool))))
    else none
   else none
   else none
  else none
 else
  kr (t88,decide (t88<t87),dW,iy)
noncomputable def ON (C:af) (n t87 ss:Int) (bp:LV) (nR nT:Int) (nU:Bool) (nW ms:Int) (uF aU bC cb cv gF jO g0 fY fZ gq gE ga gZ lj:LV):=un fun t88=>un fun dW iy=>IY C n t87 ss bp nR nT nU nW ms uF aU bC cb cv gF jO g0 fY fZ gq gE ga gZ lj t88 dW iy (fun y=>some (Sum.inl y)) (fun r=>some (Sum.inr r))
noncomputable def IZ (C:af) (n k' t163 t164 t176 DU:Int) (bp:LV) (nR nT:Int) (nU:Bool) (nW ms Wn:Int) (Wo:LV) (Wp:Int) (AH Wq cv gF jO g0 fY fZ gq gE dW ga gZ lj iy DV agc:LV) (t177:Int) (qS:LV) {β:Type} (kn:(Int×LV)→Option β) (kr:(Int×Bool×LV)→Option β):Option β:=
 bif decide (t177<t176) then
  aP Wq t177 fun x51=>
  aP qS k' fun x52=>
  (C MH [V.int .i64 Wn,.list ar Wo,V.int .i64 Wp,.list ab x51.toList]).bind fun r53=>
  (fl Tryz.prog ou qS [(k'.toNat,0)]).bind fun x54=>
  bif (decide (0≤t177))&&(decide (t177<(x54.toList.length:Int))) then
  (fl Tryz.prog ou qS [(k'.toNat,0)]).bind fun x55=>
  (x55.toList[t177.toNat]?).bind fun x56=>
  kn (wrap .i64 (t177+1),setRow Tryz.prog (bj x55.toList t177 (.bool ((V.nth r53 0).toBool))) ou qS [(k'.toNat,0)])
  else none
 else
  kr (t177,decide (t177<t176),qS)
noncomputable def OO (C:af) (n k' t163 t164 t176 DU:Int) (bp:LV) (nR nT:Int) (nU:Bool) (nW ms Wn:Int) (Wo:LV) (Wp:Int) (AH Wq cv gF jO g0 fY fZ gq gE dW ga gZ lj iy DV agc:LV):=un fun t177 qS=>IZ C n k' t163 t164 t176 DU bp nR nT nU nW ms Wn Wo Wp AH Wq cv gF jO g0 fY fZ gq gE dW ga gZ lj iy DV agc t177 qS (fun y=>some (Sum.inl y)) (fun r=>some (Sum.inr r))
noncomputable def I4 (C:af) (n t163 DU:Int) (bp:LV) (nR nT:Int) (nU:Bool) (nW ms:Int) (AH bC cb cv gF jO g0 fY fZ gq gE dW ga gZ lj iy DV:LV) (t164:Int) (qS:LV) {β:Type} (kn:(Int×LV)→Option β) (kr:(Int×Bool×LV)→Option β):Option β:=
 bif decide (t164<t163) then
  aP AH t164 fun Wr=>
  bif (decide (0≤n))&&((decide (n≤n))&&(Nat.ble ((n.toNat)*1) ba)) then
  aP qS t164 fun x50=>
  (Loop (OO C n t164 t163 t164 (fY.length:Int) DU bp nR nT nU nW ms ((Wr.cell 0).toInt) ((Wr.cell 1).toList) ((Wr.cell 2).toInt) AH fY bC cb cv gF jO g0 fZ gq gE dW ga gZ lj iy DV) (0,bj qS t164 (.list ar (List.replicate (n.toNat) (V.bool false))))).bind (un fun atc=>un fun (atd:Bool) (awo:LV)=>
   kn (wrap .i64 (t164+1),awo))
  else none
 else
  kr (t164,decide (t164<t163),qS)
noncomputable def OP (C:af) (n t163 DU:Int) (bp:LV) (nR nT:Int) (nU:Bool) (nW ms:Int) (AH bC cb cv gF jO g0 fY fZ gq gE dW ga gZ lj iy DV:LV):=un fun t164 qS=>I4 C n t163 DU bp nR nT nU nW ms AH bC cb cv gF jO g0 fY fZ gq gE dW ga gZ lj iy DV t164 qS (fun y=>some (Sum.inl y)) (fun r=>some (Sum.inr r))
noncomputable def I5 (C:af):cN:=bL 145 TQ [EQ,H1,EQ,EQ,EQ,EQ,EQ,EQ,EQ,EQ,EQ,EQ,EQ,EQ,EQ,EQ,EQ,EQ,EQ,EQ,EQ,EQ,H1,EQ,EQ,H1] [[1,0,0,3,4,5,6,7,8,9,10,11,12,13,14,15,16,17,18,19,20,21,22,0,24,25,0]] (@IV C) (bL 321 TR [EQ,EQ,H1,EQ,EQ,EQ,EQ,EQ,EQ,EQ,EQ,EQ,EQ,EQ,EQ,EQ,EQ,EQ,EQ,EQ,EQ,EQ,EQ,EQ,H1,EQ,EQ,EQ,EQ] [[1,2,0,4,5,0,6,7,8,9,10,11,12,13,14,15,16,17,18,19,20,21,22,23,24,0,26,27,28,29]] (@IX C) (bL 225 TS [EQ,EQ,H1,EQ,EQ,EQ,EQ,EQ,EQ,EQ,EQ,EQ,EQ,EQ,EQ,EQ,EQ,EQ,EQ,EQ,EQ,EQ,H1,EQ,EQ,EQ,H1] [[1,2,0,0,4,5,6,7,8,9,10,11,12,13,14,15,16,17,18,19,20,21,22,0,24,25,26,0]] (@IY C) (bL 481 TT [EQ,EQ,EQ,EQ,EQ,H1,EQ,EQ,EQ,EQ,EQ,EQ,EQ,H1,EQ,EQ,EQ,EQ,EQ,EQ,EQ,EQ,EQ,EQ,EQ,EQ,EQ,EQ,EQ,EQ,EQ,EQ,EQ,EQ] [[1,2,3,4,5,0,0,7,8,9,10,11,12,13,0,15,16,17,18,19,20,21,22,23,24,25,26,27,28,29,30,31,32,33,34]] (@IZ C) (bL 417 TU [EQ,EQ,H1,EQ,EQ,EQ,EQ,EQ,EQ,EQ,H1,EQ,EQ,EQ,EQ,EQ,EQ,EQ,EQ,EQ,EQ,EQ,EQ,EQ,EQ,EQ,EQ,EQ] [[1,2,0,0,4,5,6,7,8,9,10,0,12,13,14,15,16,17,18,19,20,21,22,23,24,25,26,27,28]] (@I4 C) bM))))
theorem awp (C:af):bD C (I5 C) 49 (Lp [1,1,1,1,1,1,0,1,0,0] 49):=bN TQ [EQ,H1,EQ,EQ,EQ,EQ,EQ,EQ,EQ,EQ,EQ,EQ,EQ,EQ,EQ,EQ,EQ,EQ,EQ,EQ,EQ,EQ,H1,EQ,EQ,H1] [[1,0,0,3,4,5,6,7,8,9,10,11,12,13,14,15,16,17,18,19,20,21,22,0,24,25,0]] (@IV C) (bA av)
theorem awq (C:af):bD C (I5 C) 49 (Lp [1,1,1,1,1,1,1,0,1,0,0,1,1,0,0,1,1,1,1,1,0,0] 49):=bN TR [EQ,EQ,H1,EQ,EQ,EQ,EQ,EQ,EQ,EQ,EQ,EQ,EQ,EQ,EQ,EQ,EQ,EQ,EQ,EQ,EQ,EQ,EQ,EQ,H1,EQ,EQ,EQ,EQ] [[1,2,0,4,5,0,6,7,8,9,10,11,12,13,14,15,16,17,18,19,20,21,22,23,24,0,26,27,28,29]] (@IX C) (bA av)
theorem awr (C:af):bD C (I5 C) 49 (Lp [1,1,1,1,1,1,1,0,1,0,0] 49):=bN TS [EQ,EQ,H1,EQ,EQ,EQ,EQ,EQ,EQ,EQ,EQ,EQ,EQ,EQ,EQ,EQ,EQ,EQ,EQ,EQ,EQ,EQ,H1,EQ,EQ,EQ,H1] [[1,2,0,0,4,5,6,7,8,9,10,11,12,13,14,15,16,17,18,19,20,21,22,0,24,25,26,0]] (@IY C) (bA (bE (awq C) av))
theorem aws (C:af):bD C (I5 C) 49 (Lp [1,1,1,1,1,1,1,1,1,0,1,0,0,1,1,0,0,1,1,1,0,0] 49):=bN TT [EQ,EQ,EQ,EQ,EQ,H1,EQ,EQ,EQ,EQ,EQ,EQ,EQ,H1,EQ,EQ,EQ,EQ,EQ,EQ,EQ,EQ,EQ,EQ,EQ,EQ,EQ,EQ,EQ,EQ,EQ,EQ,EQ,EQ] [[1,2,3,4,5,0,0,7,8,9,10,11,12,13,0,15,16,17,18,19,20,21,22,23,24,25,26,27,28,29,30,31,32,33,34]] (@IZ C) (bA av)
theorem awt (C:af):bD C (I5 C) 49 (Lp [1,1,1,1,1,1,1,1,1,0,1,0,0] 49):=bN TU [EQ,EQ,H1,EQ,EQ,EQ,EQ,EQ,EQ,EQ,H1,EQ,EQ,EQ,EQ,EQ,EQ,EQ,EQ,EQ,EQ,EQ,EQ,EQ,EQ,EQ,EQ,EQ] [[1,2,0,0,4,5,6,7,8,9,10,0,12,13,14,15,16,17,18,19,20,21,22,23,24,25,26,27,28]] (@I4 C) (bA (bE (aws C) av))
noncomputable def I6 (C:af) (ss:Int) (bp aO:LV):Option LV:=
 (C MF [.list ag bp,.bool true]).bind fun r1=>
 bif (((V.nth (r1.drop 3) 0).toInt):Int) != 0 then
  some [V.int .i64 0,.list ag ([]:LV),.list cz ([]:LV),.list ab ([]:LV),.list ar ([]:LV),.list ar ([]:LV),.list ou ([]:LV),V.int .i64 ((V.nth (r1.drop 3) 0).toInt),V.int .i64 ss,.list ag bp,.list lg aO]
 else
  bif decide (((((V.nth ((r1.drop 4).drop 1) 0).toList).length:Int):Int)>400) then
  some [V.int .i64 0,.list ag ([]:LV),.list cz ([]:LV),.list ab ([]:LV),.list ar ([]:LV),.list ar ([]:LV),.list ou ([]:LV),V.int .i64 3,V.int .i64 ss,.list ag bp,.list lg aO]
  else
  bif (decide (0≤(((V.nth ((r1.drop 4).drop 1) 0).toList).length:Int)))&&((decide ((((V.nth ((r1.drop 4).drop 1) 0).toList).length:Int)≤(((V.nth ((r1.drop 4).drop 1) 0).toList).length:Int)))&&(Nat.ble ((((((V.nth ((r1.drop 4).drop 1) 0).toList).length:Int):Int).toNat)*24) ba)) then
   bif (decide (0≤(((V.nth ((r1.drop 4).drop 1) 0).toList).length:Int)))&&((decide ((((V.nth ((r1.drop 4).drop 1) 0).toList).length:Int)≤(((V.nth ((r1.drop 4).drop 1) 0).toList).length:Int)))&&(Nat.ble ((((((V.nth ((r1.drop 4).drop 1) 0).toList).length:Int):Int).toNat)*16) ba)) then
   bif decide (0<(((V.nth (((((r1.drop 4).drop 1).drop 1).drop 1).drop 1) 0).toList).length:Int)) then
    (((V.nth (((((r1.drop 4).drop 1).drop 1).drop 1).drop 1) 0).toList)[0]?).bind fun x2=>
    bif Nat.ble (x2.toList.length*8) ba then
    bif (decide (0≤(((V.nth ((r1.drop 4).drop 1) 0).toList).length:Int)))&&((decide ((((V.nth ((r1.drop 4).drop 1) 0).toList).length:Int)≤(((V.nth ((r1.drop 4).drop 1) 0).toList).length:Int)))&&(Nat.ble ((((((V.nth ((r1.drop 4).drop 1) 0).toList).length:Int):Int).toNat)*1) ba)) then
     (Loop (IW C (((V.nth ((r1.drop 4).drop 1) 0).toList).length:Int) ss bp 0 ((V.nth r1 0).toInt) ((V.nth (r1.drop 1) 0).toBool) ((V.nth ((r1.drop 1).drop 1) 0).toInt) (bp.length:Int) aO ([]:LV) ([]:LV) ([]:LV) ([]:LV) ([]:LV) ((V.nth (r1.drop 4) 0).toList) ((V.nth ((r1.drop 4).drop 1) 0).toList) ((V.nth (((r1.drop 4).drop 1).drop 1) 0).toList) ((V.nth ((((r1.drop 4).drop 1).drop 1).drop 1) 0).toList) ((V.nth (((((r1.drop 4).drop 1).drop 1).drop 1).drop 1) 0).toList) ((V.nth ((((((r1.drop 4).drop 1).drop 1).drop 1).drop 1).drop 1) 0).toList) (List.replicate (((((V.nth ((r1.drop 4).drop 1) 0).toList).length:Int):Int).toNat) (V.list ab ([]:LV))) x2.toList ([]:LV)) (1,List.replicate (((((V.nth ((r1.drop 4).drop 1) 0).toList).length:Int):Int).toNat) (V.str []),List.replicate (((((V.nth ((r1.drop 4).drop 1) 0).toList).length:Int):Int).toNat) (V.bool false))).bind (un fun i_8=>un fun (wg:Bool)=>un fun (qM:LV) (Ac:LV)=>
      (Loop (ON C (((V.nth ((r1.drop 4).drop 1) 0).toList).length:Int) (((V.nth (((((r1.drop 4).drop 1).drop 1).drop 1).drop 1) 0).toList).length:Int) ss bp 0 ((V.nth r1 0).toInt) ((V.nth (r1.drop 1) 0).toBool) ((V.nth ((r1.drop 1).drop 1) 0).toInt) (bp.length:Int) ((V.nth (((((r1.drop 4).drop 1).drop 1).drop 1).drop 1) 0).toList) aO ([]:LV) ([]:LV) ([]:LV) ([]:LV) ([]:LV) ((V.nth (r1.drop 4) 0).toList) ((V.nth ((r1.drop 4).drop 1) 0).toList) ((V.nth (((r1.drop 4).drop 1).drop 1) 0).toList) ((V.nth ((((r1.drop 4).drop 1).drop 1).drop 1) 0).toList) ((V.nth ((((((r1.drop 4).drop 1).drop 1).drop 1).drop 1).drop 1) 0).toList) qM x2.toList ([]:LV)) (0,List.replicate (((((V.nth ((r1.drop 4).drop 1) 0).toList).length:Int):Int).toNat) (V.list ab ([]:LV)),Ac)).bind (un fun azH=>un fun (azI:Bool)=>un fun (DK:LV) (xY:LV)=>
       bif (decide (0≤(aO.length:Int)))&&((decide ((aO.length:Int)≤(aO.length:Int)))&&(Nat.ble (((aO.length:Int).toNat)*24) ba)) then
       (Loop (OP C (((V.nth ((r1.drop 4).drop 1) 0).toList).length:Int) (aO.length:Int) ss bp 0 ((V.nth r1 0).toInt) ((V.nth (r1.drop 1) 0).toBool) ((V.nth ((r1.drop 1).drop 1) 0).toInt) (bp.length:Int) aO ([]:LV) ([]:LV) ([]:LV) ([]:LV) ([]:LV) ((V.nth (r1.drop 4) 0).toList) ((V.nth ((r1.drop 4).drop 1) 0).toList) ((V.nth (((r1.drop 4).drop 1).drop 1) 0).toList) ((V.nth ((((r1.drop 4).drop 1).drop 1).drop 1) 0).toList) ((V.nth (((((r1.drop 4).drop 1).drop 1).drop 1).drop 1) 0).toList) ((V.nth ((((((r1.drop 4).drop 1).drop 1).drop 1).drop 1).drop 1) 0).toList) DK qM x2.toList ([]:LV) xY) (0,List.replicate ((aO.length:Int).toNat) (V.list ar ([]:LV)))).bind (un fun azJ=>un fun (azK:Bool) (awu:LV)=>
        some [V.int .i64 (bp.length:Int),.list ag DK,.list cz qM,.list ab x2.toList,.list ar ([]:LV),.list ar xY,.list ou awu,V.int .i64 0,V.int .i64 ss,.list ag bp,.list lg aO])
       else none))
    else none
    else none
   else none
   else none
  else none
theorem awv {ss:Int} {bp aO:LV} {r:Option LV} (h:I6 CC ss bp aO=r):CC GW [V.int .i64 ss,.list ag bp,.list lg aO]=r:=bO (bE (awp CC) (bE (awr CC) (bE (awt CC) av))) h
theorem aww {l:List Nat} (hl:l.length≤1000000):CC MG [.list ab (nS l),.int .i64 0]=some [.bool (decide (0∈l))]:=by
 have key: ∃k:Int,CC MK [.list ab (nS l),.int .i64 0]=some [.int .i64 k]∧decide (k≥0)=decide (0∈l):=by
  have hL:=arY (step:=OM CC (nS l) 0 ((nS l).length:Int)) (fun i=>l.getD i 0==0) l.length (fun i=>(i:Int)) (fun i=> .inl (i:Int)) (.inr ((l.length:Int),false)) (fun i hi=> ?_) ?_
  ·rcases hL with ⟨i,hi,hb,_,e⟩|⟨hb,e⟩
   ·refine ⟨(i:Int),aga ?_,?_⟩
    ·unfold Wl;exact bs e rfl
    ·rw[cg (by omega),cg ?_];rw[cE hi,beq_iff_eq] at hb;exact hb▸dd hi
   ·refine ⟨-1,aga ?_,?_⟩
    ·unfold Wl;exact bs e rfl
    ·rw[cX (by omega),cX fun hm=> ?_];obtain ⟨i,hi,e⟩:=List.getElem_of_mem hm;have:=hb i hi;rw[cE hi,e] at this;cases this
  ·simp only[OM,IU];rw[dE];refine bT (bm hi) (bs (iE hi) ?_);by_cases c:l[i]=0
   ·rw[aA (by rw[cE hi,c];rfl)];exact bT (by show ((0:Int)==((l[i]:Nat):Int))=true;rw[c];rfl) rfl
   ·rw[aw (by rw[cE hi];simpa using c)];refine bF (by show ((0:Int)==((l[i]:Nat):Int))=false;rw[qW];omega) ?_;rw[br (by omega)]
  ·simp only[OM,IU];rw[dE];refine bF (aZ (az _)) ?_;rw[aZ (az _)]
 obtain ⟨k,e,h⟩:=key;refine awn ?_;unfold agb;rw[←h];exact bs e rfl
theorem getD_map {l:List Nat} {k:Nat→Nat} {i:Nat} (h:i<l.length):(l.map k).getD i 0=k (l.getD i 0):=by
 rw[cE (by simpa using h),cE h,A3]
theorem Ws {n:Nat} {f g k:List Nat} (hf:Tr n f) (hg:Tr n g):comp (comp f g) k=comp f (comp g k):=by
 unfold comp;rw[wB];exact oB fun i hi=>(getD_map (k:=fun i=>k.getD i 0) (by rw[hg.1];exact hf.2 i hi)).symm
theorem comp_id {n:Nat} {f:List Nat} (hf:Tr n f):comp f (List.range n)=f:=by
 refine rX (by simp[comp]) fun i h1 h2=> ?_;have:=hf.at h2;simp[comp,this]
def cA (S:List (List Nat)) (i j:Nat):Nat:=iw S (comp (S.getD i []) (S.getD j []))
def tj (S:List (List Nat)) (i j:Nat):LV:=tab S.length fun b=>if b<j then nV (cA S i b) else V.int .i64 0
def qT (S:List (List Nat)) (i j:Nat):LV:=tab S.length fun a=>if a<i then .list ab (tj S a S.length) else if a=i then .list ab (tj S i j) else .list ab []
def rU (S:List (List Nat)) (i:Nat):LV:=tab S.length fun a=>if a<i then .list ab (tj S a S.length) else .list ab []
def vh (L:Nat) (g:Nat→List Nat) (S:List (List Nat)) (i:Nat):Bool:=decide (∃a,a<i∧0∈eX L g S (S.getD a []))
def j5 (L:Nat) (g:Nat→List Nat) (S:List (List Nat)) (i:Nat):LV:=tab S.length fun j=> .bool (if j=0 then vh L g S i else true)
def Big (n:Nat):Prop:= ∃T:List (List Nat),T.Nodup∧(∀f∈T,Tr n f)∧400<T.length
section
variable {L n:Nat} {g:Nat→List Nat} {S:List (List Nat)} {P K:List Int} {R:List (List Nat)} {W:List (List UInt8)} {B:List Int} {s:List Nat}
theorem mA.row (h:mA L n S.length g S P K R W B s):R=S.map (eX L g S):=by rw[h.rr,uJ]
theorem mA.OQ (h:mA L n S.length g S P K R W B s) {i:Nat} (hi:i<S.length):(sV R)[i]? =some (tV (eX L g S (S.getD i []))):=by
 rw[h.row];simp[sV,hi]
theorem mA.cl' (h:mA L n S.length g S P K R W B s) {f:List Nat} (hf:f∈S) {x:Nat} (hx:x<L):bt g f x∈S:=h.cl f (by rw[uJ];exact hf) x hx
theorem mA.word (h:mA L n S.length g S P K R W B s): ∀{i:Nat},i<S.length→∃w,WL L w∧S.getD i []=w.foldl (bt g) (List.range n):=by
 intro i
 induction i using Nat.strongRecOn with
 | ind i ih=>
  intro hi;rcases D8 i with rfl|h0
  ·refine ⟨[],WL.nil,?_⟩;have:=h.I.id;cases S with
   | nil=>cases this
   | cons a S=>exact dU this
  ·obtain ⟨p,x,_,_,hp,hx,e⟩:=h.I.p i h0 hi;obtain ⟨w,hw,e2⟩:=ih p hp (by omega);refine ⟨w++[x],WL.app.2 ⟨hw,WL.nil.cons hx⟩,?_⟩;rw[A8,←e2,e];rfl
theorem mA.agd (h:mA L n S.length g S P K R W B s) (hg: ∀x,x<L→Tr n (g x)) {f:List Nat} (hf:f∈S): ∀{j:Nat},j<S.length→comp f (S.getD j [])∈S:=by
 intro j hj
 induction j using Nat.strongRecOn with
 | ind j ih=>
  rcases D8 j with rfl|h0
  ·have:S.getD 0 []=List.range n:=by
    have:=h.I.id;cases S with
    | nil=>cases this
    | cons a S=>exact dU this
   rw[this,comp_id (h.I.tr f hf)];exact hf
  ·obtain ⟨p,x,_,_,hp,hx,e⟩:=h.I.p j h0 hj;have eH:p<S.length:=by omega
   have Wt:Tr n (S.getD p []):=by rw[cE eH];exact h.I.tr _ (dd eH)
   rw[e,←Ws (h.I.tr f hf) Wt];exact h.cl' (ih p hp eH) hx
theorem mA.awx (h:mA L n S.length g S P K R W B s) (hg: ∀x,x<L→Tr n (g x)) {i j:Nat} (hi:i<S.length) (hj:j<S.length):cA S i j<S.length:=
 te (h.agd hg (by rw[cE hi];exact dd hi) hj)
section
variable (h:mA L n S.length g S P K R W B s) (hg: ∀x,x<L→Tr n (g x))
include h hg
theorem age {i:Nat} (hi:i<S.length) {k1 k2 k3 k4 k5 k6 k7:Int} {k8:Bool} {l1 l2 l3 l4 l5 l6 l7 l8 l9 l10 l11 l12 l13 l14:LV}:
  Loop (DT CC (S.length:Int) (i:Int) k1 k2 k3 l1 k4 k5 k8 k6 k7 (sV R) l2 l3 l4 l5 l6 l7 l8 l9 (iL P) (iL K) l10 l11 l12 l13 l14) (1,qT S i 1)=some ((S.length:Int),false,qT S i S.length):=by
 have hlen:=h.I.len;have kS: ∀{j:Nat},(qT S i j)[i]? =some (.list ab (tj S i j)):=fun {j}=>by unfold qT;rw[mj hi,dm,da]
 have hl: ∀{j:Nat},(tj S i j).length=S.length:=fun {j}=>eW;have jm: ∀{j:Nat},j<S.length→(qT S i j).set i (.list ab ((tj S i j).set j (nV (cA S i j))))=qT S i (j+1):=fun {j} hj=>by
  unfold qT tj;rw[lH,lH];refine dg fun a _=> ?_;by_cases c:a=i
  ·subst c;rw[da,dm,da];refine congrArg _ (dg fun b _=> ?_);by_cases c2:b=j
   ·rw[aA c2,da,c2]
   ·rw[aw c2];by_cases c3:b<j
    ·rw[aA c3,da]
    ·rw[aw c3,dm]
  ·rw[aw c];by_cases c2:a<i
   ·rw[aA c2,aA c2]
   ·rw[aw c2,aw c,aw c2,aw c]
 have hfi:Tr n (S.getD i []):=by rw[cE hi];exact h.I.tr _ (dd hi)
 have key:=lG (step:=DT CC (S.length:Int) (i:Int) k1 k2 k3 l1 k4 k5 k8 k6 k7 (sV R) l2 l3 l4 l5 l6 l7 l8 l9 (iL P) (iL K) l10 l11 l12 l13 l14) (fun j x=>x=((j:Int),qT S i j)) (fun r=>r=((S.length:Int),false,qT S i S.length)) (S.length-1) 1 (1,qT S i 1) (fun j h1 hj x hx=> ?_) (fun x hx=> ?_) rfl
 ·obtain ⟨r,e,rfl⟩:=key;exact e
 ·subst hx;have hj:j<S.length:=by omega
  obtain ⟨p,x,eP,eK,hp,hx,e⟩:=h.I.p j (by omega) hj;have eH:p<S.length:=by omega
  have Wt:Tr n (S.getD p []):=by rw[cE eH];exact h.I.tr _ (dd eH)
  have hm:=h.awx hg hi eH;have hmm:S.getD (cA S i p) []=comp (S.getD i []) (S.getD p []):=by
   rw[cE hm];exact Vp (h.agd hg (by rw[cE hi];exact dd hi) eH)
  have hv:(eX L g S (S.getD (cA S i p) [])).getD x 0=cA S i j:=by
   unfold eX;rw[getD_map (by rw[jw];exact hx),cE (l:=List.range L) (by rw[jw];exact hx),A4,hmm];unfold cA bt;rw[Ws hfi Wt,←e]
  have hrl:(eX L g S (S.getD (cA S i p) [])).length=L:=by simp[eX]
  refine ⟨_,?_,rfl⟩;simp only[DT,IX,un,aP,bj,Int.toNat_natCast];have g1:(tj S i j)[p]? =some (nV (cA S i p)):=by unfold tj;rw[mj eH,aA hp]
  have g2:(tj S i j)[j]? =some (.int .i64 0):=by unfold tj;rw[mj hj,dm]
  refine bT (bm hj) ((ca kS).trans ((ca kS).trans ((ca (uC (by rw[h.I.lP];exact hj))).trans (bs (qu kS) ?_))));rw[eP,V.eB];refine bT (oJ (by rw[hl];exact eH)) (bs (qu kS) ?_);rw[V.eB,show (V.int IntKind.i64 (p:Int)).toInt.toNat=p from rfl];refine bs g1 (bT (oJ (by rw[xW,h.row,dH];exact hm)) (bs (by rw[show (nV (cA S i p)).toInt.toNat=cA S i p from rfl];exact h.OQ hm) ((ca (uC (by rw[h.I.lK];exact hj))).trans ?_)));rw[eK,qQ];refine bs (iE (i:=x) (by rw[hrl];exact hx)) (bs (qu kS) ?_);rw[V.eB];refine bT (oJ (by rw[hl];exact hj)) (bs (qu kS) ?_);rw[V.eB];refine bs g2 ?_;have ko:(eX L g S (S.getD (cA S i p) []))[x]'(by rw[hrl];exact hx)=cA S i j:=(cE (d:=0) _).symm.trans hv;rw[FO kS,br (by omega),←jm hj,ko];rfl
 ·subst hx;have e1:1+(S.length-1)=S.length:=by have:=h.I.pos;omega
  rw[e1];refine ⟨_,?_,rfl⟩;simp only[DT,IX,un];refine bF (aZ (az _)) ?_;rw[aZ (az _)]
end
end
section
variable {L n:Nat} {g:Nat→List Nat} {S:List (List Nat)} {P K:List Int} {R:List (List Nat)} {W:List (List UInt8)} {B:List Int} {s:List Nat}
section
variable (h:mA L n S.length g S P K R W B s) (hg: ∀x,x<L→Tr n (g x))
include h
theorem mA.DW:S.getD 0 []=List.range n:=by
 have:=h.I.id;cases S with
 | nil=>cases this
 | cons a S=>exact dU this
theorem mul_zero {i:Nat} (hi:i<S.length):cA S i 0=i:=by
 unfold cA;have:=h.I.tr _ (dd hi);rw[h.DW,cE hi,comp_id this];exact Vq h.I.nd hi
theorem awy {k1 k2 k3 k4 k5:Int} {k8:Bool} {l1 l2 l3 l4 l5 l6 l7 l8 l9 l10 l11 l12 l13 l14:LV}: ∃f:Nat→List UInt8,
  Loop (IW CC (S.length:Int) k1 l1 k2 k3 k8 k4 k5 l2 l3 l4 l5 l6 l7 l8 l9 (iL P) (iL K) l10 l11 l12 l13 l14) (1,List.replicate S.length (V.str []),List.replicate S.length (V.bool false))=some ((S.length:Int),false,tab S.length fun j=> .str (f j),j5 L g S 0):=by
 have hlen:=h.I.len;have key:=lG (step:=IW CC (S.length:Int) k1 l1 k2 k3 k8 k4 k5 l2 l3 l4 l5 l6 l7 l8 l9 (iL P) (iL K) l10 l11 l12 l13 l14)
  (fun i x=> ∃f:Nat→List UInt8,x=((i:Int),(tab S.length fun j=>V.str (f j)),tab S.length fun j=>V.bool (decide (0<j∧j<i)))∧∀j,(f j).length≤j)
  (fun r=> ∃f:Nat→List UInt8,r=((S.length:Int),false,(tab S.length fun j=>V.str (f j)),j5 L g S 0)) (S.length-1) 1
  (1,List.replicate S.length (V.str []),List.replicate S.length (V.bool false)) (fun i h1 hi x hx=> ?_) (fun x hx=> ?_) ⟨fun _=>[],?_,fun j=>by simp⟩
 ·obtain ⟨r,e,f,rfl⟩:=key;exact ⟨f,e⟩
 ·obtain ⟨f,rfl,hf⟩:=hx;have bS:i<S.length:=by omega
  obtain ⟨p,x,eP,eK,hp,hx,_⟩:=h.I.p i (by omega) bS;have eH:p<S.length:=by omega
  have hfp:=hf p;simp only[IW,IV,un,aP,bj];refine ⟨_,bT (bm bS) ((ca (uC (by rw[h.I.lP];exact bS))).trans ?_),fun j=>if j=i then f p++jU [V.int .u8 (wrap .u8 (wrap .i64 (97+(x:Int))))] else f j,rfl,fun j=> ?_⟩
  ·rw[eP];refine bT (oJ (by simpa using eH)) (bs (by rw[show (V.int IntKind.i64 (p:Int)).toInt.toNat=p from rfl];exact mj eH) ((ca (uC (by rw[h.I.lK];exact bS))).trans ?_));rw[eK];refine bT (yf ?_) ((rz (by simpa using bS)).trans ((rz (by simpa using bS)).trans ?_))
   ·show (f p).length+1≤pc;unfold pc;omega
   ·rw[br (by omega),Int.toNat_natCast,lH,lH];refine congrArg (fun t=>some (Sum.inl t)) (dc rfl (dc (dg fun j _=> ?_) (dg fun j _=> ?_)))
    ·dsimp only;by_cases c:j=i
     ·rw[aA c,aA c];rfl
     ·rw[aw c,aw c]
    ·by_cases c:j=i
     ·rw[aA c,cg (by omega)]
     ·rw[aw c];by_cases c2:0<j∧j<i
      ·rw[cg c2,cg (by omega)]
      ·rw[cX c2,cX (by omega)]
  ·dsimp only;by_cases c:j=i
   ·rw[aA c,iA];show _+1≤j;omega
   ·rw[aw c];exact hf j
 ·obtain ⟨f,rfl,hf⟩:=hx;have e1:1+(S.length-1)=S.length:=by have:=h.I.pos;omega
  rw[e1];simp only[IW,IV,un];refine ⟨_,bF (aZ (az _)) rfl,f,?_⟩;rw[aZ (az _)];refine dc rfl (dc rfl (dc rfl (dg fun j hj=> ?_)));by_cases c:j=0
  ·rw[aA c,cX (by omega)];exact congrArg V.bool (cX (by rintro ⟨a,ha,_⟩;omega)).symm
  ·rw[aw c,cg (by omega)]
 ·rw[oK,oK];refine dc rfl (dc rfl (dg fun j _=> ?_));rw[cX (by omega)]
include hg
theorem awz (hL:L≤6) {k1 k2 k3 k4 k5:Int} {k8:Bool} {l1 l2 l3 l4 l5 l6 l7 l8 l9 l10 l11 l12 l13:LV}:
  Loop (ON CC (S.length:Int) (S.length:Int) k1 l1 k2 k3 k8 k4 k5 (sV R) l2 l3 l4 l5 l6 l7 l8 l9 (iL P) (iL K) l10 l11 l12 l13) (0,List.replicate S.length (V.list ab ([]:LV)),j5 L g S 0)=some ((S.length:Int),false,rU S S.length,j5 L g S S.length):=by
 have hlen:=h.I.len;have gK:=h.I.pos;rw[show List.replicate S.length (V.list ab ([]:LV))=rU S 0 from by rw[oK];exact dg fun j _=>by rw[dm]];refine fH S.length (fun i=>((i:Int),rU S i,j5 L g S i)) _ (fun i hi=> ?_) ?_
 ·have hl:(j5 L g S i).length=S.length:=eW;have hy:(rU S i).length=S.length:=eW;have e0:(j5 L g S i)[0]? =some (.bool (vh L g S i)):=mj gK;have hz:((rU S i).set i (V.list ab (List.replicate S.length (V.int .i64 0))))[i]? =some (V.list ab (List.replicate S.length (V.int .i64 0))):=by
   rw[qc (by rw[hy];exact hi)]
  have j6:setRow Tryz.prog ((List.replicate S.length (V.int .i64 0)).set 0 (V.int .i64 (i:Int))) ag ((rU S i).set i (V.list ab (List.replicate S.length (V.int .i64 0)))) [(i,0)]=qT S i 1:=by
   rw[FO hz,AZ];unfold rU qT;rw[lH];refine dg fun a _=> ?_;by_cases c:a=i
   ·subst c;rw[da,dm,da,oK,lH];refine congrArg _ (dg fun b _=> ?_);by_cases c2:b=0
    ·rw[aA c2,da,c2,mul_zero h hi];rfl
    ·rw[aw c2,dm]
   ·rw[aw c];by_cases c2:a<i
    ·rw[aA c2,aA c2]
    ·rw[aw c2,aw c2,aw c]
  have kZ:qT S i S.length=rU S (i+1):=dg fun a _=>by
   by_cases c:a=i
   ·subst c;rw[dm,da,da]
   ·by_cases c2:a<i
    ·rw[da,da]
    ·rw[dm,aw c,dm]
  have eH: ∀c:Bool,c=vh L g S (i+1)→(j5 L g S i).set 0 (.bool c)=j5 L g S (i+1):=fun c hc=>by
   unfold j5;rw[lH];refine dg fun j _=> ?_;by_cases c2:j=0
   ·rw[aA c2,aA c2,hc]
   ·rw[aw c2,aw c2,aw c2]
  have OR:vh L g S (i+1)=(vh L g S i||decide (0∈eX L g S (S.getD i []))):=by
   unfold vh;rw[yh,D2,Ec,Ec,Ec];constructor
   ·rintro ⟨a,ha,hm⟩;rcases jR a i with c|c
    ·exact .inl ⟨a,c,hm⟩
    ·exact .inr (by rw[show i=a by omega];exact hm)
   ·rintro (⟨a,ha,hm⟩|hm)
    ·exact ⟨a,by omega,hm⟩
    ·exact ⟨i,by omega,hm⟩
  simp only[ON,IY,un,aP,bj,Int.toNat_natCast];have DX: ∀{l:LV},l.length=S.length→decide (0<(l.length:Int))=true:=fun {l} hl=>cg (by omega);have DY:(decide (0≤(S.length:Int))&&(decide ((S.length:Int)≤(S.length:Int))&&(S.length*8).ble ba))=true:=by
   have:=gD (n:=S.length) (m:=8) (by omega) (by omega);rwa [Int.toNat_natCast] at this
  have Mc:(rU S i)[i]? =some (.list ab []):=by unfold rU;rw[mj hi,dm]
  have hzi:(((rU S i).set i (V.list ab (List.replicate S.length (V.int .i64 0)))).length)=S.length:=by rw[o4,hy]
  have hz0:(List.replicate S.length (V.int .i64 0))[0]? =some (.int .i64 0):=by rw[List.getElem?_replicate,aA gK]
  cases hb:vh L g S i with
  | true=>
   rw[hb] at e0 OR;refine bT (bm hi) ((ca (h.OQ hi)).trans (bT (DX hl) (bs e0 (bT rfl (bT (DX hl) (bs e0 (bT DY ((ca Mc).trans ((ca hz).trans (bs (qu hz) ?_))))))))));rw[V.eB];refine bT (DX (by simp)) (bs (qu hz) ?_);rw[V.eB];refine bs hz0 ?_;rw[j6];refine bs (age h hg hi) ?_;rw[eH true (by rw[OR];rfl),kZ,br (by omega)];rfl
  | false=>
   rw[hb] at e0 OR;have hC:=aww (l:=eX L g S (S.getD i [])) (by rw[eX,dH,jw];omega);refine bT (bm hi) ((ca (h.OQ hi)).trans (bT (DX hl) (bs e0 (bF rfl (bs (by rw[qQ];exact hC) (bT (DX hl) (bs e0 (bT DY ((ca Mc).trans ((ca hz).trans (bs (qu hz) ?_)))))))))));rw[V.eB];refine bT (DX (by simp)) (bs (qu hz) ?_);rw[V.eB];refine bs hz0 ?_;rw[j6];refine bs (age h hg hi) ?_;rw[kZ,br (by omega)];show some (Sum.inl (_,_,(j5 L g S i).set 0 (V.bool (decide (0∈eX L g S (S.getD i []))))))=_;rw[eH _ (by rw[OR];rfl)]
 ·simp only[ON,IY,un];refine bF (aZ (az _)) ?_;rw[aZ (az _)]
end
end
theorem ajd {n q:Nat} {f:Nat→V} {z v:V} (hv:v=f q):(tab n fun j=>if j<q then f j else z).set q v=tab n fun j=>if j<q+1 then f j else z:=by
 rw[hv,lH];refine dg fun j _=> ?_;by_cases hj:j=q
 ·rw[aA hj,da,hj]
 ·rw[aw hj];by_cases dB:j<q
  ·rw[aA dB,da]
  ·rw[aw dB,dm]
theorem aje {n:Nat} {f:Nat→V} {z:V}:(tab n fun j=>if j<n then f j else z)=tab n f:=dg fun j hj=>aA hj
def KW (m:Da) (e:Int):List V:=[.int .i64 (m.L:Int),.int .i64 (m.st:Int),.int .i64 e,.list ar m.ec,.list ag m.eD]
end Go.AM
set_option maxRecDepth 100000
namespace Go.AM
open Go.IntKind (wrap)
open Go.Proofs
namespace Da
def I7 (a:Da) (k q:Nat):Prop:= ∃w,WL a.L w∧w.length≤k∧a.acc q w=true
def Live (a:Da) (q:Nat):Prop:= ∃w,WL a.L w∧a.acc q w=true
open Classical in
noncomputable def Pk (a:Da) (q:Nat):Bool:=decide (a.Live q)
theorem I7.live {a:Da} {k q:Nat} (h:a.I7 k q):a.Live q:=by obtain ⟨w,h1,_,h3⟩:=h;exact ⟨w,h1,h3⟩
theorem I7.mono {a:Da} {k m q:Nat} (h:a.I7 k q) (hk:k≤m):a.I7 m q:=by obtain ⟨w,h1,h2,h3⟩:=h;exact ⟨w,h1,by omega,h3⟩
end Da
def bV (n:Nat) (r:Nat→Bool):List V:=tab n fun q=>V.bool (r q)
def upd (r:Nat→Bool) (p:Nat) (b:Bool) (q:Nat):Bool:=if q=p then b else r q
structure LvI (a:Da) (r0 r:Nat→Bool) (c:Bool):Prop where
 good: ∀q,q<a.n→r q=true→a.Live q
 up: ∀q,q<a.n→r0 q=true→r q=true
 yes:c=true→∃q,q<a.n∧r0 q=false∧r q=true
 no:c=false→∀q,q<a.n→r q=r0 q
section
variable {a:Da} (h:a.Ok)
include h
end
section
variable {a:Da} (h:a.Ok)
include h
end
end Go.AM
set_option maxRecDepth 100000
namespace Go.AM
open Go.IntKind (wrap)
open Go.Proofs
noncomputable def agf (C:af) (cw cJ:Int) (b9 cK:LV):Option LV:=
 (C sC [V.int .i64 cw,V.int .i64 cJ,.list ar b9,.list ag cK]).bind fun r1=>
 bif (((V.nth r1 0).toInt):Int) != 0 then
  some [V.int .i64 0,V.int .i64 0,V.int .i64 ((V.nth r1 0).toInt),.list ar ([]:LV),.list ag ([]:LV)]
 else
  (C tJ [V.int .i64 cw,V.int .i64 cJ,.list ar b9,.list ag cK]).bind fun r2=>
  some [V.int .i64 ((V.nth r2 0).toInt),V.int .i64 ((V.nth (r2.drop 1) 0).toInt),V.int .i64 0,.list ar ((V.nth (r2.drop 2) 0).toList),.list ag ((V.nth ((r2.drop 2).drop 1) 0).toList)]
theorem awA {cw cJ:Int} {b9 cK:LV} {r:Option LV} (h:agf CC cw cJ b9 cK=r):CC FB [V.int .i64 cw,V.int .i64 cJ,.list ar b9,.list ag cK]=r:=bO (L:=bM) av h
theorem qs {a:Da} (h:a.Ok):(minD a).Ok:=(vi h).ok
theorem sG {a:Da} (h:a.Ok):(minD a).L=a.L:=(vi h).hL
theorem Yq {a:Da} (h:a.Ok):(minD a).st=0:=(vi h).st
theorem xl {a:Da} (h:a.Ok) {w:List Nat} (hw:WL a.L w):(minD a).acc (minD a).st w=a.acc a.st w:=by
 rw[Yq h];exact (vi h).Dw w hw
theorem agh {a b:Da} (ha:a.Ok) (hb:b.Ok) (hL:a.L=b.L) (hl: ∀w,WL a.L w→a.acc a.st w=b.acc b.st w):minD a=minD b:=
 afL hb (hL▸Canon.congr (vi ha) hl)
theorem QO {a:Da} (ha:a.Ok):minD (minD a)=minD a:=
 agh (qs ha) ha (sG ha) fun w hw=>xl ha (by rwa [sG ha] at hw)
theorem YB {a:Da} (h:a.Ok):CC FB (fI a)=some (KW (minD a) 0):=by
 refine awA ?_;unfold agf;refine bs (sF h) (bF rfl ?_);refine bs (yU h) ?_;rfl
noncomputable def AI (C:af) (cw cJ:Int) (b9 cK:LV):Option LV:=
 (C sC [V.int .i64 cw,V.int .i64 cJ,.list ar b9,.list ag cK]).bind fun r1=>
 bif (((V.nth r1 0).toInt):Int) != 0 then
  some [V.int .i64 0,.list ag ([]:LV),.list cz ([]:LV),.list ab ([]:LV),.list ar ([]:LV),.list ar ([]:LV),V.int .i64 ((V.nth r1 0).toInt)]
 else
  (C tJ [V.int .i64 cw,V.int .i64 cJ,.list ar b9,.list ag cK]).bind fun r2=>
  (C MC [V.int .i64 ((V.nth r2 0).toInt),V.int .i64 ((V.nth (r2.drop 1) 0).toInt),.list ar ((V.nth (r2.drop 2) 0).toList),.list ag ((V.nth ((r2.drop 2).drop 1) 0).toList),V.int .i64 0]).bind fun r3=>
  bif (((V.nth r3 0).toInt):Int) != 0 then
  some [V.int .i64 0,.list ag ([]:LV),.list cz ([]:LV),.list ab ([]:LV),.list ar ([]:LV),.list ar ([]:LV),V.int .i64 ((V.nth r3 0).toInt)]
  else
  (C GW [V.int .i64 ((V.nth (r3.drop 1) 0).toInt),.list ag ((V.nth ((r3.drop 1).drop 1) 0).toList),.list lg ((V.nth (((r3.drop 1).drop 1).drop 1) 0).toList)]).bind fun r4=>
  bif (((V.nth ((r4.drop 6).drop 1) 0).toInt):Int) != 0 then
   some [V.int .i64 0,.list ag ([]:LV),.list cz ([]:LV),.list ab ([]:LV),.list ar ([]:LV),.list ar ([]:LV),V.int .i64 ((V.nth ((r4.drop 6).drop 1) 0).toInt)]
  else
   (((V.nth (r4.drop 6) 0).toList)[0]?).bind fun x5=>
   some [V.int .i64 ((V.nth r4 0).toInt),.list ag ((V.nth (r4.drop 1) 0).toList),.list cz ((V.nth ((r4.drop 1).drop 1) 0).toList),.list ab ((V.nth (((r4.drop 1).drop 1).drop 1) 0).toList),.list ar x5.toList,.list ar ((V.nth (((((r4.drop 1).drop 1).drop 1).drop 1).drop 1) 0).toList),V.int .i64 0]
theorem Wu {cw cJ:Int} {b9 cK:LV} {r:Option LV} (h:AI CC cw cJ b9 cK=r):CC qm [V.int .i64 cw,V.int .i64 cJ,.list ar b9,.list ag cK]=r:=bO (L:=bM) av h
structure pD (m:Da) (S:List (List Nat)):Prop where
 tr: ∀f∈S,Tr m.n f
 nd:S.Nodup
 DW:S.getD 0 []=List.range m.n
 pos:0<S.length
 cl: ∀f∈S,∀x,x<m.L→bt m.gT f x∈S
 re: ∀i,i<S.length→∃w,WL m.L w∧S.getD i []=w.foldl (bt m.gT) (List.range m.n)
 le:S.length≤400
def pF (S:List (List Nat)):LV:=tab S.length fun i=> .list ab (tab S.length fun j=>nV (cA S i j))
def ml (m:Da) (S:List (List Nat)):LV:=nS (eX m.L m.gT S (List.range m.n))
def nB (m:Da) (S:List (List Nat)):LV:=tab S.length fun i=> .bool (m.fin ((S.getD i []).getD m.st 0))
def pE (m:Da) (S:List (List Nat)) (f:Nat→List UInt8):List V:=
 [.int .i64 (m.L:Int),.list ag (pF S),.list cz (tab S.length fun j=> .str (f j)),.list ab (ml m S),.list ar (nB m S),.list ar (j5 m.L m.gT S S.length)]
def syZ (e:Int):List V:=[.int .i64 0,.list ag [],.list cz [],.list ab [],.list ar [],.list ar [],.int .i64 e]
theorem awB {S:List (List Nat)}:rU S S.length=pF S:=dg fun i hi=>by
 rw[aA hi];exact congrArg _ (dg fun j hj=>aA hj)
section
variable {m:Da} (h:m.Ok) (mn:m.n≤32)
include h mn
theorem awC {S:List (List Nat)} (hS: ∀f∈S,Tr m.n f) (hl:S.length≤400) {k1 k2 k3 k4 k5 k6 k7 k8:Int} {k9:Bool} {l1 l2 l3 l4 l5 l6 l7 l8 l9 l10 l11 l12 l13 l14 OS OT l17:LV}:
  Loop (OO CC k1 0 k2 k3 (S.length:Int) k4 l1 k5 k6 k9 k7 k8 (m.st:Int) m.ec 0 l2 (sV S) l3 l4 l5 l6 l7 l8 l9 l10 l11 l12 l13 l14 OS OT l17) (0,[V.list ar (List.replicate S.length (V.bool false))])=some ((S.length:Int),false,[V.list ar (nB m S)]):=by
 refine tF (fun i a=>((i:Int),[V.list ar a])) S.length (fun i=> .bool (m.fin ((S.getD i []).getD m.st 0))) _ (by simp) (fun a=>((S.length:Int),false,[V.list ar a])) (fun i hi a ha=> ?_) ?_
 ·simp only[OO,IZ,un,aP,bj];have e0:([V.list ar a]:LV)[0]? =some (.list ar a):=rfl;refine bT (bm hi) ((ca (HX hi)).trans ((ca (i:=0) e0).trans (bs (by rw[qQ];exact auI h mn (hS _ (dd hi))) (bs (afT e0) ?_))));rw[V.eB];refine bT (oJ (by rw[ha];exact hi)) (bs (afT e0) ?_);rw[V.eB,Int.toNat_natCast];refine bs (b7 (by rw[ha];exact hi)) ?_;rw[br (by omega),cE hi];exact congrArg (fun t=>some (Sum.inl (((i+1:Nat):Int),t))) (auF e0)
 ·simp only[OO,IZ,un];refine bF (aZ (az _)) ?_;rw[aZ (az _)]
theorem awD: ∃r,CC GW [.int .i64 (m.n:Int),.list ag (gV m.L m.gT),.list lg (ti m)]=some r∧
  ((r=[.int .i64 0,.list ag [],.list cz [],.list ab [],.list ar [],.list ar [],.list ou [],.int .i64 3,.int .i64 (m.n:Int),.list ag (gV m.L m.gT),.list lg (ti m)]∧Big m.n)∨
   ∃S,∃f:Nat→List UInt8,r=[.int .i64 (m.L:Int),.list ag (pF S),.list cz (tab S.length fun j=> .str (f j)),.list ab (ml m S),.list ar [],.list ar (j5 m.L m.gT S S.length),.list ou [.list ar (nB m S)],.int .i64 0,.int .i64 (m.n:Int),.list ag (gV m.L m.gT),.list lg (ti m)]∧pD m S):=by
 have hs:=h.s;have hL:=h.l6;have hg: ∀x,x<m.L→Tr m.n (m.gT x):=fun x hx=>h.gT hx;obtain ⟨r,e1,h1⟩:=atP (n:=m.n) (by omega) mn hg h.l1 h.l6;have fin: ∀z,I6 CC (m.n:Int) (gV m.L m.gT) (ti m)=z→CC GW [.int .i64 (m.n:Int),.list ag (gV m.L m.gT),.list lg (ti m)]=z:=fun z h=>awv h;rcases h1 with ⟨rfl,T,t1,t2,t3⟩|⟨S,P,K,R,W,B,s,U,rfl,hE⟩
 ·refine ⟨_,fin _ ?_,.inl ⟨rfl,T,t1,t2,by omega⟩⟩;unfold I6;exact bs e1 (bT rfl rfl)
 ·rcases jR 400 S.length with c|c
  ·refine ⟨_,fin _ ?_,.inl ⟨rfl,S,hE.I.nd,hE.I.tr,c⟩⟩;unfold I6;exact bs e1 (bF rfl (bT (by show decide ((((sV S).length:Nat):Int)>400)=true;rw[xW];exact cg (by omega)) rfl))
  ·have gK:=hE.I.pos;obtain ⟨f,e2⟩:=awy (L:=m.L) (g:=m.gT) hE (k1:=(m.n:Int)) (k2:=0) (k3:=(m.n:Int)) (k4:=(S.length:Int)) (k5:=((gV m.L m.gT).length:Int)) (k8:=true) (l1:=gV m.L m.gT) (l2:=ti m) (l3:=[]) (l4:=[]) (l5:=[]) (l6:=[]) (l7:=[]) (l8:=gV m.L m.gT) (l9:=sV S) (l10:=sV R) (l11:=U) (l12:=List.replicate S.length (V.list ab [])) (l13:=ml m S) (l14:=[]);refine ⟨_,fin _ ?_,.inr ⟨S,f,rfl,hE.I.tr,hE.I.nd,hE.DW,gK,fun f hf x hx=>hE.cl' hf hx,fun i hi=>hE.word hi,c⟩⟩;unfold I6;refine bs e1 (bF rfl (bF (by show decide ((((sV S).length:Nat):Int)>400)=false;rw[xW];exact cX (by omega)) ?_));have kZ:(sV R)[0]? =some (tV (eX m.L m.gT S (List.range m.n))):=by rw[hE.OQ gK,hE.DW]
   have BP:(sV R).length=S.length:=by rw[xW,hE.row,dH]
   have e3:=awz hE hg hL (k1:=(m.n:Int)) (k2:=0) (k3:=(m.n:Int)) (k4:=(S.length:Int)) (k5:=((gV m.L m.gT).length:Int)) (k8:=true) (l1:=gV m.L m.gT) (l2:=ti m) (l3:=[]) (l4:=[]) (l5:=[]) (l6:=[]) (l7:=[]) (l8:=gV m.L m.gT) (l9:=sV S) (l10:=U) (l11:=tab S.length fun j=> .str (f j)) (l12:=ml m S) (l13:=[]);have e4: ∀{k1 k2 k3 k4 k5:Int} {k8:Bool} {l1 l2 l3 l4 l5 l6 l7 l8 l9 l10 l11 l12 l13 l14 OS OT:LV},Loop (OP CC (S.length:Int) 1 k1 l1 k2 k3 k8 k4 k5 (ti m) l2 l3 l4 l5 l6 l7 (sV S) l8 l9 l10 l11 l12 l13 l14 OS OT) (0,[V.list ar []])=some (1,false,[V.list ar (nB m S)]):=by
    intro k1 k2 k3 k4 k5 k8 l1 l2 l3 l4 l5 l6 l7 l8 l9 l10 l11 l12 l13 l14 OS OT;refine fH 1 (fun i=>((i:Int),if i=0 then [V.list ar []] else [V.list ar (nB m S)])) _ (fun i hi=> ?_) ?_
    ·obtain rfl:i=0:=by omega
     simp only[OP,I4,un,aP,bj];refine bT rfl ((ca (es:=ti m) (i:=0) rfl).trans (bT (gD (by omega) (by omega)) ((ca (i:=0) (v:= .list ar []) rfl).trans ?_)));rw[xW];exact bs (awC h mn hE.I.tr c) rfl
    ·simp only[OP,I4,un];rfl
   have DY: ∀k,k≤1000→(decide (0≤(S.length:Int))&&(decide ((S.length:Int)≤(S.length:Int))&&(S.length*k).ble ba))=true:=fun k hk=>by
    have:=gD (n:=S.length) (m:=k) (by omega) hk;rwa [Int.toNat_natCast] at this
   have rB:(nS (eX m.L m.gT S (List.range m.n))).length≤6:=by rw[dE,eX,dH,jw];exact hL
   simp only[List.drop_succ_cons,wx,V.Sk,V.eB,V.toInt_int,V.abC,xW,Int.toNat_natCast];refine bT (DY 24 (by omega)) (bT (DY 16 (by omega)) (bT (cg (by rw[hE.row,dH];omega)) (bs kZ (bT (by rw[qQ];exact cap (b:=0) (by omega) (by omega)) (bT (DY 1 (by omega)) ?_)))));rw[qQ];refine bs e2 ?_;rw[show R.length=S.length by rw[hE.row,dH]];refine bs e3 ?_;simp only[un];rw[show (ti m).length=1 from rfl];refine bT (gD (n:=1) (by omega) (by omega)) (bs e4 ?_);rw[awB,show (gV m.L m.gT).length=m.L from eW];rfl
end
theorem aiR {a:Da} (h:a.Ok) (mn:(minD a).n≤32):(CC qm (fI a)=some (syZ 3)∧Big (minD a).n)∨∃S,∃f:Nat→List UInt8,CC qm (fI a)=some (pE (minD a) S f++[.int .i64 0])∧pD (minD a) S:=by
 have hm:=qs h;obtain ⟨r,e,h1⟩:=awD hm mn;have fin: ∀z,AI CC (a.L:Int) (a.st:Int) a.ec a.eD=z→CC qm (fI a)=z:=fun z h=>Wu h;rcases h1 with ⟨rfl,hb⟩|⟨S,f,rfl,hS⟩
 ·refine .inl ⟨fin _ ?_,hb⟩;unfold AI;exact bs (sF h) (bF rfl (bs (yU h) (bs (afU hm mn) (bF rfl (bs e (bT rfl rfl))))))
 ·refine .inr ⟨S,f,fin _ ?_,hS⟩;unfold AI;refine bs (sF h) (bF rfl (bs (yU h) (bs (afU hm mn) (bF rfl (bs e (bF rfl (bs (a:=V.list ar (nB (minD a) S)) rfl ?_)))))));rw[V.eB];rfl
def kX (m:Da) (w:List Nat):List Nat:=w.foldl (bt m.gT) (List.range m.n)
def vl (m:Da) (S:List (List Nat)) (w:List Nat):Nat:=iw S (kX m w)
section
variable {m:Da} (hm:m.Ok)
include hm
theorem agi: ∀(w:List Nat) {f:List Nat},Tr m.n f→WL m.L w→Tr m.n (w.foldl (bt m.gT) f)
 | [],_,hf,_=>hf
 | x::w,f,hf,hw=>agi w (f:=bt m.gT f x) (hf.comp (hm.gT hw.head)) hw.tail
theorem Wv {w:List Nat} (hw:WL m.L w):Tr m.n (kX m w):=agi hm w HV hw
theorem awE: ∀(w:List Nat) {f:List Nat},Tr m.n f→WL m.L w→w.foldl (bt m.gT) f=comp f (kX m w):=by
 intro w
 induction w with
 | nil=>exact fun {f} hf _=>(comp_id hf).symm
 | cons x w ih=>
  intro f hf hw;have h1:=hm.gT hw.head;have e1:kX m (x::w)=comp (m.gT x) (kX m w):=by
   show w.foldl (bt m.gT) (bt m.gT (List.range m.n) x)=_;rw[ih (f:=bt m.gT (List.range m.n) x) (HV.comp h1) hw.tail,afr (L:=m.L) (fun x hx=>hm.gT hx) hw.head]
  rw[e1,←Ws hf h1];exact ih (hf.comp h1) hw.tail
theorem awF {u v:List Nat} (hu:WL m.L u) (hv:WL m.L v):kX m (u++v)=comp (kX m u) (kX m v):=by
 unfold kX;rw[A8];exact awE hm v (Wv hm hu) hv
theorem agj: ∀(w:List Nat) {f:List Nat} {q:Nat},Tr m.n f→q<m.n→WL m.L w→(w.foldl (bt m.gT) f).getD q 0=m.run (f.getD q 0) w
 | [],_,_,_,_,_=>rfl
 | x::w,f,q,hf,hq,hw=>by
  have h1:=hm.gT hw.head;rw[List.foldl_cons,agj w (f:=bt m.gT f x) (hf.comp h1) hq hw.tail,Da.aeu];refine congrArg (fun p=>m.run p w) ?_;have dD:q<f.length:=by rw[hf.1];exact hq
  have h2:=hf.at dD;unfold bt comp;rw[getD_map (k:=fun i=>(m.gT x).getD i 0) dD,cE dD,Da.gT,getD_map (by simpa using h2),cE (l:=List.range m.n) (by simpa using h2),A4]
theorem I8 {w:List Nat} {q:Nat} (hq:q<m.n) (hw:WL m.L w):(kX m w).getD q 0=m.run q w:=by
 unfold kX;rw[agj hm w HV hq hw,cE (by simpa using hq),A4]
theorem awG {u v:List Nat} (hu:WL m.L u) (hv:WL m.L v):kX m u=kX m v↔∀q,q<m.n→m.run q u=m.run q v:=by
 constructor
 ·intro e q hq;rw[←I8 hm hq hu,←I8 hm hq hv,e]
 ·intro h;have h1:=Wv hm hu;have h2:=Wv hm hv;refine rX (h1.1.trans h2.1.symm) fun i a b=> ?_;have hi:i<m.n:=by rw[←h1.1];exact a
  rw[←cE (d:=0) a,←cE (d:=0) b,I8 hm hi hu,I8 hm hi hv,h i hi]
section
variable {S:List (List Nat)} (hS:pD m S)
include hS
omit hm in
theorem agk: ∀(w:List Nat) {f:List Nat},f∈S→WL m.L w→w.foldl (bt m.gT) f∈S
 | [],_,hf,_=>hf
 | x::w,f,hf,hw=>agk w (hS.cl f hf x hw.head) hw.tail
omit hm in
theorem Ww:List.range m.n∈S:=by
 rw[←hS.DW,cE hS.pos];exact dd _
omit hm in
theorem agl {w:List Nat} (hw:WL m.L w):kX m w∈S:=agk hS w (Ww hS) hw
omit hm in
theorem yQ {w:List Nat} (hw:WL m.L w):vl m S w<S.length:=te (agl hS hw)
omit hm in
theorem xk {w:List Nat} (hw:WL m.L w):S.getD (vl m S w) []=kX m w:=by
 rw[cE (yQ hS hw)];exact Vp (agl hS hw)
omit hm in
theorem tH {i:Nat} (hi:i<S.length): ∃w,WL m.L w∧vl m S w=i:=by
 obtain ⟨w,hw,e⟩:=hS.re i hi;refine ⟨w,hw,?_⟩;unfold vl kX;rw[←e,cE hi];exact Vq hS.nd hi
omit hm in
theorem KI:vl m S []=0:=by
 unfold vl;show iw S (List.range m.n)=0;rw[←hS.DW,cE hS.pos];exact Vq hS.nd hS.pos
theorem tI {u v:List Nat} (hu:WL m.L u) (hv:WL m.L v):cA S (vl m S u) (vl m S v)=vl m S (u++v):=by
 unfold cA;rw[xk hS hu,xk hS hv,←awF hm hu hv];rfl
theorem aiX {u v:List Nat} (hu:WL m.L u) (hv:WL m.L v):vl m S u=vl m S v↔∀q,q<m.n→m.run q u=m.run q v:=by
 rw[←awG hm hu hv];exact ⟨fun e=>by rw[←xk hS hu,←xk hS hv,e],fun e=>by unfold vl;rw[e]⟩
omit hm hS in
theorem Yv {w:List Nat} {x:Nat} (hx:x<m.L):(eX m.L m.gT S (kX m w)).getD x 0=vl m S (w++[x]):=by
 unfold eX vl kX;rw[getD_map (by simpa using hx),cE (by simpa using hx),A4,A8];rfl
theorem Qf {i j:Nat} (hi:i<S.length) (hj:j<S.length):cA S i j<S.length:=by
 obtain ⟨u,hu,rfl⟩:=tH hS hi;obtain ⟨v,hv,rfl⟩:=tH hS hj;rw[tI hm hS hu hv];exact yQ hS (WL.app.2 ⟨hu,hv⟩)
theorem Ym {i j k:Nat} (hi:i<S.length) (hj:j<S.length) (hk:k<S.length):cA S (cA S i j) k=cA S i (cA S j k):=by
 obtain ⟨u,hu,rfl⟩:=tH hS hi;obtain ⟨v,hv,rfl⟩:=tH hS hj;obtain ⟨w,hw,rfl⟩:=tH hS hk;rw[tI hm hS hu hv,tI hm hS hv hw,tI hm hS (WL.app.2 ⟨hu,hv⟩) hw,tI hm hS hu (WL.app.2 ⟨hv,hw⟩),kJ]
end
end
def ln (m:Da) (S:List (List Nat)):Da:=⟨m.L,0,tab S.length fun i=>m.fin ((S.getD i []).getD m.st 0),tab S.length fun i=>eX m.L m.gT S (S.getD i [])⟩
section
variable {m:Da} (hm:m.Ok) {S:List (List Nat)} (hS:pD m S)
theorem DZ:(ln m S).n=S.length:=eW
theorem agm {i:Nat} (hi:i<S.length):(ln m S).fin i=m.fin ((S.getD i []).getD m.st 0):=xn hi
theorem agn {i x:Nat} (hi:i<S.length) (hx:x<m.L):(ln m S).nx i x=iw S (bt m.gT (S.getD i []) x):=by
 unfold Da.nx ln;simp only;rw[xn hi];unfold eX;rw[getD_map (by rw[jw];exact hx),cE (l:=List.range m.L) (by rw[jw];exact hx),A4]
include hm hS
theorem ago:(ln m S).Ok:=by
 refine ⟨hm.l1,hm.l6,by rw[DZ];exact eW,fun r hr=> ?_,by rw[DZ];exact hS.pos,by rw[DZ];have:=hS.le;omega⟩;obtain ⟨i,hi,rfl⟩:=KR.1 hr;refine ⟨by simp[eX,ln],fun q hq=> ?_⟩;obtain ⟨x,hx,rfl⟩:=iB.1 hq;rw[DZ];exact te (hS.cl _ (by rw[cE hi];exact dd _) x (fQ.1 hx))
omit hm in
theorem agp: ∀(w:List Nat) {f:List Nat},f∈S→WL m.L w→(ln m S).run (iw S f) w=iw S (w.foldl (bt m.gT) f)
 | [],_,_,_=>rfl
 | x::w,f,hf,hw=>by
  rw[Da.aeu,agn (te hf) hw.head,cE (te hf),Vp hf];exact agp w (hS.cl f hf x hw.head) hw.tail
omit hm in
theorem awH {w:List Nat} (hw:WL m.L w):(ln m S).run 0 w=vl m S w:=by
 have:=agp hS w (Ww hS) hw;rwa [show iw S (List.range m.n)=0 from KI hS] at this
theorem awI {w:List Nat} (hw:WL m.L w):(ln m S).acc (ln m S).st w=m.acc m.st w:=by
 show (ln m S).fin ((ln m S).run 0 w)=m.fin (m.run m.st w);rw[awH hS hw,agm (yQ hS hw),xk hS hw,I8 hm hm.s hw]
end
theorem awJ {a:Da} (ha:a.Ok) {S:List (List Nat)} (hS:pD (minD a) S):minD (ln (minD a) S)=minD a:=by
 have hm:=qs ha;refine (agh (ago hm hS) hm rfl fun w hw=>awI hm hS hw).trans (QO ha)
theorem awK {a b:Da} (ha:a.Ok) (hb:b.Ok) (e:minD a=minD b):CC qm (fI a)=CC qm (fI b):=by
 have A: ∀z,AI CC (a.L:Int) (a.st:Int) a.ec a.eD=z→CC qm (fI a)=z:=fun z h=>Wu h;have B: ∀z,AI CC (b.L:Int) (b.st:Int) b.ec b.eD=z→CC qm (fI b)=z:=fun z h=>Wu h;refine A _ (Eq.trans ?_ (B _ rfl).symm);unfold AI;refine bs (sF ha) (bF rfl (bs (yU ha) ?_));rw[e];exact (bs (sF hb) (bF rfl (bs (yU hb) rfl))).symm
noncomputable def I9 (C:af) (s1 s2:LV) (t12 t13:Int) {β:Type} (kn:Int→Option β) (kr:((Bool) ⊕ (Int×Bool))→Option β):Option β:=
 bif decide (t13<t12) then
  (idx s1 t13).bind fun x1=>
  (idx s2 t13).bind fun x2=>
  bif (x1.toInt:Int) != x2.toInt then
  kr (.inl false)
  else
  kn (wrap .i64 (t13+1))
 else
  kr (.inr (t13,decide (t13<t12)))
noncomputable def Wx (C:af) (s1 s2:LV) (t12:Int):=fun t13=>I9 C s1 s2 t12 t13 (fun y=>some (Sum.inl y)) (fun r=>some (Sum.inr r))
noncomputable def awL (C:af):cN:=bL 65 Uj [EQ,EQ,EQ,H1] [[0],[1,2,3,0,0]] (@I9 C) bM
theorem awM (C:af):bD C (awL C) 107 (Lp [1,1,0,1,0,0] 107):=bN Uj [EQ,EQ,EQ,H1] [[0],[1,2,3,0,0]] (@I9 C) (bA av)
noncomputable def agq (C:af) (s1 s2:LV):Option LV:=
 bif (s1.length:Int) != (s2.length:Int) then
  some [.bool false]
 else
  (Loop (Wx C s1 s2 (s1.length:Int)) 0).bind (fJ (fun (jN:Bool)=>
   some [.bool jN]) (un fun (mf:Int) (lF:Bool)=>
   some [.bool true]))
theorem awN {s1 s2:LV} {r:Option LV} (h:agq CC s1 s2=r):CC G0 [.list ab s1,.list ab s2]=r:=bO (bE (awM CC) av) h
noncomputable def Ja (C:af) (s1 s2:LV) (t12 t13:Int) {β:Type} (kn:Int→Option β) (kr:((Bool) ⊕ (Int×Bool))→Option β):Option β:=
 bif decide (t13<t12) then
  (idx s1 t13).bind fun x1=>
  (idx s2 t13).bind fun x2=>
  bif !(x1.toBool==x2.toBool) then
  kr (.inl false)
  else
  kn (wrap .i64 (t13+1))
 else
  kr (.inr (t13,decide (t13<t12)))
noncomputable def Wy (C:af) (s1 s2:LV) (t12:Int):=fun t13=>Ja C s1 s2 t12 t13 (fun y=>some (Sum.inl y)) (fun r=>some (Sum.inr r))
noncomputable def awO (C:af):cN:=bL 65 Ul [EQ,EQ,EQ,H1] [[0],[1,2,3,0,0]] (@Ja C) bM
theorem awP (C:af):bD C (awO C) 109 (Lp [1,1,0,1,0,0] 109):=bN Ul [EQ,EQ,EQ,H1] [[0],[1,2,3,0,0]] (@Ja C) (bA av)
noncomputable def agr (C:af) (s1 s2:LV):Option LV:=
 bif (s1.length:Int) != (s2.length:Int) then
  some [.bool false]
 else
  (Loop (Wy C s1 s2 (s1.length:Int)) 0).bind (fJ (fun (jN:Bool)=>
   some [.bool jN]) (un fun (mf:Int) (lF:Bool)=>
   some [.bool true]))
theorem awQ {s1 s2:LV} {r:Option LV} (h:agr CC s1 s2=r):CC G1 [.list ar s1,.list ar s2]=r:=bO (bE (awP CC) av) h
noncomputable def Jb (C:af) (s1 s2:LV) (t12 t13:Int) {β:Type} (kn:Int→Option β) (kr:((Bool) ⊕ (Int×Bool))→Option β):Option β:=
 bif decide (t13<t12) then
  (idx s1 t13).bind fun x1=>
  (idx s2 t13).bind fun x2=>
  bif !(x1.toStr==x2.toStr) then
  kr (.inl false)
  else
  kn (wrap .i64 (t13+1))
 else
  kr (.inr (t13,decide (t13<t12)))
noncomputable def Wz (C:af) (s1 s2:LV) (t12:Int):=fun t13=>Jb C s1 s2 t12 t13 (fun y=>some (Sum.inl y)) (fun r=>some (Sum.inr r))
noncomputable def awR (C:af):cN:=bL 65 Uk [EQ,EQ,EQ,H1] [[0],[1,2,3,0,0]] (@Jb C) bM
theorem awS (C:af):bD C (awR C) 108 (Lp [1,1,0,1,0,0] 108):=bN Uk [EQ,EQ,EQ,H1] [[0],[1,2,3,0,0]] (@Jb C) (bA av)
noncomputable def ags (C:af) (s1 s2:LV):Option LV:=
 bif (s1.length:Int) != (s2.length:Int) then
  some [.bool false]
 else
  (Loop (Wz C s1 s2 (s1.length:Int)) 0).bind (fJ (fun (jN:Bool)=>
   some [.bool jN]) (un fun (mf:Int) (lF:Bool)=>
   some [.bool true]))
theorem awT {s1 s2:LV} {r:Option LV} (h:ags CC s1 s2=r):CC MN [.list cz s1,.list cz s2]=r:=bO (bE (awS CC) av) h
noncomputable def Jc (C:af) (n:Int) (t7:LV) (t8 t9:Int) {β:Type} (kn:Int→Option β) (kr:((Bool) ⊕ (Int×Bool))→Option β):Option β:=
 bif decide (t9<t8) then
  (idx t7 t9).bind fun x1=>
  bif decide ((x1.toInt:Int)<0) then
  kr (.inl false)
  else
  bif decide ((x1.toInt:Int)≥n) then
   kr (.inl false)
  else
   kn (wrap .i64 (t9+1))
 else
  kr (.inr (t9,decide (t9<t8)))
noncomputable def WA (C:af) (n:Int) (t7:LV) (t8:Int):=fun t9=>Jc C n t7 t8 t9 (fun y=>some (Sum.inl y)) (fun r=>some (Sum.inr r))
noncomputable def awU (C:af):cN:=bL 33 UB [EQ,EQ,EQ,H1] [[0],[1,2,3,0,0]] (@Jc C) bM
theorem awV (C:af):bD C (awU C) 143 (Lp [1,0,1,0,0] 143):=bN UB [EQ,EQ,EQ,H1] [[0],[1,2,3,0,0]] (@Jc C) (bA av)
noncomputable def agt (C:af) (list:LV) (n:Int):Option LV:=
 (Loop (WA C n list (list.length:Int)) 0).bind (fJ (fun (Aj:Bool)=>
  some [.bool Aj]) (un fun (jN:Int) (mf:Bool)=>
  some [.bool true]))
theorem awW {list:LV} {n:Int} {r:Option LV} (h:agt CC list n=r):CC G7 [.list ab list,V.int .i64 n]=r:=bO (bE (awV CC) av) h
noncomputable def Jd (C:af) (n:Int) (t53:LV) (t54 iD:Int) (dC mg kV mh mi:LV) (t55:Int) {β:Type} (kn:Int→Option β) (kr:((Bool) ⊕ (Int×Bool))→Option β):Option β:=
 bif decide (t55<t54) then
  (idx t53 t55).bind fun x1=>
  bif (x1.toList.length:Int) != n then
  kr (.inl false)
  else
  (C G7 [.list ab x1.toList,V.int .i64 n]).bind fun r2=>
  bif !((V.nth r2 0).toBool) then
   kr (.inl false)
  else
   kn (wrap .i64 (t55+1))
 else
  kr (.inr (t55,decide (t55<t54)))
noncomputable def WB (C:af) (n:Int) (t53:LV) (t54 iD:Int) (dC mg kV mh mi:LV):=fun t55=>Jd C n t53 t54 iD dC mg kV mh mi t55 (fun y=>some (Sum.inl y)) (fun r=>some (Sum.inr r))
noncomputable def awX (C:af):cN:=bL 113 Ug [EQ,EQ,EQ,H1,EQ,EQ,EQ,EQ,EQ,EQ] [[0],[1,2,3,0,0,5,6,7,8,9,10]] (@Jd C) bM
theorem awY (C:af):bD C (awX C) 105 (Lp [1,1,1,1,0,1,0,0] 105):=bN Ug [EQ,EQ,EQ,H1,EQ,EQ,EQ,EQ,EQ,EQ] [[0],[1,2,3,0,0,5,6,7,8,9,10]] (@Jd C) (bA av)
noncomputable def agu (C:af) (gG:Int) (eg iz ic gH gP:LV):Option LV:=
 bif decide (gG<1) then
  some [.bool false]
 else
  bif decide (gG>6) then
  some [.bool false]
  else
  bif decide ((eg.length:Int)<1) then
   some [.bool false]
  else
   bif decide ((eg.length:Int)>400) then
   some [.bool false]
   else
   bif (iz.length:Int) != (eg.length:Int) then
    some [.bool false]
   else
    bif (gH.length:Int) != (eg.length:Int) then
    some [.bool false]
    else
    bif (gP.length:Int) != (eg.length:Int) then
     some [.bool false]
    else
     bif (ic.length:Int) != gG then
     some [.bool false]
     else
     (Loop (WB C (eg.length:Int) eg (eg.length:Int) gG eg iz ic gH gP) 0).bind (fJ (fun (jN:Bool)=>
      some [.bool jN]) (un fun (mf:Int) (lF:Bool)=>
      (C G7 [.list ab ic,V.int .i64 (eg.length:Int)]).bind fun r6=>
      some [.bool ((V.nth r6 0).toBool)]))
theorem awZ {gG:Int} {eg iz ic gH gP:LV} {r:Option LV} (h:agu CC gG eg iz ic gH gP=r):CC ML [V.int .i64 gG,.list ag eg,.list cz iz,.list ab ic,.list ar gH,.list ar gP]=r:=bO (bE (awY CC) av) h
noncomputable def Je (C:af) (x:Int) (row t19:LV) (t20 t21:Int) (t34:LV) (t35 iD:Int) (dC mg kV mh mi:LV) (gX gY bG bU:Int) (aQ aV aS:LV) (t36:Int) (aF:LV) {β:Type} (kn:(Int×LV)→Option β) (kr:(Int×Bool×LV)→Option β):Option β:=
 bif decide (t36<t35) then
  (idx t34 t36).bind fun x3=>
  aP aF x fun x4=>
  (idx row x3.toInt).bind fun x5=>
  (fl Tryz.prog ag aF [(x.toNat,0)]).bind fun x6=>
  bif (decide (0≤t36))&&(decide (t36<(x6.toList.length:Int))) then
  (fl Tryz.prog ag aF [(x.toNat,0)]).bind fun x7=>
  (x7.toList[t36.toNat]?).bind fun x8=>
  kn (wrap .i64 (t36+1),setRow Tryz.prog (bj x7.toList t36 (V.int .i64 x5.toInt)) ag aF [(x.toNat,0)])
  else none
 else
  kr (t36,decide (t36<t35),aF)
noncomputable def OU (C:af) (x:Int) (row t19:LV) (t20 t21:Int) (t34:LV) (t35 iD:Int) (dC mg kV mh mi:LV) (gX gY bG bU:Int) (aQ aV aS:LV):=un fun t36 aF=>Je C x row t19 t20 t21 t34 t35 iD dC mg kV mh mi gX gY bG bU aQ aV aS t36 aF (fun y=>some (Sum.inl y)) (fun r=>some (Sum.inr r))
noncomputable def Jf (C:af) (t19:LV) (t20 iD:Int) (dC mg kV mh mi:LV) (gX gY bG bU:Int) (aQ aV aS:LV) (t21:Int) (aF:LV) {β:Type} (kn:(Int×LV)→Option β) (kr:(Int×Bool×LV)→Option β):Option β:=
 bif decide (t21<t20) then
  (idx t19 t21).bind fun x1=>
  bif (decide (0≤iD))&&((decide (iD≤iD))&&(Nat.ble ((iD.toNat)*8) ba)) then
  aP aF t21 fun x2=>
  (Loop (OU C t21 x1.toList t19 t20 t21 kV (kV.length:Int) iD dC mg kV mh mi gX gY bG bU aQ aV aS) (0,bj aF t21 (.list ab (List.replicate (iD.toNat) (V.int .i64 0))))).bind (un fun wg=>un fun (Vf:Bool) (Ac:LV)=>
   kn (wrap .i64 (t21+1),Ac))
  else none
 else
  kr (t21,decide (t21<t20),aF)
noncomputable def WC (C:af) (t19:LV) (t20 iD:Int) (dC mg kV mh mi:LV) (gX gY bG bU:Int) (aQ aV aS:LV):=un fun t21 aF=>Jf C t19 t20 iD dC mg kV mh mi gX gY bG bU aQ aV aS t21 aF (fun y=>some (Sum.inl y)) (fun r=>some (Sum.inr r))
noncomputable def agv (C:af):cN:=bL 113 Uh [EQ,EQ,EQ,EQ,EQ,EQ,EQ,H1,EQ,EQ,EQ,EQ,EQ,EQ,EQ,EQ,EQ,EQ,EQ,EQ,EQ,H1] [[1,2,3,4,5,6,7,0,0,9,10,11,12,13,14,15,16,17,18,19,20,21,0]] (@Je C) (bL 49 Ui [EQ,EQ,H1,EQ,EQ,EQ,EQ,EQ,EQ,EQ,EQ,EQ,EQ,EQ,EQ,EQ,H1] [[1,2,0,0,4,5,6,7,8,9,10,11,12,13,14,15,16,0]] (@Jf C) bM)
theorem aw0 (C:af):bD C (agv C) 106 (Lp [1,1,0,1,0,0,1,1,0,0,1,1,1,0,0] 106):=bN Uh [EQ,EQ,EQ,EQ,EQ,EQ,EQ,H1,EQ,EQ,EQ,EQ,EQ,EQ,EQ,EQ,EQ,EQ,EQ,EQ,EQ,H1] [[1,2,3,4,5,6,7,0,0,9,10,11,12,13,14,15,16,17,18,19,20,21,0]] (@Je C) (bA av)
theorem aw1 (C:af):bD C (agv C) 106 (Lp [1,1,0,1,0,0] 106):=bN Ui [EQ,EQ,H1,EQ,EQ,EQ,EQ,EQ,EQ,EQ,EQ,EQ,EQ,EQ,EQ,EQ,H1] [[1,2,0,0,4,5,6,7,8,9,10,11,12,13,14,15,16,0]] (@Jf C) (bA (bE (aw0 C) av))
noncomputable def agw (C:af) (gG:Int) (eg iz ic gH gP:LV):Option LV:=
 bif Nat.ble (gH.length*1) ba then
  bif (decide (0≤(eg.length:Int)))&&((decide ((eg.length:Int)≤(eg.length:Int)))&&(Nat.ble (((eg.length:Int).toNat)*24) ba)) then
  (Loop (WC C eg (eg.length:Int) gG eg iz ic gH gP 0 0 gG 0 ([]:LV) ([]:LV) gH) (0,List.replicate ((eg.length:Int).toNat) (V.list ab ([]:LV)))).bind (un fun KZ=>un fun (B9:Bool) (pH:LV)=>
   some [V.int .i64 gG,V.int .i64 0,.list ar gH,.list ag pH])
  else none
 else none
theorem aw2 {gG:Int} {eg iz ic gH gP:LV} {r:Option LV} (h:agw CC gG eg iz ic gH gP=r):CC MM [V.int .i64 gG,.list ag eg,.list cz iz,.list ab ic,.list ar gH,.list ar gP]=r:=bO (bE (aw1 CC) av) h
noncomputable def Jg (C:af) (t28:LV) (t29 iD:Int) (dC mg kV mh mi:LV) (eY:Int) (eZ fh e8 gN gO:LV) (t30:Int) {β:Type} (kn:Int→Option β) (kr:((Int) ⊕ (Int×Bool))→Option β):Option β:=
 bif decide (t30<t29) then
  (idx t28 t30).bind fun x4=>
  (idx dC t30).bind fun x5=>
  (C G0 [.list ab x4.toList,.list ab x5.toList]).bind fun r6=>
  bif !((V.nth r6 0).toBool) then
  kr (.inl 8)
  else
  kn (wrap .i64 (t30+1))
 else
  kr (.inr (t30,decide (t30<t29)))
noncomputable def OV (C:af) (t28:LV) (t29 iD:Int) (dC mg kV mh mi:LV) (eY:Int) (eZ fh e8 gN gO:LV):=fun t30=>Jg C t28 t29 iD dC mg kV mh mi eY eZ fh e8 gN gO t30 (fun y=>some (Sum.inl y)) (fun r=>some (Sum.inr r))
noncomputable def aw3 (C:af):cN:=bL 113 T4 [EQ,EQ,H1,EQ,EQ,EQ,EQ,EQ,EQ,EQ,EQ,EQ,EQ,EQ,EQ] [[0],[1,2,0,0,4,5,6,7,8,9,10,11,12,13,14,15]] (@Jg C) bM
theorem aw4 (C:af):bD C (aw3 C) 75 (Lp [1,1,1,1,0,1,0,0] 75):=bN T4 [EQ,EQ,H1,EQ,EQ,EQ,EQ,EQ,EQ,EQ,EQ,EQ,EQ,EQ,EQ] [[0],[1,2,0,0,4,5,6,7,8,9,10,11,12,13,14,15]] (@Jg C) (bA av)
noncomputable def WD (C:af) (gG:Int) (eg iz ic gH gP:LV):Option LV:=
 (C ML [V.int .i64 gG,.list ag eg,.list cz iz,.list ab ic,.list ar gH,.list ar gP]).bind fun r1=>
 bif !((V.nth r1 0).toBool) then
  some [V.int .i64 8]
 else
  (C MM [V.int .i64 gG,.list ag eg,.list cz iz,.list ab ic,.list ar gH,.list ar gP]).bind fun r2=>
  (C qm [V.int .i64 ((V.nth r2 0).toInt),V.int .i64 ((V.nth (r2.drop 1) 0).toInt),.list ar ((V.nth (r2.drop 2) 0).toList),.list ag ((V.nth ((r2.drop 2).drop 1) 0).toList)]).bind fun r3=>
  bif (((V.nth (r3.drop 6) 0).toInt):Int) != 0 then
  some [V.int .i64 8]
  else
  bif ((((V.nth (r3.drop 1) 0).toList).length:Int):Int) != (eg.length:Int) then
   some [V.int .i64 8]
  else
   (Loop (OV C ((V.nth (r3.drop 1) 0).toList) (((V.nth (r3.drop 1) 0).toList).length:Int) gG eg iz ic gH gP ((V.nth r3 0).toInt) ((V.nth (r3.drop 1) 0).toList) ((V.nth ((r3.drop 1).drop 1) 0).toList) ((V.nth (((r3.drop 1).drop 1).drop 1) 0).toList) ((V.nth ((((r3.drop 1).drop 1).drop 1).drop 1) 0).toList) ((V.nth (((((r3.drop 1).drop 1).drop 1).drop 1).drop 1) 0).toList)) 0).bind (fJ (fun nu=>
    some [V.int .i64 nu]) (un fun (vr:Int) (wg:Bool)=>
    (C MN [.list cz ((V.nth ((r3.drop 1).drop 1) 0).toList),.list cz iz]).bind fun ff=>
    bif !((V.nth ff 0).toBool) then
    some [V.int .i64 8]
    else
    (C G0 [.list ab ((V.nth (((r3.drop 1).drop 1).drop 1) 0).toList),.list ab ic]).bind fun cH=>
    bif !((V.nth cH 0).toBool) then
     some [V.int .i64 8]
    else
     (C G1 [.list ar ((V.nth ((((r3.drop 1).drop 1).drop 1).drop 1) 0).toList),.list ar gH]).bind fun yb=>
     bif !((V.nth yb 0).toBool) then
     some [V.int .i64 8]
     else
     (C G1 [.list ar ((V.nth (((((r3.drop 1).drop 1).drop 1).drop 1).drop 1) 0).toList),.list ar gP]).bind fun gS=>
     bif !((V.nth gS 0).toBool) then
      some [V.int .i64 8]
     else
      some [V.int .i64 0]))
theorem aw5 {gG:Int} {eg iz ic gH gP:LV} {r:Option LV} (h:WD CC gG eg iz ic gH gP=r):CC yP [V.int .i64 gG,.list ag eg,.list cz iz,.list ab ic,.list ar gH,.list ar gP]=r:=bO (bE (aw4 CC) av) h
section
variable {l:LV} (hl:l.length≤1000000)
include hl
theorem agx:CC G0 [.list ab l,.list ab l]=some [.bool true]:=by
 refine awN ?_;unfold agq;refine bF (by simp) (bs (fH l.length (fun i=>(i:Int)) (.inr ((l.length:Int),false)) (fun i hi=> ?_) ?_) rfl)
 ·simp only[Wx,I9];have e:=Sl l i;rw[b7 hi] at e;refine bT (bm hi) (bs e (bs e (bF (by simp) ?_)));rw[br (by omega)]
 ·simp only[Wx,I9];rw[aZ (az _)];rfl
theorem agy:CC G1 [.list ar l,.list ar l]=some [.bool true]:=by
 refine awQ ?_;unfold agr;refine bF (by simp) (bs (fH l.length (fun i=>(i:Int)) (.inr ((l.length:Int),false)) (fun i hi=> ?_) ?_) rfl)
 ·simp only[Wy,Ja];have e:=Sl l i;rw[b7 hi] at e;refine bT (bm hi) (bs e (bs e (bF (by simp) ?_)));rw[br (by omega)]
 ·simp only[Wy,Ja];rw[aZ (az _)];rfl
theorem aw6:CC MN [.list cz l,.list cz l]=some [.bool true]:=by
 refine awT ?_;unfold ags;refine bF (by simp) (bs (fH l.length (fun i=>(i:Int)) (.inr ((l.length:Int),false)) (fun i hi=> ?_) ?_) rfl)
 ·simp only[Wz,Jb];have e:=Sl l i;rw[b7 hi] at e;refine bT (bm hi) (bs e (bs e (bF (by simp) ?_)));rw[br (by omega)]
 ·simp only[Wz,Jb];rw[aZ (az _)];rfl
end
theorem agz {l:List Nat} {n:Nat} (hl:l.length≤1000000) (h: ∀y∈l,y<n):CC G7 [.list ab (nS l),.int .i64 (n:Int)]=some [.bool true]:=by
 refine awW ?_;unfold agt;rw[dE];refine bs (fH l.length (fun i=>(i:Int)) (.inr ((l.length:Int),false)) (fun i hi=> ?_) ?_) rfl
 ·simp only[WA,Jc];refine bT (bm hi) (bs (iE hi) (bF xf (bF (DH (h _ (dd hi))) ?_)));rw[br (by omega)]
 ·simp only[WA,Jc];rw[aZ (az _)];rfl
section
variable {m:Da} (hm:m.Ok) {S:List (List Nat)} (hS:pD m S) (f:Nat→List UInt8)
def qU (S:List (List Nat)) (i:Nat):List Nat:=(List.range S.length).map fun j=>cA S i j
theorem aw7 {i:Nat}:(tab S.length fun j=>nV (cA S i j))=nS (qU S i):=by unfold qU nS;rw[wB];rfl
theorem OW {i:Nat} (hi:i<S.length):idx (pF S) (i:Int)=some (.list ab (nS (qU S i))):=by rw[←aw7];exact qo hi
include hm hS
theorem aw8 {i:Nat} (hi:i<S.length): ∀y∈qU S i,y<S.length:=fun y hy=>by
 obtain ⟨j,hj,rfl⟩:=iB.1 hy;exact Qf hm hS hi (fQ.1 hj)
theorem aw9:CC ML (pE m S f)=some [.bool true]:=by
 have h1:=hm.l1;have h6:=hm.l6;have hp:=hS.pos;have hle:=hS.le;have e1:(pF S).length=S.length:=eW;have e2:(ml m S).length=m.L:=by unfold ml;rw[dE,eX,dH,jw]
 have e3:(nB m S).length=S.length:=eW;have e4:(j5 m.L m.gT S S.length).length=S.length:=eW;refine awZ ?_;unfold agu;rw[e1,e2,e3,e4,eW];refine bF (cX (by omega)) (bF (cX (by omega)) (bF (cX (by omega)) (bF (cX (by omega)) (bF (by simp) (bF (by simp) (bF (by simp) (bF (by simp) ?_)))))));refine bs (fH S.length (fun i=>(i:Int)) (.inr ((S.length:Int),false)) (fun i hi=> ?_) ?_) ?_
 ·simp only[WB,Jd];refine bT (bm hi) (bs (OW hi) ?_);rw[V.eB];have e5:(nS (qU S i)).length=S.length:=by rw[dE,qU,dH,jw]
  refine bF (by rw[e5];simp) (bs (agz (by rw[dE] at e5;omega) (aw8 hm hS hi)) (bF rfl ?_));rw[br (by omega)]
 ·simp only[WB,Jd];rw[aZ (az _)];rfl
 ·refine bs (agz (l:=eX m.L m.gT S (List.range m.n)) (by rw[eX,dH,jw];omega) fun y hy=> ?_) rfl;obtain ⟨x,hx,rfl⟩:=iB.1 hy;exact te (hS.cl _ (Ww hS) x (fQ.1 hx))
omit hm hS in
theorem axa {x:Nat} (hx:x<m.L):idx (ml m S) (x:Int)=some (nV (vl m S [x])):=by
 unfold ml;rw[iE (by rw[eX,dH,jw];exact hx)];simp[eX,vl,kX]
theorem axb {i x:Nat} (hi:i<S.length) (hx:x<m.L):idx (nS (qU S i)) (vl m S [x]:Int)=some (nV (iw S (bt m.gT (S.getD i []) x))):=by
 have j6:WL m.L [x]:=WL.nil.cons hx;have h1:=yQ hS j6;rw[iE (by rw[qU,dH,jw];exact h1)];obtain ⟨w,hw,rfl⟩:=tH hS hi;have:(qU S (vl m S w))[vl m S [x]]'(by rw[qU,dH,jw];exact h1)=cA S (vl m S w) (vl m S [x]):=by simp[qU]
 rw[this,tI hm hS hw j6,xk hS hw];unfold vl kX;rw[A8];rfl
theorem axc:CC MM (pE m S f)=some (fI (ln m S)):=by
 have h6:=hm.l6;have hle:=hS.le;have e1:(pF S).length=S.length:=eW;have e2:(ml m S).length=m.L:=by unfold ml;rw[dE,eX,dH,jw]
 have e3:(nB m S).length=S.length:=eW;refine aw2 ?_;unfold agw;rw[e1,e3];refine bT (cap (b:=0) (by omega) (by omega)) (bT (gD (by omega) (by omega)) ?_);rw[Int.toNat_natCast];have mM: ∀{i:Nat},i<S.length→∀{k1 k2 k3 k4 k5 k6 k7:Int} {l1 l2 l3 l4 l5 l6 l7 l8 l9:LV} {a:LV},a.length=S.length→Loop (OU CC (i:Int) (nS (qU S i)) l1 k1 k2 (ml m S) (m.L:Int) k3 l2 l3 l4 l5 l6 k4 k5 k6 k7 l7 l8 l9) (0,a.set i (.list ab (List.replicate m.L (V.int .i64 0))))=some ((m.L:Int),false,a.set i (qP m.L ((ln m S).nx i))):=by
  intro i hi k1 k2 k3 k4 k5 k6 k7 l1 l2 l3 l4 l5 l6 l7 l8 l9 a ha;refine tF (fun x b=>((x:Int),a.set i (.list ab b))) m.L (fun x=>nV ((ln m S).nx i x)) _ (by simp) (fun b=>((m.L:Int),false,a.set i (.list ab b))) (fun x hx b hb=> ?_) ?_
  ·simp only[OU,Je,un,aP,bj,Int.toNat_natCast];have e0:(a.set i (V.list ab b))[i]? =some (.list ab b):=qc (by rw[ha];exact hi);refine bT (bm hx) (bs (axa hx) ((ca e0).trans (bs (axb hm hS hi hx) (bs (qu e0) ?_))));rw[V.eB];refine bT (oJ (by rw[hb];exact hx)) (bs (qu e0) ?_);rw[V.eB];refine bs (b7 (by rw[hb];exact hx)) ?_;rw[FO e0,AZ,br (by omega),agn hi hx];rfl
  ·simp only[OU,Je,un];refine bF (aZ (az _)) ?_;rw[aZ (az _)]
 refine bs (tF (fun i a=>((i:Int),a)) S.length (fun i=>qP m.L ((ln m S).nx i)) _ (by simp) (fun a=>((S.length:Int),false,a)) (fun i hi a ha=> ?_) ?_) ?_
 ·simp only[WC,Jf,un,aP,bj];refine bT (bm hi) (bs (OW hi) (bT (gD (by omega) (by omega)) ((rz (by rw[ha];exact hi)).trans ?_)));rw[V.eB,e2,Int.toNat_natCast,Int.toNat_natCast];refine bs (mM hi ha) ?_;rw[br (by omega)];rfl
 ·simp only[WC,Jf,un];refine bF (aZ (az _)) ?_;rw[aZ (az _)]
 ·have e5:nB m S=(ln m S).ec:=by
   unfold nB Da.ec;rw[DZ];exact dg fun i hi=>by rw[agm hi]
  have e6:(tab S.length fun i=>qP m.L ((ln m S).nx i))=(ln m S).eD:=by unfold Da.eD;rw[DZ];rfl
  rw[e6,e5];rfl
end
section
variable {a:Da} (ha:a.Ok) {S:List (List Nat)} {f:Nat→List UInt8} (hS:pD (minD a) S) (hOf:CC qm (fI a)=some (pE (minD a) S f++[.int .i64 0]))
include ha hS hOf
theorem aiS:CC yP (pE (minD a) S f)=some [.int .i64 0]:=by
 have hm:=qs ha;have hle:=hS.le;have hL6:=hm.l6;have hO:CC qm (fI (ln (minD a) S))=some (pE (minD a) S f++[.int .i64 0]):=(awK (ago hm hS) ha (awJ ha hS)).trans hOf;have fin: ∀z,WD CC ((minD a).L:Int) (pF S) (tab S.length fun j=> .str (f j)) (ml (minD a) S) (nB (minD a) S) (j5 (minD a).L (minD a).gT S S.length)=z→CC yP (pE (minD a) S f)=z:=fun z h=>aw5 h;refine fin _ ?_;unfold WD;refine bs (aw9 hm hS f) (bF rfl (bs (axc hm hS f) (bs hO (bF rfl (bF (by simp[pE]) ?_)))));have e1:(pF S).length=S.length:=eW;refine bs (a:= .inr ((S.length:Int),false)) ?_ ?_
 ·show Loop (OV CC (pF S) ((pF S).length:Int) _ _ _ _ _ _ _ _ _ _ _ _) 0=_;rw[e1];refine fH S.length (fun i=>(i:Int)) _ (fun i hi=> ?_) ?_
  ·simp only[OV,Jg];refine bT (bm hi) (bs (OW hi) (bs (OW hi) (bs (agx (by rw[V.eB,dE,qU,dH,jw];omega)) (bF rfl ?_))));rw[br (by omega)]
  ·simp only[OV,Jg];rw[aZ (az _)];rfl
 ·have e2:(ml (minD a) S).length=(minD a).L:=by unfold ml;rw[dE,eX,dH,jw]
  refine bs (aw6 (l:=tab S.length fun j=> .str (f j)) (by simp;omega)) (bF rfl (bs (agx (l:=ml (minD a) S) (by omega)) (bF rfl (bs (agy (l:=nB (minD a) S) (by simp[nB];omega)) (bF rfl (bs (agy (l:=j5 (minD a).L (minD a).gT S S.length) (by simp[j5];omega)) (bF rfl rfl)))))))
end
noncomputable def Fv (C:af) (oz:Int) (t26:LV) (t27:Int) (lists:LV) (t28:Int) (rV:LV) {β:Type} (kn:(Int×LV)→Option β) (kr:(Int×Bool×LV)→Option β):Option β:=
 bif decide (t28<t27) then
  (idx t26 t28).bind fun x3=>
  bif x3.toBool then
  bif Nat.ble ((rV.length+([V.int .i64 t28]:LV).length)*8) ba then
   kn (wrap .i64 (t28+1),rV++([V.int .i64 t28]:LV))
  else none
  else
  aP lists oz fun x4=>
  bif (x4.cell 1).toBool then
   bif Nat.ble ((rV.length+([V.int .i64 t28]:LV).length)*8) ba then
   kn (wrap .i64 (t28+1),rV++([V.int .i64 t28]:LV))
   else none
  else
   kn (wrap .i64 (t28+1),rV)
 else
  kr (t28,decide (t28<t27),rV)
noncomputable def Qe (C:af) (oz:Int) (t26:LV) (t27:Int) (lists:LV):=un fun t28 rV=>Fv C oz t26 t27 lists t28 rV (fun y=>some (Sum.inl y)) (fun r=>some (Sum.inr r))
noncomputable def axd (C:af):cN:=bL 145 TW [EQ,EQ,EQ,H1,EQ,H1] [[1,2,3,0,0,5,0]] (@Fv C) bM
theorem axe (C:af):bD C (axd C) 52 (Lp [1,1,1,1,1,0,1,0,0] 52):=bN TW [EQ,EQ,EQ,H1,EQ,H1] [[1,2,3,0,0,5,0]] (@Fv C) (bA av)
noncomputable def Qd (C:af) (gG:Int) (eg iz ic gH gP:LV) (oz:Int):Option LV:=
 (C yP [V.int .i64 gG,.list ag eg,.list cz iz,.list ab ic,.list ar gH,.list ar gP]).bind fun r1=>
 bif (((V.nth r1 0).toInt):Int) != 0 then
  some [V.int .i64 ((V.nth r1 0).toInt),.list ab ([]:LV)]
 else
  (C BG []).bind fun r2=>
  bif decide (oz<0) then
  some [V.int .i64 1,.list ab ([]:LV)]
  else
  bif decide (oz≥(((V.nth r2 0).toList).length:Int)) then
   some [V.int .i64 1,.list ab ([]:LV)]
  else
   (Loop (Qe C oz gP (gP.length:Int) ((V.nth r2 0).toList)) (0,([]:LV))).bind (un fun lF=>un fun (jY:Bool) (axf:LV)=>
    some [V.int .i64 0,.list ab axf])
theorem aiN {gG:Int} {eg iz ic gH gP:LV} {oz:Int} {r:Option LV} (h:Qd CC gG eg iz ic gH gP oz=r):CC Fu [V.int .i64 gG,.list ag eg,.list cz iz,.list ab ic,.list ar gH,.list ar gP,V.int .i64 oz]=r:=bO (bE (axe CC) av) h
noncomputable def Fx (C:af) (ei t40 iD:Int) (dC mg kV mh mi rV Ai:LV) (AJ t41:Int) {β:Type} (kn:(Int×Int)→Option β) (kr:((Bool×Int×Int×Int×LV) ⊕ (Int×Int×Bool))→Option β):Option β:=
 bif decide (t41<t40) then
  aP Ai t41 fun x5=>
  bif AJ==ei then
  kr (.inl (false,0,0,7,([]:LV)))
  else
  (C Ft [.list ag dC,.list ab rV,V.int .i64 ((x5.cell 0).toInt),V.int .i64 ((x5.cell 1).toInt),.list ai ((x5.cell 2).toList),V.int .i64 ((x5.cell 3).toInt),V.int .i64 ((x5.cell 4).toInt),.list ai ((x5.cell 5).toList),V.int .i64 (wrap .i64 (ei-AJ))]).bind fun r6=>
  bif (((V.nth (r6.drop 1) 0).toInt):Int)==0 then
   kr (.inl (false,t41,wrap .i64 (AJ+((V.nth r6 0).toInt)),0,(V.nth (r6.drop 2) 0).toList))
  else
   bif (((V.nth (r6.drop 1) 0).toInt):Int)==9 then
   kn (wrap .i64 (AJ+((V.nth r6 0).toInt)),wrap .i64 (t41+1))
   else
   kr (.inl (false,0,0,(V.nth (r6.drop 1) 0).toInt,([]:LV)))
 else
  kr (.inr (AJ,t41,decide (t41<t40)))
noncomputable def KJ (C:af) (ei t40 iD:Int) (dC mg kV mh mi rV Ai:LV):=un fun AJ t41=>Fx C ei t40 iD dC mg kV mh mi rV Ai AJ t41 (fun y=>some (Sum.inl y)) (fun r=>some (Sum.inr r))
noncomputable def axg (C:af):cN:=bL 129 TG [EQ,H1,EQ,H1,EQ,EQ,EQ,EQ,EQ,EQ,EQ,EQ] [[0,0,0,0,0],[1,0,3,0,0,5,6,7,8,9,10,11,12]] (@Fx C) bM
theorem axh (C:af):bD C (axg C) 33 (Lp [1,1,1,1,1,0,1,0,0] 33):=bN TG [EQ,H1,EQ,H1,EQ,EQ,EQ,EQ,EQ,EQ,EQ,EQ] [[0,0,0,0,0],[1,0,3,0,0,5,6,7,8,9,10,11,12]] (@Fx C) (bA av)
noncomputable def KK (C:af) (gG:Int) (eg iz ic gH gP:LV) (oz ei:Int):Option LV:=
 (C Fu [V.int .i64 gG,.list ag eg,.list cz iz,.list ab ic,.list ar gH,.list ar gP,V.int .i64 oz]).bind fun r1=>
 bif (((V.nth r1 0).toInt):Int) != 0 then
  some [.bool false,V.int .i64 0,V.int .i64 0,V.int .i64 ((V.nth r1 0).toInt),.list ab ([]:LV)]
 else
  bif decide (ei<1) then
  some [.bool false,V.int .i64 0,V.int .i64 0,V.int .i64 1,.list ab ([]:LV)]
  else
  bif decide (ei>1048576) then
   some [.bool false,V.int .i64 0,V.int .i64 0,V.int .i64 1,.list ab ([]:LV)]
  else
   (C BG []).bind fun r2=>
   aP ((V.nth r2 0).toList) oz fun x3=>
   (C jG [.str ((x3.cell 0).toStr),.bool ((x3.cell 1).toBool),V.int .i64 ((x3.cell 2).toInt),V.int .i64 ((x3.cell 3).toInt),.str ((x3.cell 4).toStr),.str ((x3.cell 5).toStr)]).bind fun r4=>
   (Loop (KJ C ei (((V.nth (r4.drop 4) 0).toList).length:Int) gG eg iz ic gH gP ((V.nth (r1.drop 1) 0).toList) ((V.nth (r4.drop 4) 0).toList)) (0,0)).bind (fJ (un fun (nu:Bool)=>un fun vr=>un fun wg=>un fun (Vf:Int) (axi:LV)=>
    some [.bool nu,V.int .i64 vr,V.int .i64 wg,V.int .i64 Vf,.list ab axi]) (un fun axj=>un fun (B9:Int) (vo:Bool)=>
    some [.bool true,V.int .i64 (-1),V.int .i64 axj,V.int .i64 0,.list ab ([]:LV)]))
theorem aiP {gG:Int} {eg iz ic gH gP:LV} {oz ei:Int} {r:Option LV} (h:KK CC gG eg iz ic gH gP oz ei=r):CC E2 [V.int .i64 gG,.list ag eg,.list cz iz,.list ab ic,.list ar gH,.list ar gP,V.int .i64 oz,V.int .i64 ei]=r:=bO (bE (axh CC) av) h
structure EY (rows:LV) (jH:Nat→List gC):Prop where
 xd:CC BG []=some [.list EX rows]
 len:rows.length=17
 cls: ∀c,c<17→∃x,rows[c]? =some x∧∃(a:List UInt8) (b:Bool) (e f:Int),CC jG [.str (x.cell 0).toStr,.bool (x.cell 1).toBool,.int .i64 (x.cell 2).toInt,.int .i64 (x.cell 3).toInt,.str (x.cell 4).toStr,.str (x.cell 5).toStr]=some [.str a,.bool b,.int .i64 e,.int .i64 f,.list iR ((jH c).map fun d=> .agg (cU d))]
 ok: ∀c,c<17→∀d∈jH c,mN d
 il: ∀c,c<17→(jH c).length≤2
section
variable {rows:LV} {jH:Nat→List gC} (hC:EY rows jH) {m:Da} {S:List (List Nat)} {f:Nat→List UInt8} (hm:m.Ok) (hS:pD m S) (hV:CC yP (pE m S f)=some [.int .i64 0]) {c:Nat} (hc:c<17)
include hC hS hV hc
end
noncomputable def agA (C:af) (s:List UInt8):Option LV:=
 bif decide ((s.length:Int)>1000) then
  some [V.int .i64 0,V.int .i64 0,.list ai ([]:LV),V.int .i64 0,V.int .i64 0,.list ai ([]:LV),V.int .i64 0,V.int .i64 21]
 else
  (C gi [.str s,V.int .i64 0]).bind fun r1=>
  bif !((V.nth (r1.drop 3) 0).toBool) then
  some [V.int .i64 0,V.int .i64 0,.list ai ([]:LV),V.int .i64 0,V.int .i64 0,.list ai ([]:LV),V.int .i64 ((V.nth ((r1.drop 4).drop 1) 0).toInt),V.int .i64 2]
  else
  (C nt [.int .u8 61,.str ((V.nth (r1.drop 4) 0).toStr),V.int .i64 ((V.nth ((r1.drop 4).drop 1) 0).toInt)]).bind fun r2=>
  bif !((V.nth r2 0).toBool) then
   some [V.int .i64 0,V.int .i64 0,.list ai ([]:LV),V.int .i64 0,V.int .i64 0,.list ai ([]:LV),V.int .i64 ((V.nth ((r2.drop 1).drop 1) 0).toInt),V.int .i64 2]
  else
   (C gi [.str ((V.nth (r2.drop 1) 0).toStr),V.int .i64 ((V.nth ((r2.drop 1).drop 1) 0).toInt)]).bind fun r3=>
   bif !((V.nth (r3.drop 3) 0).toBool) then
   some [V.int .i64 0,V.int .i64 0,.list ai ([]:LV),V.int .i64 0,V.int .i64 0,.list ai ([]:LV),V.int .i64 ((V.nth ((r3.drop 4).drop 1) 0).toInt),V.int .i64 2]
   else
   bif decide ((((V.nth ((r3.drop 4).drop 1) 0).toInt):Int)<(s.length:Int)) then
    some [V.int .i64 0,V.int .i64 0,.list ai ([]:LV),V.int .i64 0,V.int .i64 0,.list ai ([]:LV),V.int .i64 ((V.nth ((r3.drop 4).drop 1) 0).toInt),V.int .i64 2]
   else
    (C me [V.int .i64 ((V.nth r1 0).toInt),V.int .i64 ((V.nth (r1.drop 1) 0).toInt),.list ai ((V.nth ((r1.drop 1).drop 1) 0).toList),V.int .i64 ((V.nth r3 0).toInt),V.int .i64 ((V.nth (r3.drop 1) 0).toInt),.list ai ((V.nth ((r3.drop 1).drop 1) 0).toList)]).bind fun r4=>
    bif (((V.nth r4 0).toInt):Int) != 0 then
    some [V.int .i64 0,V.int .i64 0,.list ai ([]:LV),V.int .i64 0,V.int .i64 0,.list ai ([]:LV),V.int .i64 0,V.int .i64 ((V.nth r4 0).toInt)]
    else
    some [V.int .i64 ((V.nth r1 0).toInt),V.int .i64 ((V.nth (r1.drop 1) 0).toInt),.list ai ((V.nth ((r1.drop 1).drop 1) 0).toList),V.int .i64 ((V.nth r3 0).toInt),V.int .i64 ((V.nth (r3.drop 1) 0).toInt),.list ai ((V.nth ((r3.drop 1).drop 1) 0).toList),V.int .i64 (-1),V.int .i64 0]
theorem axk {s:List UInt8} {r:Option LV} (h:agA CC s=r):CC BF [.str s]=r:=bO (L:=bM) av h
noncomputable def wu (C:af) (WE WG gX:List UInt8) (gY:Bool) (Ag xU:Int) (agB:List UInt8) (agC:Bool) (agD agE:Int) (aO:LV) (t23:Int) (aQ:LV) {β:Type} (kn:(Int×LV)→Option β) (kr:(Int×Bool×LV)→Option β):Option β:=
 bif decide (t23<2) then
  (idx ([.str WE,.str WG]:LV) t23).bind fun x1=>
  (C BF [.str x1.toStr]).bind fun r2=>
  bif (((V.nth ((r2.drop 6).drop 1) 0).toInt):Int)==0 then
  bif Nat.ble ((aQ.length+([.agg [V.int .i64 ((V.nth r2 0).toInt),V.int .i64 ((V.nth (r2.drop 1) 0).toInt),.list ai ((V.nth ((r2.drop 1).drop 1) 0).toList),V.int .i64 ((V.nth (((r2.drop 1).drop 1).drop 1) 0).toInt),V.int .i64 ((V.nth ((((r2.drop 1).drop 1).drop 1).drop 1) 0).toInt),.list ai ((V.nth (((((r2.drop 1).drop 1).drop 1).drop 1).drop 1) 0).toList)]]:LV).length)*80) ba then
   kn (wrap .i64 (t23+1),aQ++([.agg [V.int .i64 ((V.nth r2 0).toInt),V.int .i64 ((V.nth (r2.drop 1) 0).toInt),.list ai ((V.nth ((r2.drop 1).drop 1) 0).toList),V.int .i64 ((V.nth (((r2.drop 1).drop 1).drop 1) 0).toInt),V.int .i64 ((V.nth ((((r2.drop 1).drop 1).drop 1).drop 1) 0).toInt),.list ai ((V.nth (((((r2.drop 1).drop 1).drop 1).drop 1).drop 1) 0).toList)]]:LV))
  else none
  else
  kn (wrap .i64 (t23+1),aQ)
 else
  kr (t23,decide (t23<2),aQ)
noncomputable def qV (C:af) (WE WG gX:List UInt8) (gY:Bool) (Ag xU:Int) (agB:List UInt8) (agC:Bool) (agD agE:Int) (aO:LV):=un fun t23 aQ=>wu C WE WG gX gY Ag xU agB agC agD agE aO t23 aQ (fun y=>some (Sum.inl y)) (fun r=>some (Sum.inr r))
noncomputable def axl (C:af):cN:=bL 49 TV [EQ,EQ,H1,EQ,EQ,EQ,EQ,EQ,EQ,EQ,EQ,EQ,H1] [[1,2,0,0,4,5,6,7,8,9,10,11,12,0]] (@wu C) bM
theorem axm (C:af):bD C (axl C) 51 (Lp [1,1,0,1,0,0] 51):=bN TV [EQ,EQ,H1,EQ,EQ,EQ,EQ,EQ,EQ,EQ,EQ,EQ,H1] [[1,2,0,0,4,5,6,7,8,9,10,11,12,0]] (@wu C) (bA av)
noncomputable def WH (C:af) (s9:List UInt8) (ta:Bool) (tc Jh:Int) (OX wo:List UInt8):Option LV:=
 (Loop (qV C OX wo [] false 0 0 s9 ta tc Jh ([]:LV)) (0,([]:LV))).bind (un fun jN=>un fun (mf:Bool) (b_5:LV)=>
  some [.str s9,.bool ta,V.int .i64 tc,V.int .i64 Jh,.list iR b_5])
theorem agF {s9:List UInt8} {ta:Bool} {tc Jh:Int} {OX wo:List UInt8} {r:Option LV} (h:WH CC s9 ta tc Jh OX wo=r):CC jG [.str s9,.bool ta,V.int .i64 tc,V.int .i64 Jh,.str OX,.str wo]=r:=bO (bE (axm CC) av) h
def mO (s:List UInt8) (d:gC):Prop:=CC BF [.str s]=some (cU d++[.int .i64 (-1),.int .i64 0])
theorem py {s:List UInt8} {d:gC} {p p2 q:Int} (hs:s.length≤1000) (h1:CC gi [.str s,.int .i64 0]=some [.int .i64 d.l0,.int .i64 d.l1,.list ai d.l2,.bool true,.str s,.int .i64 p])
  (h2:CC nt [.int .u8 61,.str s,.int .i64 p]=some [.bool true,.str s,.int .i64 p2])
  (h3:CC gi [.str s,.int .i64 p2]=some [.int .i64 d.r0,.int .i64 d.r1,.list ai d.r2,.bool true,.str s,.int .i64 q]) (hq:(s.length:Int)≤q) (hv:CC me (cU d)=some [.int .i64 0]):mO s d:=by
 refine axk ?_;unfold agA;exact bF (cX (by omega)) (bs h1 (bF rfl (bs h2 (bF rfl (bs h3 (bF rfl (bF (cX (show¬q<(s.length:Int) by omega)) (bs hv (bF rfl rfl)))))))))
section
variable {n a b:List UInt8} {m:Bool} {f k:Int} {d e:gC}
theorem BH (h1:mO a d) (h2:mO b e):CC jG [.str n,.bool m,.int .i64 f,.int .i64 k,.str a,.str b]=some [.str n,.bool m,.int .i64 f,.int .i64 k,.list iR ([d,e].map fun d=> .agg (cU d))]:=by
 refine agF ?_;unfold WH;have s1:qV CC a b [] false 0 0 n m f k ([]:LV) (0,[])=some (.inl (1,[.agg (cU d)])):=by
  simp only[qV,wu,un];exact bT rfl (bs rfl (bs h1 (bT rfl rfl)))
 have s2:qV CC a b [] false 0 0 n m f k ([]:LV) (1,[.agg (cU d)])=some (.inl (2,[.agg (cU d),.agg (cU e)])):=by
  simp only[qV,wu,un];exact bT rfl (bs rfl (bs h2 (bT rfl rfl)))
 have s3:qV CC a b [] false 0 0 n m f k ([]:LV) (2,[.agg (cU d),.agg (cU e)])=some (.inr (2,false,[.agg (cU d),.agg (cU e)])):=by
  simp only[qV,wu,un];exact bF rfl rfl
 exact bs ((iM s1).trans ((iM s2).trans (kg s3))) rfl
theorem sB (h1:mO a d) (h2:CC BF [.str []]=some [.int .i64 0,.int .i64 0,.list ai [],.int .i64 0,.int .i64 0,.list ai [],.int .i64 0,.int .i64 2]):CC jG [.str n,.bool m,.int .i64 f,.int .i64 k,.str a,.str []]=some [.str n,.bool m,.int .i64 f,.int .i64 k,.list iR ([d].map fun d=> .agg (cU d))]:=by
 refine agF ?_;unfold WH;have s1:qV CC a [] [] false 0 0 n m f k ([]:LV) (0,[])=some (.inl (1,[.agg (cU d)])):=by
  simp only[qV,wu,un];exact bT rfl (bs rfl (bs h1 (bT rfl rfl)))
 have s2:qV CC a [] [] false 0 0 n m f k ([]:LV) (1,[.agg (cU d)])=some (.inl (2,[.agg (cU d)])):=by
  simp only[qV,wu,un];exact bT rfl (bs rfl (bs h2 (bF rfl rfl)))
 have s3:qV CC a [] [] false 0 0 n m f k ([]:LV) (2,[.agg (cU d)])=some (.inr (2,false,[.agg (cU d)])):=by
  simp only[qV,wu,un];exact bF rfl rfl
 exact bs ((iM s1).trans ((iM s2).trans (kg s3))) rfl
end
def eM:gC:={l0:=2,l1:=0,l2:=[],r0:=1,r1:=0,r2:=[],p:=[(1,0)],q:=[(0,0)],o1:=fun i=>[H1,EQ,EQ,EQ,EQ,EQ].getD i false,e1:=fun i=>[H1,EQ,EQ,EQ,EQ,EQ].getD i false,bH:=fun i=>[H1,EQ,EQ,EQ,EQ,EQ].getD i false,bI:=fun i=>[H1,EQ,EQ,EQ,EQ,EQ].getD i false,nv:=1}
def AK:List UInt8:=[120,32,61,32,49]
def dx:gC:={l0:=3,l1:=0,l2:=[.agg [.int .i64 2,.int .i64 0,.list ai []],.agg [.int .i64 2,.int .i64 1,.list ai []]],r0:=3,r1:=0,r2:=[.agg [.int .i64 2,.int .i64 1,.list ai []],.agg [.int .i64 2,.int .i64 0,.list ai []]],p:=[(1,0),(1,1),(2,0)],q:=[(1,1),(1,0),(2,0)],o1:=fun i=>[H1,H1,EQ,EQ,EQ,EQ].getD i false,e1:=fun i=>[H1,H1,EQ,EQ,EQ,EQ].getD i false,bH:=fun i=>[H1,H1,EQ,EQ,EQ,EQ].getD i false,bI:=fun i=>[H1,H1,EQ,EQ,EQ,EQ].getD i false,nv:=2}
def AL:List UInt8:=[120,121,32,61,32,121,120]
def aJ:gC:={l0:=4,l1:=1,l2:=[.agg [.int .i64 2,.int .i64 0,.list ai []]],r0:=4,r1:=0,r2:=[.agg [.int .i64 2,.int .i64 0,.list ai []]],p:=[(1,0),(3,1)],q:=[(1,0),(3,0)],o1:=fun i=>[H1,EQ,EQ,EQ,EQ,EQ].getD i false,e1:=fun i=>[H1,EQ,EQ,EQ,EQ,EQ].getD i false,bH:=fun i=>[H1,EQ,EQ,EQ,EQ,EQ].getD i false,bI:=fun i=>[H1,EQ,EQ,EQ,EQ,EQ].getD i false,nv:=1}
def AN:List UInt8:=[120,94,40,119,43,49,41,32,61,32,120,94,119]
def dQ:gC:={l0:=4,l1:=0,l2:=[.agg [.int .i64 2,.int .i64 0,.list ai []]],r0:=1,r1:=0,r2:=[],p:=[(1,0),(3,0)],q:=[(0,0)],o1:=fun i=>[H1,EQ,EQ,EQ,EQ,EQ].getD i false,e1:=fun i=>[EQ,EQ,EQ,EQ,EQ,EQ].getD i false,bH:=fun i=>[H1,EQ,EQ,EQ,EQ,EQ].getD i false,bI:=fun i=>[EQ,EQ,EQ,EQ,EQ,EQ].getD i false,nv:=1}
def AO:List UInt8:=[120,94,119,32,61,32,49]
def eQ:gC:={l0:=3,l1:=0,l2:=[.agg [.int .i64 2,.int .i64 0,.list ai []],.agg [.int .i64 2,.int .i64 0,.list ai []]],r0:=2,r1:=0,r2:=[],p:=[(1,0),(1,0),(2,0)],q:=[(1,0)],o1:=fun i=>[H1,EQ,EQ,EQ,EQ,EQ].getD i false,e1:=fun i=>[H1,EQ,EQ,EQ,EQ,EQ].getD i false,bH:=fun i=>[H1,EQ,EQ,EQ,EQ,EQ].getD i false,bI:=fun i=>[H1,EQ,EQ,EQ,EQ,EQ].getD i false,nv:=1}
def AP:List UInt8:=[120,120,32,61,32,120]
def en:gC:={l0:=3,l1:=0,l2:=[.agg [.int .i64 4,.int .i64 0,.list ai [.agg [.int .i64 3,.int .i64 0,.list ai [.agg [.int .i64 2,.int .i64 0,.list ai []],.agg [.int .i64 2,.int .i64 1,.list ai []]]]]],.agg [.int .i64 2,.int .i64 0,.list ai []]],r0:=4,r1:=0,r2:=[.agg [.int .i64 3,.int .i64 0,.list ai [.agg [.int .i64 2,.int .i64 0,.list ai []],.agg [.int .i64 2,.int .i64 1,.list ai []]]]],p:=[(1,0),(1,1),(2,0),(3,0),(1,0),(2,0)],q:=[(1,0),(1,1),(2,0),(3,0)],o1:=fun i=>[H1,H1,EQ,EQ,EQ,EQ].getD i false,e1:=fun i=>[H1,H1,EQ,EQ,EQ,EQ].getD i false,bH:=fun i=>[H1,H1,EQ,EQ,EQ,EQ].getD i false,bI:=fun i=>[H1,H1,EQ,EQ,EQ,EQ].getD i false,nv:=2}
def AQ:List UInt8:=[40,120,121,41,94,119,120,32,61,32,40,120,121,41,94,119]
def eo:gC:={l0:=3,l1:=0,l2:=[.agg [.int .i64 2,.int .i64 1,.list ai []],.agg [.int .i64 4,.int .i64 0,.list ai [.agg [.int .i64 3,.int .i64 0,.list ai [.agg [.int .i64 2,.int .i64 0,.list ai []],.agg [.int .i64 2,.int .i64 1,.list ai []]]]]]],r0:=4,r1:=0,r2:=[.agg [.int .i64 3,.int .i64 0,.list ai [.agg [.int .i64 2,.int .i64 0,.list ai []],.agg [.int .i64 2,.int .i64 1,.list ai []]]]],p:=[(1,1),(1,0),(1,1),(2,0),(3,0),(2,0)],q:=[(1,0),(1,1),(2,0),(3,0)],o1:=fun i=>[H1,H1,EQ,EQ,EQ,EQ].getD i false,e1:=fun i=>[H1,H1,EQ,EQ,EQ,EQ].getD i false,bH:=fun i=>[H1,H1,EQ,EQ,EQ,EQ].getD i false,bI:=fun i=>[H1,H1,EQ,EQ,EQ,EQ].getD i false,nv:=2}
def AR:List UInt8:=[121,40,120,121,41,94,119,32,61,32,40,120,121,41,94,119]
def eS:gC:={l0:=3,l1:=0,l2:=[.agg [.int .i64 4,.int .i64 0,.list ai [.agg [.int .i64 3,.int .i64 0,.list ai [.agg [.int .i64 2,.int .i64 0,.list ai []],.agg [.int .i64 2,.int .i64 1,.list ai []]]]]],.agg [.int .i64 2,.int .i64 0,.list ai []],.agg [.int .i64 4,.int .i64 0,.list ai [.agg [.int .i64 3,.int .i64 0,.list ai [.agg [.int .i64 2,.int .i64 0,.list ai []],.agg [.int .i64 2,.int .i64 1,.list ai []]]]]]],r0:=4,r1:=0,r2:=[.agg [.int .i64 3,.int .i64 0,.list ai [.agg [.int .i64 2,.int .i64 0,.list ai []],.agg [.int .i64 2,.int .i64 1,.list ai []]]]],p:=[(1,0),(1,1),(2,0),(3,0),(1,0),(2,0),(1,0),(1,1),(2,0),(3,0),(2,0)],q:=[(1,0),(1,1),(2,0),(3,0)],o1:=fun i=>[H1,H1,EQ,EQ,EQ,EQ].getD i false,e1:=fun i=>[H1,H1,EQ,EQ,EQ,EQ].getD i false,bH:=fun i=>[H1,H1,EQ,EQ,EQ,EQ].getD i false,bI:=fun i=>[H1,H1,EQ,EQ,EQ,EQ].getD i false,nv:=2}
def AS:List UInt8:=[40,120,121,41,94,119,120,40,120,121,41,94,119,32,61,32,40,120,121,41,94,119]
def ep:gC:={l0:=3,l1:=0,l2:=[.agg [.int .i64 4,.int .i64 0,.list ai [.agg [.int .i64 2,.int .i64 0,.list ai []]]],.agg [.int .i64 2,.int .i64 1,.list ai []]],r0:=4,r1:=0,r2:=[.agg [.int .i64 2,.int .i64 0,.list ai []]],p:=[(1,0),(3,0),(1,1),(2,0)],q:=[(1,0),(3,0)],o1:=fun i=>[H1,H1,EQ,EQ,EQ,EQ].getD i false,e1:=fun i=>[EQ,H1,EQ,EQ,EQ,EQ].getD i false,bH:=fun i=>[H1,H1,EQ,EQ,EQ,EQ].getD i false,bI:=fun i=>[EQ,H1,EQ,EQ,EQ,EQ].getD i false,nv:=2}
def AT:List UInt8:=[120,94,119,121,32,61,32,120,94,119]
def et:gC:={l0:=3,l1:=0,l2:=[.agg [.int .i64 2,.int .i64 1,.list ai []],.agg [.int .i64 4,.int .i64 0,.list ai [.agg [.int .i64 2,.int .i64 0,.list ai []]]]],r0:=4,r1:=0,r2:=[.agg [.int .i64 2,.int .i64 0,.list ai []]],p:=[(1,1),(1,0),(3,0),(2,0)],q:=[(1,0),(3,0)],o1:=fun i=>[H1,H1,EQ,EQ,EQ,EQ].getD i false,e1:=fun i=>[EQ,H1,EQ,EQ,EQ,EQ].getD i false,bH:=fun i=>[H1,H1,EQ,EQ,EQ,EQ].getD i false,bI:=fun i=>[EQ,H1,EQ,EQ,EQ,EQ].getD i false,nv:=2}
def AU:List UInt8:=[121,120,94,119,32,61,32,120,94,119]
def eT:gC:={l0:=3,l1:=0,l2:=[.agg [.int .i64 4,.int .i64 0,.list ai [.agg [.int .i64 2,.int .i64 0,.list ai []]]],.agg [.int .i64 2,.int .i64 1,.list ai []],.agg [.int .i64 4,.int .i64 0,.list ai [.agg [.int .i64 2,.int .i64 0,.list ai []]]]],r0:=4,r1:=0,r2:=[.agg [.int .i64 2,.int .i64 0,.list ai []]],p:=[(1,0),(3,0),(1,1),(2,0),(1,0),(3,0),(2,0)],q:=[(1,0),(3,0)],o1:=fun i=>[H1,H1,EQ,EQ,EQ,EQ].getD i false,e1:=fun i=>[EQ,H1,EQ,EQ,EQ,EQ].getD i false,bH:=fun i=>[H1,H1,EQ,EQ,EQ,EQ].getD i false,bI:=fun i=>[EQ,H1,EQ,EQ,EQ,EQ].getD i false,nv:=2}
def AV:List UInt8:=[120,94,119,121,120,94,119,32,61,32,120,94,119]
def eU:gC:={l0:=3,l1:=0,l2:=[.agg [.int .i64 4,.int .i64 0,.list ai [.agg [.int .i64 2,.int .i64 0,.list ai []]]],.agg [.int .i64 2,.int .i64 1,.list ai []],.agg [.int .i64 4,.int .i64 0,.list ai [.agg [.int .i64 2,.int .i64 0,.list ai []]]],.agg [.int .i64 2,.int .i64 1,.list ai []],.agg [.int .i64 4,.int .i64 0,.list ai [.agg [.int .i64 2,.int .i64 0,.list ai []]]]],r0:=3,r1:=0,r2:=[.agg [.int .i64 4,.int .i64 0,.list ai [.agg [.int .i64 2,.int .i64 0,.list ai []]]],.agg [.int .i64 2,.int .i64 1,.list ai []],.agg [.int .i64 4,.int .i64 0,.list ai [.agg [.int .i64 2,.int .i64 0,.list ai []]]]],p:=[(1,0),(3,0),(1,1),(2,0),(1,0),(3,0),(2,0),(1,1),(2,0),(1,0),(3,0),(2,0)],q:=[(1,0),(3,0),(1,1),(2,0),(1,0),(3,0),(2,0)],o1:=fun i=>[H1,H1,EQ,EQ,EQ,EQ].getD i false,e1:=fun i=>[EQ,H1,EQ,EQ,EQ,EQ].getD i false,bH:=fun i=>[H1,H1,EQ,EQ,EQ,EQ].getD i false,bI:=fun i=>[EQ,H1,EQ,EQ,EQ,EQ].getD i false,nv:=2}
def AW:List UInt8:=[120,94,119,121,120,94,119,121,120,94,119,32,61,32,120,94,119,121,120,94,119]
def eV:gC:={l0:=3,l1:=0,l2:=[.agg [.int .i64 4,.int .i64 0,.list ai [.agg [.int .i64 2,.int .i64 0,.list ai []]]],.agg [.int .i64 2,.int .i64 1,.list ai []],.agg [.int .i64 4,.int .i64 0,.list ai [.agg [.int .i64 2,.int .i64 0,.list ai []]]],.agg [.int .i64 2,.int .i64 2,.list ai []],.agg [.int .i64 4,.int .i64 0,.list ai [.agg [.int .i64 2,.int .i64 0,.list ai []]]]],r0:=3,r1:=0,r2:=[.agg [.int .i64 4,.int .i64 0,.list ai [.agg [.int .i64 2,.int .i64 0,.list ai []]]],.agg [.int .i64 2,.int .i64 2,.list ai []],.agg [.int .i64 4,.int .i64 0,.list ai [.agg [.int .i64 2,.int .i64 0,.list ai []]]],.agg [.int .i64 2,.int .i64 1,.list ai []],.agg [.int .i64 4,.int .i64 0,.list ai [.agg [.int .i64 2,.int .i64 0,.list ai []]]]],p:=[(1,0),(3,0),(1,1),(2,0),(1,0),(3,0),(2,0),(1,2),(2,0),(1,0),(3,0),(2,0)],q:=[(1,0),(3,0),(1,2),(2,0),(1,0),(3,0),(2,0),(1,1),(2,0),(1,0),(3,0),(2,0)],o1:=fun i=>[H1,H1,H1,EQ,EQ,EQ].getD i false,e1:=fun i=>[EQ,H1,H1,EQ,EQ,EQ].getD i false,bH:=fun i=>[H1,H1,H1,EQ,EQ,EQ].getD i false,bI:=fun i=>[EQ,H1,H1,EQ,EQ,EQ].getD i false,nv:=3}
def AX:List UInt8:=[120,94,119,121,120,94,119,122,120,94,119,32,61,32,120,94,119,122,120,94,119,121,120,94,119]
def eJ:gC:={l0:=3,l1:=0,l2:=[.agg [.int .i64 4,.int .i64 0,.list ai [.agg [.int .i64 3,.int .i64 0,.list ai [.agg [.int .i64 4,.int .i64 0,.list ai [.agg [.int .i64 2,.int .i64 0,.list ai []]]],.agg [.int .i64 2,.int .i64 2,.list ai []],.agg [.int .i64 4,.int .i64 0,.list ai [.agg [.int .i64 2,.int .i64 1,.list ai []]]],.agg [.int .i64 2,.int .i64 3,.list ai []],.agg [.int .i64 4,.int .i64 0,.list ai [.agg [.int .i64 2,.int .i64 0,.list ai []]]]]]]],.agg [.int .i64 4,.int .i64 0,.list ai [.agg [.int .i64 2,.int .i64 0,.list ai []]]],.agg [.int .i64 2,.int .i64 2,.list ai []],.agg [.int .i64 4,.int .i64 0,.list ai [.agg [.int .i64 2,.int .i64 1,.list ai []]]],.agg [.int .i64 2,.int .i64 5,.list ai []],.agg [.int .i64 4,.int .i64 0,.list ai [.agg [.int .i64 2,.int .i64 0,.list ai []]]],.agg [.int .i64 4,.int .i64 0,.list ai [.agg [.int .i64 3,.int .i64 0,.list ai [.agg [.int .i64 4,.int .i64 0,.list ai [.agg [.int .i64 2,.int .i64 0,.list ai []]]],.agg [.int .i64 2,.int .i64 4,.list ai []],.agg [.int .i64 4,.int .i64 0,.list ai [.agg [.int .i64 2,.int .i64 1,.list ai []]]],.agg [.int .i64 2,.int .i64 5,.list ai []],.agg [.int .i64 4,.int .i64 0,.list ai [.agg [.int .i64 2,.int .i64 0,.list ai []]]]]]]]],r0:=3,r1:=0,r2:=[.agg [.int .i64 4,.int .i64 0,.list ai [.agg [.int .i64 3,.int .i64 0,.list ai [.agg [.int .i64 4,.int .i64 0,.list ai [.agg [.int .i64 2,.int .i64 0,.list ai []]]],.agg [.int .i64 2,.int .i64 2,.list ai []],.agg [.int .i64 4,.int .i64 0,.list ai [.agg [.int .i64 2,.int .i64 1,.list ai []]]],.agg [.int .i64 2,.int .i64 3,.list ai []],.agg [.int .i64 4,.int .i64 0,.list ai [.agg [.int .i64 2,.int .i64 0,.list ai []]]]]]]],.agg [.int .i64 4,.int .i64 0,.list ai [.agg [.int .i64 3,.int .i64 0,.list ai [.agg [.int .i64 4,.int .i64 0,.list ai [.agg [.int .i64 2,.int .i64 0,.list ai []]]],.agg [.int .i64 2,.int .i64 4,.list ai []],.agg [.int .i64 4,.int .i64 0,.list ai [.agg [.int .i64 2,.int .i64 1,.list ai []]]],.agg [.int .i64 2,.int .i64 5,.list ai []],.agg [.int .i64 4,.int .i64 0,.list ai [.agg [.int .i64 2,.int .i64 0,.list ai []]]]]]]]],p:=[(1,0),(3,0),(1,2),(2,0),(1,1),(3,0),(2,0),(1,3),(2,0),(1,0),(3,0),(2,0),(3,0),(1,0),(3,0),(2,0),(1,2),(2,0),(1,1),(3,0),(2,0),(1,5),(2,0),(1,0),(3,0),(2,0),(1,0),(3,0),(1,4),(2,0),(1,1),(3,0),(2,0),(1,5),(2,0),(1,0),(3,0),(2,0),(3,0),(2,0)],q:=[(1,0),(3,0),(1,2),(2,0),(1,1),(3,0),(2,0),(1,3),(2,0),(1,0),(3,0),(2,0),(3,0),(1,0),(3,0),(1,4),(2,0),(1,1),(3,0),(2,0),(1,5),(2,0),(1,0),(3,0),(2,0),(3,0),(2,0)],o1:=fun i=>[H1,H1,H1,H1,H1,H1].getD i false,e1:=fun i=>[EQ,EQ,H1,H1,H1,H1].getD i false,bH:=fun i=>[H1,H1,H1,H1,H1,H1].getD i false,bI:=fun i=>[EQ,EQ,H1,H1,H1,H1].getD i false,nv:=6}
def yH:List UInt8:=[40,120,94,119,122,121,94,119,117,120,94,119,41,94,119,120,94,119,122,121,94,119,116,120,94,119,40,120,94,119,118,121,94,119,116,120,94,119,41,94,119,32,61,32,40,120,94,119,122,121,94,119,117,120,94,119,41,94,119,40,120,94,119,118,121,94,119,116,120,94,119,41,94,119]
def Kb:LV:=[.agg [.str [116,114,105,118,105,97,108],.bool true,.int .i64 1,.int .i64 0,.str [120,32,61,32,49],.str []],
 .agg [.str [99,111,109,109,117,116,97,116,105,118,101],.bool true,.int .i64 4,.int .i64 0,.str [120,121,32,61,32,121,120],.str []],
 .agg [.str [99,111,109,109,117,116,97,116,105,118,101,45,97,112,101,114,105,111,100,105,99],.bool true,.int .i64 4,.int .i64 0,.str [120,121,32,61,32,121,120],.str [120,94,40,119,43,49,41,32,61,32,120,94,119]],
 .agg [.str [97,98,101,108,105,97,110],.bool true,.int .i64 4,.int .i64 0,.str [120,121,32,61,32,121,120],.str [120,94,119,32,61,32,49]],
 .agg [.str [115,101,109,105,108,97,116,116,105,99,101],.bool true,.int .i64 2,.int .i64 6,.str [120,121,32,61,32,121,120],.str [120,120,32,61,32,120]],
 .agg [.str [97,112,101,114,105,111,100,105,99],.bool true,.int .i64 1,.int .i64 0,.str [120,94,40,119,43,49,41,32,61,32,120,94,119],.str []],
 .agg [.str [103,114,111,117,112],.bool true,.int .i64 5,.int .i64 0,.str [120,94,119,32,61,32,49],.str []],
 .agg [.str [106,45,116,114,105,118,105,97,108],.bool true,.int .i64 2,.int .i64 6,.str [40,120,121,41,94,119,120,32,61,32,40,120,121,41,94,119],.str [121,40,120,121,41,94,119,32,61,32,40,120,121,41,94,119]],
 .agg [.str [114,45,116,114,105,118,105,97,108],.bool true,.int .i64 3,.int .i64 1,.str [40,120,121,41,94,119,120,32,61,32,40,120,121,41,94,119],.str []],
 .agg [.str [108,45,116,114,105,118,105,97,108],.bool true,.int .i64 3,.int .i64 2,.str [121,40,120,121,41,94,119,32,61,32,40,120,121,41,94,119],.str []],
 .agg [.str [100,97],.bool true,.int .i64 3,.int .i64 3,.str [40,120,121,41,94,119,120,40,120,121,41,94,119,32,61,32,40,120,121,41,94,119],.str []],
 .agg [.str [102,105,110,105,116,101,45,111,114,45,99,111,102,105,110,105,116,101],.bool false,.int .i64 2,.int .i64 1,.str [120,94,119,121,32,61,32,120,94,119],.str [121,120,94,119,32,61,32,120,94,119]],
 .agg [.str [100,101,102,105,110,105,116,101],.bool false,.int .i64 2,.int .i64 3,.str [121,120,94,119,32,61,32,120,94,119],.str []],
 .agg [.str [114,101,118,101,114,115,101,45,100,101,102,105,110,105,116,101],.bool false,.int .i64 2,.int .i64 2,.str [120,94,119,121,32,61,32,120,94,119],.str []],
 .agg [.str [103,101,110,101,114,97,108,105,115,101,100,45,100,101,102,105,110,105,116,101],.bool false,.int .i64 2,.int .i64 4,.str [120,94,119,121,120,94,119,32,61,32,120,94,119],.str []],
 .agg [.str [108,111,99,97,108,108,121,45,116,101,115,116,97,98,108,101],.bool false,.int .i64 2,.int .i64 5,.str [120,94,119,121,120,94,119,121,120,94,119,32,61,32,120,94,119,121,120,94,119],.str [120,94,119,121,120,94,119,122,120,94,119,32,61,32,120,94,119,122,120,94,119,121,120,94,119]],
 .agg [.str [100,111,116,45,100,101,112,116,104,45,111,110,101],.bool false,.int .i64 2,.int .i64 7,.str [40,120,94,119,122,121,94,119,117,120,94,119,41,94,119,120,94,119,122,121,94,119,116,120,94,119,40,120,94,119,118,121,94,119,116,120,94,119,41,94,119,32,61,32,40,120,94,119,122,121,94,119,117,120,94,119,41,94,119,40,120,94,119,118,121,94,119,116,120,94,119,41,94,119],.str []]]
def PM (c:Nat):List gC:=[[eM],[dx],[dx,aJ],[dx,dQ],[dx,eQ],[aJ],[dQ],[en,eo],[en],[eo],[eS],[ep,et],[et],[ep],[eT],[eU,eV],[eJ]].getD c []
end Go.AM
