/-
  Functions of the program, lifted to plain data.
-/
import Derived.Test.YtjmolnomobmkdaaGreatDoorP6
set_option linter.unusedVariables false
set_option linter.unusedSimpArgs false
set_option linter.unusedSectionVars false
set_option maxRecDepth 100000
namespace Go.AM
open Go.IntKind (wrap)
open Go.Proofs
noncomputable def vZ (C:af) (table dM:LV) (ma mb:Int) (mc:LV) (me mf:Int) (mg:LV) (eg:Int):Option LV:=
 (C CK [.list ag table,.list ab dM,V.int .i64 ma,V.int .i64 mb,.list ai mc,V.int .i64 me,V.int .i64 mf,.list ai mg]).bind fun r1=>
 bif (V.nth r1 0).toBool then
  bif (((V.nth (r1.drop 1) 0).toInt):Int) != 0 then
  some [V.int .i64 0,V.int .i64 ((V.nth (r1.drop 1) 0).toInt),.list ab ([]:LV)]
  else
  bif decide (eg<1) then
   some [V.int .i64 0,V.int .i64 1,.list ab ([]:LV)]
  else
   bif decide (eg>1048576) then
   some [V.int .i64 0,V.int .i64 1,.list ab ([]:LV)]
   else none
 else
  bif decide (eg<1) then
  some [V.int .i64 0,V.int .i64 1,.list ab ([]:LV)]
  else
  bif decide (eg>1048576) then
   some [V.int .i64 0,V.int .i64 1,.list ab ([]:LV)]
  else
   (C CH [.list bG ((V.nth (r1.drop 1) 0).toList),.list bG ((V.nth ((r1.drop 1).drop 1) 0).toList),.list ag ((V.nth (((r1.drop 1).drop 1).drop 1) 0).toList),.list ag ((V.nth ((r1.drop 1).drop 3) 0).toList),V.int .i64 ((V.nth (((r1.drop 1).drop 3).drop 1) 0).toInt),.list ab ((V.nth ((((r1.drop 1).drop 3).drop 1).drop 1) 0).toList),.list ab ((V.nth (((((r1.drop 1).drop 3).drop 1).drop 1).drop 1) 0).toList),.list ab ((V.nth ((((((r1.drop 1).drop 3).drop 1).drop 1).drop 1).drop 1) 0).toList),.list ab ((V.nth (((((((r1.drop 1).drop 3).drop 1).drop 1).drop 1).drop 1).drop 1) 0).toList),.list ab ((V.nth ((((((((r1.drop 1).drop 3).drop 1).drop 1).drop 1).drop 1).drop 1).drop 1) 0).toList),.list ab ((V.nth (((((((((r1.drop 1).drop 3).drop 1).drop 1).drop 1).drop 1).drop 1).drop 1).drop 1) 0).toList),.list ab ((V.nth ((((((((((r1.drop 1).drop 3).drop 1).drop 1).drop 1).drop 1).drop 1).drop 1).drop 1).drop 1) 0).toList),.list ab ((V.nth (((((((((((r1.drop 1).drop 3).drop 1).drop 1).drop 1).drop 1).drop 1).drop 1).drop 1).drop 1).drop 1) 0).toList),.list ab ((V.nth ((((((((((((r1.drop 1).drop 3).drop 1).drop 1).drop 1).drop 1).drop 1).drop 1).drop 1).drop 1).drop 1).drop 1) 0).toList),.list ab ((V.nth (((((((((((((r1.drop 1).drop 3).drop 1).drop 1).drop 1).drop 1).drop 1).drop 1).drop 1).drop 1).drop 1).drop 1).drop 1) 0).toList),.list ab ((V.nth ((((((((((((((r1.drop 1).drop 3).drop 1).drop 1).drop 1).drop 1).drop 1).drop 1).drop 1).drop 1).drop 1).drop 1).drop 1).drop 1) 0).toList),.list ab ((V.nth (((r1.drop 1).drop 3).drop 13) 0).toList)]).bind fun r2=>
   bif (V.nth r2 0).toBool then
   some [V.int .i64 0,V.int .i64 9,.list ab ([]:LV)]
   else
   (C F0 [V.int .i64 eg,.list bG ((V.nth (r2.drop 1) 0).toList),.list bG ((V.nth ((r2.drop 1).drop 1) 0).toList),.list ag ((V.nth (((r2.drop 1).drop 1).drop 1) 0).toList),.list ag ((V.nth ((r2.drop 1).drop 3) 0).toList),V.int .i64 ((V.nth (((r2.drop 1).drop 3).drop 1) 0).toInt),.list ab ((V.nth ((((r2.drop 1).drop 3).drop 1).drop 1) 0).toList),.list ab ((V.nth (((((r2.drop 1).drop 3).drop 1).drop 1).drop 1) 0).toList),.list ab ((V.nth ((((((r2.drop 1).drop 3).drop 1).drop 1).drop 1).drop 1) 0).toList),.list ab ((V.nth (((((((r2.drop 1).drop 3).drop 1).drop 1).drop 1).drop 1).drop 1) 0).toList),.list ab ((V.nth ((((((((r2.drop 1).drop 3).drop 1).drop 1).drop 1).drop 1).drop 1).drop 1) 0).toList),.list ab ((V.nth (((((((((r2.drop 1).drop 3).drop 1).drop 1).drop 1).drop 1).drop 1).drop 1).drop 1) 0).toList),.list ab ((V.nth ((((((((((r2.drop 1).drop 3).drop 1).drop 1).drop 1).drop 1).drop 1).drop 1).drop 1).drop 1) 0).toList),.list ab ((V.nth (((((((((((r2.drop 1).drop 3).drop 1).drop 1).drop 1).drop 1).drop 1).drop 1).drop 1).drop 1).drop 1) 0).toList),.list ab ((V.nth ((((((((((((r2.drop 1).drop 3).drop 1).drop 1).drop 1).drop 1).drop 1).drop 1).drop 1).drop 1).drop 1).drop 1) 0).toList),.list ab ((V.nth (((((((((((((r2.drop 1).drop 3).drop 1).drop 1).drop 1).drop 1).drop 1).drop 1).drop 1).drop 1).drop 1).drop 1).drop 1) 0).toList),.list ab ((V.nth ((((((((((((((r2.drop 1).drop 3).drop 1).drop 1).drop 1).drop 1).drop 1).drop 1).drop 1).drop 1).drop 1).drop 1).drop 1).drop 1) 0).toList),.list ab ((V.nth (((r2.drop 1).drop 3).drop 13) 0).toList)]).bind fun r3=>
   bif (V.nth (r3.drop 1) 0).toBool then
    (C FW [.list bG ((V.nth (r3.drop 3) 0).toList),.list bG ((V.nth ((r3.drop 3).drop 1) 0).toList),.list ag ((V.nth (((r3.drop 3).drop 1).drop 1) 0).toList),.list ag ((V.nth ((r3.drop 3).drop 3) 0).toList),V.int .i64 ((V.nth (((r3.drop 3).drop 3).drop 1) 0).toInt),.list ab ((V.nth ((((r3.drop 3).drop 3).drop 1).drop 1) 0).toList),.list ab ((V.nth (((((r3.drop 3).drop 3).drop 1).drop 1).drop 1) 0).toList),.list ab ((V.nth ((((((r3.drop 3).drop 3).drop 1).drop 1).drop 1).drop 1) 0).toList),.list ab ((V.nth (((((((r3.drop 3).drop 3).drop 1).drop 1).drop 1).drop 1).drop 1) 0).toList),.list ab ((V.nth ((((((((r3.drop 3).drop 3).drop 1).drop 1).drop 1).drop 1).drop 1).drop 1) 0).toList),.list ab ((V.nth (((((((((r3.drop 3).drop 3).drop 1).drop 1).drop 1).drop 1).drop 1).drop 1).drop 1) 0).toList),.list ab ((V.nth ((((((((((r3.drop 3).drop 3).drop 1).drop 1).drop 1).drop 1).drop 1).drop 1).drop 1).drop 1) 0).toList),.list ab ((V.nth (((((((((((r3.drop 3).drop 3).drop 1).drop 1).drop 1).drop 1).drop 1).drop 1).drop 1).drop 1).drop 1) 0).toList),.list ab ((V.nth ((((((((((((r3.drop 3).drop 3).drop 1).drop 1).drop 1).drop 1).drop 1).drop 1).drop 1).drop 1).drop 1).drop 1) 0).toList),.list ab ((V.nth (((((((((((((r3.drop 3).drop 3).drop 1).drop 1).drop 1).drop 1).drop 1).drop 1).drop 1).drop 1).drop 1).drop 1).drop 1) 0).toList),.list ab ((V.nth ((((((((((((((r3.drop 3).drop 3).drop 1).drop 1).drop 1).drop 1).drop 1).drop 1).drop 1).drop 1).drop 1).drop 1).drop 1).drop 1) 0).toList),.list ab ((V.nth (((r3.drop 3).drop 3).drop 13) 0).toList)]).bind fun r4=>
    some [V.int .i64 ((V.nth r3 0).toInt),V.int .i64 0,.list ab ((V.nth ((r4.drop 3).drop 13) 0).toList)]
   else
    bif (V.nth ((r3.drop 1).drop 1) 0).toBool then
    some [V.int .i64 ((V.nth r3 0).toInt),V.int .i64 9,.list ab ([]:LV)]
    else
    some [V.int .i64 0,V.int .i64 7,.list ab ([]:LV)]
theorem ajw {table dM:LV} {ma mb:Int} {mc:LV} {me mf:Int} {mg:LV} {eg:Int} {r:Option LV} (h:vZ CC table dM ma mb mc me mf mg eg=r):CC Ga [.list ag table,.list ab dM,V.int .i64 ma,V.int .i64 mb,.list ai mc,V.int .i64 me,V.int .i64 mf,.list ai mg,V.int .i64 eg]=r:=bI (L:=bH) av h
structure gF where
 l0:Int
 l1:Int
 l2:LV
 r0:Int
 r1:Int
 r2:LV
 p:List (Nat×Nat)
 q:List (Nat×Nat)
 o1:Nat→Bool
 e1:Nat→Bool
 bC:Nat→Bool
 bD:Nat→Bool
 nv:Nat
def cS (d:gF):List V:=[.int .i64 d.l0,.int .i64 d.l1,.list ai d.l2,.int .i64 d.r0,.int .i64 d.r1,.list ai d.r2]
def cU (o e:Nat→Bool):List V:=[.bool (o 0),.bool (o 1),.bool (o 2),.bool (o 3),.bool (o 4),.bool (o 5),.bool (e 0),.bool (e 1),.bool (e 2),.bool (e 3),.bool (e 4),.bool (e 5)]
structure nc (d:gF):Prop where
 val:CC mq (cS d)=some [.int .i64 0]
 cl:CC fO [.int .i64 d.l0,.int .i64 d.l1,.list ai d.l2]=some [.list bG (d.p.map cg)]
 cr:CC fO [.int .i64 d.r0,.int .i64 d.r1,.list ai d.r2]=some [.list bG (d.q.map cg)]
 v1:CC gE ([.int .i64 d.l0,.int .i64 d.l1,.list ai d.l2,.int .i64 0,.int .i64 0,.list ai []]++cU (fun _=>false) (fun _=>false))=some (cU d.o1 d.e1)
 v2:CC gE ([.int .i64 d.r0,.int .i64 d.r1,.list ai d.r2,.int .i64 0,.int .i64 0,.list ai []]++cU d.o1 d.e1)=some (cU d.bC d.bD)
 vars:CC nH [.list ai [.agg [.int .i64 d.l0,.int .i64 d.l1,.list ai d.l2],.agg [.int .i64 d.r0,.int .i64 d.r1,.list ai d.r2]]]=some [.int .i64 (d.nv:Int)]
 nv:d.nv≤6
 Zb: ∀s∈d.p,fp s
 Zc: ∀s∈d.q,fp s
 lp:d.p.length≤1000
 lq:d.q.length≤1000
 wp:ng d.nv d.p 0=some 1
 wq:ng d.nv d.q 0=some 1
section
variable {K:Nat} {mul:Nat→Nat→Nat} (h:Tb K mul) (ha: ∀i j k,i<K→j<K→k<K→mul (mul i j) k=mul i (mul j k)) (ae: ∀j,j<K→mul 0 j=j∧mul j 0=j) {Z:List Nat} (hZ: ∀z∈Z,z<K) (th:Z.length≤400) {d:gF} (hd:nc d)
include hZ th hd
end
noncomputable def JQ (C:af) (s:LV) (v t7 t8:Int) {β:Type} (kn:Int→Option β) (kr:((Int) ⊕ (Int×Bool))→Option β):Option β:=
 bif decide (t8<t7) then
  (idx s t8).bind fun x1=>
  bif v==x1.toInt then
  kr (.inl t8)
  else
  kn (wrap .i64 (t8+1))
 else
  kr (.inr (t8,decide (t8<t7)))
noncomputable def PK (C:af) (s:LV) (v t7:Int):=fun t8=>JQ C s v t7 t8 (fun y=>some (Sum.inl y)) (fun r=>some (Sum.inr r))
noncomputable def axg (C:af):cL:=bR 33 Vk [EQ,EQ,EQ,H1] [[0],[1,2,3,0,0]] (@JQ C) bH
theorem axh (C:af):bA C (axg C) 102 (Lp [1,0,1,0,0] 102):=bS Vk [EQ,EQ,EQ,H1] [[0],[1,2,3,0,0]] (@JQ C) (bu av)
noncomputable def Xj (C:af) (s:LV) (v:Int):Option LV:=
 (Loop (PK C s v (s.length:Int)) 0).bind (fX (fun A7=>
  some [V.int .i64 A7]) (un fun (kO:Int) (nK:Bool)=>
  some [V.int .i64 (-1)]))
theorem agY {s:LV} {v:Int} {r:Option LV} (h:Xj CC s v=r):CC NS [.list ab s,V.int .i64 v]=r:=bI (bB (axh CC) av) h
noncomputable def agZ (C:af) (s:LV) (v:Int):Option LV:=
 (C NS [.list ab s,V.int .i64 v]).bind fun r1=>
 some [.bool (decide ((((V.nth r1 0).toInt):Int)≥0))]
theorem axi {s:LV} {v:Int} {r:Option LV} (h:agZ CC s v=r):CC NN [.list ab s,V.int .i64 v]=r:=bI (L:=bH) av h
noncomputable def JR (C:af) (n ss:Int) (ba:LV) (oh oj:Int) (om:Bool) (oo ms:Int) (aF aO bj bN bK ec iX gp ga gb gu gI dU gW lu:LV) (i:Int) (gf iA:LV) {β:Type} (kn:(Int×LV×LV)→Option β) (kr:(Int×Bool×LV×LV)→Option β):Option β:=
 bif decide (i<n) then
  aM ga i fun x3=>
  bif (decide (0≤x3.toInt))&&(decide (x3.toInt<(gf.length:Int))) then
  (gf[(x3.toInt:Int).toNat]?).bind fun x4=>
  aM gb i fun x5=>
  bif Nat.ble (x4.toStr.length+(lE ([.int .u8 (wrap .u8 (wrap .i64 (97+x5.toInt)))]:LV)).length) pN then
   aM gf i fun x6=>
   aM iA i fun x7=>
   kn (wrap .i64 (i+1),bm gf i (.str (x4.toStr++(lE ([.int .u8 (wrap .u8 (wrap .i64 (97+x5.toInt)))]:LV)))),bm iA i (.bool true))
  else none
  else none
 else
  kr (i,decide (i<n),gf,iA)
noncomputable def JS (C:af) (n ss:Int) (ba:LV) (oh oj:Int) (om:Bool) (oo ms:Int) (aF aO bj bN bK ec iX gp ga gb gu gI dU gW lu:LV):=un fun i=>un fun gf iA=>JR C n ss ba oh oj om oo ms aF aO bj bN bK ec iX gp ga gb gu gI dU gW lu i gf iA (fun y=>some (Sum.inl y)) (fun r=>some (Sum.inr r))
noncomputable def JT (C:af) (n i t87 t88 ss:Int) (ba:LV) (oh oj:Int) (om:Bool) (oo ms:Int) (vo aO bj bN bK ec iX gp ga gb gu gI gf gW lu iA:LV) (j:Int) (dU:LV) {β:Type} (kn:(Int×LV)→Option β) (kr:(Int×Bool×LV)→Option β):Option β:=
 bif decide (j<n) then
  aM dU i fun x20=>
  aM dU i fun x21=>
  aM gb j fun Ph=>
  (fm Tryz.prog ag dU [(i.toNat,0)]).bind fun x23=>
  bif (decide (0≤Ph.toInt))&&(decide (Ph.toInt<(x23.toList.length:Int))) then
  (fm Tryz.prog ag dU [(i.toNat,0)]).bind fun O0=>
  (O0.toList[(Ph.toInt:Int).toNat]?).bind fun Xk=>
  bif (decide (0≤Xk.toInt))&&(decide (Xk.toInt<(vo.length:Int))) then
   (vo[(Xk.toInt:Int).toNat]?).bind fun OZ=>
   aM gu j fun x27=>
   (idx OZ.toList x27.toInt).bind fun x28=>
   (fm Tryz.prog ag dU [(i.toNat,0)]).bind fun x29=>
   bif (decide (0≤j))&&(decide (j<(x29.toList.length:Int))) then
   (fm Tryz.prog ag dU [(i.toNat,0)]).bind fun x30=>
   (x30.toList[j.toNat]?).bind fun x31=>
   kn (wrap .i64 (j+1),setRow Tryz.prog (bm x30.toList j (V.int .i64 x28.toInt)) ag dU [(i.toNat,0)])
   else none
  else none
  else none
 else
  kr (j,decide (j<n),dU)
noncomputable def Ey (C:af) (n i t87 t88 ss:Int) (ba:LV) (oh oj:Int) (om:Bool) (oo ms:Int) (vo aO bj bN bK ec iX gp ga gb gu gI gf gW lu iA:LV):=un fun j dU=>JT C n i t87 t88 ss ba oh oj om oo ms vo aO bj bN bK ec iX gp ga gb gu gI gf gW lu iA j dU (fun y=>some (Sum.inl y)) (fun r=>some (Sum.inr r))
noncomputable def JU (C:af) (n t87 ss:Int) (ba:LV) (oh oj:Int) (om:Bool) (oo ms:Int) (vo aO bj bN bK ec iX gp ga gb gu gI gf gW lu:LV) (t88:Int) (dU iA:LV) {β:Type} (kn:(Int×LV×LV)→Option β) (kr:(Int×Bool×LV×LV)→Option β):Option β:=
 bif decide (t88<t87) then
  aM vo t88 fun lx=>
  bif decide (0<(iA.length:Int)) then
  (iA[0]?).bind fun PD=>
  bif PD.toBool then
   bif decide (0<(iA.length:Int)) then
   (iA[0]?).bind fun Mt=>
   bif (decide (0≤n))&&((decide (n≤n))&&(Nat.ble ((n.toNat)*8) aY)) then
    aM dU t88 fun CY=>
    aM (bm dU t88 (.list ab (List.replicate (n.toNat) (V.int .i64 0)))) t88 fun CZ=>
    (fm Tryz.prog ag (bm dU t88 (.list ab (List.replicate (n.toNat) (V.int .i64 0)))) [(t88.toNat,0)]).bind fun tx=>
    bif decide (0<(tx.toList.length:Int)) then
    (fm Tryz.prog ag (bm dU t88 (.list ab (List.replicate (n.toNat) (V.int .i64 0)))) [(t88.toNat,0)]).bind fun C3=>
    (C3.toList[0]?).bind fun Ew=>
    (Loop (Ey C n t88 t87 t88 ss ba oh oj om oo ms vo aO bj bN bK ec iX gp ga gb gu gI gf gW lu (iA.set 0 (.bool true))) (1,setRow Tryz.prog (C3.toList.set 0 (V.int .i64 t88)) ag (bm dU t88 (.list ab (List.replicate (n.toNat) (V.int .i64 0)))) [(t88.toNat,0)])).bind (un fun aAK=>un fun (awN:Bool) (A5:LV)=>
     kn (wrap .i64 (t88+1),A5,iA.set 0 (.bool true)))
    else none
   else none
   else none
  else
   (C NN [.list ab lx.toList,V.int .i64 0]).bind fun r35=>
   bif decide (0<(iA.length:Int)) then
   (iA[0]?).bind fun x36=>
   bif (decide (0≤n))&&((decide (n≤n))&&(Nat.ble ((n.toNat)*8) aY)) then
    aM dU t88 fun x37=>
    aM (bm dU t88 (.list ab (List.replicate (n.toNat) (V.int .i64 0)))) t88 fun x38=>
    (fm Tryz.prog ag (bm dU t88 (.list ab (List.replicate (n.toNat) (V.int .i64 0)))) [(t88.toNat,0)]).bind fun x39=>
    bif decide (0<(x39.toList.length:Int)) then
    (fm Tryz.prog ag (bm dU t88 (.list ab (List.replicate (n.toNat) (V.int .i64 0)))) [(t88.toNat,0)]).bind fun x40=>
    (x40.toList[0]?).bind fun x41=>
    (Loop (Ey C n t88 t87 t88 ss ba oh oj om oo ms vo aO bj bN bK ec iX gp ga gb gu gI gf gW lu (iA.set 0 (.bool ((V.nth r35 0).toBool)))) (1,setRow Tryz.prog (x40.toList.set 0 (V.int .i64 t88)) ag (bm dU t88 (.list ab (List.replicate (n.toNat) (V.int .i64 0)))) [(t88.toNat,0)])).bind (un fun aAL=>un fun (Ww:Bool) (I6:LV)=>
     kn (wrap .i64 (t88+1),I6,iA.set 0 (.bool ((V.nth r35 0).toBool))))
    else none
   else none
   else none
  else none
 else
  kr (t88,decide (t88<t87),dU,iA)
noncomputable def PM (C:af) (n t87 ss:Int) (ba:LV) (oh oj:Int) (om:Bool) (oo ms:Int) (vo aO bj bN bK ec iX gp ga gb gu gI gf gW lu:LV):=un fun t88=>un fun dU iA=>JU C n t87 ss ba oh oj om oo ms vo aO bj bN bK ec iX gp ga gb gu gI gf gW lu t88 dU iA (fun y=>some (Sum.inl y)) (fun r=>some (Sum.inr r))
noncomputable def JV (C:af) (n k' t163 t164 t176 Ez:Int) (ba:LV) (oh oj:Int) (om:Bool) (oo ms Xl:Int) (Xm:LV) (Xn:Int) (Bq Xo bK ec iX gp ga gb gu gI dU gf gW lu iA EA ag0:LV) (t177:Int) (rI:LV) {β:Type} (kn:(Int×LV)→Option β) (kr:(Int×Bool×LV)→Option β):Option β:=
 bif decide (t177<t176) then
  aM Xo t177 fun x51=>
  aM rI k' fun x52=>
  (C NO [V.int .i64 Xl,.list ak Xm,V.int .i64 Xn,.list ab x51.toList]).bind fun r53=>
  (fm Tryz.prog oP rI [(k'.toNat,0)]).bind fun x54=>
  bif (decide (0≤t177))&&(decide (t177<(x54.toList.length:Int))) then
  (fm Tryz.prog oP rI [(k'.toNat,0)]).bind fun x55=>
  (x55.toList[t177.toNat]?).bind fun x56=>
  kn (wrap .i64 (t177+1),setRow Tryz.prog (bm x55.toList t177 (.bool ((V.nth r53 0).toBool))) oP rI [(k'.toNat,0)])
  else none
 else
  kr (t177,decide (t177<t176),rI)
noncomputable def PN (C:af) (n k' t163 t164 t176 Ez:Int) (ba:LV) (oh oj:Int) (om:Bool) (oo ms Xl:Int) (Xm:LV) (Xn:Int) (Bq Xo bK ec iX gp ga gb gu gI dU gf gW lu iA EA ag0:LV):=un fun t177 rI=>JV C n k' t163 t164 t176 Ez ba oh oj om oo ms Xl Xm Xn Bq Xo bK ec iX gp ga gb gu gI dU gf gW lu iA EA ag0 t177 rI (fun y=>some (Sum.inl y)) (fun r=>some (Sum.inr r))
noncomputable def JW (C:af) (n t163 Ez:Int) (ba:LV) (oh oj:Int) (om:Bool) (oo ms:Int) (Bq bj bN bK ec iX gp ga gb gu gI dU gf gW lu iA EA:LV) (t164:Int) (rI:LV) {β:Type} (kn:(Int×LV)→Option β) (kr:(Int×Bool×LV)→Option β):Option β:=
 bif decide (t164<t163) then
  aM Bq t164 fun Xp=>
  bif (decide (0≤n))&&((decide (n≤n))&&(Nat.ble ((n.toNat)*1) aY)) then
  aM rI t164 fun x50=>
  (Loop (PN C n t164 t163 t164 (ga.length:Int) Ez ba oh oj om oo ms ((Xp.cell 0).toInt) ((Xp.cell 1).toList) ((Xp.cell 2).toInt) Bq ga bj bN bK ec iX gp gb gu gI dU gf gW lu iA EA) (0,bm rI t164 (.list ak (List.replicate (n.toNat) (V.bool false))))).bind (un fun aue=>un fun (auf:Bool) (axj:LV)=>
   kn (wrap .i64 (t164+1),axj))
  else none
 else
  kr (t164,decide (t164<t163),rI)
noncomputable def PO (C:af) (n t163 Ez:Int) (ba:LV) (oh oj:Int) (om:Bool) (oo ms:Int) (Bq bj bN bK ec iX gp ga gb gu gI dU gf gW lu iA EA:LV):=un fun t164 rI=>JW C n t163 Ez ba oh oj om oo ms Bq bj bN bK ec iX gp ga gb gu gI dU gf gW lu iA EA t164 rI (fun y=>some (Sum.inl y)) (fun r=>some (Sum.inr r))
noncomputable def JX (C:af):cL:=bR 145 UY [EQ,H1,EQ,EQ,EQ,EQ,EQ,EQ,EQ,EQ,EQ,EQ,EQ,EQ,EQ,EQ,EQ,EQ,EQ,EQ,EQ,EQ,H1,EQ,EQ,H1] [[1,0,0,3,4,5,6,7,8,9,10,11,12,13,14,15,16,17,18,19,20,21,22,0,24,25,0]] (@JR C) (bR 321 UZ [EQ,EQ,H1,EQ,EQ,EQ,EQ,EQ,EQ,EQ,EQ,EQ,EQ,EQ,EQ,EQ,EQ,EQ,EQ,EQ,EQ,EQ,EQ,EQ,H1,EQ,EQ,EQ,EQ] [[1,2,0,4,5,0,6,7,8,9,10,11,12,13,14,15,16,17,18,19,20,21,22,23,24,0,26,27,28,29]] (@JT C) (bR 225 U0 [EQ,EQ,H1,EQ,EQ,EQ,EQ,EQ,EQ,EQ,EQ,EQ,EQ,EQ,EQ,EQ,EQ,EQ,EQ,EQ,EQ,EQ,H1,EQ,EQ,EQ,H1] [[1,2,0,0,4,5,6,7,8,9,10,11,12,13,14,15,16,17,18,19,20,21,22,0,24,25,26,0]] (@JU C) (bR 481 U3 [EQ,EQ,EQ,EQ,EQ,H1,EQ,EQ,EQ,EQ,EQ,EQ,EQ,H1,EQ,EQ,EQ,EQ,EQ,EQ,EQ,EQ,EQ,EQ,EQ,EQ,EQ,EQ,EQ,EQ,EQ,EQ,EQ,EQ] [[1,2,3,4,5,0,0,7,8,9,10,11,12,13,0,15,16,17,18,19,20,21,22,23,24,25,26,27,28,29,30,31,32,33,34]] (@JV C) (bR 417 U4 [EQ,EQ,H1,EQ,EQ,EQ,EQ,EQ,EQ,EQ,H1,EQ,EQ,EQ,EQ,EQ,EQ,EQ,EQ,EQ,EQ,EQ,EQ,EQ,EQ,EQ,EQ,EQ] [[1,2,0,0,4,5,6,7,8,9,10,0,12,13,14,15,16,17,18,19,20,21,22,23,24,25,26,27,28]] (@JW C) bH))))
theorem axk (C:af):bA C (JX C) 50 (Lp [1,1,1,1,1,1,0,1,0,0] 50):=bS UY [EQ,H1,EQ,EQ,EQ,EQ,EQ,EQ,EQ,EQ,EQ,EQ,EQ,EQ,EQ,EQ,EQ,EQ,EQ,EQ,EQ,EQ,H1,EQ,EQ,H1] [[1,0,0,3,4,5,6,7,8,9,10,11,12,13,14,15,16,17,18,19,20,21,22,0,24,25,0]] (@JR C) (bu av)
theorem axl (C:af):bA C (JX C) 50 (Lp [1,1,1,1,1,1,1,0,1,0,0,1,1,0,0,1,1,1,1,1,0,0] 50):=bS UZ [EQ,EQ,H1,EQ,EQ,EQ,EQ,EQ,EQ,EQ,EQ,EQ,EQ,EQ,EQ,EQ,EQ,EQ,EQ,EQ,EQ,EQ,EQ,EQ,H1,EQ,EQ,EQ,EQ] [[1,2,0,4,5,0,6,7,8,9,10,11,12,13,14,15,16,17,18,19,20,21,22,23,24,0,26,27,28,29]] (@JT C) (bu av)
theorem axm (C:af):bA C (JX C) 50 (Lp [1,1,1,1,1,1,1,0,1,0,0] 50):=bS U0 [EQ,EQ,H1,EQ,EQ,EQ,EQ,EQ,EQ,EQ,EQ,EQ,EQ,EQ,EQ,EQ,EQ,EQ,EQ,EQ,EQ,EQ,H1,EQ,EQ,EQ,H1] [[1,2,0,0,4,5,6,7,8,9,10,11,12,13,14,15,16,17,18,19,20,21,22,0,24,25,26,0]] (@JU C) (bu (bB (axl C) av))
theorem axn (C:af):bA C (JX C) 50 (Lp [1,1,1,1,1,1,1,1,1,0,1,0,0,1,1,0,0,1,1,1,0,0] 50):=bS U3 [EQ,EQ,EQ,EQ,EQ,H1,EQ,EQ,EQ,EQ,EQ,EQ,EQ,H1,EQ,EQ,EQ,EQ,EQ,EQ,EQ,EQ,EQ,EQ,EQ,EQ,EQ,EQ,EQ,EQ,EQ,EQ,EQ,EQ] [[1,2,3,4,5,0,0,7,8,9,10,11,12,13,0,15,16,17,18,19,20,21,22,23,24,25,26,27,28,29,30,31,32,33,34]] (@JV C) (bu av)
theorem axo (C:af):bA C (JX C) 50 (Lp [1,1,1,1,1,1,1,1,1,0,1,0,0] 50):=bS U4 [EQ,EQ,H1,EQ,EQ,EQ,EQ,EQ,EQ,EQ,H1,EQ,EQ,EQ,EQ,EQ,EQ,EQ,EQ,EQ,EQ,EQ,EQ,EQ,EQ,EQ,EQ,EQ] [[1,2,0,0,4,5,6,7,8,9,10,0,12,13,14,15,16,17,18,19,20,21,22,23,24,25,26,27,28]] (@JW C) (bu (bB (axn C) av))
noncomputable def JY (C:af) (ss:Int) (ba aI:LV):Option LV:=
 (C NM [.list ag ba,.bool true]).bind fun r1=>
 bif (((V.nth (r1.drop 3) 0).toInt):Int) != 0 then
  some [V.int .i64 0,.list ag ([]:LV),.list cv ([]:LV),.list ab ([]:LV),.list ak ([]:LV),.list ak ([]:LV),.list oP ([]:LV),V.int .i64 ((V.nth (r1.drop 3) 0).toInt),V.int .i64 ss,.list ag ba,.list kD aI]
 else
  bif decide (((((V.nth ((r1.drop 4).drop 1) 0).toList).length:Int):Int)>400) then
  some [V.int .i64 0,.list ag ([]:LV),.list cv ([]:LV),.list ab ([]:LV),.list ak ([]:LV),.list ak ([]:LV),.list oP ([]:LV),V.int .i64 3,V.int .i64 ss,.list ag ba,.list kD aI]
  else
  bif (decide (0≤(((V.nth ((r1.drop 4).drop 1) 0).toList).length:Int)))&&((decide ((((V.nth ((r1.drop 4).drop 1) 0).toList).length:Int)≤(((V.nth ((r1.drop 4).drop 1) 0).toList).length:Int)))&&(Nat.ble ((((((V.nth ((r1.drop 4).drop 1) 0).toList).length:Int):Int).toNat)*24) aY)) then
   bif (decide (0≤(((V.nth ((r1.drop 4).drop 1) 0).toList).length:Int)))&&((decide ((((V.nth ((r1.drop 4).drop 1) 0).toList).length:Int)≤(((V.nth ((r1.drop 4).drop 1) 0).toList).length:Int)))&&(Nat.ble ((((((V.nth ((r1.drop 4).drop 1) 0).toList).length:Int):Int).toNat)*16) aY)) then
   bif decide (0<(((V.nth (((((r1.drop 4).drop 1).drop 1).drop 1).drop 1) 0).toList).length:Int)) then
    (((V.nth (((((r1.drop 4).drop 1).drop 1).drop 1).drop 1) 0).toList)[0]?).bind fun x2=>
    bif Nat.ble (x2.toList.length*8) aY then
    bif (decide (0≤(((V.nth ((r1.drop 4).drop 1) 0).toList).length:Int)))&&((decide ((((V.nth ((r1.drop 4).drop 1) 0).toList).length:Int)≤(((V.nth ((r1.drop 4).drop 1) 0).toList).length:Int)))&&(Nat.ble ((((((V.nth ((r1.drop 4).drop 1) 0).toList).length:Int):Int).toNat)*1) aY)) then
     (Loop (JS C (((V.nth ((r1.drop 4).drop 1) 0).toList).length:Int) ss ba 0 ((V.nth r1 0).toInt) ((V.nth (r1.drop 1) 0).toBool) ((V.nth ((r1.drop 1).drop 1) 0).toInt) (ba.length:Int) aI ([]:LV) ([]:LV) ([]:LV) ([]:LV) ([]:LV) ((V.nth (r1.drop 4) 0).toList) ((V.nth ((r1.drop 4).drop 1) 0).toList) ((V.nth (((r1.drop 4).drop 1).drop 1) 0).toList) ((V.nth ((((r1.drop 4).drop 1).drop 1).drop 1) 0).toList) ((V.nth (((((r1.drop 4).drop 1).drop 1).drop 1).drop 1) 0).toList) ((V.nth ((((((r1.drop 4).drop 1).drop 1).drop 1).drop 1).drop 1) 0).toList) (List.replicate (((((V.nth ((r1.drop 4).drop 1) 0).toList).length:Int):Int).toNat) (V.list ab ([]:LV))) x2.toList ([]:LV)) (1,List.replicate (((((V.nth ((r1.drop 4).drop 1) 0).toList).length:Int):Int).toNat) (V.str []),List.replicate (((((V.nth ((r1.drop 4).drop 1) 0).toList).length:Int):Int).toNat) (V.bool false))).bind (un fun i_8=>un fun (xd:Bool)=>un fun (rE:LV) (AY:LV)=>
      (Loop (PM C (((V.nth ((r1.drop 4).drop 1) 0).toList).length:Int) (((V.nth (((((r1.drop 4).drop 1).drop 1).drop 1).drop 1) 0).toList).length:Int) ss ba 0 ((V.nth r1 0).toInt) ((V.nth (r1.drop 1) 0).toBool) ((V.nth ((r1.drop 1).drop 1) 0).toInt) (ba.length:Int) ((V.nth (((((r1.drop 4).drop 1).drop 1).drop 1).drop 1) 0).toList) aI ([]:LV) ([]:LV) ([]:LV) ([]:LV) ([]:LV) ((V.nth (r1.drop 4) 0).toList) ((V.nth ((r1.drop 4).drop 1) 0).toList) ((V.nth (((r1.drop 4).drop 1).drop 1) 0).toList) ((V.nth ((((r1.drop 4).drop 1).drop 1).drop 1) 0).toList) ((V.nth ((((((r1.drop 4).drop 1).drop 1).drop 1).drop 1).drop 1) 0).toList) rE x2.toList ([]:LV)) (0,List.replicate (((((V.nth ((r1.drop 4).drop 1) 0).toList).length:Int):Int).toNat) (V.list ab ([]:LV)),AY)).bind (un fun aAM=>un fun (aAN:Bool)=>un fun (zI:LV) (uC:LV)=>
       bif (decide (0≤(aI.length:Int)))&&((decide ((aI.length:Int)≤(aI.length:Int)))&&(Nat.ble (((aI.length:Int).toNat)*24) aY)) then
       (Loop (PO C (((V.nth ((r1.drop 4).drop 1) 0).toList).length:Int) (aI.length:Int) ss ba 0 ((V.nth r1 0).toInt) ((V.nth (r1.drop 1) 0).toBool) ((V.nth ((r1.drop 1).drop 1) 0).toInt) (ba.length:Int) aI ([]:LV) ([]:LV) ([]:LV) ([]:LV) ([]:LV) ((V.nth (r1.drop 4) 0).toList) ((V.nth ((r1.drop 4).drop 1) 0).toList) ((V.nth (((r1.drop 4).drop 1).drop 1) 0).toList) ((V.nth ((((r1.drop 4).drop 1).drop 1).drop 1) 0).toList) ((V.nth (((((r1.drop 4).drop 1).drop 1).drop 1).drop 1) 0).toList) ((V.nth ((((((r1.drop 4).drop 1).drop 1).drop 1).drop 1).drop 1) 0).toList) zI rE x2.toList ([]:LV) uC) (0,List.replicate ((aI.length:Int).toNat) (V.list ak ([]:LV)))).bind (un fun aAO=>un fun (aAP:Bool) (axp:LV)=>
        some [V.int .i64 (ba.length:Int),.list ag zI,.list cv rE,.list ab x2.toList,.list ak ([]:LV),.list ak uC,.list oP axp,V.int .i64 0,V.int .i64 ss,.list ag ba,.list kD aI])
       else none))
    else none
    else none
   else none
   else none
  else none
theorem axq {ss:Int} {ba aI:LV} {r:Option LV} (h:JY CC ss ba aI=r):CC HO [V.int .i64 ss,.list ag ba,.list kD aI]=r:=bI (bB (axk CC) (bB (axm CC) (bB (axo CC) av))) h
theorem axr {l:List Nat} (hl:l.length≤1000000):CC NN [.list ab (nS l),.int .i64 0]=some [.bool (decide (0∈l))]:=by
 have key: ∃k:Int,CC NS [.list ab (nS l),.int .i64 0]=some [.int .i64 k]∧decide (k≥0)=decide (0∈l):=by
  have hL:=atb (step:=PK CC (nS l) 0 ((nS l).length:Int)) (fun i=>l.getD i 0==0) l.length (fun i=>(i:Int)) (fun i=> .inl (i:Int)) (.inr ((l.length:Int),false)) (fun i hi=> ?_) ?_
  ·rcases hL with ⟨i,hi,hb,_,e⟩|⟨hb,e⟩
   ·refine ⟨(i:Int),agY ?_,?_⟩
    ·unfold Xj;exact bs e rfl
    ·rw[ca (by omega),ca ?_];rw[cE hi,beq_iff_eq] at hb;exact hb▸dc hi
   ·refine ⟨-1,agY ?_,?_⟩
    ·unfold Xj;exact bs e rfl
    ·rw[cZ (by omega),cZ fun hm=> ?_];obtain ⟨i,hi,e⟩:=List.getElem_of_mem hm;have:=hb i hi;rw[cE hi,e] at this;cases this
  ·simp only[PK,JQ];rw[dC];refine bT (bn hi) (bs (iE hi) ?_);by_cases c:l[i]=0
   ·rw[aB (by rw[cE hi,c];rfl)];exact bT (by show ((0:Int)==((l[i]:Nat):Int))=true;rw[c];rfl) rfl
   ·rw[ax (by rw[cE hi];simpa using c)];refine bF (by show ((0:Int)==((l[i]:Nat):Int))=false;rw[qH];omega) ?_;rw[bq (by omega)]
  ·simp only[PK,JQ];rw[dC];refine bF (aX (aw _)) ?_;rw[aX (aw _)]
 obtain ⟨k,e,h⟩:=key;refine axi ?_;unfold agZ;rw[←h];exact bs e rfl
theorem getD_map {l:List Nat} {k:Nat→Nat} {i:Nat} (h:i<l.length):(l.map k).getD i 0=k (l.getD i 0):=by
 rw[cE (by simpa using h),cE h,BI]
theorem Xq {n:Nat} {f g k:List Nat} (hf:Tr n f) (hg:Tr n g):comp (comp f g) k=comp f (comp g k):=by
 unfold comp;rw[yX];exact pH fun i hi=>(getD_map (k:=fun i=>k.getD i 0) (by rw[hg.1];exact hf.2 i hi)).symm
theorem comp_id {n:Nat} {f:List Nat} (hf:Tr n f):comp f (List.range n)=f:=by
 refine sK (by simp[comp]) fun i h1 h2=> ?_;have:=hf.at h2;simp[comp,this]
def cw (S:List (List Nat)) (i j:Nat):Nat:=iz S (comp (S.getD i []) (S.getD j []))
def ua (S:List (List Nat)) (i j:Nat):LV:=tab S.length fun b=>if b<j then nV (cw S i b) else V.int .i64 0
def rJ (S:List (List Nat)) (i j:Nat):LV:=tab S.length fun a=>if a<i then .list ab (ua S a S.length) else if a=i then .list ab (ua S i j) else .list ab []
def sH (S:List (List Nat)) (i:Nat):LV:=tab S.length fun a=>if a<i then .list ab (ua S a S.length) else .list ab []
def v5 (L:Nat) (g:Nat→List Nat) (S:List (List Nat)) (i:Nat):Bool:=decide (∃a,a<i∧0∈eZ L g S (S.getD a []))
def j8 (L:Nat) (g:Nat→List Nat) (S:List (List Nat)) (i:Nat):LV:=tab S.length fun j=> .bool (if j=0 then v5 L g S i else true)
def Big (n:Nat):Prop:= ∃T:List (List Nat),T.Nodup∧(∀f∈T,Tr n f)∧400<T.length
section
variable {L n:Nat} {g:Nat→List Nat} {S:List (List Nat)} {P K:List Int} {R:List (List Nat)} {W:List (List UInt8)} {B:List Int} {s:List Nat}
theorem mL.row (h:mL L n S.length g S P K R W B s):R=S.map (eZ L g S):=by rw[h.rr,vu]
theorem mL.PQ (h:mL L n S.length g S P K R W B s) {i:Nat} (hi:i<S.length):(sV R)[i]? =some (tV (eZ L g S (S.getD i []))):=by
 rw[h.row];simp[sV,hi]
theorem mL.cl' (h:mL L n S.length g S P K R W B s) {f:List Nat} (hf:f∈S) {x:Nat} (hx:x<L):br g f x∈S:=h.cl f (by rw[vu];exact hf) x hx
theorem mL.word (h:mL L n S.length g S P K R W B s): ∀{i:Nat},i<S.length→∃w,WL L w∧S.getD i []=w.foldl (br g) (List.range n):=by
 intro i
 induction i using Nat.strongRecOn with
 | ind i ih=>
  intro hi;rcases EM i with rfl|h0
  ·refine ⟨[],WL.nil,?_⟩;have:=h.I.id;cases S with
   | nil=>cases this
   | cons a S=>exact dN this
  ·obtain ⟨p,x,_,_,hp,hx,e⟩:=h.I.p i h0 hi;obtain ⟨w,hw,e2⟩:=ih p hp (by omega);refine ⟨w++[x],WL.app.2 ⟨hw,WL.nil.cons hx⟩,?_⟩;rw[BO,←e2,e];rfl
theorem mL.ag1 (h:mL L n S.length g S P K R W B s) (hg: ∀x,x<L→Tr n (g x)) {f:List Nat} (hf:f∈S): ∀{j:Nat},j<S.length→comp f (S.getD j [])∈S:=by
 intro j hj
 induction j using Nat.strongRecOn with
 | ind j ih=>
  rcases EM j with rfl|h0
  ·have:S.getD 0 []=List.range n:=by
    have:=h.I.id;cases S with
    | nil=>cases this
    | cons a S=>exact dN this
   rw[this,comp_id (h.I.tr f hf)];exact hf
  ·obtain ⟨p,x,_,_,hp,hx,e⟩:=h.I.p j h0 hj;have eL:p<S.length:=by omega
   have Xr:Tr n (S.getD p []):=by rw[cE eL];exact h.I.tr _ (dc eL)
   rw[e,←Xq (h.I.tr f hf) Xr];exact h.cl' (ih p hp eL) hx
theorem mL.axs (h:mL L n S.length g S P K R W B s) (hg: ∀x,x<L→Tr n (g x)) {i j:Nat} (hi:i<S.length) (hj:j<S.length):cw S i j<S.length:=
 tW (h.ag1 hg (by rw[cE hi];exact dc hi) hj)
section
variable (h:mL L n S.length g S P K R W B s) (hg: ∀x,x<L→Tr n (g x))
include h hg
theorem ag2 {i:Nat} (hi:i<S.length) {k1 k2 k3 k4 k5 k6 k7:Int} {k8:Bool} {l1 l2 l3 l4 l5 l6 l7 l8 l9 l10 l11 l12 l13 l14:LV}:
  Loop (Ey CC (S.length:Int) (i:Int) k1 k2 k3 l1 k4 k5 k8 k6 k7 (sV R) l2 l3 l4 l5 l6 l7 l8 l9 (iL P) (iL K) l10 l11 l12 l13 l14) (1,rJ S i 1)=some ((S.length:Int),false,rJ S i S.length):=by
 have hlen:=h.I.len;have kY: ∀{j:Nat},(rJ S i j)[i]? =some (.list ab (ua S i j)):=fun {j}=>by unfold rJ;rw[mz hi,dq,dp]
 have hl: ∀{j:Nat},(ua S i j).length=S.length:=fun {j}=>eG;have js: ∀{j:Nat},j<S.length→(rJ S i j).set i (.list ab ((ua S i j).set j (nV (cw S i j))))=rJ S i (j+1):=fun {j} hj=>by
  unfold rJ ua;rw[lO,lO];refine c8 fun a _=> ?_;by_cases c:a=i
  ·subst c;rw[dp,dq,dp];refine congrArg _ (c8 fun b _=> ?_);by_cases c2:b=j
   ·rw[aB c2,dp,c2]
   ·rw[ax c2];by_cases c3:b<j
    ·rw[aB c3,dp]
    ·rw[ax c3,dq]
  ·rw[ax c];by_cases c2:a<i
   ·rw[aB c2,aB c2]
   ·rw[ax c2,ax c,ax c2,ax c]
 have hfi:Tr n (S.getD i []):=by rw[cE hi];exact h.I.tr _ (dc hi)
 have key:=lN (step:=Ey CC (S.length:Int) (i:Int) k1 k2 k3 l1 k4 k5 k8 k6 k7 (sV R) l2 l3 l4 l5 l6 l7 l8 l9 (iL P) (iL K) l10 l11 l12 l13 l14) (fun j x=>x=((j:Int),rJ S i j)) (fun r=>r=((S.length:Int),false,rJ S i S.length)) (S.length-1) 1 (1,rJ S i 1) (fun j h1 hj x hx=> ?_) (fun x hx=> ?_) rfl
 ·obtain ⟨r,e,rfl⟩:=key;exact e
 ·subst hx;have hj:j<S.length:=by omega
  obtain ⟨p,x,eP,eK,hp,hx,e⟩:=h.I.p j (by omega) hj;have eL:p<S.length:=by omega
  have Xr:Tr n (S.getD p []):=by rw[cE eL];exact h.I.tr _ (dc eL)
  have hm:=h.axs hg hi eL;have hmm:S.getD (cw S i p) []=comp (S.getD i []) (S.getD p []):=by
   rw[cE hm];exact Wl (h.ag1 hg (by rw[cE hi];exact dc hi) eL)
  have hv:(eZ L g S (S.getD (cw S i p) [])).getD x 0=cw S i j:=by
   unfold eZ;rw[getD_map (by rw[jC];exact hx),cE (l:=List.range L) (by rw[jC];exact hx),BJ,hmm];unfold cw br;rw[Xq hfi Xr,←e]
  have hrl:(eZ L g S (S.getD (cw S i p) [])).length=L:=by simp[eZ]
  refine ⟨_,?_,rfl⟩;simp only[Ey,JT,un,aM,bm,Int.toNat_natCast];have g1:(ua S i j)[p]? =some (nV (cw S i p)):=by unfold ua;rw[mz eL,aB hp]
  have g2:(ua S i j)[j]? =some (.int .i64 0):=by unfold ua;rw[mz hj,dq]
  refine bT (bn hj) ((b7 kY).trans ((b7 kY).trans ((b7 (vk (by rw[h.I.lP];exact hj))).trans (bs (rb kY) ?_))));rw[eP,V.eH];refine bT (o5 (by rw[hl];exact eL)) (bs (rb kY) ?_);rw[V.eH,show (V.int IntKind.i64 (p:Int)).toInt.toNat=p from rfl];refine bs g1 (bT (o5 (by rw[yR,h.row,dE];exact hm)) (bs (by rw[show (nV (cw S i p)).toInt.toNat=cw S i p from rfl];exact h.PQ hm) ((b7 (vk (by rw[h.I.lK];exact hj))).trans ?_)));rw[eK,rG];refine bs (iE (i:=x) (by rw[hrl];exact hx)) (bs (rb kY) ?_);rw[V.eH];refine bT (o5 (by rw[hl];exact hj)) (bs (rb kY) ?_);rw[V.eH];refine bs g2 ?_;have ml:(eZ L g S (S.getD (cw S i p) []))[x]'(by rw[hrl];exact hx)=cw S i j:=(cE (d:=0) _).symm.trans hv;rw[GL kY,bq (by omega),←js hj,ml];rfl
 ·subst hx;have e1:1+(S.length-1)=S.length:=by have:=h.I.pos;omega
  rw[e1];refine ⟨_,?_,rfl⟩;simp only[Ey,JT,un];refine bF (aX (aw _)) ?_;rw[aX (aw _)]
end
end
section
variable {L n:Nat} {g:Nat→List Nat} {S:List (List Nat)} {P K:List Int} {R:List (List Nat)} {W:List (List UInt8)} {B:List Int} {s:List Nat}
section
variable (h:mL L n S.length g S P K R W B s) (hg: ∀x,x<L→Tr n (g x))
include h
theorem mL.EB:S.getD 0 []=List.range n:=by
 have:=h.I.id;cases S with
 | nil=>cases this
 | cons a S=>exact dN this
theorem mul_zero {i:Nat} (hi:i<S.length):cw S i 0=i:=by
 unfold cw;have:=h.I.tr _ (dc hi);rw[h.EB,cE hi,comp_id this];exact Wm h.I.nd hi
theorem axt {k1 k2 k3 k4 k5:Int} {k8:Bool} {l1 l2 l3 l4 l5 l6 l7 l8 l9 l10 l11 l12 l13 l14:LV}: ∃f:Nat→List UInt8,
  Loop (JS CC (S.length:Int) k1 l1 k2 k3 k8 k4 k5 l2 l3 l4 l5 l6 l7 l8 l9 (iL P) (iL K) l10 l11 l12 l13 l14) (1,List.replicate S.length (V.str []),List.replicate S.length (V.bool false))=some ((S.length:Int),false,tab S.length fun j=> .str (f j),j8 L g S 0):=by
 have hlen:=h.I.len;have key:=lN (step:=JS CC (S.length:Int) k1 l1 k2 k3 k8 k4 k5 l2 l3 l4 l5 l6 l7 l8 l9 (iL P) (iL K) l10 l11 l12 l13 l14)
  (fun i x=> ∃f:Nat→List UInt8,x=((i:Int),(tab S.length fun j=>V.str (f j)),tab S.length fun j=>V.bool (decide (0<j∧j<i)))∧∀j,(f j).length≤j)
  (fun r=> ∃f:Nat→List UInt8,r=((S.length:Int),false,(tab S.length fun j=>V.str (f j)),j8 L g S 0)) (S.length-1) 1
  (1,List.replicate S.length (V.str []),List.replicate S.length (V.bool false)) (fun i h1 hi x hx=> ?_) (fun x hx=> ?_) ⟨fun _=>[],?_,fun j=>by simp⟩
 ·obtain ⟨r,e,f,rfl⟩:=key;exact ⟨f,e⟩
 ·obtain ⟨f,rfl,hf⟩:=hx;have bU:i<S.length:=by omega
  obtain ⟨p,x,eP,eK,hp,hx,_⟩:=h.I.p i (by omega) bU;have eL:p<S.length:=by omega
  have hfp:=hf p;simp only[JS,JR,un,aM,bm];refine ⟨_,bT (bn bU) ((b7 (vk (by rw[h.I.lP];exact bU))).trans ?_),fun j=>if j=i then f p++lE [V.int .u8 (wrap .u8 (wrap .i64 (97+(x:Int))))] else f j,rfl,fun j=> ?_⟩
  ·rw[eP];refine bT (o5 (by simpa using eL)) (bs (by rw[show (V.int IntKind.i64 (p:Int)).toInt.toNat=p from rfl];exact mz eL) ((b7 (vk (by rw[h.I.lK];exact bU))).trans ?_));rw[eK];refine bT (yZ ?_) ((sb (by simpa using bU)).trans ((sb (by simpa using bU)).trans ?_))
   ·show (f p).length+1≤pN;unfold pN;omega
   ·rw[bq (by omega),Int.toNat_natCast,lO,lO];refine congrArg (fun t=>some (Sum.inl t)) (cI rfl (cI (c8 fun j _=> ?_) (c8 fun j _=> ?_)))
    ·dsimp only;by_cases c:j=i
     ·rw[aB c,aB c];rfl
     ·rw[ax c,ax c]
    ·by_cases c:j=i
     ·rw[aB c,ca (by omega)]
     ·rw[ax c];by_cases c2:0<j∧j<i
      ·rw[ca c2,ca (by omega)]
      ·rw[cZ c2,cZ (by omega)]
  ·dsimp only;by_cases c:j=i
   ·rw[aB c,hY];show _+1≤j;omega
   ·rw[ax c];exact hf j
 ·obtain ⟨f,rfl,hf⟩:=hx;have e1:1+(S.length-1)=S.length:=by have:=h.I.pos;omega
  rw[e1];simp only[JS,JR,un];refine ⟨_,bF (aX (aw _)) rfl,f,?_⟩;rw[aX (aw _)];refine cI rfl (cI rfl (cI rfl (c8 fun j hj=> ?_)));by_cases c:j=0
  ·rw[aB c,cZ (by omega)];exact congrArg V.bool (cZ (by rintro ⟨a,ha,_⟩;omega)).symm
  ·rw[ax c,ca (by omega)]
 ·rw[o6,o6];refine cI rfl (cI rfl (c8 fun j _=> ?_));rw[cZ (by omega)]
include hg
theorem axu (hL:L≤6) {k1 k2 k3 k4 k5:Int} {k8:Bool} {l1 l2 l3 l4 l5 l6 l7 l8 l9 l10 l11 l12 l13:LV}:
  Loop (PM CC (S.length:Int) (S.length:Int) k1 l1 k2 k3 k8 k4 k5 (sV R) l2 l3 l4 l5 l6 l7 l8 l9 (iL P) (iL K) l10 l11 l12 l13) (0,List.replicate S.length (V.list ab ([]:LV)),j8 L g S 0)=some ((S.length:Int),false,sH S S.length,j8 L g S S.length):=by
 have hlen:=h.I.len;have gM:=h.I.pos;rw[show List.replicate S.length (V.list ab ([]:LV))=sH S 0 from by rw[o6];exact c8 fun j _=>by rw[dq]];refine fI S.length (fun i=>((i:Int),sH S i,j8 L g S i)) _ (fun i hi=> ?_) ?_
 ·have hl:(j8 L g S i).length=S.length:=eG;have hy:(sH S i).length=S.length:=eG;have e0:(j8 L g S i)[0]? =some (.bool (v5 L g S i)):=mz gM;have hz:((sH S i).set i (V.list ab (List.replicate S.length (V.int .i64 0))))[i]? =some (V.list ab (List.replicate S.length (V.int .i64 0))):=by
   rw[qI (by rw[hy];exact hi)]
  have j9:setRow Tryz.prog ((List.replicate S.length (V.int .i64 0)).set 0 (V.int .i64 (i:Int))) ag ((sH S i).set i (V.list ab (List.replicate S.length (V.int .i64 0)))) [(i,0)]=rJ S i 1:=by
   rw[GL hz,BG];unfold sH rJ;rw[lO];refine c8 fun a _=> ?_;by_cases c:a=i
   ·subst c;rw[dp,dq,dp,o6,lO];refine congrArg _ (c8 fun b _=> ?_);by_cases c2:b=0
    ·rw[aB c2,dp,c2,mul_zero h hi];rfl
    ·rw[ax c2,dq]
   ·rw[ax c];by_cases c2:a<i
    ·rw[aB c2,aB c2]
    ·rw[ax c2,ax c2,ax c]
  have lj:rJ S i S.length=sH S (i+1):=c8 fun a _=>by
   by_cases c:a=i
   ·subst c;rw[dq,dp,dp]
   ·by_cases c2:a<i
    ·rw[dp,dp]
    ·rw[dq,ax c,dq]
  have eL: ∀c:Bool,c=v5 L g S (i+1)→(j8 L g S i).set 0 (.bool c)=j8 L g S (i+1):=fun c hc=>by
   unfold j8;rw[lO];refine c8 fun j _=> ?_;by_cases c2:j=0
   ·rw[aB c2,aB c2,hc]
   ·rw[ax c2,ax c2,ax c2]
  have PR:v5 L g S (i+1)=(v5 L g S i||decide (0∈eZ L g S (S.getD i []))):=by
   unfold v5;rw[xx,EI,ER,ER,ER];constructor
   ·rintro ⟨a,ha,hm⟩;rcases jD a i with c|c
    ·exact .inl ⟨a,c,hm⟩
    ·exact .inr (by rw[show i=a by omega];exact hm)
   ·rintro (⟨a,ha,hm⟩|hm)
    ·exact ⟨a,by omega,hm⟩
    ·exact ⟨i,by omega,hm⟩
  simp only[PM,JU,un,aM,bm,Int.toNat_natCast];have EC: ∀{l:LV},l.length=S.length→decide (0<(l.length:Int))=true:=fun {l} hl=>ca (by omega);have ED:(decide (0≤(S.length:Int))&&(decide ((S.length:Int)≤(S.length:Int))&&(S.length*8).ble aY))=true:=by
   have:=gG (n:=S.length) (m:=8) (by omega) (by omega);rwa [Int.toNat_natCast] at this
  have Nl:(sH S i)[i]? =some (.list ab []):=by unfold sH;rw[mz hi,dq]
  have hzi:(((sH S i).set i (V.list ab (List.replicate S.length (V.int .i64 0)))).length)=S.length:=by rw[pF,hy]
  have hz0:(List.replicate S.length (V.int .i64 0))[0]? =some (.int .i64 0):=by rw[List.getElem?_replicate,aB gM]
  cases hb:v5 L g S i with
  | true=>
   rw[hb] at e0 PR;refine bT (bn hi) ((b7 (h.PQ hi)).trans (bT (EC hl) (bs e0 (bT rfl (bT (EC hl) (bs e0 (bT ED ((b7 Nl).trans ((b7 hz).trans (bs (rb hz) ?_))))))))));rw[V.eH];refine bT (EC (by simp)) (bs (rb hz) ?_);rw[V.eH];refine bs hz0 ?_;rw[j9];refine bs (ag2 h hg hi) ?_;rw[eL true (by rw[PR];rfl),lj,bq (by omega)];rfl
  | false=>
   rw[hb] at e0 PR;have hC:=axr (l:=eZ L g S (S.getD i [])) (by rw[eZ,dE,jC];omega);refine bT (bn hi) ((b7 (h.PQ hi)).trans (bT (EC hl) (bs e0 (bF rfl (bs (by rw[rG];exact hC) (bT (EC hl) (bs e0 (bT ED ((b7 Nl).trans ((b7 hz).trans (bs (rb hz) ?_)))))))))));rw[V.eH];refine bT (EC (by simp)) (bs (rb hz) ?_);rw[V.eH];refine bs hz0 ?_;rw[j9];refine bs (ag2 h hg hi) ?_;rw[lj,bq (by omega)];show some (Sum.inl (_,_,(j8 L g S i).set 0 (V.bool (decide (0∈eZ L g S (S.getD i []))))))=_;rw[eL _ (by rw[PR];rfl)]
 ·simp only[PM,JU,un];refine bF (aX (aw _)) ?_;rw[aX (aw _)]
end
end
def ZJ (m:Da) (e:Int):List V:=[.int .i64 (m.L:Int),.int .i64 (m.st:Int),.int .i64 e,.list ak m.cG,.list ag m.cN]
end Go.AM
set_option maxRecDepth 100000
namespace Go.AM
open Go.IntKind (wrap)
open Go.Proofs
namespace Da
def JZ (a:Da) (k q:Nat):Prop:= ∃w,WL a.L w∧w.length≤k∧a.acc q w=true
def Live (a:Da) (q:Nat):Prop:= ∃w,WL a.L w∧a.acc q w=true
open Classical in
noncomputable def Qk (a:Da) (q:Nat):Bool:=decide (a.Live q)
theorem JZ.live {a:Da} {k q:Nat} (h:a.JZ k q):a.Live q:=by obtain ⟨w,h1,_,h3⟩:=h;exact ⟨w,h1,h3⟩
theorem JZ.mono {a:Da} {k m q:Nat} (h:a.JZ k q) (hk:k≤m):a.JZ m q:=by obtain ⟨w,h1,h2,h3⟩:=h;exact ⟨w,h1,by omega,h3⟩
end Da
def upd (r:Nat→Bool) (p:Nat) (b:Bool) (q:Nat):Bool:=if q=p then b else r q
structure LvI (a:Da) (r0 r:Nat→Bool) (c:Bool):Prop where
 sd: ∀q,q<a.n→r q=true→a.Live q
 up: ∀q,q<a.n→r0 q=true→r q=true
 yes:c=true→∃q,q<a.n∧r0 q=false∧r q=true
 no:c=false→∀q,q<a.n→r q=r0 q
section
variable {a:Da} (h:a.Ok)
include h
end
section
variable {a:Da} (h:a.Ok)
include h
end
end Go.AM
set_option maxRecDepth 100000
namespace Go.AM
open Go.IntKind (wrap)
open Go.Proofs
theorem jN {a:Da} (h:a.Ok):(minD a).Ok:=(v7 h).ok
theorem tj {a:Da} (h:a.Ok):(minD a).L=a.L:=(v7 h).hL
theorem Zj {a:Da} (h:a.Ok):(minD a).st=0:=(v7 h).st
theorem zF {a:Da} (h:a.Ok) {w:List Nat} (hw:WL a.L w):(minD a).acc (minD a).st w=a.acc a.st w:=by
 rw[Zj h];exact (v7 h).Eh w hw
theorem ag3 {a b:Da} (ha:a.Ok) (hb:b.Ok) (hL:a.L=b.L) (hl: ∀w,WL a.L w→a.acc a.st w=b.acc b.st w):minD a=minD b:=
 agA hb (hL▸Canon.congr (v7 ha) hl)
theorem axv {a:Da} (ha:a.Ok):minD (minD a)=minD a:=
 ag3 (jN ha) ha (tj ha) fun w hw=>zF ha (by rwa [tj ha] at hw)
noncomputable def v8 (C:af) (dy dH:Int) (c6 dI:LV):Option LV:=
 (C qS [V.int .i64 dy,V.int .i64 dH,.list ak c6,.list ag dI]).bind fun r1=>
 bif (((V.nth r1 0).toInt):Int) != 0 then
  some [V.int .i64 0,.list ag ([]:LV),.list cv ([]:LV),.list ab ([]:LV),.list ak ([]:LV),.list ak ([]:LV),V.int .i64 ((V.nth r1 0).toInt)]
 else
  (C uD [V.int .i64 dy,V.int .i64 dH,.list ak c6,.list ag dI]).bind fun r2=>
  (C Gh [V.int .i64 ((V.nth r2 0).toInt),V.int .i64 ((V.nth (r2.drop 1) 0).toInt),.list ak ((V.nth (r2.drop 2) 0).toList),.list ag ((V.nth ((r2.drop 2).drop 1) 0).toList),V.int .i64 0]).bind fun r3=>
  bif (((V.nth r3 0).toInt):Int) != 0 then
  some [V.int .i64 0,.list ag ([]:LV),.list cv ([]:LV),.list ab ([]:LV),.list ak ([]:LV),.list ak ([]:LV),V.int .i64 ((V.nth r3 0).toInt)]
  else
  (C HO [V.int .i64 ((V.nth (r3.drop 1) 0).toInt),.list ag ((V.nth ((r3.drop 1).drop 1) 0).toList),.list kD ((V.nth (((r3.drop 1).drop 1).drop 1) 0).toList)]).bind fun r4=>
  bif (((V.nth ((r4.drop 6).drop 1) 0).toInt):Int) != 0 then
   some [V.int .i64 0,.list ag ([]:LV),.list cv ([]:LV),.list ab ([]:LV),.list ak ([]:LV),.list ak ([]:LV),V.int .i64 ((V.nth ((r4.drop 6).drop 1) 0).toInt)]
  else
   (((V.nth (r4.drop 6) 0).toList)[0]?).bind fun x5=>
   some [V.int .i64 ((V.nth r4 0).toInt),.list ag ((V.nth (r4.drop 1) 0).toList),.list cv ((V.nth ((r4.drop 1).drop 1) 0).toList),.list ab ((V.nth (((r4.drop 1).drop 1).drop 1) 0).toList),.list ak x5.toList,.list ak ((V.nth (((((r4.drop 1).drop 1).drop 1).drop 1).drop 1) 0).toList),V.int .i64 0]
theorem LP {dy dH:Int} {c6 dI:LV} {r:Option LV} (h:v8 CC dy dH c6 dI=r):CC o4 [V.int .i64 dy,V.int .i64 dH,.list ak c6,.list ag dI]=r:=bI (L:=bH) av h
structure qb (m:Da) (S:List (List Nat)):Prop where
 tr: ∀f∈S,Tr m.n f
 nd:S.Nodup
 EB:S.getD 0 []=List.range m.n
 pos:0<S.length
 cl: ∀f∈S,∀x,x<m.L→br m.gT f x∈S
 re: ∀i,i<S.length→∃w,WL m.L w∧S.getD i []=w.foldl (br m.gT) (List.range m.n)
 le:S.length≤400
def qd (S:List (List Nat)):LV:=tab S.length fun i=> .list ab (tab S.length fun j=>nV (cw S i j))
def mA (m:Da) (S:List (List Nat)):LV:=nS (eZ m.L m.gT S (List.range m.n))
def nQ (m:Da) (S:List (List Nat)):LV:=tab S.length fun i=> .bool (m.fin ((S.getD i []).getD m.st 0))
def qc (m:Da) (S:List (List Nat)) (f:Nat→List UInt8):List V:=
 [.int .i64 (m.L:Int),.list ag (qd S),.list cv (tab S.length fun j=> .str (f j)),.list ab (mA m S),.list ak (nQ m S),.list ak (j8 m.L m.gT S S.length)]
def Zs (e:Int):List V:=[.int .i64 0,.list ag [],.list cv [],.list ab [],.list ak [],.list ak [],.int .i64 e]
theorem axw {S:List (List Nat)}:sH S S.length=qd S:=c8 fun i hi=>by
 rw[aB hi];exact congrArg _ (c8 fun j hj=>aB hj)
section
variable {m:Da} (h:m.Ok) (mB:m.n≤32)
include h mB
theorem axx {S:List (List Nat)} (hS: ∀f∈S,Tr m.n f) (hl:S.length≤400) {k1 k2 k3 k4 k5 k6 k7 k8:Int} {k9:Bool} {l1 l2 l3 l4 l5 l6 l7 l8 l9 l10 l11 l12 l13 l14 PS PT l17:LV}:
  Loop (PN CC k1 0 k2 k3 (S.length:Int) k4 l1 k5 k6 k9 k7 k8 (m.st:Int) m.cG 0 l2 (sV S) l3 l4 l5 l6 l7 l8 l9 l10 l11 l12 l13 l14 PS PT l17) (0,[V.list ak (List.replicate S.length (V.bool false))])=some ((S.length:Int),false,[V.list ak (nQ m S)]):=by
 refine ux (fun i a=>((i:Int),[V.list ak a])) S.length (fun i=> .bool (m.fin ((S.getD i []).getD m.st 0))) _ (by simp) (fun a=>((S.length:Int),false,[V.list ak a])) (fun i hi a ha=> ?_) ?_
 ·simp only[PN,JV,un,aM,bm];have e0:([V.list ak a]:LV)[0]? =some (.list ak a):=rfl;refine bT (bn hi) ((b7 (IW hi)).trans ((b7 (i:=0) e0).trans (bs (by rw[rG];exact avF h mB (hS _ (dc hi))) (bs (agH e0) ?_))));rw[V.eH];refine bT (o5 (by rw[ha];exact hi)) (bs (agH e0) ?_);rw[V.eH,Int.toNat_natCast];refine bs (bY (by rw[ha];exact hi)) ?_;rw[bq (by omega),cE hi];exact congrArg (fun t=>some (Sum.inl (((i+1:Nat):Int),t))) (avC e0)
 ·simp only[PN,JV,un];refine bF (aX (aw _)) ?_;rw[aX (aw _)]
theorem axy: ∃r,CC HO [.int .i64 (m.n:Int),.list ag (gV m.L m.gT),.list kD (tZ m)]=some r∧
  ((r=[.int .i64 0,.list ag [],.list cv [],.list ab [],.list ak [],.list ak [],.list oP [],.int .i64 3,.int .i64 (m.n:Int),.list ag (gV m.L m.gT),.list kD (tZ m)]∧Big m.n)∨
   ∃S,∃f:Nat→List UInt8,r=[.int .i64 (m.L:Int),.list ag (qd S),.list cv (tab S.length fun j=> .str (f j)),.list ab (mA m S),.list ak [],.list ak (j8 m.L m.gT S S.length),.list oP [.list ak (nQ m S)],.int .i64 0,.int .i64 (m.n:Int),.list ag (gV m.L m.gT),.list kD (tZ m)]∧qb m S):=by
 have hs:=h.s;have hL:=h.l6;have hg: ∀x,x<m.L→Tr m.n (m.gT x):=fun x hx=>h.gT hx;obtain ⟨r,e1,h1⟩:=auS (n:=m.n) (by omega) mB hg h.l1 h.l6;have fin: ∀z,JY CC (m.n:Int) (gV m.L m.gT) (tZ m)=z→CC HO [.int .i64 (m.n:Int),.list ag (gV m.L m.gT),.list kD (tZ m)]=z:=fun z h=>axq h;rcases h1 with ⟨rfl,T,t1,t2,t3⟩|⟨S,P,K,R,W,B,s,U,rfl,hE⟩
 ·refine ⟨_,fin _ ?_,.inl ⟨rfl,T,t1,t2,by omega⟩⟩;unfold JY;exact bs e1 (bT rfl rfl)
 ·rcases jD 400 S.length with c|c
  ·refine ⟨_,fin _ ?_,.inl ⟨rfl,S,hE.I.nd,hE.I.tr,c⟩⟩;unfold JY;exact bs e1 (bF rfl (bT (by show decide ((((sV S).length:Nat):Int)>400)=true;rw[yR];exact ca (by omega)) rfl))
  ·have gM:=hE.I.pos;obtain ⟨f,e2⟩:=axt (L:=m.L) (g:=m.gT) hE (k1:=(m.n:Int)) (k2:=0) (k3:=(m.n:Int)) (k4:=(S.length:Int)) (k5:=((gV m.L m.gT).length:Int)) (k8:=true) (l1:=gV m.L m.gT) (l2:=tZ m) (l3:=[]) (l4:=[]) (l5:=[]) (l6:=[]) (l7:=[]) (l8:=gV m.L m.gT) (l9:=sV S) (l10:=sV R) (l11:=U) (l12:=List.replicate S.length (V.list ab [])) (l13:=mA m S) (l14:=[]);refine ⟨_,fin _ ?_,.inr ⟨S,f,rfl,hE.I.tr,hE.I.nd,hE.EB,gM,fun f hf x hx=>hE.cl' hf hx,fun i hi=>hE.word hi,c⟩⟩;unfold JY;refine bs e1 (bF rfl (bF (by show decide ((((sV S).length:Nat):Int)>400)=false;rw[yR];exact cZ (by omega)) ?_));have lj:(sV R)[0]? =some (tV (eZ m.L m.gT S (List.range m.n))):=by rw[hE.PQ gM,hE.EB]
   have CE:(sV R).length=S.length:=by rw[yR,hE.row,dE]
   have e3:=axu hE hg hL (k1:=(m.n:Int)) (k2:=0) (k3:=(m.n:Int)) (k4:=(S.length:Int)) (k5:=((gV m.L m.gT).length:Int)) (k8:=true) (l1:=gV m.L m.gT) (l2:=tZ m) (l3:=[]) (l4:=[]) (l5:=[]) (l6:=[]) (l7:=[]) (l8:=gV m.L m.gT) (l9:=sV S) (l10:=U) (l11:=tab S.length fun j=> .str (f j)) (l12:=mA m S) (l13:=[]);have e4: ∀{k1 k2 k3 k4 k5:Int} {k8:Bool} {l1 l2 l3 l4 l5 l6 l7 l8 l9 l10 l11 l12 l13 l14 PS PT:LV},Loop (PO CC (S.length:Int) 1 k1 l1 k2 k3 k8 k4 k5 (tZ m) l2 l3 l4 l5 l6 l7 (sV S) l8 l9 l10 l11 l12 l13 l14 PS PT) (0,[V.list ak []])=some (1,false,[V.list ak (nQ m S)]):=by
    intro k1 k2 k3 k4 k5 k8 l1 l2 l3 l4 l5 l6 l7 l8 l9 l10 l11 l12 l13 l14 PS PT;refine fI 1 (fun i=>((i:Int),if i=0 then [V.list ak []] else [V.list ak (nQ m S)])) _ (fun i hi=> ?_) ?_
    ·obtain rfl:i=0:=by omega
     simp only[PO,JW,un,aM,bm];refine bT rfl ((b7 (es:=tZ m) (i:=0) rfl).trans (bT (gG (by omega) (by omega)) ((b7 (i:=0) (v:= .list ak []) rfl).trans ?_)));rw[yR];exact bs (axx h mB hE.I.tr c) rfl
    ·simp only[PO,JW,un];rfl
   have ED: ∀k,k≤1000→(decide (0≤(S.length:Int))&&(decide ((S.length:Int)≤(S.length:Int))&&(S.length*k).ble aY))=true:=fun k hk=>by
    have:=gG (n:=S.length) (m:=k) (by omega) hk;rwa [Int.toNat_natCast] at this
   have se:(nS (eZ m.L m.gT S (List.range m.n))).length≤6:=by rw[dC,eZ,dE,jC];exact hL
   simp only[List.drop_succ_cons,xm,V.TA,V.eH,V.toInt_int,V.Gz,yR,Int.toNat_natCast];refine bT (ED 24 (by omega)) (bT (ED 16 (by omega)) (bT (ca (by rw[hE.row,dE];omega)) (bs lj (bT (by rw[rG];exact cap (b:=0) (by omega) (by omega)) (bT (ED 1 (by omega)) ?_)))));rw[rG];refine bs e2 ?_;rw[show R.length=S.length by rw[hE.row,dE]];refine bs e3 ?_;simp only[un];rw[show (tZ m).length=1 from rfl];refine bT (gG (n:=1) (by omega) (by omega)) (bs e4 ?_);rw[axw,show (gV m.L m.gT).length=m.L from eG];rfl
end
theorem ajC {a:Da} (h:a.Ok) (mB:(minD a).n≤32):(CC o4 (eh a)=some (Zs 3)∧Big (minD a).n)∨∃S,∃f:Nat→List UInt8,CC o4 (eh a)=some (qc (minD a) S f++[.int .i64 0])∧qb (minD a) S:=by
 have hm:=jN h;obtain ⟨r,e,h1⟩:=axy hm mB;have fin: ∀z,v8 CC (a.L:Int) (a.st:Int) a.cG a.cN=z→CC o4 (eh a)=z:=fun z h=>LP h;rcases h1 with ⟨rfl,hb⟩|⟨S,f,rfl,hS⟩
 ·refine .inl ⟨fin _ ?_,hb⟩;unfold v8;exact bs (o7 h) (bF rfl (bs (yd h) (bs (agI hm mB) (bF rfl (bs e (bT rfl rfl))))))
 ·refine .inr ⟨S,f,fin _ ?_,hS⟩;unfold v8;refine bs (o7 h) (bF rfl (bs (yd h) (bs (agI hm mB) (bF rfl (bs e (bF rfl (bs (a:=V.list ak (nQ (minD a) S)) rfl ?_)))))));rw[V.eH];rfl
def ld (m:Da) (w:List Nat):List Nat:=w.foldl (br m.gT) (List.range m.n)
def vl (m:Da) (S:List (List Nat)) (w:List Nat):Nat:=iz S (ld m w)
section
variable {m:Da} (hm:m.Ok)
include hm
theorem ag4: ∀(w:List Nat) {f:List Nat},Tr m.n f→WL m.L w→Tr m.n (w.foldl (br m.gT) f)
 | [],_,hf,_=>hf
 | x::w,f,hf,hw=>ag4 w (f:=br m.gT f x) (hf.comp (hm.gT hw.head)) hw.tail
theorem Xs {w:List Nat} (hw:WL m.L w):Tr m.n (ld m w):=ag4 hm w IU hw
theorem axz: ∀(w:List Nat) {f:List Nat},Tr m.n f→WL m.L w→w.foldl (br m.gT) f=comp f (ld m w):=by
 intro w
 induction w with
 | nil=>exact fun {f} hf _=>(comp_id hf).symm
 | cons x w ih=>
  intro f hf hw;have h1:=hm.gT hw.head;have e1:ld m (x::w)=comp (m.gT x) (ld m w):=by
   show w.foldl (br m.gT) (br m.gT (List.range m.n) x)=_;rw[ih (f:=br m.gT (List.range m.n) x) (IU.comp h1) hw.tail,agh (L:=m.L) (fun x hx=>hm.gT hx) hw.head]
  rw[e1,←Xq hf h1];exact ih (hf.comp h1) hw.tail
theorem axA {u v:List Nat} (hu:WL m.L u) (hv:WL m.L v):ld m (u++v)=comp (ld m u) (ld m v):=by
 unfold ld;rw[BO];exact axz hm v (Xs hm hu) hv
theorem ag5: ∀(w:List Nat) {f:List Nat} {q:Nat},Tr m.n f→q<m.n→WL m.L w→(w.foldl (br m.gT) f).getD q 0=m.run (f.getD q 0) w
 | [],_,_,_,_,_=>rfl
 | x::w,f,q,hf,hq,hw=>by
  have h1:=hm.gT hw.head;rw[List.foldl_cons,ag5 w (f:=br m.gT f x) (hf.comp h1) hq hw.tail,Da.afy];refine congrArg (fun p=>m.run p w) ?_;have dz:q<f.length:=by rw[hf.1];exact hq
  have h2:=hf.at dz;unfold br comp;rw[getD_map (k:=fun i=>(m.gT x).getD i 0) dz,cE dz,Da.gT,getD_map (by simpa using h2),cE (l:=List.range m.n) (by simpa using h2),BJ]
theorem J0 {w:List Nat} {q:Nat} (hq:q<m.n) (hw:WL m.L w):(ld m w).getD q 0=m.run q w:=by
 unfold ld;rw[ag5 hm w IU hq hw,cE (by simpa using hq),BJ]
theorem axB {u v:List Nat} (hu:WL m.L u) (hv:WL m.L v):ld m u=ld m v↔∀q,q<m.n→m.run q u=m.run q v:=by
 constructor
 ·intro e q hq;rw[←J0 hm hq hu,←J0 hm hq hv,e]
 ·intro h;have h1:=Xs hm hu;have h2:=Xs hm hv;refine sK (h1.1.trans h2.1.symm) fun i a b=> ?_;have hi:i<m.n:=by rw[←h1.1];exact a
  rw[←cE (d:=0) a,←cE (d:=0) b,J0 hm hi hu,J0 hm hi hv,h i hi]
section
variable {S:List (List Nat)} (hS:qb m S)
include hS
omit hm in
theorem ag6: ∀(w:List Nat) {f:List Nat},f∈S→WL m.L w→w.foldl (br m.gT) f∈S
 | [],_,hf,_=>hf
 | x::w,f,hf,hw=>ag6 w (hS.cl f hf x hw.head) hw.tail
omit hm in
theorem Xt:List.range m.n∈S:=by
 rw[←hS.EB,cE hS.pos];exact dc _
omit hm in
theorem ag7 {w:List Nat} (hw:WL m.L w):ld m w∈S:=ag6 hS w (Xt hS) hw
omit hm in
theorem zE {w:List Nat} (hw:WL m.L w):vl m S w<S.length:=tW (ag7 hS hw)
omit hm in
theorem ya {w:List Nat} (hw:WL m.L w):S.getD (vl m S w) []=ld m w:=by
 rw[cE (zE hS hw)];exact Wl (ag7 hS hw)
omit hm in
theorem uy {i:Nat} (hi:i<S.length): ∃w,WL m.L w∧vl m S w=i:=by
 obtain ⟨w,hw,e⟩:=hS.re i hi;refine ⟨w,hw,?_⟩;unfold vl ld;rw[←e,cE hi];exact Wm hS.nd hi
omit hm in
theorem LC:vl m S []=0:=by
 unfold vl;show iz S (List.range m.n)=0;rw[←hS.EB,cE hS.pos];exact Wm hS.nd hS.pos
theorem uz {u v:List Nat} (hu:WL m.L u) (hv:WL m.L v):cw S (vl m S u) (vl m S v)=vl m S (u++v):=by
 unfold cw;rw[ya hS hu,ya hS hv,←axA hm hu hv];rfl
theorem ajI {u v:List Nat} (hu:WL m.L u) (hv:WL m.L v):vl m S u=vl m S v↔∀q,q<m.n→m.run q u=m.run q v:=by
 rw[←axB hm hu hv];exact ⟨fun e=>by rw[←ya hS hu,←ya hS hv,e],fun e=>by unfold vl;rw[e]⟩
omit hm hS in
theorem Zn {w:List Nat} {x:Nat} (hx:x<m.L):(eZ m.L m.gT S (ld m w)).getD x 0=vl m S (w++[x]):=by
 unfold eZ vl ld;rw[getD_map (by simpa using hx),cE (by simpa using hx),BJ,BO];rfl
theorem Q9 {i j:Nat} (hi:i<S.length) (hj:j<S.length):cw S i j<S.length:=by
 obtain ⟨u,hu,rfl⟩:=uy hS hi;obtain ⟨v,hv,rfl⟩:=uy hS hj;rw[uz hm hS hu hv];exact zE hS (WL.app.2 ⟨hu,hv⟩)
theorem Zf {i j k:Nat} (hi:i<S.length) (hj:j<S.length) (hk:k<S.length):cw S (cw S i j) k=cw S i (cw S j k):=by
 obtain ⟨u,hu,rfl⟩:=uy hS hi;obtain ⟨v,hv,rfl⟩:=uy hS hj;obtain ⟨w,hw,rfl⟩:=uy hS hk;rw[uz hm hS hu hv,uz hm hS hv hw,uz hm hS (WL.app.2 ⟨hu,hv⟩) hw,uz hm hS hu (WL.app.2 ⟨hv,hw⟩),kQ]
end
end
def lA (m:Da) (S:List (List Nat)):Da:=⟨m.L,0,tab S.length fun i=>m.fin ((S.getD i []).getD m.st 0),tab S.length fun i=>eZ m.L m.gT S (S.getD i [])⟩
section
variable {m:Da} (hm:m.Ok) {S:List (List Nat)} (hS:qb m S)
theorem EE:(lA m S).n=S.length:=eG
theorem ag8 {i:Nat} (hi:i<S.length):(lA m S).fin i=m.fin ((S.getD i []).getD m.st 0):=A3 hi
theorem ag9 {i x:Nat} (hi:i<S.length) (hx:x<m.L):(lA m S).nx i x=iz S (br m.gT (S.getD i []) x):=by
 unfold Da.nx lA;simp only;rw[A3 hi];unfold eZ;rw[getD_map (by rw[jC];exact hx),cE (l:=List.range m.L) (by rw[jC];exact hx),BJ]
include hm hS
theorem aha:(lA m S).Ok:=by
 refine ⟨hm.l1,hm.l6,by rw[EE];exact eG,fun r hr=> ?_,by rw[EE];exact hS.pos,by rw[EE];have:=hS.le;omega⟩;obtain ⟨i,hi,rfl⟩:=LO.1 hr;refine ⟨by simp[eZ,lA],fun q hq=> ?_⟩;obtain ⟨x,hx,rfl⟩:=ia.1 hq;rw[EE];exact tW (hS.cl _ (by rw[cE hi];exact dc _) x (fK.1 hx))
omit hm in
theorem ahb: ∀(w:List Nat) {f:List Nat},f∈S→WL m.L w→(lA m S).run (iz S f) w=iz S (w.foldl (br m.gT) f)
 | [],_,_,_=>rfl
 | x::w,f,hf,hw=>by
  rw[Da.afy,ag9 (tW hf) hw.head,cE (tW hf),Wl hf];exact ahb w (hS.cl f hf x hw.head) hw.tail
omit hm in
theorem axC {w:List Nat} (hw:WL m.L w):(lA m S).run 0 w=vl m S w:=by
 have:=ahb hS w (Xt hS) hw;rwa [show iz S (List.range m.n)=0 from LC hS] at this
theorem axD {w:List Nat} (hw:WL m.L w):(lA m S).acc (lA m S).st w=m.acc m.st w:=by
 show (lA m S).fin ((lA m S).run 0 w)=m.fin (m.run m.st w);rw[axC hS hw,ag8 (zE hS hw),ya hS hw,J0 hm hm.s hw]
end
theorem axE {a:Da} (ha:a.Ok) {S:List (List Nat)} (hS:qb (minD a) S):minD (lA (minD a) S)=minD a:=by
 have hm:=jN ha;refine (ag3 (aha hm hS) hm rfl fun w hw=>axD hm hS hw).trans (axv ha)
theorem axF {a b:Da} (ha:a.Ok) (hb:b.Ok) (e:minD a=minD b):CC o4 (eh a)=CC o4 (eh b):=by
 have A: ∀z,v8 CC (a.L:Int) (a.st:Int) a.cG a.cN=z→CC o4 (eh a)=z:=fun z h=>LP h;have B: ∀z,v8 CC (b.L:Int) (b.st:Int) b.cG b.cN=z→CC o4 (eh b)=z:=fun z h=>LP h;refine A _ (Eq.trans ?_ (B _ rfl).symm);unfold v8;refine bs (o7 ha) (bF rfl (bs (yd ha) ?_));rw[e];exact (bs (o7 hb) (bF rfl (bs (yd hb) rfl))).symm
noncomputable def J1 (C:af) (s1 s2:LV) (t12 t13:Int) {β:Type} (kn:Int→Option β) (kr:((Bool) ⊕ (Int×Bool))→Option β):Option β:=
 bif decide (t13<t12) then
  (idx s1 t13).bind fun x1=>
  (idx s2 t13).bind fun x2=>
  bif (x1.toInt:Int) != x2.toInt then
  kr (.inl false)
  else
  kn (wrap .i64 (t13+1))
 else
  kr (.inr (t13,decide (t13<t12)))
noncomputable def Xu (C:af) (s1 s2:LV) (t12:Int):=fun t13=>J1 C s1 s2 t12 t13 (fun y=>some (Sum.inl y)) (fun r=>some (Sum.inr r))
noncomputable def axG (C:af):cL:=bR 65 Vo [EQ,EQ,EQ,H1] [[0],[1,2,3,0,0]] (@J1 C) bH
theorem axH (C:af):bA C (axG C) 108 (Lp [1,1,0,1,0,0] 108):=bS Vo [EQ,EQ,EQ,H1] [[0],[1,2,3,0,0]] (@J1 C) (bu av)
noncomputable def ahc (C:af) (s1 s2:LV):Option LV:=
 bif (s1.length:Int) != (s2.length:Int) then
  some [.bool false]
 else
  (Loop (Xu C s1 s2 (s1.length:Int)) 0).bind (fX (fun (kO:Bool)=>
   some [.bool kO]) (un fun (nK:Int) (mr:Bool)=>
   some [.bool true]))
theorem axI {s1 s2:LV} {r:Option LV} (h:ahc CC s1 s2=r):CC HS [.list ab s1,.list ab s2]=r:=bI (bB (axH CC) av) h
noncomputable def J2 (C:af) (s1 s2:LV) (t12 t13:Int) {β:Type} (kn:Int→Option β) (kr:((Bool) ⊕ (Int×Bool))→Option β):Option β:=
 bif decide (t13<t12) then
  (idx s1 t13).bind fun x1=>
  (idx s2 t13).bind fun x2=>
  bif !(x1.toBool==x2.toBool) then
  kr (.inl false)
  else
  kn (wrap .i64 (t13+1))
 else
  kr (.inr (t13,decide (t13<t12)))
noncomputable def Xv (C:af) (s1 s2:LV) (t12:Int):=fun t13=>J2 C s1 s2 t12 t13 (fun y=>some (Sum.inl y)) (fun r=>some (Sum.inr r))
noncomputable def axJ (C:af):cL:=bR 65 Vq [EQ,EQ,EQ,H1] [[0],[1,2,3,0,0]] (@J2 C) bH
theorem axK (C:af):bA C (axJ C) 110 (Lp [1,1,0,1,0,0] 110):=bS Vq [EQ,EQ,EQ,H1] [[0],[1,2,3,0,0]] (@J2 C) (bu av)
noncomputable def ahd (C:af) (s1 s2:LV):Option LV:=
 bif (s1.length:Int) != (s2.length:Int) then
  some [.bool false]
 else
  (Loop (Xv C s1 s2 (s1.length:Int)) 0).bind (fX (fun (kO:Bool)=>
   some [.bool kO]) (un fun (nK:Int) (mr:Bool)=>
   some [.bool true]))
theorem axL {s1 s2:LV} {r:Option LV} (h:ahd CC s1 s2=r):CC HT [.list ak s1,.list ak s2]=r:=bI (bB (axK CC) av) h
noncomputable def J3 (C:af) (s1 s2:LV) (t12 t13:Int) {β:Type} (kn:Int→Option β) (kr:((Bool) ⊕ (Int×Bool))→Option β):Option β:=
 bif decide (t13<t12) then
  (idx s1 t13).bind fun x1=>
  (idx s2 t13).bind fun x2=>
  bif !(x1.toStr==x2.toStr) then
  kr (.inl false)
  else
  kn (wrap .i64 (t13+1))
 else
  kr (.inr (t13,decide (t13<t12)))
noncomputable def Xw (C:af) (s1 s2:LV) (t12:Int):=fun t13=>J3 C s1 s2 t12 t13 (fun y=>some (Sum.inl y)) (fun r=>some (Sum.inr r))
noncomputable def axM (C:af):cL:=bR 65 Vp [EQ,EQ,EQ,H1] [[0],[1,2,3,0,0]] (@J3 C) bH
theorem axN (C:af):bA C (axM C) 109 (Lp [1,1,0,1,0,0] 109):=bS Vp [EQ,EQ,EQ,H1] [[0],[1,2,3,0,0]] (@J3 C) (bu av)
noncomputable def ahe (C:af) (s1 s2:LV):Option LV:=
 bif (s1.length:Int) != (s2.length:Int) then
  some [.bool false]
 else
  (Loop (Xw C s1 s2 (s1.length:Int)) 0).bind (fX (fun (kO:Bool)=>
   some [.bool kO]) (un fun (nK:Int) (mr:Bool)=>
   some [.bool true]))
theorem axO {s1 s2:LV} {r:Option LV} (h:ahe CC s1 s2=r):CC NV [.list cv s1,.list cv s2]=r:=bI (bB (axN CC) av) h
noncomputable def J4 (C:af) (n:Int) (t7:LV) (t8 t9:Int) {β:Type} (kn:Int→Option β) (kr:((Bool) ⊕ (Int×Bool))→Option β):Option β:=
 bif decide (t9<t8) then
  (idx t7 t9).bind fun x1=>
  bif decide ((x1.toInt:Int)<0) then
  kr (.inl false)
  else
  bif decide ((x1.toInt:Int)≥n) then
   kr (.inl false)
  else
   kn (wrap .i64 (t9+1))
 else
  kr (.inr (t9,decide (t9<t8)))
noncomputable def Xx (C:af) (n:Int) (t7:LV) (t8:Int):=fun t9=>J4 C n t7 t8 t9 (fun y=>some (Sum.inl y)) (fun r=>some (Sum.inr r))
noncomputable def axP (C:af):cL:=bR 33 VG [EQ,EQ,EQ,H1] [[0],[1,2,3,0,0]] (@J4 C) bH
theorem axQ (C:af):bA C (axP C) 144 (Lp [1,0,1,0,0] 144):=bS VG [EQ,EQ,EQ,H1] [[0],[1,2,3,0,0]] (@J4 C) (bu av)
noncomputable def ahf (C:af) (list:LV) (n:Int):Option LV:=
 (Loop (Xx C n list (list.length:Int)) 0).bind (fX (fun (A7:Bool)=>
  some [.bool A7]) (un fun (kO:Int) (nK:Bool)=>
  some [.bool true]))
theorem axR {list:LV} {n:Int} {r:Option LV} (h:ahf CC list n=r):CC HZ [.list ab list,V.int .i64 n]=r:=bI (bB (axQ CC) av) h
noncomputable def J5 (C:af) (n:Int) (t53:LV) (t54 iD:Int) (dx mu la mw my:LV) (t55:Int) {β:Type} (kn:Int→Option β) (kr:((Bool) ⊕ (Int×Bool))→Option β):Option β:=
 bif decide (t55<t54) then
  (idx t53 t55).bind fun x1=>
  bif (x1.toList.length:Int) != n then
  kr (.inl false)
  else
  (C HZ [.list ab x1.toList,V.int .i64 n]).bind fun r2=>
  bif !((V.nth r2 0).toBool) then
   kr (.inl false)
  else
   kn (wrap .i64 (t55+1))
 else
  kr (.inr (t55,decide (t55<t54)))
noncomputable def Xy (C:af) (n:Int) (t53:LV) (t54 iD:Int) (dx mu la mw my:LV):=fun t55=>J5 C n t53 t54 iD dx mu la mw my t55 (fun y=>some (Sum.inl y)) (fun r=>some (Sum.inr r))
noncomputable def axS (C:af):cL:=bR 113 Vl [EQ,EQ,EQ,H1,EQ,EQ,EQ,EQ,EQ,EQ] [[0],[1,2,3,0,0,5,6,7,8,9,10]] (@J5 C) bH
theorem axT (C:af):bA C (axS C) 106 (Lp [1,1,1,1,0,1,0,0] 106):=bS Vl [EQ,EQ,EQ,H1,EQ,EQ,EQ,EQ,EQ,EQ] [[0],[1,2,3,0,0,5,6,7,8,9,10]] (@J5 C) (bu av)
noncomputable def ahg (C:af) (gJ:Int) (ed iB g9 gK gQ:LV):Option LV:=
 bif decide (gJ<1) then
  some [.bool false]
 else
  bif decide (gJ>6) then
  some [.bool false]
  else
  bif decide ((ed.length:Int)<1) then
   some [.bool false]
  else
   bif decide ((ed.length:Int)>400) then
   some [.bool false]
   else
   bif (iB.length:Int) != (ed.length:Int) then
    some [.bool false]
   else
    bif (gK.length:Int) != (ed.length:Int) then
    some [.bool false]
    else
    bif (gQ.length:Int) != (ed.length:Int) then
     some [.bool false]
    else
     bif (g9.length:Int) != gJ then
     some [.bool false]
     else
     (Loop (Xy C (ed.length:Int) ed (ed.length:Int) gJ ed iB g9 gK gQ) 0).bind (fX (fun (kO:Bool)=>
      some [.bool kO]) (un fun (nK:Int) (mr:Bool)=>
      (C HZ [.list ab g9,V.int .i64 (ed.length:Int)]).bind fun r6=>
      some [.bool ((V.nth r6 0).toBool)]))
theorem axU {gJ:Int} {ed iB g9 gK gQ:LV} {r:Option LV} (h:ahg CC gJ ed iB g9 gK gQ=r):CC NT [V.int .i64 gJ,.list ag ed,.list cv iB,.list ab g9,.list ak gK,.list ak gQ]=r:=bI (bB (axT CC) av) h
noncomputable def J6 (C:af) (x:Int) (row t19:LV) (t20 t21:Int) (t34:LV) (t35 iD:Int) (dx mu la mw my:LV) (ei ej bw bE:Int) (aQ aW aV:LV) (t36:Int) (aF:LV) {β:Type} (kn:(Int×LV)→Option β) (kr:(Int×Bool×LV)→Option β):Option β:=
 bif decide (t36<t35) then
  (idx t34 t36).bind fun x3=>
  aM aF x fun x4=>
  (idx row x3.toInt).bind fun x5=>
  (fm Tryz.prog ag aF [(x.toNat,0)]).bind fun x6=>
  bif (decide (0≤t36))&&(decide (t36<(x6.toList.length:Int))) then
  (fm Tryz.prog ag aF [(x.toNat,0)]).bind fun x7=>
  (x7.toList[t36.toNat]?).bind fun x8=>
  kn (wrap .i64 (t36+1),setRow Tryz.prog (bm x7.toList t36 (V.int .i64 x5.toInt)) ag aF [(x.toNat,0)])
  else none
 else
  kr (t36,decide (t36<t35),aF)
noncomputable def PU (C:af) (x:Int) (row t19:LV) (t20 t21:Int) (t34:LV) (t35 iD:Int) (dx mu la mw my:LV) (ei ej bw bE:Int) (aQ aW aV:LV):=un fun t36 aF=>J6 C x row t19 t20 t21 t34 t35 iD dx mu la mw my ei ej bw bE aQ aW aV t36 aF (fun y=>some (Sum.inl y)) (fun r=>some (Sum.inr r))
noncomputable def J7 (C:af) (t19:LV) (t20 iD:Int) (dx mu la mw my:LV) (ei ej bw bE:Int) (aQ aW aV:LV) (t21:Int) (aF:LV) {β:Type} (kn:(Int×LV)→Option β) (kr:(Int×Bool×LV)→Option β):Option β:=
 bif decide (t21<t20) then
  (idx t19 t21).bind fun x1=>
  bif (decide (0≤iD))&&((decide (iD≤iD))&&(Nat.ble ((iD.toNat)*8) aY)) then
  aM aF t21 fun x2=>
  (Loop (PU C t21 x1.toList t19 t20 t21 la (la.length:Int) iD dx mu la mw my ei ej bw bE aQ aW aV) (0,bm aF t21 (.list ab (List.replicate (iD.toNat) (V.int .i64 0))))).bind (un fun xd=>un fun (Wb:Bool) (AY:LV)=>
   kn (wrap .i64 (t21+1),AY))
  else none
 else
  kr (t21,decide (t21<t20),aF)
noncomputable def Xz (C:af) (t19:LV) (t20 iD:Int) (dx mu la mw my:LV) (ei ej bw bE:Int) (aQ aW aV:LV):=un fun t21 aF=>J7 C t19 t20 iD dx mu la mw my ei ej bw bE aQ aW aV t21 aF (fun y=>some (Sum.inl y)) (fun r=>some (Sum.inr r))
noncomputable def ahh (C:af):cL:=bR 113 Vm [EQ,EQ,EQ,EQ,EQ,EQ,EQ,H1,EQ,EQ,EQ,EQ,EQ,EQ,EQ,EQ,EQ,EQ,EQ,EQ,EQ,H1] [[1,2,3,4,5,6,7,0,0,9,10,11,12,13,14,15,16,17,18,19,20,21,0]] (@J6 C) (bR 49 Vn [EQ,EQ,H1,EQ,EQ,EQ,EQ,EQ,EQ,EQ,EQ,EQ,EQ,EQ,EQ,EQ,H1] [[1,2,0,0,4,5,6,7,8,9,10,11,12,13,14,15,16,0]] (@J7 C) bH)
theorem axV (C:af):bA C (ahh C) 107 (Lp [1,1,0,1,0,0,1,1,0,0,1,1,1,0,0] 107):=bS Vm [EQ,EQ,EQ,EQ,EQ,EQ,EQ,H1,EQ,EQ,EQ,EQ,EQ,EQ,EQ,EQ,EQ,EQ,EQ,EQ,EQ,H1] [[1,2,3,4,5,6,7,0,0,9,10,11,12,13,14,15,16,17,18,19,20,21,0]] (@J6 C) (bu av)
theorem axW (C:af):bA C (ahh C) 107 (Lp [1,1,0,1,0,0] 107):=bS Vn [EQ,EQ,H1,EQ,EQ,EQ,EQ,EQ,EQ,EQ,EQ,EQ,EQ,EQ,EQ,EQ,H1] [[1,2,0,0,4,5,6,7,8,9,10,11,12,13,14,15,16,0]] (@J7 C) (bu (bB (axV C) av))
noncomputable def ahi (C:af) (gJ:Int) (ed iB g9 gK gQ:LV):Option LV:=
 bif Nat.ble (gK.length*1) aY then
  bif (decide (0≤(ed.length:Int)))&&((decide ((ed.length:Int)≤(ed.length:Int)))&&(Nat.ble (((ed.length:Int).toNat)*24) aY)) then
  (Loop (Xz C ed (ed.length:Int) gJ ed iB g9 gK gQ 0 0 gJ 0 ([]:LV) ([]:LV) gK) (0,List.replicate ((ed.length:Int).toNat) (V.list ab ([]:LV)))).bind (un fun Mm=>un fun (C6:Bool) (qk:LV)=>
   some [V.int .i64 gJ,V.int .i64 0,.list ak gK,.list ag qk])
  else none
 else none
theorem axX {gJ:Int} {ed iB g9 gK gQ:LV} {r:Option LV} (h:ahi CC gJ ed iB g9 gK gQ=r):CC NU [V.int .i64 gJ,.list ag ed,.list cv iB,.list ab g9,.list ak gK,.list ak gQ]=r:=bI (bB (axW CC) av) h
noncomputable def J8 (C:af) (t28:LV) (t29 iD:Int) (dx mu la mw my:LV) (fQ:Int) (fR fi e9 gO gP:LV) (t30:Int) {β:Type} (kn:Int→Option β) (kr:((Int) ⊕ (Int×Bool))→Option β):Option β:=
 bif decide (t30<t29) then
  (idx t28 t30).bind fun x4=>
  (idx dx t30).bind fun x5=>
  (C HS [.list ab x4.toList,.list ab x5.toList]).bind fun r6=>
  bif !((V.nth r6 0).toBool) then
  kr (.inl 8)
  else
  kn (wrap .i64 (t30+1))
 else
  kr (.inr (t30,decide (t30<t29)))
noncomputable def PW (C:af) (t28:LV) (t29 iD:Int) (dx mu la mw my:LV) (fQ:Int) (fR fi e9 gO gP:LV):=fun t30=>J8 C t28 t29 iD dx mu la mw my fQ fR fi e9 gO gP t30 (fun y=>some (Sum.inl y)) (fun r=>some (Sum.inr r))
noncomputable def axY (C:af):cL:=bR 113 Va [EQ,EQ,H1,EQ,EQ,EQ,EQ,EQ,EQ,EQ,EQ,EQ,EQ,EQ,EQ] [[0],[1,2,0,0,4,5,6,7,8,9,10,11,12,13,14,15]] (@J8 C) bH
theorem axZ (C:af):bA C (axY C) 76 (Lp [1,1,1,1,0,1,0,0] 76):=bS Va [EQ,EQ,H1,EQ,EQ,EQ,EQ,EQ,EQ,EQ,EQ,EQ,EQ,EQ,EQ] [[0],[1,2,0,0,4,5,6,7,8,9,10,11,12,13,14,15]] (@J8 C) (bu av)
noncomputable def XA (C:af) (gJ:Int) (ed iB g9 gK gQ:LV):Option LV:=
 (C NT [V.int .i64 gJ,.list ag ed,.list cv iB,.list ab g9,.list ak gK,.list ak gQ]).bind fun r1=>
 bif !((V.nth r1 0).toBool) then
  some [V.int .i64 8]
 else
  (C NU [V.int .i64 gJ,.list ag ed,.list cv iB,.list ab g9,.list ak gK,.list ak gQ]).bind fun r2=>
  (C o4 [V.int .i64 ((V.nth r2 0).toInt),V.int .i64 ((V.nth (r2.drop 1) 0).toInt),.list ak ((V.nth (r2.drop 2) 0).toList),.list ag ((V.nth ((r2.drop 2).drop 1) 0).toList)]).bind fun r3=>
  bif (((V.nth (r3.drop 6) 0).toInt):Int) != 0 then
  some [V.int .i64 8]
  else
  bif ((((V.nth (r3.drop 1) 0).toList).length:Int):Int) != (ed.length:Int) then
   some [V.int .i64 8]
  else
   (Loop (PW C ((V.nth (r3.drop 1) 0).toList) (((V.nth (r3.drop 1) 0).toList).length:Int) gJ ed iB g9 gK gQ ((V.nth r3 0).toInt) ((V.nth (r3.drop 1) 0).toList) ((V.nth ((r3.drop 1).drop 1) 0).toList) ((V.nth (((r3.drop 1).drop 1).drop 1) 0).toList) ((V.nth ((((r3.drop 1).drop 1).drop 1).drop 1) 0).toList) ((V.nth (((((r3.drop 1).drop 1).drop 1).drop 1).drop 1) 0).toList)) 0).bind (fX (fun oD=>
    some [V.int .i64 oD]) (un fun (yg:Int) (xd:Bool)=>
    (C NV [.list cv ((V.nth ((r3.drop 1).drop 1) 0).toList),.list cv iB]).bind fun e7=>
    bif !((V.nth e7 0).toBool) then
    some [V.int .i64 8]
    else
    (C HS [.list ab ((V.nth (((r3.drop 1).drop 1).drop 1) 0).toList),.list ab g9]).bind fun cC=>
    bif !((V.nth cC 0).toBool) then
     some [V.int .i64 8]
    else
     (C HT [.list ak ((V.nth ((((r3.drop 1).drop 1).drop 1).drop 1) 0).toList),.list ak gK]).bind fun uG=>
     bif !((V.nth uG 0).toBool) then
     some [V.int .i64 8]
     else
     (C HT [.list ak ((V.nth (((((r3.drop 1).drop 1).drop 1).drop 1).drop 1) 0).toList),.list ak gQ]).bind fun gH=>
     bif !((V.nth gH 0).toBool) then
      some [V.int .i64 8]
     else
      some [V.int .i64 0]))
theorem ax0 {gJ:Int} {ed iB g9 gK gQ:LV} {r:Option LV} (h:XA CC gJ ed iB g9 gK gQ=r):CC zD [V.int .i64 gJ,.list ag ed,.list cv iB,.list ab g9,.list ak gK,.list ak gQ]=r:=bI (bB (axZ CC) av) h
section
variable {l:LV} (hl:l.length≤1000000)
include hl
theorem ahj:CC HS [.list ab l,.list ab l]=some [.bool true]:=by
 refine axI ?_;unfold ahc;refine bF (by simp) (bs (fI l.length (fun i=>(i:Int)) (.inr ((l.length:Int),false)) (fun i hi=> ?_) ?_) rfl)
 ·simp only[Xu,J1];have e:=TB l i;rw[bY hi] at e;refine bT (bn hi) (bs e (bs e (bF (by simp) ?_)));rw[bq (by omega)]
 ·simp only[Xu,J1];rw[aX (aw _)];rfl
theorem ahk:CC HT [.list ak l,.list ak l]=some [.bool true]:=by
 refine axL ?_;unfold ahd;refine bF (by simp) (bs (fI l.length (fun i=>(i:Int)) (.inr ((l.length:Int),false)) (fun i hi=> ?_) ?_) rfl)
 ·simp only[Xv,J2];have e:=TB l i;rw[bY hi] at e;refine bT (bn hi) (bs e (bs e (bF (by simp) ?_)));rw[bq (by omega)]
 ·simp only[Xv,J2];rw[aX (aw _)];rfl
theorem ax1:CC NV [.list cv l,.list cv l]=some [.bool true]:=by
 refine axO ?_;unfold ahe;refine bF (by simp) (bs (fI l.length (fun i=>(i:Int)) (.inr ((l.length:Int),false)) (fun i hi=> ?_) ?_) rfl)
 ·simp only[Xw,J3];have e:=TB l i;rw[bY hi] at e;refine bT (bn hi) (bs e (bs e (bF (by simp) ?_)));rw[bq (by omega)]
 ·simp only[Xw,J3];rw[aX (aw _)];rfl
end
theorem ahl {l:List Nat} {n:Nat} (hl:l.length≤1000000) (h: ∀y∈l,y<n):CC HZ [.list ab (nS l),.int .i64 (n:Int)]=some [.bool true]:=by
 refine axR ?_;unfold ahf;rw[dC];refine bs (fI l.length (fun i=>(i:Int)) (.inr ((l.length:Int),false)) (fun i hi=> ?_) ?_) rfl
 ·simp only[Xx,J4];refine bT (bn hi) (bs (iE hi) (bF xV (bF (Em (h _ (dc hi))) ?_)));rw[bq (by omega)]
 ·simp only[Xx,J4];rw[aX (aw _)];rfl
section
variable {m:Da} (hm:m.Ok) {S:List (List Nat)} (hS:qb m S) (f:Nat→List UInt8)
def rK (S:List (List Nat)) (i:Nat):List Nat:=(List.range S.length).map fun j=>cw S i j
theorem ax2 {i:Nat}:(tab S.length fun j=>nV (cw S i j))=nS (rK S i):=by unfold rK nS;rw[yX];rfl
theorem PX {i:Nat} (hi:i<S.length):idx (qd S) (i:Int)=some (.list ab (nS (rK S i))):=by rw[←ax2];exact qV hi
include hm hS
theorem ax3 {i:Nat} (hi:i<S.length): ∀y∈rK S i,y<S.length:=fun y hy=>by
 obtain ⟨j,hj,rfl⟩:=ia.1 hy;exact Q9 hm hS hi (fK.1 hj)
theorem ax4:CC NT (qc m S f)=some [.bool true]:=by
 have h1:=hm.l1;have h6:=hm.l6;have hp:=hS.pos;have hle:=hS.le;have e1:(qd S).length=S.length:=eG;have e2:(mA m S).length=m.L:=by unfold mA;rw[dC,eZ,dE,jC]
 have e3:(nQ m S).length=S.length:=eG;have e4:(j8 m.L m.gT S S.length).length=S.length:=eG;refine axU ?_;unfold ahg;rw[e1,e2,e3,e4,eG];refine bF (cZ (by omega)) (bF (cZ (by omega)) (bF (cZ (by omega)) (bF (cZ (by omega)) (bF (by simp) (bF (by simp) (bF (by simp) (bF (by simp) ?_)))))));refine bs (fI S.length (fun i=>(i:Int)) (.inr ((S.length:Int),false)) (fun i hi=> ?_) ?_) ?_
 ·simp only[Xy,J5];refine bT (bn hi) (bs (PX hi) ?_);rw[V.eH];have e5:(nS (rK S i)).length=S.length:=by rw[dC,rK,dE,jC]
  refine bF (by rw[e5];simp) (bs (ahl (by rw[dC] at e5;omega) (ax3 hm hS hi)) (bF rfl ?_));rw[bq (by omega)]
 ·simp only[Xy,J5];rw[aX (aw _)];rfl
 ·refine bs (ahl (l:=eZ m.L m.gT S (List.range m.n)) (by rw[eZ,dE,jC];omega) fun y hy=> ?_) rfl;obtain ⟨x,hx,rfl⟩:=ia.1 hy;exact tW (hS.cl _ (Xt hS) x (fK.1 hx))
omit hm hS in
theorem ax5 {x:Nat} (hx:x<m.L):idx (mA m S) (x:Int)=some (nV (vl m S [x])):=by
 unfold mA;rw[iE (by rw[eZ,dE,jC];exact hx)];simp[eZ,vl,ld]
theorem ax6 {i x:Nat} (hi:i<S.length) (hx:x<m.L):idx (nS (rK S i)) (vl m S [x]:Int)=some (nV (iz S (br m.gT (S.getD i []) x))):=by
 have j9:WL m.L [x]:=WL.nil.cons hx;have h1:=zE hS j9;rw[iE (by rw[rK,dE,jC];exact h1)];obtain ⟨w,hw,rfl⟩:=uy hS hi;have:(rK S (vl m S w))[vl m S [x]]'(by rw[rK,dE,jC];exact h1)=cw S (vl m S w) (vl m S [x]):=by simp[rK]
 rw[this,uz hm hS hw j9,ya hS hw];unfold vl ld;rw[BO];rfl
theorem ax7:CC NU (qc m S f)=some (eh (lA m S)):=by
 have h6:=hm.l6;have hle:=hS.le;have e1:(qd S).length=S.length:=eG;have e2:(mA m S).length=m.L:=by unfold mA;rw[dC,eZ,dE,jC]
 have e3:(nQ m S).length=S.length:=eG;refine axX ?_;unfold ahi;rw[e1,e3];refine bT (cap (b:=0) (by omega) (by omega)) (bT (gG (by omega) (by omega)) ?_);rw[Int.toNat_natCast];have na: ∀{i:Nat},i<S.length→∀{k1 k2 k3 k4 k5 k6 k7:Int} {l1 l2 l3 l4 l5 l6 l7 l8 l9:LV} {a:LV},a.length=S.length→Loop (PU CC (i:Int) (nS (rK S i)) l1 k1 k2 (mA m S) (m.L:Int) k3 l2 l3 l4 l5 l6 k4 k5 k6 k7 l7 l8 l9) (0,a.set i (.list ab (List.replicate m.L (V.int .i64 0))))=some ((m.L:Int),false,a.set i (nX m.L ((lA m S).nx i))):=by
  intro i hi k1 k2 k3 k4 k5 k6 k7 l1 l2 l3 l4 l5 l6 l7 l8 l9 a ha;refine ux (fun x b=>((x:Int),a.set i (.list ab b))) m.L (fun x=>nV ((lA m S).nx i x)) _ (by simp) (fun b=>((m.L:Int),false,a.set i (.list ab b))) (fun x hx b hb=> ?_) ?_
  ·simp only[PU,J6,un,aM,bm,Int.toNat_natCast];have e0:(a.set i (V.list ab b))[i]? =some (.list ab b):=qI (by rw[ha];exact hi);refine bT (bn hx) (bs (ax5 hx) ((b7 e0).trans (bs (ax6 hm hS hi hx) (bs (rb e0) ?_))));rw[V.eH];refine bT (o5 (by rw[hb];exact hx)) (bs (rb e0) ?_);rw[V.eH];refine bs (bY (by rw[hb];exact hx)) ?_;rw[GL e0,BG,bq (by omega),ag9 hi hx];rfl
  ·simp only[PU,J6,un];refine bF (aX (aw _)) ?_;rw[aX (aw _)]
 refine bs (ux (fun i a=>((i:Int),a)) S.length (fun i=>nX m.L ((lA m S).nx i)) _ (by simp) (fun a=>((S.length:Int),false,a)) (fun i hi a ha=> ?_) ?_) ?_
 ·simp only[Xz,J7,un,aM,bm];refine bT (bn hi) (bs (PX hi) (bT (gG (by omega) (by omega)) ((sb (by rw[ha];exact hi)).trans ?_)));rw[V.eH,e2,Int.toNat_natCast,Int.toNat_natCast];refine bs (na hi ha) ?_;rw[bq (by omega)];rfl
 ·simp only[Xz,J7,un];refine bF (aX (aw _)) ?_;rw[aX (aw _)]
 ·have e5:nQ m S=(lA m S).cG:=by
   unfold nQ Da.cG;rw[EE];exact c8 fun i hi=>by rw[ag8 hi]
  have e6:(tab S.length fun i=>nX m.L ((lA m S).nx i))=(lA m S).cN:=by unfold Da.cN;rw[EE];rfl
  rw[e6,e5];rfl
end
section
variable {a:Da} (ha:a.Ok) {S:List (List Nat)} {f:Nat→List UInt8} (hS:qb (minD a) S) (hOf:CC o4 (eh a)=some (qc (minD a) S f++[.int .i64 0]))
include ha hS hOf
theorem ajD:CC zD (qc (minD a) S f)=some [.int .i64 0]:=by
 have hm:=jN ha;have hle:=hS.le;have hL6:=hm.l6;have hO:CC o4 (eh (lA (minD a) S))=some (qc (minD a) S f++[.int .i64 0]):=(axF (aha hm hS) ha (axE ha hS)).trans hOf;have fin: ∀z,XA CC ((minD a).L:Int) (qd S) (tab S.length fun j=> .str (f j)) (mA (minD a) S) (nQ (minD a) S) (j8 (minD a).L (minD a).gT S S.length)=z→CC zD (qc (minD a) S f)=z:=fun z h=>ax0 h;refine fin _ ?_;unfold XA;refine bs (ax4 hm hS f) (bF rfl (bs (ax7 hm hS f) (bs hO (bF rfl (bF (by simp[qc]) ?_)))));have e1:(qd S).length=S.length:=eG;refine bs (a:= .inr ((S.length:Int),false)) ?_ ?_
 ·show Loop (PW CC (qd S) ((qd S).length:Int) _ _ _ _ _ _ _ _ _ _ _ _) 0=_;rw[e1];refine fI S.length (fun i=>(i:Int)) _ (fun i hi=> ?_) ?_
  ·simp only[PW,J8];refine bT (bn hi) (bs (PX hi) (bs (PX hi) (bs (ahj (by rw[V.eH,dC,rK,dE,jC];omega)) (bF rfl ?_))));rw[bq (by omega)]
  ·simp only[PW,J8];rw[aX (aw _)];rfl
 ·have e2:(mA (minD a) S).length=(minD a).L:=by unfold mA;rw[dC,eZ,dE,jC]
  refine bs (ax1 (l:=tab S.length fun j=> .str (f j)) (by simp;omega)) (bF rfl (bs (ahj (l:=mA (minD a) S) (by omega)) (bF rfl (bs (ahk (l:=nQ (minD a) S) (by simp[nQ];omega)) (bF rfl (bs (ahk (l:=j8 (minD a).L (minD a).gT S S.length) (by simp[j8];omega)) (bF rfl rfl)))))))
end
noncomputable def Gc (C:af) (oU:Int) (t26:LV) (t27:Int) (lists:LV) (t28:Int) (sI:LV) {β:Type} (kn:(Int×LV)→Option β) (kr:(Int×Bool×LV)→Option β):Option β:=
 bif decide (t28<t27) then
  (idx t26 t28).bind fun x3=>
  bif x3.toBool then
  bif Nat.ble ((sI.length+([V.int .i64 t28]:LV).length)*8) aY then
   kn (wrap .i64 (t28+1),sI++([V.int .i64 t28]:LV))
  else none
  else
  aM lists oU fun x4=>
  bif (x4.cell 1).toBool then
   bif Nat.ble ((sI.length+([V.int .i64 t28]:LV).length)*8) aY then
   kn (wrap .i64 (t28+1),sI++([V.int .i64 t28]:LV))
   else none
  else
   kn (wrap .i64 (t28+1),sI)
 else
  kr (t28,decide (t28<t27),sI)
noncomputable def Q8 (C:af) (oU:Int) (t26:LV) (t27:Int) (lists:LV):=un fun t28 sI=>Gc C oU t26 t27 lists t28 sI (fun y=>some (Sum.inl y)) (fun r=>some (Sum.inr r))
noncomputable def ax8 (C:af):cL:=bR 145 U6 [EQ,EQ,EQ,H1,EQ,H1] [[1,2,3,0,0,5,0]] (@Gc C) bH
theorem ax9 (C:af):bA C (ax8 C) 53 (Lp [1,1,1,1,1,0,1,0,0] 53):=bS U6 [EQ,EQ,EQ,H1,EQ,H1] [[1,2,3,0,0,5,0]] (@Gc C) (bu av)
noncomputable def Q7 (C:af) (gJ:Int) (ed iB g9 gK gQ:LV) (oU:Int):Option LV:=
 (C zD [V.int .i64 gJ,.list ag ed,.list cv iB,.list ab g9,.list ak gK,.list ak gQ]).bind fun r1=>
 bif (((V.nth r1 0).toInt):Int) != 0 then
  some [V.int .i64 ((V.nth r1 0).toInt),.list ab ([]:LV)]
 else
  (C Cs []).bind fun r2=>
  bif decide (oU<0) then
  some [V.int .i64 1,.list ab ([]:LV)]
  else
  bif decide (oU≥(((V.nth r2 0).toList).length:Int)) then
   some [V.int .i64 1,.list ab ([]:LV)]
  else
   (Loop (Q8 C oU gQ (gQ.length:Int) ((V.nth r2 0).toList)) (0,([]:LV))).bind (un fun mr=>un fun (j5:Bool) (aya:LV)=>
    some [V.int .i64 0,.list ab aya])
theorem ajy {gJ:Int} {ed iB g9 gK gQ:LV} {oU:Int} {r:Option LV} (h:Q7 CC gJ ed iB g9 gK gQ oU=r):CC Gb [V.int .i64 gJ,.list ag ed,.list cv iB,.list ab g9,.list ak gK,.list ak gQ,V.int .i64 oU]=r:=bI (bB (ax9 CC) av) h
noncomputable def Ge (C:af) (eg t40 iD:Int) (dx mu la mw my sI A6:LV) (Br t41:Int) {β:Type} (kn:(Int×Int)→Option β) (kr:((Bool×Int×Int×Int×LV) ⊕ (Int×Int×Bool))→Option β):Option β:=
 bif decide (t41<t40) then
  aM A6 t41 fun x5=>
  bif Br==eg then
  kr (.inl (false,0,0,7,([]:LV)))
  else
  (C Ga [.list ag dx,.list ab sI,V.int .i64 ((x5.cell 0).toInt),V.int .i64 ((x5.cell 1).toInt),.list ai ((x5.cell 2).toList),V.int .i64 ((x5.cell 3).toInt),V.int .i64 ((x5.cell 4).toInt),.list ai ((x5.cell 5).toList),V.int .i64 (wrap .i64 (eg-Br))]).bind fun r6=>
  bif (((V.nth (r6.drop 1) 0).toInt):Int)==0 then
   kr (.inl (false,t41,wrap .i64 (Br+((V.nth r6 0).toInt)),0,(V.nth (r6.drop 2) 0).toList))
  else
   bif (((V.nth (r6.drop 1) 0).toInt):Int)==9 then
   kn (wrap .i64 (Br+((V.nth r6 0).toInt)),wrap .i64 (t41+1))
   else
   kr (.inl (false,0,0,(V.nth (r6.drop 1) 0).toInt,([]:LV)))
 else
  kr (.inr (Br,t41,decide (t41<t40)))
noncomputable def LD (C:af) (eg t40 iD:Int) (dx mu la mw my sI A6:LV):=un fun Br t41=>Ge C eg t40 iD dx mu la mw my sI A6 Br t41 (fun y=>some (Sum.inl y)) (fun r=>some (Sum.inr r))
noncomputable def ayb (C:af):cL:=bR 129 UN [EQ,H1,EQ,H1,EQ,EQ,EQ,EQ,EQ,EQ,EQ,EQ] [[0,0,0,0,0],[1,0,3,0,0,5,6,7,8,9,10,11,12]] (@Ge C) bH
theorem ayc (C:af):bA C (ayb C) 33 (Lp [1,1,1,1,1,0,1,0,0] 33):=bS UN [EQ,H1,EQ,H1,EQ,EQ,EQ,EQ,EQ,EQ,EQ,EQ] [[0,0,0,0,0],[1,0,3,0,0,5,6,7,8,9,10,11,12]] (@Ge C) (bu av)
noncomputable def LF (C:af) (gJ:Int) (ed iB g9 gK gQ:LV) (oU eg:Int):Option LV:=
 (C Gb [V.int .i64 gJ,.list ag ed,.list cv iB,.list ab g9,.list ak gK,.list ak gQ,V.int .i64 oU]).bind fun r1=>
 bif (((V.nth r1 0).toInt):Int) != 0 then
  some [.bool false,V.int .i64 0,V.int .i64 0,V.int .i64 ((V.nth r1 0).toInt),.list ab ([]:LV)]
 else
  bif decide (eg<1) then
  some [.bool false,V.int .i64 0,V.int .i64 0,V.int .i64 1,.list ab ([]:LV)]
  else
  bif decide (eg>1048576) then
   some [.bool false,V.int .i64 0,V.int .i64 0,V.int .i64 1,.list ab ([]:LV)]
  else
   (C Cs []).bind fun r2=>
   aM ((V.nth r2 0).toList) oU fun x3=>
   (C jL [.str ((x3.cell 0).toStr),.bool ((x3.cell 1).toBool),V.int .i64 ((x3.cell 2).toInt),V.int .i64 ((x3.cell 3).toInt),.str ((x3.cell 4).toStr),.str ((x3.cell 5).toStr)]).bind fun r4=>
   (Loop (LD C eg (((V.nth (r4.drop 4) 0).toList).length:Int) gJ ed iB g9 gK gQ ((V.nth (r1.drop 1) 0).toList) ((V.nth (r4.drop 4) 0).toList)) (0,0)).bind (fX (un fun (oD:Bool)=>un fun yg=>un fun xd=>un fun (Wb:Int) (ayd:LV)=>
    some [.bool oD,V.int .i64 yg,V.int .i64 xd,V.int .i64 Wb,.list ab ayd]) (un fun aye=>un fun (C6:Int) (wi:Bool)=>
    some [.bool true,V.int .i64 (-1),V.int .i64 aye,V.int .i64 0,.list ab ([]:LV)]))
theorem ajA {gJ:Int} {ed iB g9 gK gQ:LV} {oU eg:Int} {r:Option LV} (h:LF CC gJ ed iB g9 gK gQ oU eg=r):CC FJ [V.int .i64 gJ,.list ag ed,.list cv iB,.list ab g9,.list ak gK,.list ak gQ,V.int .i64 oU,V.int .i64 eg]=r:=bI (bB (ayc CC) av) h
structure FE (rows:LV) (jM:Nat→List gF):Prop where
 xU:CC Cs []=some [.list FD rows]
 len:rows.length=17
 cls: ∀c,c<17→∃x,rows[c]? =some x∧∃(a:List UInt8) (b:Bool) (e f:Int),CC jL [.str (x.cell 0).toStr,.bool (x.cell 1).toBool,.int .i64 (x.cell 2).toInt,.int .i64 (x.cell 3).toInt,.str (x.cell 4).toStr,.str (x.cell 5).toStr]=some [.str a,.bool b,.int .i64 e,.int .i64 f,.list iU ((jM c).map fun d=> .agg (cS d))]
 ok: ∀c,c<17→∀d∈jM c,nc d
 il: ∀c,c<17→(jM c).length≤2
section
variable {rows:LV} {jM:Nat→List gF} (hC:FE rows jM) {m:Da} {S:List (List Nat)} {f:Nat→List UInt8} (hm:m.Ok) (hS:qb m S) (hV:CC zD (qc m S f)=some [.int .i64 0]) {c:Nat} (hc:c<17)
include hC hS hV hc
end
noncomputable def ahm (C:af) (s:List UInt8):Option LV:=
 bif decide ((s.length:Int)>1000) then
  some [V.int .i64 0,V.int .i64 0,.list ai ([]:LV),V.int .i64 0,V.int .i64 0,.list ai ([]:LV),V.int .i64 0,V.int .i64 21]
 else
  (C gk [.str s,V.int .i64 0]).bind fun r1=>
  bif !((V.nth (r1.drop 3) 0).toBool) then
  some [V.int .i64 0,V.int .i64 0,.list ai ([]:LV),V.int .i64 0,V.int .i64 0,.list ai ([]:LV),V.int .i64 ((V.nth ((r1.drop 4).drop 1) 0).toInt),V.int .i64 2]
  else
  (C nJ [.int .u8 61,.str ((V.nth (r1.drop 4) 0).toStr),V.int .i64 ((V.nth ((r1.drop 4).drop 1) 0).toInt)]).bind fun r2=>
  bif !((V.nth r2 0).toBool) then
   some [V.int .i64 0,V.int .i64 0,.list ai ([]:LV),V.int .i64 0,V.int .i64 0,.list ai ([]:LV),V.int .i64 ((V.nth ((r2.drop 1).drop 1) 0).toInt),V.int .i64 2]
  else
   (C gk [.str ((V.nth (r2.drop 1) 0).toStr),V.int .i64 ((V.nth ((r2.drop 1).drop 1) 0).toInt)]).bind fun r3=>
   bif !((V.nth (r3.drop 3) 0).toBool) then
   some [V.int .i64 0,V.int .i64 0,.list ai ([]:LV),V.int .i64 0,V.int .i64 0,.list ai ([]:LV),V.int .i64 ((V.nth ((r3.drop 4).drop 1) 0).toInt),V.int .i64 2]
   else
   bif decide ((((V.nth ((r3.drop 4).drop 1) 0).toInt):Int)<(s.length:Int)) then
    some [V.int .i64 0,V.int .i64 0,.list ai ([]:LV),V.int .i64 0,V.int .i64 0,.list ai ([]:LV),V.int .i64 ((V.nth ((r3.drop 4).drop 1) 0).toInt),V.int .i64 2]
   else
    (C mq [V.int .i64 ((V.nth r1 0).toInt),V.int .i64 ((V.nth (r1.drop 1) 0).toInt),.list ai ((V.nth ((r1.drop 1).drop 1) 0).toList),V.int .i64 ((V.nth r3 0).toInt),V.int .i64 ((V.nth (r3.drop 1) 0).toInt),.list ai ((V.nth ((r3.drop 1).drop 1) 0).toList)]).bind fun r4=>
    bif (((V.nth r4 0).toInt):Int) != 0 then
    some [V.int .i64 0,V.int .i64 0,.list ai ([]:LV),V.int .i64 0,V.int .i64 0,.list ai ([]:LV),V.int .i64 0,V.int .i64 ((V.nth r4 0).toInt)]
    else
    some [V.int .i64 ((V.nth r1 0).toInt),V.int .i64 ((V.nth (r1.drop 1) 0).toInt),.list ai ((V.nth ((r1.drop 1).drop 1) 0).toList),V.int .i64 ((V.nth r3 0).toInt),V.int .i64 ((V.nth (r3.drop 1) 0).toInt),.list ai ((V.nth ((r3.drop 1).drop 1) 0).toList),V.int .i64 (-1),V.int .i64 0]
theorem ayf {s:List UInt8} {r:Option LV} (h:ahm CC s=r):CC Cr [.str s]=r:=bI (L:=bH) av h
noncomputable def xk (C:af) (XB XC ei:List UInt8) (ej:Bool) (lg kG:Int) (ahn:List UInt8) (aho:Bool) (ahp ahq:Int) (aI:LV) (t23:Int) (aQ:LV) {β:Type} (kn:(Int×LV)→Option β) (kr:(Int×Bool×LV)→Option β):Option β:=
 bif decide (t23<2) then
  (idx ([.str XB,.str XC]:LV) t23).bind fun x1=>
  (C Cr [.str x1.toStr]).bind fun r2=>
  bif (((V.nth ((r2.drop 6).drop 1) 0).toInt):Int)==0 then
  bif Nat.ble ((aQ.length+([.agg [V.int .i64 ((V.nth r2 0).toInt),V.int .i64 ((V.nth (r2.drop 1) 0).toInt),.list ai ((V.nth ((r2.drop 1).drop 1) 0).toList),V.int .i64 ((V.nth (((r2.drop 1).drop 1).drop 1) 0).toInt),V.int .i64 ((V.nth ((((r2.drop 1).drop 1).drop 1).drop 1) 0).toInt),.list ai ((V.nth (((((r2.drop 1).drop 1).drop 1).drop 1).drop 1) 0).toList)]]:LV).length)*80) aY then
   kn (wrap .i64 (t23+1),aQ++([.agg [V.int .i64 ((V.nth r2 0).toInt),V.int .i64 ((V.nth (r2.drop 1) 0).toInt),.list ai ((V.nth ((r2.drop 1).drop 1) 0).toList),V.int .i64 ((V.nth (((r2.drop 1).drop 1).drop 1) 0).toInt),V.int .i64 ((V.nth ((((r2.drop 1).drop 1).drop 1).drop 1) 0).toInt),.list ai ((V.nth (((((r2.drop 1).drop 1).drop 1).drop 1).drop 1) 0).toList)]]:LV))
  else none
  else
  kn (wrap .i64 (t23+1),aQ)
 else
  kr (t23,decide (t23<2),aQ)
noncomputable def rL (C:af) (XB XC ei:List UInt8) (ej:Bool) (lg kG:Int) (ahn:List UInt8) (aho:Bool) (ahp ahq:Int) (aI:LV):=un fun t23 aQ=>xk C XB XC ei ej lg kG ahn aho ahp ahq aI t23 aQ (fun y=>some (Sum.inl y)) (fun r=>some (Sum.inr r))
noncomputable def ayg (C:af):cL:=bR 49 U5 [EQ,EQ,H1,EQ,EQ,EQ,EQ,EQ,EQ,EQ,EQ,EQ,H1] [[1,2,0,0,4,5,6,7,8,9,10,11,12,0]] (@xk C) bH
theorem ayh (C:af):bA C (ayg C) 52 (Lp [1,1,0,1,0,0] 52):=bS U5 [EQ,EQ,H1,EQ,EQ,EQ,EQ,EQ,EQ,EQ,EQ,EQ,H1] [[1,2,0,0,4,5,6,7,8,9,10,11,12,0]] (@xk C) (bu av)
noncomputable def XD (C:af) (tS:List UInt8) (tT:Bool) (tU J9:Int) (PY xj:List UInt8):Option LV:=
 (Loop (rL C PY xj [] false 0 0 tS tT tU J9 ([]:LV)) (0,([]:LV))).bind (un fun kO=>un fun (nK:Bool) (b_5:LV)=>
  some [.str tS,.bool tT,V.int .i64 tU,V.int .i64 J9,.list iU b_5])
theorem ahr {tS:List UInt8} {tT:Bool} {tU J9:Int} {PY xj:List UInt8} {r:Option LV} (h:XD CC tS tT tU J9 PY xj=r):CC jL [.str tS,.bool tT,V.int .i64 tU,V.int .i64 J9,.str PY,.str xj]=r:=bI (bB (ayh CC) av) h
def nf (s:List UInt8) (d:gF):Prop:=CC Cr [.str s]=some (cS d++[.int .i64 (-1),.int .i64 0])
theorem p6 {s:List UInt8} {d:gF} {p p2 q:Int} (hs:s.length≤1000) (h1:CC gk [.str s,.int .i64 0]=some [.int .i64 d.l0,.int .i64 d.l1,.list ai d.l2,.bool true,.str s,.int .i64 p])
  (h2:CC nJ [.int .u8 61,.str s,.int .i64 p]=some [.bool true,.str s,.int .i64 p2])
  (h3:CC gk [.str s,.int .i64 p2]=some [.int .i64 d.r0,.int .i64 d.r1,.list ai d.r2,.bool true,.str s,.int .i64 q]) (hq:(s.length:Int)≤q) (hv:CC mq (cS d)=some [.int .i64 0]):nf s d:=by
 refine ayf ?_;unfold ahm;exact bF (cZ (by omega)) (bs h1 (bF rfl (bs h2 (bF rfl (bs h3 (bF rfl (bF (cZ (show¬q<(s.length:Int) by omega)) (bs hv (bF rfl rfl)))))))))
section
variable {n a b:List UInt8} {m:Bool} {f k:Int} {d e:gF}
theorem Ct (h1:nf a d) (h2:nf b e):CC jL [.str n,.bool m,.int .i64 f,.int .i64 k,.str a,.str b]=some [.str n,.bool m,.int .i64 f,.int .i64 k,.list iU ([d,e].map fun d=> .agg (cS d))]:=by
 refine ahr ?_;unfold XD;have s1:rL CC a b [] false 0 0 n m f k ([]:LV) (0,[])=some (.inl (1,[.agg (cS d)])):=by
  simp only[rL,xk,un];exact bT rfl (bs rfl (bs h1 (bT rfl rfl)))
 have s2:rL CC a b [] false 0 0 n m f k ([]:LV) (1,[.agg (cS d)])=some (.inl (2,[.agg (cS d),.agg (cS e)])):=by
  simp only[rL,xk,un];exact bT rfl (bs rfl (bs h2 (bT rfl rfl)))
 have s3:rL CC a b [] false 0 0 n m f k ([]:LV) (2,[.agg (cS d),.agg (cS e)])=some (.inr (2,false,[.agg (cS d),.agg (cS e)])):=by
  simp only[rL,xk,un];exact bF rfl rfl
 exact bs ((jd s1).trans ((jd s2).trans (kR s3))) rfl
theorem te (h1:nf a d) (h2:CC Cr [.str []]=some [.int .i64 0,.int .i64 0,.list ai [],.int .i64 0,.int .i64 0,.list ai [],.int .i64 0,.int .i64 2]):CC jL [.str n,.bool m,.int .i64 f,.int .i64 k,.str a,.str []]=some [.str n,.bool m,.int .i64 f,.int .i64 k,.list iU ([d].map fun d=> .agg (cS d))]:=by
 refine ahr ?_;unfold XD;have s1:rL CC a [] [] false 0 0 n m f k ([]:LV) (0,[])=some (.inl (1,[.agg (cS d)])):=by
  simp only[rL,xk,un];exact bT rfl (bs rfl (bs h1 (bT rfl rfl)))
 have s2:rL CC a [] [] false 0 0 n m f k ([]:LV) (1,[.agg (cS d)])=some (.inl (2,[.agg (cS d)])):=by
  simp only[rL,xk,un];exact bT rfl (bs rfl (bs h2 (bF rfl rfl)))
 have s3:rL CC a [] [] false 0 0 n m f k ([]:LV) (2,[.agg (cS d)])=some (.inr (2,false,[.agg (cS d)])):=by
  simp only[rL,xk,un];exact bF rfl rfl
 exact bs ((jd s1).trans ((jd s2).trans (kR s3))) rfl
end
def eT:gF:={l0:=2,l1:=0,l2:=[],r0:=1,r1:=0,r2:=[],p:=[(1,0)],q:=[(0,0)],o1:=fun i=>[H1,EQ,EQ,EQ,EQ,EQ].getD i false,e1:=fun i=>[H1,EQ,EQ,EQ,EQ,EQ].getD i false,bC:=fun i=>[H1,EQ,EQ,EQ,EQ,EQ].getD i false,bD:=fun i=>[H1,EQ,EQ,EQ,EQ,EQ].getD i false,nv:=1}
def Bs:List UInt8:=[120,32,61,32,49]
def dt:gF:={l0:=3,l1:=0,l2:=[.agg [.int .i64 2,.int .i64 0,.list ai []],.agg [.int .i64 2,.int .i64 1,.list ai []]],r0:=3,r1:=0,r2:=[.agg [.int .i64 2,.int .i64 1,.list ai []],.agg [.int .i64 2,.int .i64 0,.list ai []]],p:=[(1,0),(1,1),(2,0)],q:=[(1,1),(1,0),(2,0)],o1:=fun i=>[H1,H1,EQ,EQ,EQ,EQ].getD i false,e1:=fun i=>[H1,H1,EQ,EQ,EQ,EQ].getD i false,bC:=fun i=>[H1,H1,EQ,EQ,EQ,EQ].getD i false,bD:=fun i=>[H1,H1,EQ,EQ,EQ,EQ].getD i false,nv:=2}
def Bt:List UInt8:=[120,121,32,61,32,121,120]
def aH:gF:={l0:=4,l1:=1,l2:=[.agg [.int .i64 2,.int .i64 0,.list ai []]],r0:=4,r1:=0,r2:=[.agg [.int .i64 2,.int .i64 0,.list ai []]],p:=[(1,0),(3,1)],q:=[(1,0),(3,0)],o1:=fun i=>[H1,EQ,EQ,EQ,EQ,EQ].getD i false,e1:=fun i=>[H1,EQ,EQ,EQ,EQ,EQ].getD i false,bC:=fun i=>[H1,EQ,EQ,EQ,EQ,EQ].getD i false,bD:=fun i=>[H1,EQ,EQ,EQ,EQ,EQ].getD i false,nv:=1}
def Bu:List UInt8:=[120,94,40,119,43,49,41,32,61,32,120,94,119]
def dP:gF:={l0:=4,l1:=0,l2:=[.agg [.int .i64 2,.int .i64 0,.list ai []]],r0:=1,r1:=0,r2:=[],p:=[(1,0),(3,0)],q:=[(0,0)],o1:=fun i=>[H1,EQ,EQ,EQ,EQ,EQ].getD i false,e1:=fun i=>[EQ,EQ,EQ,EQ,EQ,EQ].getD i false,bC:=fun i=>[H1,EQ,EQ,EQ,EQ,EQ].getD i false,bD:=fun i=>[EQ,EQ,EQ,EQ,EQ,EQ].getD i false,nv:=1}
def Bv:List UInt8:=[120,94,119,32,61,32,49]
def eU:gF:={l0:=3,l1:=0,l2:=[.agg [.int .i64 2,.int .i64 0,.list ai []],.agg [.int .i64 2,.int .i64 0,.list ai []]],r0:=2,r1:=0,r2:=[],p:=[(1,0),(1,0),(2,0)],q:=[(1,0)],o1:=fun i=>[H1,EQ,EQ,EQ,EQ,EQ].getD i false,e1:=fun i=>[H1,EQ,EQ,EQ,EQ,EQ].getD i false,bC:=fun i=>[H1,EQ,EQ,EQ,EQ,EQ].getD i false,bD:=fun i=>[H1,EQ,EQ,EQ,EQ,EQ].getD i false,nv:=1}
def Bw:List UInt8:=[120,120,32,61,32,120]
def ep:gF:={l0:=3,l1:=0,l2:=[.agg [.int .i64 4,.int .i64 0,.list ai [.agg [.int .i64 3,.int .i64 0,.list ai [.agg [.int .i64 2,.int .i64 0,.list ai []],.agg [.int .i64 2,.int .i64 1,.list ai []]]]]],.agg [.int .i64 2,.int .i64 0,.list ai []]],r0:=4,r1:=0,r2:=[.agg [.int .i64 3,.int .i64 0,.list ai [.agg [.int .i64 2,.int .i64 0,.list ai []],.agg [.int .i64 2,.int .i64 1,.list ai []]]]],p:=[(1,0),(1,1),(2,0),(3,0),(1,0),(2,0)],q:=[(1,0),(1,1),(2,0),(3,0)],o1:=fun i=>[H1,H1,EQ,EQ,EQ,EQ].getD i false,e1:=fun i=>[H1,H1,EQ,EQ,EQ,EQ].getD i false,bC:=fun i=>[H1,H1,EQ,EQ,EQ,EQ].getD i false,bD:=fun i=>[H1,H1,EQ,EQ,EQ,EQ].getD i false,nv:=2}
def Bx:List UInt8:=[40,120,121,41,94,119,120,32,61,32,40,120,121,41,94,119]
def et:gF:={l0:=3,l1:=0,l2:=[.agg [.int .i64 2,.int .i64 1,.list ai []],.agg [.int .i64 4,.int .i64 0,.list ai [.agg [.int .i64 3,.int .i64 0,.list ai [.agg [.int .i64 2,.int .i64 0,.list ai []],.agg [.int .i64 2,.int .i64 1,.list ai []]]]]]],r0:=4,r1:=0,r2:=[.agg [.int .i64 3,.int .i64 0,.list ai [.agg [.int .i64 2,.int .i64 0,.list ai []],.agg [.int .i64 2,.int .i64 1,.list ai []]]]],p:=[(1,1),(1,0),(1,1),(2,0),(3,0),(2,0)],q:=[(1,0),(1,1),(2,0),(3,0)],o1:=fun i=>[H1,H1,EQ,EQ,EQ,EQ].getD i false,e1:=fun i=>[H1,H1,EQ,EQ,EQ,EQ].getD i false,bC:=fun i=>[H1,H1,EQ,EQ,EQ,EQ].getD i false,bD:=fun i=>[H1,H1,EQ,EQ,EQ,EQ].getD i false,nv:=2}
def By:List UInt8:=[121,40,120,121,41,94,119,32,61,32,40,120,121,41,94,119]
def eV:gF:={l0:=3,l1:=0,l2:=[.agg [.int .i64 4,.int .i64 0,.list ai [.agg [.int .i64 3,.int .i64 0,.list ai [.agg [.int .i64 2,.int .i64 0,.list ai []],.agg [.int .i64 2,.int .i64 1,.list ai []]]]]],.agg [.int .i64 2,.int .i64 0,.list ai []],.agg [.int .i64 4,.int .i64 0,.list ai [.agg [.int .i64 3,.int .i64 0,.list ai [.agg [.int .i64 2,.int .i64 0,.list ai []],.agg [.int .i64 2,.int .i64 1,.list ai []]]]]]],r0:=4,r1:=0,r2:=[.agg [.int .i64 3,.int .i64 0,.list ai [.agg [.int .i64 2,.int .i64 0,.list ai []],.agg [.int .i64 2,.int .i64 1,.list ai []]]]],p:=[(1,0),(1,1),(2,0),(3,0),(1,0),(2,0),(1,0),(1,1),(2,0),(3,0),(2,0)],q:=[(1,0),(1,1),(2,0),(3,0)],o1:=fun i=>[H1,H1,EQ,EQ,EQ,EQ].getD i false,e1:=fun i=>[H1,H1,EQ,EQ,EQ,EQ].getD i false,bC:=fun i=>[H1,H1,EQ,EQ,EQ,EQ].getD i false,bD:=fun i=>[H1,H1,EQ,EQ,EQ,EQ].getD i false,nv:=2}
def Bz:List UInt8:=[40,120,121,41,94,119,120,40,120,121,41,94,119,32,61,32,40,120,121,41,94,119]
def eu:gF:={l0:=3,l1:=0,l2:=[.agg [.int .i64 4,.int .i64 0,.list ai [.agg [.int .i64 2,.int .i64 0,.list ai []]]],.agg [.int .i64 2,.int .i64 1,.list ai []]],r0:=4,r1:=0,r2:=[.agg [.int .i64 2,.int .i64 0,.list ai []]],p:=[(1,0),(3,0),(1,1),(2,0)],q:=[(1,0),(3,0)],o1:=fun i=>[H1,H1,EQ,EQ,EQ,EQ].getD i false,e1:=fun i=>[EQ,H1,EQ,EQ,EQ,EQ].getD i false,bC:=fun i=>[H1,H1,EQ,EQ,EQ,EQ].getD i false,bD:=fun i=>[EQ,H1,EQ,EQ,EQ,EQ].getD i false,nv:=2}
def BA:List UInt8:=[120,94,119,121,32,61,32,120,94,119]
def ew:gF:={l0:=3,l1:=0,l2:=[.agg [.int .i64 2,.int .i64 1,.list ai []],.agg [.int .i64 4,.int .i64 0,.list ai [.agg [.int .i64 2,.int .i64 0,.list ai []]]]],r0:=4,r1:=0,r2:=[.agg [.int .i64 2,.int .i64 0,.list ai []]],p:=[(1,1),(1,0),(3,0),(2,0)],q:=[(1,0),(3,0)],o1:=fun i=>[H1,H1,EQ,EQ,EQ,EQ].getD i false,e1:=fun i=>[EQ,H1,EQ,EQ,EQ,EQ].getD i false,bC:=fun i=>[H1,H1,EQ,EQ,EQ,EQ].getD i false,bD:=fun i=>[EQ,H1,EQ,EQ,EQ,EQ].getD i false,nv:=2}
def BB:List UInt8:=[121,120,94,119,32,61,32,120,94,119]
def eW:gF:={l0:=3,l1:=0,l2:=[.agg [.int .i64 4,.int .i64 0,.list ai [.agg [.int .i64 2,.int .i64 0,.list ai []]]],.agg [.int .i64 2,.int .i64 1,.list ai []],.agg [.int .i64 4,.int .i64 0,.list ai [.agg [.int .i64 2,.int .i64 0,.list ai []]]]],r0:=4,r1:=0,r2:=[.agg [.int .i64 2,.int .i64 0,.list ai []]],p:=[(1,0),(3,0),(1,1),(2,0),(1,0),(3,0),(2,0)],q:=[(1,0),(3,0)],o1:=fun i=>[H1,H1,EQ,EQ,EQ,EQ].getD i false,e1:=fun i=>[EQ,H1,EQ,EQ,EQ,EQ].getD i false,bC:=fun i=>[H1,H1,EQ,EQ,EQ,EQ].getD i false,bD:=fun i=>[EQ,H1,EQ,EQ,EQ,EQ].getD i false,nv:=2}
def BC:List UInt8:=[120,94,119,121,120,94,119,32,61,32,120,94,119]
def eX:gF:={l0:=3,l1:=0,l2:=[.agg [.int .i64 4,.int .i64 0,.list ai [.agg [.int .i64 2,.int .i64 0,.list ai []]]],.agg [.int .i64 2,.int .i64 1,.list ai []],.agg [.int .i64 4,.int .i64 0,.list ai [.agg [.int .i64 2,.int .i64 0,.list ai []]]],.agg [.int .i64 2,.int .i64 1,.list ai []],.agg [.int .i64 4,.int .i64 0,.list ai [.agg [.int .i64 2,.int .i64 0,.list ai []]]]],r0:=3,r1:=0,r2:=[.agg [.int .i64 4,.int .i64 0,.list ai [.agg [.int .i64 2,.int .i64 0,.list ai []]]],.agg [.int .i64 2,.int .i64 1,.list ai []],.agg [.int .i64 4,.int .i64 0,.list ai [.agg [.int .i64 2,.int .i64 0,.list ai []]]]],p:=[(1,0),(3,0),(1,1),(2,0),(1,0),(3,0),(2,0),(1,1),(2,0),(1,0),(3,0),(2,0)],q:=[(1,0),(3,0),(1,1),(2,0),(1,0),(3,0),(2,0)],o1:=fun i=>[H1,H1,EQ,EQ,EQ,EQ].getD i false,e1:=fun i=>[EQ,H1,EQ,EQ,EQ,EQ].getD i false,bC:=fun i=>[H1,H1,EQ,EQ,EQ,EQ].getD i false,bD:=fun i=>[EQ,H1,EQ,EQ,EQ,EQ].getD i false,nv:=2}
def BD:List UInt8:=[120,94,119,121,120,94,119,121,120,94,119,32,61,32,120,94,119,121,120,94,119]
def eY:gF:={l0:=3,l1:=0,l2:=[.agg [.int .i64 4,.int .i64 0,.list ai [.agg [.int .i64 2,.int .i64 0,.list ai []]]],.agg [.int .i64 2,.int .i64 1,.list ai []],.agg [.int .i64 4,.int .i64 0,.list ai [.agg [.int .i64 2,.int .i64 0,.list ai []]]],.agg [.int .i64 2,.int .i64 2,.list ai []],.agg [.int .i64 4,.int .i64 0,.list ai [.agg [.int .i64 2,.int .i64 0,.list ai []]]]],r0:=3,r1:=0,r2:=[.agg [.int .i64 4,.int .i64 0,.list ai [.agg [.int .i64 2,.int .i64 0,.list ai []]]],.agg [.int .i64 2,.int .i64 2,.list ai []],.agg [.int .i64 4,.int .i64 0,.list ai [.agg [.int .i64 2,.int .i64 0,.list ai []]]],.agg [.int .i64 2,.int .i64 1,.list ai []],.agg [.int .i64 4,.int .i64 0,.list ai [.agg [.int .i64 2,.int .i64 0,.list ai []]]]],p:=[(1,0),(3,0),(1,1),(2,0),(1,0),(3,0),(2,0),(1,2),(2,0),(1,0),(3,0),(2,0)],q:=[(1,0),(3,0),(1,2),(2,0),(1,0),(3,0),(2,0),(1,1),(2,0),(1,0),(3,0),(2,0)],o1:=fun i=>[H1,H1,H1,EQ,EQ,EQ].getD i false,e1:=fun i=>[EQ,H1,H1,EQ,EQ,EQ].getD i false,bC:=fun i=>[H1,H1,H1,EQ,EQ,EQ].getD i false,bD:=fun i=>[EQ,H1,H1,EQ,EQ,EQ].getD i false,nv:=3}
def BE:List UInt8:=[120,94,119,121,120,94,119,122,120,94,119,32,61,32,120,94,119,122,120,94,119,121,120,94,119]
def eS:gF:={l0:=3,l1:=0,l2:=[.agg [.int .i64 4,.int .i64 0,.list ai [.agg [.int .i64 3,.int .i64 0,.list ai [.agg [.int .i64 4,.int .i64 0,.list ai [.agg [.int .i64 2,.int .i64 0,.list ai []]]],.agg [.int .i64 2,.int .i64 2,.list ai []],.agg [.int .i64 4,.int .i64 0,.list ai [.agg [.int .i64 2,.int .i64 1,.list ai []]]],.agg [.int .i64 2,.int .i64 3,.list ai []],.agg [.int .i64 4,.int .i64 0,.list ai [.agg [.int .i64 2,.int .i64 0,.list ai []]]]]]]],.agg [.int .i64 4,.int .i64 0,.list ai [.agg [.int .i64 2,.int .i64 0,.list ai []]]],.agg [.int .i64 2,.int .i64 2,.list ai []],.agg [.int .i64 4,.int .i64 0,.list ai [.agg [.int .i64 2,.int .i64 1,.list ai []]]],.agg [.int .i64 2,.int .i64 5,.list ai []],.agg [.int .i64 4,.int .i64 0,.list ai [.agg [.int .i64 2,.int .i64 0,.list ai []]]],.agg [.int .i64 4,.int .i64 0,.list ai [.agg [.int .i64 3,.int .i64 0,.list ai [.agg [.int .i64 4,.int .i64 0,.list ai [.agg [.int .i64 2,.int .i64 0,.list ai []]]],.agg [.int .i64 2,.int .i64 4,.list ai []],.agg [.int .i64 4,.int .i64 0,.list ai [.agg [.int .i64 2,.int .i64 1,.list ai []]]],.agg [.int .i64 2,.int .i64 5,.list ai []],.agg [.int .i64 4,.int .i64 0,.list ai [.agg [.int .i64 2,.int .i64 0,.list ai []]]]]]]]],r0:=3,r1:=0,r2:=[.agg [.int .i64 4,.int .i64 0,.list ai [.agg [.int .i64 3,.int .i64 0,.list ai [.agg [.int .i64 4,.int .i64 0,.list ai [.agg [.int .i64 2,.int .i64 0,.list ai []]]],.agg [.int .i64 2,.int .i64 2,.list ai []],.agg [.int .i64 4,.int .i64 0,.list ai [.agg [.int .i64 2,.int .i64 1,.list ai []]]],.agg [.int .i64 2,.int .i64 3,.list ai []],.agg [.int .i64 4,.int .i64 0,.list ai [.agg [.int .i64 2,.int .i64 0,.list ai []]]]]]]],.agg [.int .i64 4,.int .i64 0,.list ai [.agg [.int .i64 3,.int .i64 0,.list ai [.agg [.int .i64 4,.int .i64 0,.list ai [.agg [.int .i64 2,.int .i64 0,.list ai []]]],.agg [.int .i64 2,.int .i64 4,.list ai []],.agg [.int .i64 4,.int .i64 0,.list ai [.agg [.int .i64 2,.int .i64 1,.list ai []]]],.agg [.int .i64 2,.int .i64 5,.list ai []],.agg [.int .i64 4,.int .i64 0,.list ai [.agg [.int .i64 2,.int .i64 0,.list ai []]]]]]]]],p:=[(1,0),(3,0),(1,2),(2,0),(1,1),(3,0),(2,0),(1,3),(2,0),(1,0),(3,0),(2,0),(3,0),(1,0),(3,0),(2,0),(1,2),(2,0),(1,1),(3,0),(2,0),(1,5),(2,0),(1,0),(3,0),(2,0),(1,0),(3,0),(1,4),(2,0),(1,1),(3,0),(2,0),(1,5),(2,0),(1,0),(3,0),(2,0),(3,0),(2,0)],q:=[(1,0),(3,0),(1,2),(2,0),(1,1),(3,0),(2,0),(1,3),(2,0),(1,0),(3,0),(2,0),(3,0),(1,0),(3,0),(1,4),(2,0),(1,1),(3,0),(2,0),(1,5),(2,0),(1,0),(3,0),(2,0),(3,0),(2,0)],o1:=fun i=>[H1,H1,H1,H1,H1,H1].getD i false,e1:=fun i=>[EQ,EQ,H1,H1,H1,H1].getD i false,bC:=fun i=>[H1,H1,H1,H1,H1,H1].getD i false,bD:=fun i=>[EQ,EQ,H1,H1,H1,H1].getD i false,nv:=6}
def zt:List UInt8:=[40,120,94,119,122,121,94,119,117,120,94,119,41,94,119,120,94,119,122,121,94,119,116,120,94,119,40,120,94,119,118,121,94,119,116,120,94,119,41,94,119,32,61,32,40,120,94,119,122,121,94,119,117,120,94,119,41,94,119,40,120,94,119,118,121,94,119,116,120,94,119,41,94,119]
def K7:LV:=[.agg [.str [116,114,105,118,105,97,108],.bool true,.int .i64 1,.int .i64 0,.str [120,32,61,32,49],.str []],
 .agg [.str [99,111,109,109,117,116,97,116,105,118,101],.bool true,.int .i64 4,.int .i64 0,.str [120,121,32,61,32,121,120],.str []],
 .agg [.str [99,111,109,109,117,116,97,116,105,118,101,45,97,112,101,114,105,111,100,105,99],.bool true,.int .i64 4,.int .i64 0,.str [120,121,32,61,32,121,120],.str [120,94,40,119,43,49,41,32,61,32,120,94,119]],
 .agg [.str [97,98,101,108,105,97,110],.bool true,.int .i64 4,.int .i64 0,.str [120,121,32,61,32,121,120],.str [120,94,119,32,61,32,49]],
 .agg [.str [115,101,109,105,108,97,116,116,105,99,101],.bool true,.int .i64 2,.int .i64 6,.str [120,121,32,61,32,121,120],.str [120,120,32,61,32,120]],
 .agg [.str [97,112,101,114,105,111,100,105,99],.bool true,.int .i64 1,.int .i64 0,.str [120,94,40,119,43,49,41,32,61,32,120,94,119],.str []],
 .agg [.str [103,114,111,117,112],.bool true,.int .i64 5,.int .i64 0,.str [120,94,119,32,61,32,49],.str []],
 .agg [.str [106,45,116,114,105,118,105,97,108],.bool true,.int .i64 2,.int .i64 6,.str [40,120,121,41,94,119,120,32,61,32,40,120,121,41,94,119],.str [121,40,120,121,41,94,119,32,61,32,40,120,121,41,94,119]],
 .agg [.str [114,45,116,114,105,118,105,97,108],.bool true,.int .i64 3,.int .i64 1,.str [40,120,121,41,94,119,120,32,61,32,40,120,121,41,94,119],.str []],
 .agg [.str [108,45,116,114,105,118,105,97,108],.bool true,.int .i64 3,.int .i64 2,.str [121,40,120,121,41,94,119,32,61,32,40,120,121,41,94,119],.str []],
 .agg [.str [100,97],.bool true,.int .i64 3,.int .i64 3,.str [40,120,121,41,94,119,120,40,120,121,41,94,119,32,61,32,40,120,121,41,94,119],.str []],
 .agg [.str [102,105,110,105,116,101,45,111,114,45,99,111,102,105,110,105,116,101],.bool false,.int .i64 2,.int .i64 1,.str [120,94,119,121,32,61,32,120,94,119],.str [121,120,94,119,32,61,32,120,94,119]],
 .agg [.str [100,101,102,105,110,105,116,101],.bool false,.int .i64 2,.int .i64 3,.str [121,120,94,119,32,61,32,120,94,119],.str []],
 .agg [.str [114,101,118,101,114,115,101,45,100,101,102,105,110,105,116,101],.bool false,.int .i64 2,.int .i64 2,.str [120,94,119,121,32,61,32,120,94,119],.str []],
 .agg [.str [103,101,110,101,114,97,108,105,115,101,100,45,100,101,102,105,110,105,116,101],.bool false,.int .i64 2,.int .i64 4,.str [120,94,119,121,120,94,119,32,61,32,120,94,119],.str []],
 .agg [.str [108,111,99,97,108,108,121,45,116,101,115,116,97,98,108,101],.bool false,.int .i64 2,.int .i64 5,.str [120,94,119,121,120,94,119,121,120,94,119,32,61,32,120,94,119,121,120,94,119],.str [120,94,119,121,120,94,119,122,120,94,119,32,61,32,120,94,119,122,120,94,119,121,120,94,119]],
 .agg [.str [100,111,116,45,100,101,112,116,104,45,111,110,101],.bool false,.int .i64 2,.int .i64 7,.str [40,120,94,119,122,121,94,119,117,120,94,119,41,94,119,120,94,119,122,121,94,119,116,120,94,119,40,120,94,119,118,121,94,119,116,120,94,119,41,94,119,32,61,32,40,120,94,119,122,121,94,119,117,120,94,119,41,94,119,40,120,94,119,118,121,94,119,116,120,94,119,41,94,119],.str []]]
def QK (c:Nat):List gF:=[[eT],[dt],[dt,aH],[dt,dP],[dt,eU],[aH],[dP],[ep,et],[ep],[et],[eV],[eu,ew],[ew],[eu],[eW],[eX,eY],[eS]].getD c []
end Go.AM
