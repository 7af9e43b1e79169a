/-
  Functions of wX program, lifted to plain data.
-/
import Derived.Test.YtmcdbnalaobmpaaDoorP5
set_option linter.unusedVariables false
set_option linter.unusedSimpArgs false
set_option maxRecDepth 100000
namespace Go.AM
open Go.Proofs
noncomputable def Uj (C:ae) (data:List V) (a gv:Int):Option (List V):=
 (C DR [.list an data,.int .i64 (IntKind.wrap .i64 (a-1)),.int .i64 a,.int .i64 (IntKind.wrap .i64 (a+1)),.int .i64 gv]).bind fun r1=>
 some [.int .i64 ((V.nth r1 0).toInt),.int .i64 ((V.nth (r1.drop 1) 0).toInt)]
theorem afo {data:List V} {a gv:Int} {r:Option (List V)} (h:Uj CC data a gv=r):CC yS [.list an data,.int .i64 a,.int .i64 gv]=r:=
 bj (key:=174) (L:=cP) (bs:=[]) (by kernel_rfl) au (Eq.trans (by kernel_rfl) h)
end Go.AM
set_option maxRecDepth 100000
namespace Go.AM
open Go.Proofs
noncomputable abbrev wK:Code:=cy Tryd.prog (ar.aP 172)
noncomputable def Fu (C:ae) (a length wL je other:Int) (t45:Bool) (af:List V) (AX:Int) {β:Type} (kr:(Int)→Option β):Option β:=
 bif t45 then
  kr (IntKind.wrap .i64 (other-length))
 else
  kr other
noncomputable def AY (C:ae) (a length wL je:Int) (af:List V) (AX:Int) {β:Type} (kn:(Int × (List V) × Int)→Option β) (kr:(Int × Bool × (List V) × Int)→Option β):Option β:=
 bif decide ((je:Int)≤(IntKind.wrap .i64 ((IntKind.wrap .i64 (a+(IntKind.wrap .i64 (2*(IntKind.wrap .i64 (Int.tdiv length 4))))))+1))) then
  (C DN [.int .u64 AX]).bind fun r2=>
  Fu C a length wL je (IntKind.wrap .i64 (IntKind.wrap .u64 ((BitVec.ofInt (IntKind.bits .u64) ((V.nth r2 0).toInt)&&&BitVec.ofInt (IntKind.bits .u64) (IntKind.wrap .u64 (wL-1))).toNat))) (decide (((IntKind.wrap .i64 (IntKind.wrap .u64 ((BitVec.ofInt (IntKind.bits .u64) ((V.nth r2 0).toInt)&&&BitVec.ofInt (IntKind.bits .u64) (IntKind.wrap .u64 (wL-1))).toNat))):Int)≥length)) af ((V.nth (r2.drop 1) 0).toInt) (fun (tR:Int)=>
   bif (decide (0≤(IntKind.wrap .i64 (a+tR))))&&(decide ((IntKind.wrap .i64 (a+tR))<(af.length:Int))) then
   (af[(IntKind.wrap .i64 (a+tR):Int).toNat]?).bind fun x4=>
   bif (decide (0≤je))&&(decide (je<(af.length:Int))) then
    (af[(je:Int).toNat]?).bind fun x5=>
    bif (decide (0≤je))&&(decide (je<(af.length:Int))) then
    (af[(je:Int).toNat]?).bind fun x6=>
    bif (decide (0≤(IntKind.wrap .i64 (a+tR))))&&(decide ((IntKind.wrap .i64 (a+tR))<((af.set ((je:Int).toNat) (.agg [.int .i64 ((x4.cell 0).toInt),.int .i64 ((x4.cell 1).toInt),.int .i64 ((x4.cell 2).toInt)])).length:Int))) then
     ((af.set ((je:Int).toNat) (.agg [.int .i64 ((x4.cell 0).toInt),.int .i64 ((x4.cell 1).toInt),.int .i64 ((x4.cell 2).toInt)]))[(IntKind.wrap .i64 (a+tR):Int).toNat]?).bind fun x7=>
     kn (IntKind.wrap .i64 (je+1),(af.set ((je:Int).toNat) (.agg [.int .i64 ((x4.cell 0).toInt),.int .i64 ((x4.cell 1).toInt),.int .i64 ((x4.cell 2).toInt)])).set ((IntKind.wrap .i64 (a+tR):Int).toNat) (.agg [.int .i64 ((x5.cell 0).toInt),.int .i64 ((x5.cell 1).toInt),.int .i64 ((x5.cell 2).toInt)]),(V.nth (r2.drop 1) 0).toInt)
    else none
    else none
   else none
   else none)
 else
  kr (je,decide ((je:Int)≤(IntKind.wrap .i64 ((IntKind.wrap .i64 (a+(IntKind.wrap .i64 (2*(IntKind.wrap .i64 (Int.tdiv length 4))))))+1))),af,AX)
noncomputable def Fv (C:ae) (a length wL:Int):(Int × (List V) × Int)→Option ((Int × (List V) × Int) ⊕ (Int × Bool × (List V) × Int)):=un fun je=>un fun af AX=>AY C a length wL je af AX (fun y=>some (.inl y)) (fun r=>some (.inr r))
noncomputable def Uk (C:ae):cq:=fun β n ds k=>
 bif Nat.beq n 735 then mq Jx [[1,2,3,4,0,7,8]] (@Fu C) ds k else
 bif Nat.beq n 81 then bA Jy [false,false,false,true,true,true] [[1,2,3,0,0,0,0]] (@AY C) ds k else
 none
abbrev Ul (C:ae) (b:cl):Prop:=cm Tryd.prog ar C (Uk C) 172 (cE Tryd.prog (ar.aP 172)) (ar.sin 172).aO.length b
theorem afp (C:ae):Ul C (.cond 45 (ao [1,1,0,1,1,1,0,0,1,0,0,1,0,1,0] wK) (ao [1,1,0,1,1,1,0,0,1,0,0,1,0,1,1] wK)):=
 nu Jx [[1,2,3,4,0,7,8]] (@Fu C) (by kernel_rfl) (aT (bs:=[]) (by kernel_rfl) au) (aT (bs:=[]) (by kernel_rfl) au) (fun ds=>by kernel_rfl) (fun i β k=>by kernel_rfl) (fun β ds k=>by kernel_rfl)
theorem afq (C:ae):Ul C (.loop (ao [1,1,0,1,1,1,0,0] wK)):=
 bD Jy [false,false,false,true,true,true] [[1,2,3,0,0,0,0]] (@AY C) (by kernel_rfl) (aT (bs:=[.cond 45 (ao [1,1,0,1,1,1,0,0,1,0,0,1,0,1,0] wK) (ao [1,1,0,1,1,1,0,0,1,0,0,1,0,1,1] wK)]) (by kernel_rfl) (bm (afp C) au)) (fun ds=>by kernel_rfl) (fun i x=>by kernel_rfl) (fun i x β k=>by kernel_rfl) (fun β ds k=>by kernel_rfl)
noncomputable def Um (C:ae) (a b':Int) (af:List V):Option (List V):=
 bif decide (((IntKind.wrap .i64 (b'-a)):Int)≥8) then
  (C DM [.int .i64 (IntKind.wrap .i64 (b'-a))]).bind fun r1=>
  (Loop (Fv C a (IntKind.wrap .i64 (b'-a)) ((V.nth r1 0).toInt)) (IntKind.wrap .i64 ((IntKind.wrap .i64 (a+(IntKind.wrap .i64 (2*(IntKind.wrap .i64 (Int.tdiv (IntKind.wrap .i64 (b'-a)) 4))))))-1),af,IntKind.wrap .u64 (IntKind.wrap .i64 (b'-a)))).bind (un fun (ah3:Int)=>un fun (tz:Bool)=>un fun (nF:List V) (ah4:Int)=>
   some [.list an nF])
 else
  some [.list an af]
theorem afr {a b':Int} {af:List V} {r:Option (List V)} (h:Um CC a b' af=r):CC Ik [.int .i64 a,.int .i64 b',.list an af]=r:=
 bj (key:=172) (L:=Uk CC) (bs:=[.loop (ao [1,1,0,1,1,1,0,0] wK)]) (by kernel_rfl) (bm (afq CC) au) (Eq.trans (by kernel_rfl) h)
end Go.AM
set_option maxRecDepth 100000
namespace Go.AM
open Go.Proofs
noncomputable def Un (C:ae) (ib:Int):Option (List V):=
 some [.int .u64 (IntKind.wrap .u64 ((BitVec.ofInt (IntKind.bits .u64) (IntKind.wrap .u64 ((BitVec.ofInt (IntKind.bits .u64) (IntKind.wrap .u64 ((BitVec.ofInt (IntKind.bits .u64) ib ^^^ BitVec.ofInt (IntKind.bits .u64) (IntKind.wrap .u64 (ib*2^(min (13:Int).toNat (IntKind.bits .u64))))).toNat)) ^^^ BitVec.ofInt (IntKind.bits .u64) (Int.fdiv (IntKind.wrap .u64 ((BitVec.ofInt (IntKind.bits .u64) ib ^^^ BitVec.ofInt (IntKind.bits .u64) (IntKind.wrap .u64 (ib*2^(min (13:Int).toNat (IntKind.bits .u64))))).toNat)) (2^(min (7:Int).toNat (IntKind.bits .u64))))).toNat)) ^^^ BitVec.ofInt (IntKind.bits .u64) (IntKind.wrap .u64 ((IntKind.wrap .u64 ((BitVec.ofInt (IntKind.bits .u64) (IntKind.wrap .u64 ((BitVec.ofInt (IntKind.bits .u64) ib ^^^ BitVec.ofInt (IntKind.bits .u64) (IntKind.wrap .u64 (ib*2^(min (13:Int).toNat (IntKind.bits .u64))))).toNat)) ^^^ BitVec.ofInt (IntKind.bits .u64) (Int.fdiv (IntKind.wrap .u64 ((BitVec.ofInt (IntKind.bits .u64) ib ^^^ BitVec.ofInt (IntKind.bits .u64) (IntKind.wrap .u64 (ib*2^(min (13:Int).toNat (IntKind.bits .u64))))).toNat)) (2^(min (7:Int).toNat (IntKind.bits .u64))))).toNat))*2^(min (17:Int).toNat (IntKind.bits .u64))))).toNat)),.int .u64 (IntKind.wrap .u64 ((BitVec.ofInt (IntKind.bits .u64) (IntKind.wrap .u64 ((BitVec.ofInt (IntKind.bits .u64) (IntKind.wrap .u64 ((BitVec.ofInt (IntKind.bits .u64) ib ^^^ BitVec.ofInt (IntKind.bits .u64) (IntKind.wrap .u64 (ib*2^(min (13:Int).toNat (IntKind.bits .u64))))).toNat)) ^^^ BitVec.ofInt (IntKind.bits .u64) (Int.fdiv (IntKind.wrap .u64 ((BitVec.ofInt (IntKind.bits .u64) ib ^^^ BitVec.ofInt (IntKind.bits .u64) (IntKind.wrap .u64 (ib*2^(min (13:Int).toNat (IntKind.bits .u64))))).toNat)) (2^(min (7:Int).toNat (IntKind.bits .u64))))).toNat)) ^^^ BitVec.ofInt (IntKind.bits .u64) (IntKind.wrap .u64 ((IntKind.wrap .u64 ((BitVec.ofInt (IntKind.bits .u64) (IntKind.wrap .u64 ((BitVec.ofInt (IntKind.bits .u64) ib ^^^ BitVec.ofInt (IntKind.bits .u64) (IntKind.wrap .u64 (ib*2^(min (13:Int).toNat (IntKind.bits .u64))))).toNat)) ^^^ BitVec.ofInt (IntKind.bits .u64) (Int.fdiv (IntKind.wrap .u64 ((BitVec.ofInt (IntKind.bits .u64) ib ^^^ BitVec.ofInt (IntKind.bits .u64) (IntKind.wrap .u64 (ib*2^(min (13:Int).toNat (IntKind.bits .u64))))).toNat)) (2^(min (7:Int).toNat (IntKind.bits .u64))))).toNat))*2^(min (17:Int).toNat (IntKind.bits .u64))))).toNat))]
theorem afs {ib:Int} {r:Option (List V)} (h:Un CC ib=r):CC DN [.int .u64 ib]=r:=
 bj (key:=143) (L:=cP) (bs:=[]) (by kernel_rfl) au (Eq.trans (by kernel_rfl) h)
end Go.AM
set_option maxRecDepth 100000
namespace Go.AM
open Go.Proofs
noncomputable def Uo (C:ae) (length:Int):Option (List V):=
 (C yM [.int .u64 (IntKind.wrap .u64 length)]).bind fun r1=>
 bif decide (0≤((V.nth r1 0).toInt)) then
  some [.int .u64 (IntKind.wrap .u64 (1*2^(min ((V.nth r1 0).toInt).toNat (IntKind.bits .u64))))]
 else none
theorem aft {length:Int} {r:Option (List V)} (h:Uo CC length=r):CC DM [.int .i64 length]=r:=
 bj (key:=142) (L:=cP) (bs:=[]) (by kernel_rfl) au (Eq.trans (by kernel_rfl) h)
end Go.AM
set_option maxRecDepth 100000
namespace Go.AM
open Go.Proofs
noncomputable def Up (C:ae) (x:Int):Option (List V):=
 (C DK [.int .u64 x]).bind fun r1=>
 some [.int .i64 ((V.nth r1 0).toInt)]
theorem afu {x:Int} {r:Option (List V)} (h:Up CC x=r):CC yM [.int .u64 x]=r:=
 bj (key:=111) (L:=cP) (bs:=[]) (by kernel_rfl) au (Eq.trans (by kernel_rfl) h)
end Go.AM
set_option maxRecDepth 100000
namespace Go.AM
open Go.Proofs
noncomputable abbrev rH:Code:=cy Tryd.prog (ar.aP 134)
noncomputable def tS (C:ae) (x n:Int) (t4:Bool) {β:Type} (kr:(Int × Int)→Option β):Option β:=
 bif t4 then
  kr (Int.fdiv x (2^(min (32:Int).toNat (IntKind.bits .u64))),32)
 else
  kr (x,n)
noncomputable def tT (C:ae) (x n:Int) (t8:Bool) {β:Type} (kr:(Int × Int)→Option β):Option β:=
 bif t8 then
  kr (Int.fdiv x (2^(min (16:Int).toNat (IntKind.bits .u64))),IntKind.wrap .i64 (n+16))
 else
  kr (x,n)
noncomputable def Uq (C:ae):cq:=fun β n ds k=>
 bif Nat.beq n 79 then mq Jm [[0,0]] (@tS C) ds k else
 bif Nat.beq n 143 then mq Jn [[0,0]] (@tT C) ds k else
 none
abbrev Ur (C:ae) (b:cl):Prop:=cm Tryd.prog ar C (Uq C) 134 (cE Tryd.prog (ar.aP 134)) (ar.sin 134).aO.length b
theorem afv (C:ae):Ur C (.cond 4 (ao [1,0,1,0] rH) (ao [1,0,1,1] rH)):=
 nu Jm [[0,0]] (@tS C) (by kernel_rfl) (aT (bs:=[]) (by kernel_rfl) au) (aT (bs:=[]) (by kernel_rfl) au) (fun ds=>by kernel_rfl) (fun i β k=>by kernel_rfl) (fun β ds k=>by kernel_rfl)
theorem afw (C:ae):Ur C (.cond 8 (ao [1,1,0,1,0] rH) (ao [1,1,0,1,1] rH)):=
 nu Jn [[0,0]] (@tT C) (by kernel_rfl) (aT (bs:=[]) (by kernel_rfl) au) (aT (bs:=[]) (by kernel_rfl) au) (fun ds=>by kernel_rfl) (fun i β k=>by kernel_rfl) (fun β ds k=>by kernel_rfl)
noncomputable def afx (C:ae) (x:Int):Option (List V):=
 tS C x 0 (decide ((x:Int)≥4294967296)) (un fun (rI:Int) (eB:Int)=>
  tT C rI eB (decide ((rI:Int)≥65536)) (un fun (AZ:Int) (eI:Int)=>
   bif decide ((AZ:Int)≥256) then
    (bif decide (0≤(IntKind.wrap .u8 (Int.fdiv AZ (2^(min (8:Int).toNat (IntKind.bits .u64)))))) then (([0,1,2,2,3,3,3,3,4,4,4,4,4,4,4,4,5,5,5,5,5,5,5,5,5,5,5,5,5,5,5,5,6,6,6,6,6,6,6,6,6,6,6,6,6,6,6,6,6,6,6,6,6,6,6,6,6,6,6,6,6,6,6,6,7,7,7,7,7,7,7,7,7,7,7,7,7,7,7,7,7,7,7,7,7,7,7,7,7,7,7,7,7,7,7,7,7,7,7,7,7,7,7,7,7,7,7,7,7,7,7,7,7,7,7,7,7,7,7,7,7,7,7,7,7,7,7,7,8,8,8,8,8,8,8,8,8,8,8,8,8,8,8,8,8,8,8,8,8,8,8,8,8,8,8,8,8,8,8,8,8,8,8,8,8,8,8,8,8,8,8,8,8,8,8,8,8,8,8,8,8,8,8,8,8,8,8,8,8,8,8,8,8,8,8,8,8,8,8,8,8,8,8,8,8,8,8,8,8,8,8,8,8,8,8,8,8,8,8,8,8,8,8,8,8,8,8,8,8,8,8,8,8,8,8,8,8,8,8,8,8,8,8,8,8,8,8,8,8,8,8,8,8,8,8,8]:List UInt8)[(IntKind.wrap .u8 (Int.fdiv AZ (2^(min (8:Int).toNat (IntKind.bits .u64)))):Int).toNat]?).map fun b=>V.int .u8 b.toNat else none).bind fun x5=>
    some [.int .i64 (IntKind.wrap .i64 ((IntKind.wrap .i64 (eI+8))+(IntKind.wrap .i64 x5.toInt)))]
   else
    (bif decide (0≤(IntKind.wrap .u8 AZ)) then (([0,1,2,2,3,3,3,3,4,4,4,4,4,4,4,4,5,5,5,5,5,5,5,5,5,5,5,5,5,5,5,5,6,6,6,6,6,6,6,6,6,6,6,6,6,6,6,6,6,6,6,6,6,6,6,6,6,6,6,6,6,6,6,6,7,7,7,7,7,7,7,7,7,7,7,7,7,7,7,7,7,7,7,7,7,7,7,7,7,7,7,7,7,7,7,7,7,7,7,7,7,7,7,7,7,7,7,7,7,7,7,7,7,7,7,7,7,7,7,7,7,7,7,7,7,7,7,7,8,8,8,8,8,8,8,8,8,8,8,8,8,8,8,8,8,8,8,8,8,8,8,8,8,8,8,8,8,8,8,8,8,8,8,8,8,8,8,8,8,8,8,8,8,8,8,8,8,8,8,8,8,8,8,8,8,8,8,8,8,8,8,8,8,8,8,8,8,8,8,8,8,8,8,8,8,8,8,8,8,8,8,8,8,8,8,8,8,8,8,8,8,8,8,8,8,8,8,8,8,8,8,8,8,8,8,8,8,8,8,8,8,8,8,8,8,8,8,8,8,8,8,8,8,8,8,8]:List UInt8)[(IntKind.wrap .u8 AZ:Int).toNat]?).map fun b=>V.int .u8 b.toNat else none).bind fun x6=>
    some [.int .i64 (IntKind.wrap .i64 (eI+(IntKind.wrap .i64 x6.toInt)))]))
theorem Us {x:Int} {r:Option (List V)} (h:afx CC x=r):CC DK [.int .u64 x]=r:=
 bj (key:=134) (L:=Uq CC) (bs:=[.cond 4 (ao [1,0,1,0] rH) (ao [1,0,1,1] rH),.cond 8 (ao [1,1,0,1,0] rH) (ao [1,1,0,1,1] rH)]) (by kernel_rfl) (bm (afv CC) (bm (afw CC) au)) (Eq.trans (by kernel_rfl) h)
end Go.AM
set_option maxRecDepth 100000
namespace Go.AM
open Go.Proofs
noncomputable abbrev kQ:Code:=cy Tryd.prog (ar.aP 169)
noncomputable def wM (C:ae) (a b' iK:Int) (eC eP:Bool) (length:Int) (t39:Bool) (af:List V) {β:Type} (kr:(Int × (List V))→Option β):Option β:=
 bif t39 then
  (C Ik [.int .i64 a,.int .i64 b',.list an af]).bind fun r3=>
  kr (IntKind.wrap .i64 (iK-1),(V.nth r3 0).toList)
 else
  kr (iK,af)
noncomputable def wO (C:ae) (a b' iK:Int) (eC eP:Bool) (length pivot hint:Int) (t56:Bool) (af:List V) {β:Type} (kr:(Int × Int × (List V))→Option β):Option β:=
 bif t56 then
  (C Il [.int .i64 a,.int .i64 b',.list an af]).bind fun r7=>
  kr (IntKind.wrap .i64 ((IntKind.wrap .i64 (b'-1))-(IntKind.wrap .i64 (pivot-a))),1,(V.nth r7 0).toList)
 else
  kr (pivot,hint,af)
noncomputable def lM (C:ae) (a b' iK:Int) (eC eP:Bool) (length pivot:Int) (t75:Bool) (af:List V) {β:Type} (kr:((Bool × (List V)) ⊕ (List V))→Option β):Option β:=
 bif t75 then
  (C Im [.int .i64 a,.int .i64 b',.list an af]).bind fun qs=>
  bif (V.nth qs 0).toBool then
  kr (.inl ((V.nth qs 0).toBool,(V.nth (qs.drop 1) 0).toList))
  else
  kr (.inr ((V.nth (qs.drop 1) 0).toList))
 else
  kr (.inr af)
noncomputable def oS (C:ae) (a b' iK:Int) (eC eP:Bool) (af:List V) {β:Type} (kn:(Int × Int × Int × Bool × Bool × (List V))→Option β) (kr:(List V)→Option β):Option β:=
 bif decide (((IntKind.wrap .i64 (b'-a)):Int)≤12) then
  (C DO [.int .i64 a,.int .i64 b',.list an af]).bind fun r1=>
  kr ((V.nth r1 0).toList)
 else
  bif (iK:Int)==0 then
  (C DP [.int .i64 a,.int .i64 b',.list an af]).bind fun r2=>
  kr ((V.nth r2 0).toList)
  else
  wM C a b' iK eC eP (IntKind.wrap .i64 (b'-a)) (!eC) af (un fun (cp:Int) (A0:List V)=>
   (C DQ [.list an A0,.int .i64 a,.int .i64 b']).bind fun r6=>
   wO C a b' cp eC eP (IntKind.wrap .i64 (b'-a)) ((V.nth r6 0).toInt) ((V.nth (r6.drop 1) 0).toInt) ((((V.nth (r6.drop 1) 0).toInt):Int)==2) A0 (un fun (dx:Int)=>un fun (KU:Int) (nF:List V)=>
    bif eC then
     bif eP then
     lM C a b' cp eC eP (IntKind.wrap .i64 (b'-a)) dx ((KU:Int)==1) nF (cO (un fun (E4:Bool) (KI:List V)=>
      kr KI) (fun (tU:List V)=>
      bif decide ((a:Int)>0) then
       bif (decide (0≤(IntKind.wrap .i64 (a-1))))&&(decide ((IntKind.wrap .i64 (a-1))<(tU.length:Int))) then
       (tU[(IntKind.wrap .i64 (a-1):Int).toNat]?).bind fun fG=>
       bif (decide (0≤dx))&&(decide (dx<(tU.length:Int))) then
        (tU[(dx:Int).toNat]?).bind fun gb=>
        (C aW [.int .i64 ((fG.cell 0).toInt),.int .i64 ((fG.cell 1).toInt),.int .i64 ((fG.cell 2).toInt),.int .i64 ((gb.cell 0).toInt),.int .i64 ((gb.cell 1).toInt),.int .i64 ((gb.cell 2).toInt)]).bind fun dv=>
        bif !(decide ((((V.nth dv 0).toInt):Int)<0)) then
        (C vA [.int .i64 a,.int .i64 b',.int .i64 dx,.list an tU]).bind fun mK=>
        kn ((V.nth mK 0).toInt,b',cp,eC,eP,(V.nth (mK.drop 1) 0).toList)
        else
        (C nw [.int .i64 a,.int .i64 b',.int .i64 dx,.list an tU]).bind fun gd=>
        bif decide (((IntKind.wrap .i64 (((V.nth gd 0).toInt)-a)):Int)<(IntKind.wrap .i64 (b'-((V.nth gd 0).toInt)))) then
         (C gr [.int .i64 a,.int .i64 ((V.nth gd 0).toInt),.int .i64 cp,.list an ((V.nth (gd.drop 2) 0).toList)]).bind fun gf=>
         kn (IntKind.wrap .i64 (((V.nth gd 0).toInt)+1),b',cp,decide (((IntKind.wrap .i64 (((V.nth gd 0).toInt)-a)):Int)≥(IntKind.wrap .i64 (Int.tdiv (IntKind.wrap .i64 (b'-a)) 8))),(V.nth (gd.drop 1) 0).toBool,(V.nth gf 0).toList)
        else
         (C gr [.int .i64 (IntKind.wrap .i64 (((V.nth gd 0).toInt)+1)),.int .i64 b',.int .i64 cp,.list an ((V.nth (gd.drop 2) 0).toList)]).bind fun nK=>
         kn (a,(V.nth gd 0).toInt,cp,decide (((IntKind.wrap .i64 (b'-((V.nth gd 0).toInt))):Int)≥(IntKind.wrap .i64 (Int.tdiv (IntKind.wrap .i64 (b'-a)) 8))),(V.nth (gd.drop 1) 0).toBool,(V.nth nK 0).toList)
       else none
       else none
      else
       (C nw [.int .i64 a,.int .i64 b',.int .i64 dx,.list an tU]).bind fun iJ=>
       bif decide (((IntKind.wrap .i64 (((V.nth iJ 0).toInt)-a)):Int)<(IntKind.wrap .i64 (b'-((V.nth iJ 0).toInt)))) then
       (C gr [.int .i64 a,.int .i64 ((V.nth iJ 0).toInt),.int .i64 cp,.list an ((V.nth (iJ.drop 2) 0).toList)]).bind fun r23=>
       kn (IntKind.wrap .i64 (((V.nth iJ 0).toInt)+1),b',cp,decide (((IntKind.wrap .i64 (((V.nth iJ 0).toInt)-a)):Int)≥(IntKind.wrap .i64 (Int.tdiv (IntKind.wrap .i64 (b'-a)) 8))),(V.nth (iJ.drop 1) 0).toBool,(V.nth r23 0).toList)
       else
       (C gr [.int .i64 (IntKind.wrap .i64 (((V.nth iJ 0).toInt)+1)),.int .i64 b',.int .i64 cp,.list an ((V.nth (iJ.drop 2) 0).toList)]).bind fun r24=>
       kn (a,(V.nth iJ 0).toInt,cp,decide (((IntKind.wrap .i64 (b'-((V.nth iJ 0).toInt))):Int)≥(IntKind.wrap .i64 (Int.tdiv (IntKind.wrap .i64 (b'-a)) 8))),(V.nth (iJ.drop 1) 0).toBool,(V.nth r24 0).toList)))
     else
     lM C a b' cp eC eP (IntKind.wrap .i64 (b'-a)) dx false nF (cO (un fun (acK:Bool) (afy:List V)=>
      kr afy) (fun (qn:List V)=>
      bif decide ((a:Int)>0) then
       bif (decide (0≤(IntKind.wrap .i64 (a-1))))&&(decide ((IntKind.wrap .i64 (a-1))<(qn.length:Int))) then
       (qn[(IntKind.wrap .i64 (a-1):Int).toNat]?).bind fun tO=>
       bif (decide (0≤dx))&&(decide (dx<(qn.length:Int))) then
        (qn[(dx:Int).toNat]?).bind fun tP=>
        (C aW [.int .i64 ((tO.cell 0).toInt),.int .i64 ((tO.cell 1).toInt),.int .i64 ((tO.cell 2).toInt),.int .i64 ((tP.cell 0).toInt),.int .i64 ((tP.cell 1).toInt),.int .i64 ((tP.cell 2).toInt)]).bind fun Fm=>
        bif !(decide ((((V.nth Fm 0).toInt):Int)<0)) then
        (C vA [.int .i64 a,.int .i64 b',.int .i64 dx,.list an qn]).bind fun Ut=>
        kn ((V.nth Ut 0).toInt,b',cp,eC,eP,(V.nth (Ut.drop 1) 0).toList)
        else
        (C nw [.int .i64 a,.int .i64 b',.int .i64 dx,.list an qn]).bind fun mL=>
        bif decide (((IntKind.wrap .i64 (((V.nth mL 0).toInt)-a)):Int)<(IntKind.wrap .i64 (b'-((V.nth mL 0).toInt)))) then
         (C gr [.int .i64 a,.int .i64 ((V.nth mL 0).toInt),.int .i64 cp,.list an ((V.nth (mL.drop 2) 0).toList)]).bind fun r33=>
         kn (IntKind.wrap .i64 (((V.nth mL 0).toInt)+1),b',cp,decide (((IntKind.wrap .i64 (((V.nth mL 0).toInt)-a)):Int)≥(IntKind.wrap .i64 (Int.tdiv (IntKind.wrap .i64 (b'-a)) 8))),(V.nth (mL.drop 1) 0).toBool,(V.nth r33 0).toList)
        else
         (C gr [.int .i64 (IntKind.wrap .i64 (((V.nth mL 0).toInt)+1)),.int .i64 b',.int .i64 cp,.list an ((V.nth (mL.drop 2) 0).toList)]).bind fun r34=>
         kn (a,(V.nth mL 0).toInt,cp,decide (((IntKind.wrap .i64 (b'-((V.nth mL 0).toInt))):Int)≥(IntKind.wrap .i64 (Int.tdiv (IntKind.wrap .i64 (b'-a)) 8))),(V.nth (mL.drop 1) 0).toBool,(V.nth r34 0).toList)
       else none
       else none
      else
       (C nw [.int .i64 a,.int .i64 b',.int .i64 dx,.list an qn]).bind fun mM=>
       bif decide (((IntKind.wrap .i64 (((V.nth mM 0).toInt)-a)):Int)<(IntKind.wrap .i64 (b'-((V.nth mM 0).toInt)))) then
       (C gr [.int .i64 a,.int .i64 ((V.nth mM 0).toInt),.int .i64 cp,.list an ((V.nth (mM.drop 2) 0).toList)]).bind fun r36=>
       kn (IntKind.wrap .i64 (((V.nth mM 0).toInt)+1),b',cp,decide (((IntKind.wrap .i64 (((V.nth mM 0).toInt)-a)):Int)≥(IntKind.wrap .i64 (Int.tdiv (IntKind.wrap .i64 (b'-a)) 8))),(V.nth (mM.drop 1) 0).toBool,(V.nth r36 0).toList)
       else
       (C gr [.int .i64 (IntKind.wrap .i64 (((V.nth mM 0).toInt)+1)),.int .i64 b',.int .i64 cp,.list an ((V.nth (mM.drop 2) 0).toList)]).bind fun r37=>
       kn (a,(V.nth mM 0).toInt,cp,decide (((IntKind.wrap .i64 (b'-((V.nth mM 0).toInt))):Int)≥(IntKind.wrap .i64 (Int.tdiv (IntKind.wrap .i64 (b'-a)) 8))),(V.nth (mM.drop 1) 0).toBool,(V.nth r37 0).toList)))
    else
     lM C a b' cp eC eP (IntKind.wrap .i64 (b'-a)) dx false nF (cO (un fun (ah5:Bool) (afz:List V)=>
      kr afz) (fun (jd:List V)=>
      bif decide ((a:Int)>0) then
      bif (decide (0≤(IntKind.wrap .i64 (a-1))))&&(decide ((IntKind.wrap .i64 (a-1))<(jd.length:Int))) then
       (jd[(IntKind.wrap .i64 (a-1):Int).toNat]?).bind fun lK=>
       bif (decide (0≤dx))&&(decide (dx<(jd.length:Int))) then
       (jd[(dx:Int).toNat]?).bind fun tQ=>
       (C aW [.int .i64 ((lK.cell 0).toInt),.int .i64 ((lK.cell 1).toInt),.int .i64 ((lK.cell 2).toInt),.int .i64 ((tQ.cell 0).toInt),.int .i64 ((tQ.cell 1).toInt),.int .i64 ((tQ.cell 2).toInt)]).bind fun r43=>
       bif !(decide ((((V.nth r43 0).toInt):Int)<0)) then
        (C vA [.int .i64 a,.int .i64 b',.int .i64 dx,.list an jd]).bind fun Uu=>
        kn ((V.nth Uu 0).toInt,b',cp,eC,eP,(V.nth (Uu.drop 1) 0).toList)
       else
        (C nw [.int .i64 a,.int .i64 b',.int .i64 dx,.list an jd]).bind fun mN=>
        bif decide (((IntKind.wrap .i64 (((V.nth mN 0).toInt)-a)):Int)<(IntKind.wrap .i64 (b'-((V.nth mN 0).toInt)))) then
        (C gr [.int .i64 a,.int .i64 ((V.nth mN 0).toInt),.int .i64 cp,.list an ((V.nth (mN.drop 2) 0).toList)]).bind fun r46=>
        kn (IntKind.wrap .i64 (((V.nth mN 0).toInt)+1),b',cp,decide (((IntKind.wrap .i64 (((V.nth mN 0).toInt)-a)):Int)≥(IntKind.wrap .i64 (Int.tdiv (IntKind.wrap .i64 (b'-a)) 8))),(V.nth (mN.drop 1) 0).toBool,(V.nth r46 0).toList)
        else
        (C gr [.int .i64 (IntKind.wrap .i64 (((V.nth mN 0).toInt)+1)),.int .i64 b',.int .i64 cp,.list an ((V.nth (mN.drop 2) 0).toList)]).bind fun r47=>
        kn (a,(V.nth mN 0).toInt,cp,decide (((IntKind.wrap .i64 (b'-((V.nth mN 0).toInt))):Int)≥(IntKind.wrap .i64 (Int.tdiv (IntKind.wrap .i64 (b'-a)) 8))),(V.nth (mN.drop 1) 0).toBool,(V.nth r47 0).toList)
       else none
      else none
      else
      (C nw [.int .i64 a,.int .i64 b',.int .i64 dx,.list an jd]).bind fun mO=>
      bif decide (((IntKind.wrap .i64 (((V.nth mO 0).toInt)-a)):Int)<(IntKind.wrap .i64 (b'-((V.nth mO 0).toInt)))) then
       (C gr [.int .i64 a,.int .i64 ((V.nth mO 0).toInt),.int .i64 cp,.list an ((V.nth (mO.drop 2) 0).toList)]).bind fun r49=>
       kn (IntKind.wrap .i64 (((V.nth mO 0).toInt)+1),b',cp,decide (((IntKind.wrap .i64 (((V.nth mO 0).toInt)-a)):Int)≥(IntKind.wrap .i64 (Int.tdiv (IntKind.wrap .i64 (b'-a)) 8))),(V.nth (mO.drop 1) 0).toBool,(V.nth r49 0).toList)
      else
       (C gr [.int .i64 (IntKind.wrap .i64 (((V.nth mO 0).toInt)+1)),.int .i64 b',.int .i64 cp,.list an ((V.nth (mO.drop 2) 0).toList)]).bind fun r50=>
       kn (a,(V.nth mO 0).toInt,cp,decide (((IntKind.wrap .i64 (b'-((V.nth mO 0).toInt))):Int)≥(IntKind.wrap .i64 (Int.tdiv (IntKind.wrap .i64 (b'-a)) 8))),(V.nth (mO.drop 1) 0).toBool,(V.nth r50 0).toList)))))
noncomputable def Uv (C:ae):(Int × Int × Int × Bool × Bool × (List V))→Option ((Int × Int × Int × Bool × Bool × (List V)) ⊕ (List V)):=un fun a=>un fun b'=>un fun iK=>un fun eC=>un fun eP af=>oS C a b' iK eC eP af (fun y=>some (.inl y)) (fun r=>some (.inr r))
noncomputable def Uw (C:ae):cq:=fun β n ds k=>
 bif Nat.beq n 639 then mq Jp [[1,2,0,4,5,6,0]] (@wM C) ds k else
 bif Nat.beq n 911 then mq Jq [[1,2,3,4,5,6,0,0,0]] (@wO C) ds k else
 bif Nat.beq n 1215 then mq Jr [[1,2,3,4,5,6,7,0,0],[1,2,3,4,5,6,7,0]] (@lM C) ds k else
 bif Nat.beq n 33 then bA Js [true,true,true,true,true,true] [[0]] (@oS C) ds k else
 none
abbrev Fw (C:ae) (b:cl):Prop:=cm Tryd.prog ar C (Uw C) 169 (cE Tryd.prog (ar.aP 169)) (ar.sin 169).aO.length b
theorem afA (C:ae):Fw C (.cond 39 (ao [1,1,0,0,0,1,1,1,0,1,0] kQ) (ao [1,1,0,0,0,1,1,1,0,1,1] kQ)):=
 nu Jp [[1,2,0,4,5,6,0]] (@wM C) (by kernel_rfl) (aT (bs:=[]) (by kernel_rfl) au) (aT (bs:=[]) (by kernel_rfl) au) (fun ds=>by kernel_rfl) (fun i β k=>by kernel_rfl) (fun β ds k=>by kernel_rfl)
theorem afB (C:ae):Fw C (.cond 56 (ao [1,1,0,0,0,1,1,1,1,1,0,1,0] kQ) (ao [1,1,0,0,0,1,1,1,1,1,0,1,1] kQ)):=
 nu Jq [[1,2,3,4,5,6,0,0,0]] (@wO C) (by kernel_rfl) (aT (bs:=[]) (by kernel_rfl) au) (aT (bs:=[]) (by kernel_rfl) au) (fun ds=>by kernel_rfl) (fun i β k=>by kernel_rfl) (fun β ds k=>by kernel_rfl)
theorem afC (C:ae):Fw C (.cond 75 (ao [1,1,0,0,0,1,1,1,1,1,1,0,1,0] kQ) (ao [1,1,0,0,0,1,1,1,1,1,1,0,1,1] kQ)):=
 nu Jr [[1,2,3,4,5,6,7,0,0],[1,2,3,4,5,6,7,0]] (@lM C) (by kernel_rfl) (aT (bs:=[]) (by kernel_rfl) au) (aT (bs:=[]) (by kernel_rfl) au) (fun ds=>by kernel_rfl) (fun i β k=>by kernel_rfl) (fun β ds k=>by kernel_rfl)
theorem afD (C:ae):Fw C (.loop (ao [1,1,0,0] kQ)):=
 bD Js [true,true,true,true,true,true] [[0]] (@oS C) (by kernel_rfl) (aT (bs:=[.cond 39 (ao [1,1,0,0,0,1,1,1,0,1,0] kQ) (ao [1,1,0,0,0,1,1,1,0,1,1] kQ),.cond 56 (ao [1,1,0,0,0,1,1,1,1,1,0,1,0] kQ) (ao [1,1,0,0,0,1,1,1,1,1,0,1,1] kQ),.cond 75 (ao [1,1,0,0,0,1,1,1,1,1,1,0,1,0] kQ) (ao [1,1,0,0,0,1,1,1,1,1,1,0,1,1] kQ)]) (by kernel_rfl) (bm (afA C) (bm (afB C) (bm (afC C) au)))) (fun ds=>by kernel_rfl) (fun i x=>by kernel_rfl) (fun i x β k=>by kernel_rfl) (fun β ds k=>by kernel_rfl)
noncomputable def Ux (C:ae) (a b' iK:Int) (af:List V):Option (List V):=
 (Loop (Uv C) (a,b',iK,true,true,af)).bind (fun (afE:List V)=>
  some [.list an afE])
theorem afF {a b' iK:Int} {af:List V} {r:Option (List V)} (h:Ux CC a b' iK af=r):CC gr [.int .i64 a,.int .i64 b',.int .i64 iK,.list an af]=r:=
 bj (key:=169) (L:=Uw CC) (bs:=[.loop (ao [1,1,0,0] kQ)]) (by kernel_rfl) (bm (afD CC) au) (Eq.trans (by kernel_rfl) h)
end Go.AM
set_option maxRecDepth 100000
namespace Go.AM
open Go.Proofs
noncomputable def Uy (C:ae) (xs:List V):Option (List V):=
 (C yM [.int .u64 (IntKind.wrap .u64 (xs.length:Int))]).bind fun r1=>
 (C gr [.int .i64 0,.int .i64 (xs.length:Int),.int .i64 ((V.nth r1 0).toInt),.list an xs]).bind fun r2=>
 some [.list an ((V.nth r2 0).toList)]
theorem afG {xs:List V} {r:Option (List V)} (h:Uy CC xs=r):CC yI [.list an xs]=r:=
 bj (key:=87) (L:=cP) (bs:=[]) (by kernel_rfl) au (Eq.trans (by kernel_rfl) h)
end Go.AM
set_option maxRecDepth 100000
set_option linter.unusedSimpArgs false
set_option maxHeartbeats 4000000
namespace Go.AM.SL
open Go.AM Go.Proofs Go.Sort
theorem Uz (a b:Ed):(av a b=true)=(a.lt b):=by rw[rE,propext (Ee a b)]
theorem Fx (a b:Ed):(av a b=false)= ¬(a.lt b):=by rw[←Uz];simp
theorem wP:SWO av where
 irrefl x:=by rw[Fx];unfold Ed.lt;omega
 trans x y z:=by simp only[Uz];unfold Ed.lt;omega
 ntrans x y z:=by simp only[Fx];unfold Ed.lt;omega
def Fy:List UInt8:=([0,1,2,2,3,3,3,3,4,4,4,4,4,4,4,4,5,5,5,5,5,5,5,5,5,5,5,5,5,5,5,5,6,6,6,6,6,6,6,6,6,6,6,6,6,6,6,6,6,6,6,6,6,6,6,6,6,6,6,6,6,6,6,6,7,7,7,7,7,7,7,7,7,7,7,7,7,7,7,7,7,7,7,7,7,7,7,7,7,7,7,7,7,7,7,7,7,7,7,7,7,7,7,7,7,7,7,7,7,7,7,7,7,7,7,7,7,7,7,7,7,7,7,7,7,7,7,7,8,8,8,8,8,8,8,8,8,8,8,8,8,8,8,8,8,8,8,8,8,8,8,8,8,8,8,8,8,8,8,8,8,8,8,8,8,8,8,8,8,8,8,8,8,8,8,8,8,8,8,8,8,8,8,8,8,8,8,8,8,8,8,8,8,8,8,8,8,8,8,8,8,8,8,8,8,8,8,8,8,8,8,8,8,8,8,8,8,8,8,8,8,8,8,8,8,8,8,8,8,8,8,8,8,8,8,8,8,8,8,8,8,8,8,8,8,8,8,8,8,8,8,8,8,8,8,8]:List UInt8)
theorem afH:(List.range 256).all (fun y=>match Fy[y]? with|some b=>decide (b.toNat≤8)&&(Nat.beq y 0||(decide (1≤b.toNat)&&decide (2^(b.toNat-1)≤y)))|none=>false)=true:=by decide+kernel
theorem UA {y:Nat} (h:y<256): ∃b,Fy[y]? =some b∧b.toNat≤8∧(0<y→1≤b.toNat∧2^(b.toNat-1)≤y):=by
 have:=List.all_eq_true.1 afH y (List.mem_range.2 h)
 cases hb:Fy[y]? with
 | none=>rw[hb] at this;cases this
 | some b=>
  rw[hb] at this
  simp only[Bool.and_eq_true,Bool.or_eq_true,decide_eq_true_eq] at this
  refine ⟨b,rfl,this.1,fun hy=> ?_⟩
  rcases this.2 with h2|h2
  ·have:=Nat.eq_of_beq_eq_true h2;omega
  ·exact h2
theorem KV {y t k:Nat} (h:2^(t-1)≤y/2^k) (ht:1≤t):2^(t+k-1)≤y:=by
 have e:t+k-1=(t-1)+k:=by omega
 rw[e,Nat.pow_add]
 exact Nat.le_trans (Nat.mul_le_mul_right _ h) (Nat.div_mul_le_self _ _)
noncomputable def wQ (y n:Int):Option (List V):=
(bif decide ((y:Int)≥256) then
    (bif decide (0≤(IntKind.wrap .u8 (Int.fdiv y (2^(min (8:Int).toNat (IntKind.bits .u64)))))) then (([0,1,2,2,3,3,3,3,4,4,4,4,4,4,4,4,5,5,5,5,5,5,5,5,5,5,5,5,5,5,5,5,6,6,6,6,6,6,6,6,6,6,6,6,6,6,6,6,6,6,6,6,6,6,6,6,6,6,6,6,6,6,6,6,7,7,7,7,7,7,7,7,7,7,7,7,7,7,7,7,7,7,7,7,7,7,7,7,7,7,7,7,7,7,7,7,7,7,7,7,7,7,7,7,7,7,7,7,7,7,7,7,7,7,7,7,7,7,7,7,7,7,7,7,7,7,7,7,8,8,8,8,8,8,8,8,8,8,8,8,8,8,8,8,8,8,8,8,8,8,8,8,8,8,8,8,8,8,8,8,8,8,8,8,8,8,8,8,8,8,8,8,8,8,8,8,8,8,8,8,8,8,8,8,8,8,8,8,8,8,8,8,8,8,8,8,8,8,8,8,8,8,8,8,8,8,8,8,8,8,8,8,8,8,8,8,8,8,8,8,8,8,8,8,8,8,8,8,8,8,8,8,8,8,8,8,8,8,8,8,8,8,8,8,8,8,8,8,8,8,8,8,8,8,8,8]:List UInt8)[(IntKind.wrap .u8 (Int.fdiv y (2^(min (8:Int).toNat (IntKind.bits .u64)))):Int).toNat]?).map fun b=>V.int .u8 b.toNat else none).bind fun x5=>
    some [V.int .i64 (IntKind.wrap .i64 ((IntKind.wrap .i64 (n+8))+(IntKind.wrap .i64 x5.toInt)))]
   else
    (bif decide (0≤(IntKind.wrap .u8 y)) then (([0,1,2,2,3,3,3,3,4,4,4,4,4,4,4,4,5,5,5,5,5,5,5,5,5,5,5,5,5,5,5,5,6,6,6,6,6,6,6,6,6,6,6,6,6,6,6,6,6,6,6,6,6,6,6,6,6,6,6,6,6,6,6,6,7,7,7,7,7,7,7,7,7,7,7,7,7,7,7,7,7,7,7,7,7,7,7,7,7,7,7,7,7,7,7,7,7,7,7,7,7,7,7,7,7,7,7,7,7,7,7,7,7,7,7,7,7,7,7,7,7,7,7,7,7,7,7,7,8,8,8,8,8,8,8,8,8,8,8,8,8,8,8,8,8,8,8,8,8,8,8,8,8,8,8,8,8,8,8,8,8,8,8,8,8,8,8,8,8,8,8,8,8,8,8,8,8,8,8,8,8,8,8,8,8,8,8,8,8,8,8,8,8,8,8,8,8,8,8,8,8,8,8,8,8,8,8,8,8,8,8,8,8,8,8,8,8,8,8,8,8,8,8,8,8,8,8,8,8,8,8,8,8,8,8,8,8,8,8,8,8,8,8,8,8,8,8,8,8,8,8,8,8,8,8,8]:List UInt8)[(IntKind.wrap .u8 y:Int).toNat]?).map fun b=>V.int .u8 b.toNat else none).bind fun x6=>
    some [V.int .i64 (IntKind.wrap .i64 (n+(IntKind.wrap .i64 x6.toInt)))])
theorem afI {x:Nat} (h:x<2^64): ∃L:Nat,CC DK [.int .u64 (x:Int)]=some [.int .i64 (L:Int)]∧L≤64∧(0<x→1≤L∧2^(L-1)≤x):=by
 have last: ∀y n:Nat,y<65536→n≤48→∃t:Nat,
   wQ (y:Int) (n:Int)=some [V.int .i64 ((n+t:Nat):Int)]∧t≤16∧(0<y→1≤t∧2^(t-1)≤y):=by
  intro y n hy hn
  unfold wQ
  rw[show ([0,1,2,2,3,3,3,3,4,4,4,4,4,4,4,4,5,5,5,5,5,5,5,5,5,5,5,5,5,5,5,5,6,6,6,6,6,6,6,6,6,6,6,6,6,6,6,6,6,6,6,6,6,6,6,6,6,6,6,6,6,6,6,6,7,7,7,7,7,7,7,7,7,7,7,7,7,7,7,7,7,7,7,7,7,7,7,7,7,7,7,7,7,7,7,7,7,7,7,7,7,7,7,7,7,7,7,7,7,7,7,7,7,7,7,7,7,7,7,7,7,7,7,7,7,7,7,7,8,8,8,8,8,8,8,8,8,8,8,8,8,8,8,8,8,8,8,8,8,8,8,8,8,8,8,8,8,8,8,8,8,8,8,8,8,8,8,8,8,8,8,8,8,8,8,8,8,8,8,8,8,8,8,8,8,8,8,8,8,8,8,8,8,8,8,8,8,8,8,8,8,8,8,8,8,8,8,8,8,8,8,8,8,8,8,8,8,8,8,8,8,8,8,8,8,8,8,8,8,8,8,8,8,8,8,8,8,8,8,8,8,8,8,8,8,8,8,8,8,8,8,8,8,8,8,8]:List UInt8)=Fy from rfl]
  by_cases h1:y≥256
  ·have e:Int.fdiv (y:Int) (2^(min (8:Int).toNat (IntKind.bits .u64)))=((y/2^8:Nat):Int):=Ea (m:=8) (by omega)
   obtain ⟨b,hb,b1,b2⟩:=UA (y:=y/2^8) (by omega)
   refine ⟨b.toNat+8,?_,by omega,fun _=> ?_⟩
   ·rw[e,aE,if_pos (by omega),HX (by omega) (by omega),aE,if_pos (by omega),Int.toNat_natCast,hb]
    simp only[Option.map_some,Option.bind_some,V.toInt_int]
    simp (disch:=omega) only[wrap64]
    congr 3
    omega
   ·obtain ⟨b3,b4⟩:=b2 (by omega)
    exact ⟨by omega,KV b4 b3⟩
  ·obtain ⟨b,hb,b1,b2⟩:=UA (y:=y) (by omega)
   refine ⟨b.toNat,?_,by omega,b2⟩
   rw[aE,if_neg (by omega),HX (by omega) (by omega),aE,if_pos (by omega),Int.toNat_natCast,hb]
   simp (disch:=omega) only[Option.map_some,Option.bind_some,V.toInt_int,wrap64]
   congr 3
 have mid: ∀y n:Nat,y<4294967296→n≤32→∃t:Nat,∀F:Int→Int→Option (List V),
   (∀y n:Nat,y<65536→n≤48→∃t:Nat,F (y:Int) (n:Int)=some [V.int .i64 ((n+t:Nat):Int)]∧t≤16∧(0<y→1≤t∧2^(t-1)≤y))→
   ∃t:Nat,tT CC (y:Int) (n:Int) (decide (((y:Int):Int)≥65536)) (un F)=some [V.int .i64 ((n+t:Nat):Int)]∧t≤32∧(0<y→1≤t∧2^(t-1)≤y):=by
  intro y n hy hn
  refine ⟨0,fun F hF=> ?_⟩
  unfold tT
  by_cases h1:y≥65536
  ·have e:Int.fdiv (y:Int) (2^(min (16:Int).toNat (IntKind.bits .u64)))=((y/2^16:Nat):Int):=Ea (m:=16) (by omega)
   rw[aE,if_pos (by omega),e,wrap64 (by omega) (by omega)]
   obtain ⟨t,h2,h3,h4⟩:=hF (y/2^16) (n+16) (by omega) (by omega)
   refine ⟨t+16,?_,by omega,fun _=> ?_⟩
   ·rw[show ((n:Int)+16)=((n+16:Nat):Int) by omega]
    simp only[un]
    rw[h2]
    congr 3
    omega
   ·obtain ⟨b3,b4⟩:=h4 (by omega)
    exact ⟨by omega,KV b4 b3⟩
  ·rw[aE,if_neg (by omega)]
   obtain ⟨t,h2,h3,h4⟩:=hF y n (by omega) (by omega)
   exact ⟨t,h2,by omega,h4⟩
 by_cases h1:x≥4294967296
 ·have e:Int.fdiv (x:Int) (2^(min (32:Int).toNat (IntKind.bits .u64)))=((x/2^32:Nat):Int):=Ea (m:=32) (by omega)
  obtain ⟨_,hm⟩:=mid (x/2^32) 32 (by omega) (by omega)
  obtain ⟨t,h2,h3,h4⟩:=hm wQ last
  refine ⟨32+t,Us ?_,by omega,fun _=> ?_⟩
  ·show tS CC (x:Int) 0 (decide (((x:Int):Int)≥4294967296)) (un fun (rI:Int) (eB:Int)=>tT CC rI eB (decide ((rI:Int)≥65536)) (un wQ))=_
   unfold tS
   rw[aE,if_pos (by omega),e]
   exact h2
  ·obtain ⟨b3,b4⟩:=h4 (by omega)
   rw[Nat.add_comm 32 t]
   exact ⟨by omega,KV b4 b3⟩
 ·obtain ⟨_,hm⟩:=mid x 0 (by omega) (by omega)
  obtain ⟨t,h2,h3,h4⟩:=hm wQ last
  refine ⟨t,Us ?_,by omega,h4⟩
  show tS CC (x:Int) 0 (decide (((x:Int):Int)≥4294967296)) (un fun (rI:Int) (eB:Int)=>tT CC rI eB (decide ((rI:Int)≥65536)) (un wQ))=_
  unfold tS
  rw[aE,if_neg (by omega)]
  rw[Nat.zero_add] at h2
  exact h2
theorem UB {x:Nat} (h:x<2^64): ∃L:Nat,CC yM [.int .u64 (x:Int)]=some [.int .i64 (L:Int)]∧L≤64∧(0<x→1≤L∧2^(L-1)≤x):=by
 obtain ⟨L,h1,h2⟩:=afI h
 refine ⟨L,afu ?_,h2⟩
 unfold Up
 rw[h1]
 rfl
theorem afJ {x:Nat} (h0:0<x) (h:x<1152921504606846976): ∃M:Nat,CC DM [.int .i64 (x:Int)]=some [.int .u64 (M:Int)]∧1≤M∧M≤2*x:=by
 obtain ⟨L,h1,h2,h3⟩:=UB (x:=x) (by omega)
 obtain ⟨h4,h5⟩:=h3 h0
 have e:2^L=2*2^(L-1):=by
  obtain ⟨k,rfl⟩: ∃k,L=k+1:=⟨L-1,by omega⟩
  rw[Nat.pow_succ];simp only[Nat.add_sub_cancel];omega
 have hL:L<64:=by
  by_cases hx:L<64
  ·exact hx
  ·have:2^63≤2^(L-1):=Nat.pow_le_pow_right (by omega) (by omega)
   omega
 refine ⟨2^L,aft ?_,Nat.pos_of_ne_zero (by simp),by omega⟩
 unfold Uo
 rw[rn (A:=x) (by omega),h1]
 simp only[Option.bind_some,V.bS,V.toInt_int]
 rw[aE,if_pos (by omega),Int.toNat_natCast,D9 hL]
theorem afK (r:Int): ∃R:Nat,CC DN [.int .u64 r]=some [.int .u64 (R:Int),.int .u64 (R:Int)]∧R<2^64:=by
 have h: ∀n:Int,∃R:Nat,IntKind.wrap .u64 n=(R:Int)∧R<2^64:=fun n=>⟨(IntKind.wrap .u64 n).toNat,by rw[wrap_u64];omega,by rw[wrap_u64];omega⟩
 obtain ⟨R,h1,h2⟩:=h _
 exact ⟨R,afs (by unfold Un;rw[h1]),h2⟩
theorem Fz {d:Array Ed} {i:Nat} (h:i<d.size):idx (eA d) (i:Int)=some (d[i]!).enc:=by rw[De,fE h]
theorem KW {d:Array Ed} {a b:Nat} {s:Int} (ha:a<d.size) (hb:b<d.size): ∃(x y:Nat) (s':Int),CC yT [.list an (eA d),.int .i64 (a:Int),.int .i64 (b:Int),.int .i64 s]=some [.int .i64 (x:Int),.int .i64 (y:Int),.int .i64 s']∧(x=a∧y=b∨x=b∧y=a):=by
 by_cases h:bG d[b]! d[a]! <0
 ·refine ⟨b,a,_,Ui (by unfold KT;rw[Fz hb,Fz ha];simp only[Option.bind_some,Ed.c8,Ed.c9,Ed.da,ga,V.bS,V.toInt_int];rw[aE,if_pos h]),.inr ⟨rfl,rfl⟩⟩
 ·refine ⟨a,b,_,Ui (by unfold KT;rw[Fz hb,Fz ha];simp only[Option.bind_some,Ed.c8,Ed.c9,Ed.da,ga,V.bS,V.toInt_int];rw[aE,if_neg h]),.inl ⟨rfl,rfl⟩⟩
theorem KX {d:Array Ed} {a b c:Nat} {s:Int} (ha:a<d.size) (hb:b<d.size) (hc:c<d.size): ∃(m:Nat) (s':Int),CC DR [.list an (eA d),.int .i64 (a:Int),.int .i64 (b:Int),.int .i64 (c:Int),.int .i64 s]=some [.int .i64 (m:Int),.int .i64 s']∧(m=a∨m=b∨m=c):=by
 obtain ⟨x1,y1,s1,e1,o1⟩:=KW (s:=s) ha hb
 obtain ⟨x2,y2,s2,e2,o2⟩:=KW (d:=d) (a:=y1) (b:=c) (s:=s1) (by omega) hc
 obtain ⟨x3,y3,s3,e3,o3⟩:=KW (d:=d) (a:=x1) (b:=x2) (s:=s2) (by omega) (by omega)
 refine ⟨y3,s3,afn ?_,by omega⟩
 unfold Uh
 rw[e1]
 simp only[Option.bind_some,V.bS,V.pI,V.toInt_int,List.drop_succ_cons,List.drop_zero]
 rw[e2]
 simp only[Option.bind_some,V.bS,V.pI,V.toInt_int,List.drop_succ_cons,List.drop_zero]
 rw[e3]
 rfl
theorem KY {d:Array Ed} {a:Nat} {s:Int} (h1:1≤a) (ha:a+1<d.size) (hs:d.size<1152921504606846976): ∃(m:Nat) (s':Int),CC yS [.list an (eA d),.int .i64 (a:Int),.int .i64 s]=some [.int .i64 (m:Int),.int .i64 s']∧a≤m+1∧m≤a+1:=by
 obtain ⟨m,s',e,o⟩:=KX (d:=d) (a:=a-1) (b:=a) (c:=a+1) (s:=s) (by omega) (by omega) (by omega)
 refine ⟨m,s',afo ?_,by omega,by omega⟩
 unfold Uj
 simp (disch:=omega) only[jC,dw,wrap64]
 rw[e]
 rfl
theorem KZ (n:Nat):Int.tdiv (n:Int) 4=((n/4:Nat):Int):=by
 have:=divC n 4
 exact this
theorem mulC (k n:Nat):((k:Nat):Int)*(n:Int)=((k*n:Nat):Int):=(Int.natCast_mul k n).symm
theorem afL {d:Array Ed} {a b:Nat} (fv:a+12<b) (hb:b≤d.size) (hs:d.size<1152921504606846976): ∃(p:Nat) (h:Int),CC DQ [.list an (eA d),.int .i64 (a:Int),.int .i64 (b:Int)]=some [.int .i64 (p:Int),.int .i64 h]∧a≤p∧p<b:=by
 have fin: ∀(p:Nat) (s:Int),∃h:Int,(bif (s:Int)==0 then some [V.int .i64 (p:Int),V.int .i64 1] else bif (s:Int)==12 then some [V.int .i64 (p:Int),V.int .i64 2] else some [V.int .i64 (p:Int),V.int .i64 0])=some [V.int .i64 (p:Int),V.int .i64 h]:=by
  intro p s
  rw[pJ]
  split
  ·exact ⟨1,rfl⟩
  ·rw[pJ]
   split
   ·exact ⟨2,rfl⟩
   ·exact ⟨0,rfl⟩
 have e1:IntKind.wrap .i64 ((b:Int)-(a:Int))=((b-a:Nat):Int):=by rw[lH (by omega),wrap64 (by omega) (by omega)]
 have e2:IntKind.wrap .i64 (Int.tdiv ((b-a:Nat):Int) 4)=(((b-a)/4:Nat):Int):=by rw[KZ,wrap64 (by omega) (by omega)]
 have e3: ∀k:Nat,k≤3→IntKind.wrap .i64 ((a:Int)+IntKind.wrap .i64 ((k:Int)*(((b-a)/4:Nat):Int)))=((a+k*((b-a)/4):Nat):Int):=by
  intro k hk
  have rf:k*((b-a)/4)≤3*((b-a)/4):=Nat.mul_le_mul_right _ hk
  simp (disch:=omega) only[mulC,wrap64,fF]
 have K0:=e3 1 (by omega)
 have rJ:=e3 2 (by omega)
 have K1:=e3 3 (by omega)
 rw[show ((1:Nat):Int)=1 from rfl] at K0
 rw[show ((2:Nat):Int)=2 from rfl] at rJ
 rw[show ((3:Nat):Int)=3 from rfl] at K1
 by_cases h50:b-a≥50
 ·obtain ⟨m1,s1,q1,r1⟩:=KY (d:=d) (a:=a+1*((b-a)/4)) (s:=0) (by omega) (by omega) hs
  obtain ⟨m2,s2,q2,r2⟩:=KY (d:=d) (a:=a+2*((b-a)/4)) (s:=s1) (by omega) (by omega) hs
  obtain ⟨m3,s3,q3,r3⟩:=KY (d:=d) (a:=a+3*((b-a)/4)) (s:=s2) (by omega) (by omega) hs
  obtain ⟨m,s,q,r⟩:=KX (d:=d) (a:=m1) (b:=m2) (c:=m3) (s:=s3) (by omega) (by omega) (by omega)
  obtain ⟨h,hf⟩:=fin m s
  refine ⟨m,h,Ug ?_,by omega,by omega⟩
  unfold KR AW AV
  rw[e1,e2,K0,rJ,K1,mE (by omega),cond_true,mE (by omega),cond_true,q1]
  simp only[Option.bind_some,V.bS,V.pI,V.toInt_int,List.drop_succ_cons,List.drop_zero]
  rw[q2]
  simp only[Option.bind_some,V.bS,V.pI,V.toInt_int,List.drop_succ_cons,List.drop_zero]
  rw[q3]
  simp only[Option.bind_some,V.bS,V.pI,V.toInt_int,List.drop_succ_cons,List.drop_zero,un]
  rw[q]
  exact hf
 ·obtain ⟨m,s,q,r⟩:=KX (d:=d) (a:=a+1*((b-a)/4)) (b:=a+2*((b-a)/4)) (c:=a+3*((b-a)/4)) (s:=0) (by omega) (by omega) (by omega)
  obtain ⟨h,hf⟩:=fin m s
  refine ⟨m,h,Ug ?_,by omega,by omega⟩
  unfold KR AW AV
  rw[e1,e2,K0,rJ,K1,mE (by omega),cond_true,rB (by omega),cond_false]
  simp only[un]
  rw[q]
  exact hf
theorem afM {a b M:Nat} (hM1:1≤M) (hM:M≤2*(b-a)) (h8:8≤b-a) (hB:b<1152921504606846976): ∀(n i:Nat) (d:Array Ed) (r:Int),a+2*((b-a)/4)+2-i=n→a≤i→b≤d.size→d.size<1152921504606846976→
  ∃x y z R,Loop (Fv CC a (b-a:Nat) M) ((i:Int),eA d,r)=some (x,y,eA R,z)∧PermIn a b d R:=by
 have e2:IntKind.wrap .i64 (Int.tdiv ((b-a:Nat):Int) 4)=(((b-a)/4:Nat):Int):=by rw[KZ,wrap64 (by omega) (by omega)]
 have rJ:IntKind.wrap .i64 ((a:Int)+IntKind.wrap .i64 (2*(((b-a)/4:Nat):Int)))=((a+2*((b-a)/4):Nat):Int):=by
  have:=mulC 2 ((b-a)/4)
  rw[show ((2:Nat):Int)=2 from rfl] at this
  rw[this]
  simp (disch:=omega) only[wrap64,fF]
 intro n
 induction n with
 | zero=>
  intro i d r hn hi hb hs
  refine ⟨(i:Int),false,r,d,bO ?_,permIn_refl _ _ _⟩
  simp only[Fv,AY,un]
  rw[e2,rJ,dw,wrap64 (by omega) (by omega),rB (by omega),cond_false]
 | succ n ih=>
  intro i d r hn hi hb hs
  obtain ⟨R1,q1,q2⟩:=afK r
  obtain ⟨o,ho,lZ⟩: ∃o:Nat,(o=if R1&&&(M-1)≥b-a then (R1&&&(M-1))-(b-a) else R1&&&(M-1))∧o<b-a:=by
   refine ⟨_,rfl,?_⟩
   have:R1&&&(M-1)≤M-1:=Nat.and_le_right
   split<;>omega
  have hand:R1&&&(M-1)≤M-1:=Nat.and_le_right
  have hP:=swp_permIn (α:=Ed) d a b i (a+o) hi (by omega) (by omega) (by omega) hb
  obtain ⟨x,y,z,R,e,hR⟩:=ih (i+1) (swp d i (a+o)) (R1:Int) (by omega) (by omega) (by rw[size_swp];exact hb) (by rw[size_swp];exact hs)
  refine ⟨x,y,z,R,(dI ?_).trans e,permIn_trans _ _ _ a b hP hR⟩
  simp only[Fv,AY,un]
  rw[e2,rJ,dw,wrap64 (x:=((a+2*((b-a)/4)+1:Nat):Int)) (by omega) (by omega),mE (by omega),cond_true,q1]
  simp only[Option.bind_some,V.bS,V.pI,V.toInt_int,List.drop_succ_cons,List.drop_zero]
  have e5:IntKind.wrap .u64 ((M:Int)-1)=((M-1:Nat):Int):=by rw[jC hM1,rn (by omega)]
  rw[e5,u64_and q2 (by omega),wrap64 (x:=((R1&&&(M-1):Nat):Int)) (by omega) (by omega)]
  have fin: ∀k:Int,k=(o:Int)→(bif (decide (0≤(IntKind.wrap .i64 ((a:Int)+k))))&&(decide ((IntKind.wrap .i64 ((a:Int)+k))<((eA d).length:Int))) then
   ((eA d)[(IntKind.wrap .i64 ((a:Int)+k):Int).toNat]?).bind fun x4=>
   bif (decide (0≤(i:Int)))&&(decide ((i:Int)<((eA d).length:Int))) then
    ((eA d)[((i:Int):Int).toNat]?).bind fun x5=>
    bif (decide (0≤(i:Int)))&&(decide ((i:Int)<((eA d).length:Int))) then
    ((eA d)[((i:Int):Int).toNat]?).bind fun x6=>
    bif (decide (0≤(IntKind.wrap .i64 ((a:Int)+k))))&&(decide ((IntKind.wrap .i64 ((a:Int)+k))<(((eA d).set (((i:Int):Int).toNat) (.agg [.int .i64 ((x4.cell 0).toInt),.int .i64 ((x4.cell 1).toInt),.int .i64 ((x4.cell 2).toInt)])).length:Int))) then
     (((eA d).set (((i:Int):Int).toNat) (.agg [.int .i64 ((x4.cell 0).toInt),.int .i64 ((x4.cell 1).toInt),.int .i64 ((x4.cell 2).toInt)]))[(IntKind.wrap .i64 ((a:Int)+k):Int).toNat]?).bind fun x7=>
     some (.inl (IntKind.wrap .i64 ((i:Int)+1),((eA d).set (((i:Int):Int).toNat) (.agg [.int .i64 ((x4.cell 0).toInt),.int .i64 ((x4.cell 1).toInt),.int .i64 ((x4.cell 2).toInt)])).set ((IntKind.wrap .i64 ((a:Int)+k):Int).toNat) (.agg [.int .i64 ((x5.cell 0).toInt),.int .i64 ((x5.cell 1).toInt),.int .i64 ((x5.cell 2).toInt)]),(R1:Int)))
    else none
    else none
   else none
   else none:Option ((Int × List V × Int) ⊕ (Int × Bool × List V × Int)))=some (.inl (((i+1:Nat):Int),eA (swp d i (a+o)),(R1:Int))):=by
   intro k hk
   subst hk
   simp (disch:=omega) only[aE,dG,fX,if_pos,if_neg,wrap64,dw,fF,Int.toNat_natCast,Option.bind_some,fC,fE,Ed.c8,Ed.c9,Ed.da,Ed.re,fD,gN,Array.size_setIfInBounds,ga,V.bS,V.toInt_int,cond_true,cond_false]
   rfl
  unfold Fu
  by_cases h:R1&&&(M-1)≥b-a
  ·rw[if_pos h] at ho
   rw[mE (by omega),cond_true]
   exact fin _ (by rw[lH (by omega),wrap64 (by omega) (by omega)];omega)
  ·rw[if_neg h] at ho
   rw[rB (by omega),cond_false]
   exact fin _ (by omega)
theorem afN {a b:Nat} {d:Array Ed} (fv:a+12<b) (hb:b≤d.size) (hs:d.size<1152921504606846976): ∃R,CC Ik [.int .i64 (a:Int),.int .i64 (b:Int),.list an (eA d)]=some [.list an (eA R)]∧PermIn a b d R:=by
 obtain ⟨M,q1,q2,q3⟩:=afJ (x:=b-a) (by omega) (by omega)
 have e1:IntKind.wrap .i64 ((b:Int)-(a:Int))=((b-a:Nat):Int):=by rw[lH (by omega),wrap64 (by omega) (by omega)]
 have e2:IntKind.wrap .i64 (Int.tdiv ((b-a:Nat):Int) 4)=(((b-a)/4:Nat):Int):=by rw[KZ,wrap64 (by omega) (by omega)]
 have rJ:IntKind.wrap .i64 ((a:Int)+IntKind.wrap .i64 (2*(((b-a)/4:Nat):Int)))=((a+2*((b-a)/4):Nat):Int):=by
  have:=mulC 2 ((b-a)/4)
  rw[show ((2:Nat):Int)=2 from rfl] at this
  rw[this]
  simp (disch:=omega) only[wrap64,fF]
 obtain ⟨x,y,z,R,e,hR⟩:=afM (a:=a) (b:=b) (M:=M) q2 q3 (by omega) (by omega) _ (a+2*((b-a)/4)-1) d (IntKind.wrap .u64 ((b-a:Nat):Int)) rfl (by omega) hb hs
 refine ⟨R,afr ?_,hR⟩
 unfold Um
 rw[e1,aE,if_pos (by omega),q1]
 simp only[Option.bind_some,V.bS,V.toInt_int]
 rw[e2,rJ,jC (by omega),wrap64 (x:=((a+2*((b-a)/4)-1:Nat):Int)) (by omega) (by omega),e]
 rfl
noncomputable def rK (C:ae) (a b':Int) (eC eP:Bool) (cp dx:Int) (lJ:List V) {β:Type} (kn:(Int × Int × Int × Bool × Bool × (List V))→Option β):Option β:=
      bif decide ((a:Int)>0) then
       bif (decide (0≤(IntKind.wrap .i64 (a-1))))&&(decide ((IntKind.wrap .i64 (a-1))<(lJ.length:Int))) then
       (lJ[(IntKind.wrap .i64 (a-1):Int).toNat]?).bind fun jc=>
       bif (decide (0≤dx))&&(decide (dx<(lJ.length:Int))) then
        (lJ[(dx:Int).toNat]?).bind fun nG=>
        (C aW [.int .i64 ((jc.cell 0).toInt),.int .i64 ((jc.cell 1).toInt),.int .i64 ((jc.cell 2).toInt),.int .i64 ((nG.cell 0).toInt),.int .i64 ((nG.cell 1).toInt),.int .i64 ((nG.cell 2).toInt)]).bind fun dW=>
        bif !(decide ((((V.nth dW 0).toInt):Int)<0)) then
        (C vA [.int .i64 a,.int .i64 b',.int .i64 dx,.list an lJ]).bind fun iH=>
        kn ((V.nth iH 0).toInt,b',cp,eC,eP,(V.nth (iH.drop 1) 0).toList)
        else
        (C nw [.int .i64 a,.int .i64 b',.int .i64 dx,.list an lJ]).bind fun dv=>
        bif decide (((IntKind.wrap .i64 (((V.nth dv 0).toInt)-a)):Int)<(IntKind.wrap .i64 (b'-((V.nth dv 0).toInt)))) then
         (C gr [.int .i64 a,.int .i64 ((V.nth dv 0).toInt),.int .i64 cp,.list an ((V.nth (dv.drop 2) 0).toList)]).bind fun mK=>
         kn (IntKind.wrap .i64 (((V.nth dv 0).toInt)+1),b',cp,decide (((IntKind.wrap .i64 (((V.nth dv 0).toInt)-a)):Int)≥(IntKind.wrap .i64 (Int.tdiv (IntKind.wrap .i64 (b'-a)) 8))),(V.nth (dv.drop 1) 0).toBool,(V.nth mK 0).toList)
        else
         (C gr [.int .i64 (IntKind.wrap .i64 (((V.nth dv 0).toInt)+1)),.int .i64 b',.int .i64 cp,.list an ((V.nth (dv.drop 2) 0).toList)]).bind fun gd=>
         kn (a,(V.nth dv 0).toInt,cp,decide (((IntKind.wrap .i64 (b'-((V.nth dv 0).toInt))):Int)≥(IntKind.wrap .i64 (Int.tdiv (IntKind.wrap .i64 (b'-a)) 8))),(V.nth (dv.drop 1) 0).toBool,(V.nth gd 0).toList)
       else none
       else none
      else
       (C nw [.int .i64 a,.int .i64 b',.int .i64 dx,.list an lJ]).bind fun gf=>
       bif decide (((IntKind.wrap .i64 (((V.nth gf 0).toInt)-a)):Int)<(IntKind.wrap .i64 (b'-((V.nth gf 0).toInt)))) then
       (C gr [.int .i64 a,.int .i64 ((V.nth gf 0).toInt),.int .i64 cp,.list an ((V.nth (gf.drop 2) 0).toList)]).bind fun nK=>
       kn (IntKind.wrap .i64 (((V.nth gf 0).toInt)+1),b',cp,decide (((IntKind.wrap .i64 (((V.nth gf 0).toInt)-a)):Int)≥(IntKind.wrap .i64 (Int.tdiv (IntKind.wrap .i64 (b'-a)) 8))),(V.nth (gf.drop 1) 0).toBool,(V.nth nK 0).toList)
       else
       (C gr [.int .i64 (IntKind.wrap .i64 (((V.nth gf 0).toInt)+1)),.int .i64 b',.int .i64 cp,.list an ((V.nth (gf.drop 2) 0).toList)]).bind fun iJ=>
       kn (a,(V.nth gf 0).toInt,cp,decide (((IntKind.wrap .i64 (b'-((V.nth gf 0).toInt))):Int)≥(IntKind.wrap .i64 (Int.tdiv (IntKind.wrap .i64 (b'-a)) 8))),(V.nth (gf.drop 1) 0).toBool,(V.nth iJ 0).toList)
theorem FA (C:ae) (a b' iK:Int) (eC eP:Bool) (af:List V) {β:Type} (kn:(Int × Int × Int × Bool × Bool × (List V))→Option β) (kr:(List V)→Option β):
  oS C a b' iK eC eP af kn kr=
 bif decide (((IntKind.wrap .i64 (b'-a)):Int)≤12) then
  (C DO [.int .i64 a,.int .i64 b',.list an af]).bind fun r1=>
  kr ((V.nth r1 0).toList)
 else
  bif (iK:Int)==0 then
  (C DP [.int .i64 a,.int .i64 b',.list an af]).bind fun r2=>
  kr ((V.nth r2 0).toList)
  else
  wM C a b' iK eC eP (IntKind.wrap .i64 (b'-a)) (!eC) af (un fun (cp:Int) (A0:List V)=>
   (C DQ [.list an A0,.int .i64 a,.int .i64 b']).bind fun r6=>
   wO C a b' cp eC eP (IntKind.wrap .i64 (b'-a)) ((V.nth r6 0).toInt) ((V.nth (r6.drop 1) 0).toInt) ((((V.nth (r6.drop 1) 0).toInt):Int)==2) A0 (un fun (dx:Int)=>un fun (KU:Int) (nF:List V)=>
    bif eC then
     bif eP then
     lM C a b' cp eC eP (IntKind.wrap .i64 (b'-a)) dx ((KU:Int)==1) nF (cO (un fun (SH:Bool) (K3:List V)=>
      kr K3) (fun (lJ:List V)=>rK C a b' eC eP cp dx lJ kn))
     else
     lM C a b' cp eC eP (IntKind.wrap .i64 (b'-a)) dx false nF (cO (un fun (ah6:Bool) (afO:List V)=>
      kr afO) (fun (afP:List V)=>rK C a b' eC eP cp dx afP kn))
    else
     lM C a b' cp eC eP (IntKind.wrap .i64 (b'-a)) dx false nF (cO (un fun (ah7:Bool) (afQ:List V)=>
      kr afQ) (fun (afR:List V)=>rK C a b' eC eP cp dx afR kn)))):=rfl
section
variable {a b:Nat} {lim:Int} {wb wp:Bool}
theorem afS {d:Array Ed} (fv:a+12<b) (hb:b≤d.size) (hs:d.size<1152921504606846976) (len:Int) (t:Bool): ∃(l1:Int) (d1:Array Ed),PermIn a b d d1∧∀(β:Type) (kr:(Int × List V)→Option β),wM CC a b lim wb wp len t (eA d) kr=kr (l1,eA d1):=by
 cases t with
 | true=>
  obtain ⟨R,e,hR⟩:=afN fv hb hs
  refine ⟨IntKind.wrap .i64 (lim-1),R,hR,fun β kr=> ?_⟩
  unfold wM
  rw[cond_true,e]
  rfl
 | false=>exact ⟨lim,d,permIn_refl _ _ _,fun β kr=>rfl⟩
theorem afT {d:Array Ed} (fv:a+12<b) (hb:b≤d.size) (hs:d.size<1152921504606846976) (len h:Int) (t:Bool) {p:Nat} (h1:a≤p) (h2:p<b): ∃(p2:Nat) (h2:Int) (d1:Array Ed),a≤p2∧p2<b∧PermIn a b d d1∧∀(β:Type) (kr:(Int × Int × List V)→Option β),wO CC a b lim wb wp len p h t (eA d) kr=kr ((p2:Int),h2,eA d1):=by
 cases t with
 | true=>
  refine ⟨b-1-(p-a),1,reverseRange d a b,by omega,by omega,reverseRange_holds d a b (by omega) hb,fun β kr=> ?_⟩
  unfold wO
  rw[cond_true,aeK (by omega) hb hs]
  simp (disch:=omega) only[Option.bind_some,V.bS,V.ou,jC,lH,wrap64]
 | false=>exact ⟨p,h,d,h1,h2,permIn_refl _ _ _,fun β kr=>rfl⟩
theorem afU {d:Array Ed} (fv:a+12<b) (hb:b≤d.size) (hs:d.size<1152921504606846976) (hB:Below av a b d) (len p:Int) (t:Bool): ∃d1:Array Ed,PermIn a b d d1∧
  ((∀(β:Type) (kr:((Bool × List V) ⊕ List V)→Option β),lM CC a b lim wb wp len p t (eA d) kr=kr (.inr (eA d1)))∨
  (SortedIn av a b d1∧∀(β:Type) (kr:((Bool × List V) ⊕ List V)→Option β),lM CC a b lim wb wp len p t (eA d) kr=kr (.inl (true,eA d1)))):=by
 cases t with
 | true=>
  have hp:=partialInsertionSort_holds (lt:=av) wP d a b (by omega) hb hB
  refine ⟨_,hp.1,?_⟩
  cases h:(partialInsertionSort av d a b).2 with
  | true=>
   refine .inr ⟨hp.2 h,fun β kr=> ?_⟩
   unfold lM
   rw[cond_true,Uc (by omega) hb hs,h]
   rfl
  | false=>
   refine .inl fun β kr=> ?_
   unfold lM
   rw[cond_true,Uc (by omega) hb hs,h]
   rfl
 | false=>exact ⟨d,permIn_refl _ _ _,.inl fun β kr=>rfl⟩
end
def FB (a b:Nat) (d:Array Ed):Prop:= ∀(lim:Int) (wb wp:Bool),∃R,Loop (Uv CC) ((a:Int),(b:Int),lim,wb,wp,eA d)=some (eA R)∧PermIn a b d R∧SortedIn av a b R
theorem FB.call {a b:Nat} {d:Array Ed} (h:FB a b d) (lim:Int): ∃R,CC gr [.int .i64 (a:Int),.int .i64 (b:Int),.int .i64 lim,.list an (eA d)]=some [.list an (eA R)]∧PermIn a b d R∧SortedIn av a b R:=by
 obtain ⟨R,e,h1,h2⟩:=h lim true true
 refine ⟨R,afF ?_,h1,h2⟩
 unfold Ux
 rw[e]
 rfl
theorem afV {a b p:Nat} {d:Array Ed} (fv:a+12<b) (hb:b≤d.size) (hs:d.size<1152921504606846976) (hB:Below av a b d) (h1:a≤p) (h2:p<b)
  (ih: ∀(a2 b2:Nat) (d2:Array Ed),b2-a2<b-a→a2≤b2→b2≤d2.size→d2.size<1152921504606846976→Below av a2 b2 d2→FB a2 b2 d2) (wb wp:Bool) (lim:Int):
  ∃(a2 b2:Nat) (tW tX:Bool) (d2:Array Ed),b2-a2<b-a∧a2≤b2∧b2≤d2.size∧d2.size<1152921504606846976∧Below av a2 b2 d2∧
   (∀R,PermIn a2 b2 d2 R→SortedIn av a2 b2 R→PermIn a b d R∧SortedIn av a b R)∧
   ∀(β:Type) (kn:(Int × Int × Int × Bool × Bool × (List V))→Option β),rK CC a b wb wp lim p (eA d) kn=kn ((a2:Int),(b2:Int),lim,tW,tX,eA d2):=by
 have part: ∃(a2 b2:Nat) (tW tX:Bool) (d2:Array Ed),b2-a2<b-a∧a2≤b2∧b2≤d2.size∧d2.size<1152921504606846976∧Below av a2 b2 d2∧
   (∀R,PermIn a2 b2 d2 R→SortedIn av a2 b2 R→PermIn a b d R∧SortedIn av a b R)∧
   ∀(β:Type) (kn:(Int × Int × Int × Bool × Bool × (List V))→Option β),
    ((CC nw [.int .i64 (a:Int),.int .i64 (b:Int),.int .i64 (p:Int),.list an (eA d)]).bind fun dv=>
        bif decide (((IntKind.wrap .i64 (((V.nth dv 0).toInt)-(a:Int))):Int)<(IntKind.wrap .i64 ((b:Int)-((V.nth dv 0).toInt)))) then
         (CC gr [.int .i64 (a:Int),.int .i64 ((V.nth dv 0).toInt),.int .i64 lim,.list an ((V.nth (dv.drop 2) 0).toList)]).bind fun mK=>
         kn (IntKind.wrap .i64 (((V.nth dv 0).toInt)+1),(b:Int),lim,decide (((IntKind.wrap .i64 (((V.nth dv 0).toInt)-(a:Int))):Int)≥(IntKind.wrap .i64 (Int.tdiv (IntKind.wrap .i64 ((b:Int)-(a:Int))) 8))),(V.nth (dv.drop 1) 0).toBool,(V.nth mK 0).toList)
        else
         (CC gr [.int .i64 (IntKind.wrap .i64 (((V.nth dv 0).toInt)+1)),.int .i64 (b:Int),.int .i64 lim,.list an ((V.nth (dv.drop 2) 0).toList)]).bind fun gd=>
         kn ((a:Int),(V.nth dv 0).toInt,lim,decide (((IntKind.wrap .i64 ((b:Int)-((V.nth dv 0).toInt))):Int)≥(IntKind.wrap .i64 (Int.tdiv (IntKind.wrap .i64 ((b:Int)-(a:Int))) 8))),(V.nth (dv.drop 1) 0).toBool,(V.nth gd 0).toList))=kn ((a2:Int),(b2:Int),lim,tW,tX,eA d2):=by
  obtain ⟨mid,ap,d4,hx⟩: ∃mid ap d4,partition av d a b p=(mid,ap,d4):=⟨_,_,_,rfl⟩
  obtain ⟨g1,g2,nL,hBa,hBr,afW,afX⟩:=round_part wP (partition_holds av) h1 h2 hb hB hx
  have hc:=afc (a:=a) (b:=b) (pivot:=p) (d:=d) h2 (by omega) hb hs
  rw[hx] at hc
  by_cases hl:mid-a<b-mid
  ·obtain ⟨L,e,l1,l2⟩:=(ih a mid d4 (by omega) g1 (by rw[nL];omega) (by rw[nL];exact hs) hBa).call lim
   obtain ⟨K4,mB⟩:=afW _ l1 l2
   refine ⟨mid+1,b,decide (((IntKind.wrap .i64 ((mid:Int)-(a:Int))):Int)≥(IntKind.wrap .i64 (Int.tdiv (IntKind.wrap .i64 ((b:Int)-(a:Int))) 8))),ap,L,by omega,by omega,by rw[l1.1,nL];exact hb,by rw[l1.1,nL];exact hs,K4,mB,fun β kn=> ?_⟩
   ·rw[hc]
    simp only[Option.bind_some,V.bS,V.pI,V.toInt_int,V.lu,V.ou,List.drop_succ_cons,List.drop_zero]
    rw[aE,if_pos (by rw[lH g1,lH (by omega),wrap64 (by omega) (by omega),wrap64 (by omega) (by omega)];omega),e]
    simp only[Option.bind_some,V.bS,V.ou]
    rw[dw,wrap64 (x:=((mid+1:Nat):Int)) (by omega) (by omega)]
  ·obtain ⟨L,e,l1,l2⟩:=(ih (mid+1) b d4 (by omega) (by omega) (by rw[nL];exact hb) (by rw[nL];exact hs) hBr).call lim
   obtain ⟨K4,mB⟩:=afX _ l1 l2
   refine ⟨a,mid,decide (((IntKind.wrap .i64 ((b:Int)-(mid:Int))):Int)≥(IntKind.wrap .i64 (Int.tdiv (IntKind.wrap .i64 ((b:Int)-(a:Int))) 8))),ap,L,by omega,by omega,by rw[l1.1,nL];omega,by rw[l1.1,nL];exact hs,K4,mB,fun β kn=> ?_⟩
   ·rw[hc]
    simp only[Option.bind_some,V.bS,V.pI,V.toInt_int,V.lu,V.ou,List.drop_succ_cons,List.drop_zero]
    rw[aE,if_neg (by rw[lH g1,lH (by omega),wrap64 (by omega) (by omega),wrap64 (by omega) (by omega)];omega),dw,wrap64 (x:=((mid+1:Nat):Int)) (by omega) (by omega),e]
    simp only[Option.bind_some,V.bS,V.ou]
 by_cases ha:0<a
 ·by_cases hc:bG d[a-1]! d[p]! <0
  ·obtain ⟨a2,b2,tW,tX,d2,q1,q2,q3,q4,q5,q6,q7⟩:=part
   refine ⟨a2,b2,tW,tX,d2,q1,q2,q3,q4,q5,q6,fun β kn=> ?_⟩
   rw[←q7 β kn]
   unfold rK
   rw[aE,if_pos (by omega),jC ha,wrap64 (by omega) (by omega),jE (i:=a-1) (by omega),jF (by omega),jE (i:=p) (by omega),jF (by omega)]
   simp only[Ed.c8,Ed.c9,Ed.da,ga,Option.bind_some,V.bS,V.toInt_int]
   rw[fX,aE,if_pos hc]
  ·obtain ⟨mid,d4,hx⟩: ∃mid d4,partitionEqual av d a b p=(mid,d4):=⟨_,_,rfl⟩
   obtain ⟨g1,sm,nL,hB4,mB⟩:=round_eq wP (partitionEqual_holds av) ha h1 h2 hb hB (by rw[Fx,←propext (Ee _ _)];exact hc) hx
   have he:=afe (a:=a) (b:=b) (pivot:=p) (d:=d) h2 (by omega) hb hs
   rw[hx] at he
   refine ⟨mid,b,wb,wp,d4,by omega,sm,by rw[nL];exact hb,by rw[nL];exact hs,hB4,mB,fun β kn=> ?_⟩
   unfold rK
   rw[aE,if_pos (by omega),jC ha,wrap64 (by omega) (by omega),jE (i:=a-1) (by omega),jF (by omega),jE (i:=p) (by omega),jF (by omega)]
   simp only[Ed.c8,Ed.c9,Ed.da,ga,Option.bind_some,V.bS,V.toInt_int]
   rw[fX,aE,if_neg hc,he]
   rfl
 ·obtain ⟨a2,b2,tW,tX,d2,q1,q2,q3,q4,q5,q6,q7⟩:=part
  refine ⟨a2,b2,tW,tX,d2,q1,q2,q3,q4,q5,q6,fun β kn=> ?_⟩
  rw[←q7 β kn]
  unfold rK
  rw[aE,if_neg (by omega)]
theorem afY: ∀(n a b:Nat) (d:Array Ed),b-a≤n→a≤b→b≤d.size→d.size<1152921504606846976→Below av a b d→FB a b d:=by
 intro n
 induction n with
 | zero=>
  intro a b d hn fv hb hs hB lim wb wp
  have hi:=insertionSort_holds (lt:=av) wP d a b fv hb
  refine ⟨_,bO ?_,hi⟩
  show oS CC a b lim wb wp (eA d) (fun y=>some (Sum.inl y)) (fun r=>some (Sum.inr r))=_
  rw[FA,aE,if_pos (by rw[lH fv,wrap64 (by omega) (by omega)];omega),TQ hb hs (by omega)]
  rfl
 | succ n ih=>
  intro a b d hn fv hb hs hB lim wb wp
  by_cases h12:b-a≤12
  ·have hi:=insertionSort_holds (lt:=av) wP d a b fv hb
   refine ⟨_,bO ?_,hi⟩
   show oS CC a b lim wb wp (eA d) (fun y=>some (Sum.inl y)) (fun r=>some (Sum.inr r))=_
   rw[FA,aE,if_pos (by rw[lH fv,wrap64 (by omega) (by omega)];omega),TQ hb hs (by omega)]
   rfl
  ·have A1:a+12<b:=by omega
   have rb: ¬(((IntKind.wrap .i64 ((b:Int)-(a:Int))):Int)≤12):=by rw[lH fv,wrap64 (by omega) (by omega)];omega
   by_cases h0:lim=0
   ·have hi:=heapSort_holds (lt:=av) wP d a b fv hb
    refine ⟨_,bO ?_,hi⟩
    show oS CC a b lim wb wp (eA d) (fun y=>some (Sum.inl y)) (fun r=>some (Sum.inr r))=_
    rw[FA,aE,if_neg rb,pJ,if_pos h0,aeI (by omega) hb hs]
    rfl
   ·obtain ⟨l1,d1,s1,k1⟩:=afS (lim:=lim) (wb:=wb) (wp:=wp) A1 hb hs (IntKind.wrap .i64 ((b:Int)-(a:Int))) (!wb)
    have b1:b≤d1.size:=by rw[s1.1];exact hb
    have z1:d1.size<1152921504606846976:=by rw[s1.1];exact hs
    obtain ⟨p,h,c1,p1,p2⟩:=afL A1 b1 z1
    obtain ⟨q,h2,d2,q1,q2,s2,k2⟩:=afT (lim:=l1) (wb:=wb) (wp:=wp) A1 b1 z1 (IntKind.wrap .i64 ((b:Int)-(a:Int))) h (h==2) p1 p2
    have b2:b≤d2.size:=by rw[s2.1];exact b1
    have z2:d2.size<1152921504606846976:=by rw[s2.1];exact z1
    have B2:Below av a b d2:=(hB.perm hb s1).perm b1 s2
    obtain ⟨t,ht⟩: ∃t:Bool,t=(bif wb then (bif wp then (h2==1) else false) else false):=⟨_,rfl⟩
    obtain ⟨d3,s3,k3⟩:=afU (lim:=l1) (wb:=wb) (wp:=wp) A1 b2 z2 B2 (IntKind.wrap .i64 ((b:Int)-(a:Int))) (q:Int) t
    have b3:b≤d3.size:=by rw[s3.1];exact b2
    have z3:d3.size<1152921504606846976:=by rw[s3.1];exact z2
    have B3:Below av a b d3:=B2.perm b2 s3
    have P3:PermIn a b d d3:=permIn_trans _ _ _ a b (permIn_trans _ _ _ a b s1 s2) s3
    have step: ∀(β:Type) (kn:(Int × Int × Int × Bool × Bool × (List V))→Option β) (kr:(List V)→Option β),oS CC a b lim wb wp (eA d) kn kr=
      lM CC a b l1 wb wp (IntKind.wrap .i64 ((b:Int)-(a:Int))) (q:Int) t (eA d2) (cO (un fun (SH:Bool) (K3:List V)=>kr K3) (fun (lJ:List V)=>rK CC a b wb wp l1 q lJ kn)):=by
     intro β kn kr
     rw[FA,aE,if_neg rb,pJ,if_neg h0,k1]
     simp only[un]
     rw[c1]
     simp only[Option.bind_some,V.bS,V.pI,V.toInt_int,List.drop_succ_cons,List.drop_zero]
     rw[k2]
     simp only[un]
     rw[ht]
     cases wb
     ·rfl
     ·cases wp
      ·rfl
      ·rfl
    rcases k3 with k3|⟨k3s,k3⟩
    ·obtain ⟨a4,b4,wb4,wp4,d4,r1,r2,r3,r4,r5,r6,r7⟩:=afV A1 b3 z3 B3 q1 q2 (fun a2 b2 d2 aK h1 h2 h3 h4=>ih a2 b2 d2 (by omega) h1 h2 h3 h4) wb wp l1
     obtain ⟨R,e,e1,e2⟩:=ih a4 b4 d4 (by omega) r2 r3 r4 r5 l1 wb4 wp4
     obtain ⟨f1,f2⟩:=r6 R e1 e2
     refine ⟨R,(dI ?_).trans e,permIn_trans _ _ _ a b P3 f1,f2⟩
     show oS CC a b lim wb wp (eA d) (fun y=>some (Sum.inl y)) (fun r=>some (Sum.inr r))=_
     rw[step,k3]
     exact r7 _ (fun y=>some (Sum.inl y))
    ·refine ⟨d3,bO ?_,P3,k3s⟩
     show oS CC a b lim wb wp (eA d) (fun y=>some (Sum.inl y)) (fun r=>some (Sum.inr r))=_
     rw[step,k3]
     rfl
theorem afZ (l:List Ed) (hs:l.length<1152921504606846976): ∃R:List Ed,CC yI [.list an (l.map Ed.enc)]=some [.list an (R.map Ed.enc)]∧R.Perm l∧R.Pairwise (fun x y=> ¬y.lt x):=by
 obtain ⟨L,e1,_⟩:=UB (x:=l.length) (by omega)
 obtain ⟨R,e2,h1,h2⟩:=(afY _ 0 l.toArray.size l.toArray (Nat.le_refl _) (Nat.zero_le _) (Nat.le_refl _) (by simpa using hs) (.inl rfl)).call (L:Int)
 have aM:R.size=l.length:=by rw[h1.1];simp
 refine ⟨R.toList,afG ?_,?_,?_⟩
 ·unfold Uy
  rw[List.length_map,rn (A:=l.length) (by omega),e1]
  simp only[Option.bind_some,V.bS,V.toInt_int]
  have e3:eA l.toArray=l.map Ed.enc:=by simp[oP]
  rw[e3,show ((l.toArray.size:Nat):Int)=(l.length:Int) by simp,show ((0:Nat):Int)=0 from rfl] at e2
  rw[e2]
  rfl
 ·have h3:=h1.2.2
  rw[show l.toArray.size=R.size from h1.1.symm,Array.extract_size,h1.1,Array.extract_size] at h3
  exact h3
 ·rw[List.pairwise_iff_getElem]
  intro i j hi hj sJ
  have h3:=h2 i j (Nat.zero_le _) sJ (by simpa[←aM] using hj)
  rw[Fx] at h3
  have dE:i<R.size:=by simpa using hi
  have fU:j<R.size:=by simpa using hj
  rw[getElem!_pos R i dE,getElem!_pos R j fU] at h3
  simpa using h3
end Go.AM.SL
set_option maxRecDepth 100000
namespace Go.AM
open Go.Proofs
noncomputable def UC (C:ae) (ed fy eB fZ:Int) (eI:List V):Option (List V):=
 (C yK [.int .i64 ed,.int .i64 fy,.int .u64 eB,.int .u64 fZ,.list an eI]).bind fun r1=>
 bif (((V.nth (r1.drop 2) 0).toInt):Int) != 0 then
  some [.int .i64 0,.int .i64 0,.int .i64 ((V.nth (r1.drop 2) 0).toInt),.list ax ([]:List V),.list aA ([]:List V)]
 else
  (C rj [.int .i64 ((V.nth r1 0).toInt),.int .i64 ((V.nth (r1.drop 1) 0).toInt),.list ax ((V.nth (r1.drop 3) 0).toList),.list aA ((V.nth ((r1.drop 3).drop 1) 0).toList)]).bind fun r2=>
  some [.int .i64 ((V.nth r2 0).toInt),.int .i64 ((V.nth (r2.drop 1) 0).toInt),.int .i64 0,.list ax ((V.nth (r2.drop 2) 0).toList),.list aA ((V.nth ((r2.drop 2).drop 1) 0).toList)]
theorem af0 {ed fy eB fZ:Int} {eI:List V} {r:Option (List V)} (h:UC CC ed fy eB fZ eI=r):CC yH [.int .i64 ed,.int .i64 fy,.int .u64 eB,.int .u64 fZ,.list an eI]=r:=
 bj (key:=79) (L:=cP) (bs:=[]) (by kernel_rfl) au (Eq.trans (by kernel_rfl) h)
end Go.AM
set_option maxRecDepth 100000
namespace Go.AM
open Go.Proofs
noncomputable def K5 (C:ae) (aX aU aZ a8:Int) (a9:List V):Option (List V):=
 (C yI [.list an a9]).bind fun r1=>
 (C Dz [.list an ((V.nth r1 0).toList)]).bind fun r2=>
 bif (V.nth r2 0).toBool then
  (C yH [.int .i64 aX,.int .i64 aU,.int .u64 aZ,.int .u64 a8,.list an ((V.nth (r2.drop 1) 0).toList)]).bind fun r3=>
  some [.int .i64 ((V.nth r3 0).toInt),.int .i64 ((V.nth (r3.drop 1) 0).toInt),.int .i64 ((V.nth (r3.drop 2) 0).toInt),.int .i64 aX,.int .i64 aU,.int .u64 aZ,.int .u64 a8,.list an ((V.nth (r2.drop 1) 0).toList),.list ax ((V.nth (r3.drop 3) 0).toList),.list aA ((V.nth ((r3.drop 3).drop 1) 0).toList)]
 else
  (C yH [.int .i64 aX,.int .i64 aU,.int .u64 aZ,.int .u64 a8,.list an ((V.nth (r2.drop 1) 0).toList)]).bind fun r4=>
  some [.int .i64 ((V.nth r4 0).toInt),.int .i64 ((V.nth (r4.drop 1) 0).toInt),.int .i64 ((V.nth (r4.drop 2) 0).toInt),.int .i64 aX,.int .i64 aU,.int .u64 aZ,.int .u64 a8,.list an ((V.nth (r2.drop 1) 0).toList),.list ax ((V.nth (r4.drop 3) 0).toList),.list aA ((V.nth ((r4.drop 3).drop 1) 0).toList)]
theorem UD {aX aU aZ a8:Int} {a9:List V} {r:Option (List V)} (h:K5 CC aX aU aZ a8 a9=r):CC pN [.int .i64 aX,.int .i64 aU,.int .u64 aZ,.int .u64 a8,.list an a9]=r:=
 bj (key:=65) (L:=cP) (bs:=[]) (by kernel_rfl) au (Eq.trans (by kernel_rfl) h)
end Go.AM
set_option maxRecDepth 100000
set_option linter.unusedSimpArgs false
namespace Go.AM
open Go.Proofs
section
variable {n:Nf} {L S:Nat} (h:Nat6 n L S)
include h
end
instance (n:Nf) (L S:Nat):Decidable (gM n L S):=by unfold gM;infer_instance
noncomputable def fj (n:Nf) (L S:Nat):Da:=if gM n L S then zD else minD (ia n L S)
def mP (n:Nf) (L S:Nat):Int:=if gM n L S then 3 else 0
section
variable {n:Nf} {L S:Nat} (h:Nat6 n L S)
include h
theorem UE:CC yH (ly n [])=some (hZ (fj n L S) (mP n L S)):=by
 refine af0 ?_
 unfold UC fj mP
 by_cases ho:gM n L S
 ·obtain ⟨X,hX⟩:=adN h ho
  rw[if_pos ho,if_pos ho]
  refine bs hX (bT rfl ?_)
  rfl
 ·obtain ⟨X,hX⟩:=adM h ho
  rw[if_neg ho,if_neg ho]
  refine bs hX (bF rfl ?_)
  refine bs (E5 (wh h ho)) ?_
  rfl
end
def cv (L S st fin:Nat) (l:List Ed):Nf:=⟨L,S,st,fin,ql l⟩
structure rL (L S st fin:Nat) (l:List Ed):Prop where
 l1:1≤L
 l6:L≤6
 oJ:S≤64
 st:st<2^S
 fin:fin<2^S
 E: ∀e∈l,e.In L S
 len:l.length≤1000000
theorem nM {L S st fin:Nat} {l:List Ed} (h:rL L S st fin l):Nat6 (cv L S st fin l) L S where
 hL:=rfl
 hS:=rfl
 ok:=by
  have uE:=h.l1
  have hl6:=h.l6
  have hs:=h.oJ
  have b7:=h.st
  have mB:=h.fin
  have hp:2^S≤2^64:=Nat.pow_le_pow_right (by omega) hs
  have eM: ∀e∈ql l,e.In L S:=fun e he=>h.E e (wk.1 he)
  have hlen:=aef (L:=L) (S:=S) (by omega) (by omega) (KF l) eM
  refine ⟨by simp only[cv];omega,by simp only[cv];omega,by simp only[cv];omega,by simp only[cv];omega,by simp only[cv];omega,by simp only[cv];omega,by simp only[cv];unfold maxLen;omega,fun e he=> ?_⟩
  have:=eM e he
  unfold Ed.In at this
  unfold Ed.Ok
  omega
 code:=by
  have uE:=h.l1
  have hl6:=h.l6
  have hs:=h.oJ
  unfold Nf.code
  rw[if_neg (by simp only[cv];omega),if_neg (by simp only[cv,Int.toNat_natCast];have:=h.st;have:=h.fin;omega),if_pos]
  intro i hi
  have eM: ∀e∈ql l,e.In L S:=fun e he=>h.E e (wk.1 he)
  unfold Nf.oF
  simp only[cv] at*
  refine ⟨by rw[eU hi];exact eM _ (List.getElem_mem hi),fun h0=> ?_⟩
  rw[eU hi,eU (show i-1<_ by omega)]
  exact List.pairwise_iff_getElem.1 (KF l) (i-1) i (by omega) hi (by omega)
def K6 (m:Da) (e:Int) (n:Nf):List V:=[.int .i64 (m.L:Int),.int .i64 (m.st:Int),.int .i64 e,.int .i64 n.L,.int .i64 n.S,.int .u64 (n.st:Int),.int .u64 (n.fin:Int),.list an (n.E.map Ed.enc),.list ax m.cu,.list aA m.cD]
section
variable {L S st fin:Nat} {l:List Ed} (h:rL L S st fin l)
include h
theorem UF:CC pN [.int .i64 (L:Int),.int .i64 (S:Int),.int .u64 (st:Int),.int .u64 (fin:Int),.list an (l.map Ed.enc)]=some (K6 (fj (cv L S st fin l) L S) (mP (cv L S st fin l) L S) (cv L S st fin l)):=by
 have hl:=h.len
 obtain ⟨R,e1,p1,s1⟩:=SL.afZ l (by omega)
 obtain ⟨b,e2⟩:=TB (l:=R) (by rw[p1.length_eq];exact hl)
 obtain ⟨c1,c2⟩:=aem s1
 have hc:gO R=ql l:=Tq c1 (KF l) fun x=>by rw[c2,wk,p1.mem_iff]
 rw[hc] at e2
 have e3:=UE (nM h)
 refine UD ?_
 unfold K5
 refine bs e1 ?_
 refine bs e2 ?_
 cases b
 ·refine bF rfl ?_
  refine bs e3 ?_
  rfl
 ·refine bT rfl ?_
  refine bs e3 ?_
  rfl
end
end Go.AM
set_option maxRecDepth 100000
namespace Go.AM
open Go.Proofs
noncomputable def UG (C:ae) (cU dy:Int) (db di:List V) (dj dA:Int) (dz dB:List V):Option (List V):=
 (C yC [.int .i64 cU,.int .i64 dy,.list ax db,.list aA di]).bind fun r1=>
 bif (((V.nth r1 0).toInt):Int) != 0 then
  some [.int .i64 ((V.nth r1 0).toInt)]
 else
  (C yC [.int .i64 dj,.int .i64 dA,.list ax dz,.list aA dB]).bind fun r2=>
  bif (((V.nth r2 0).toInt):Int) != 0 then
  some [.int .i64 ((V.nth r2 0).toInt)]
  else
  bif (cU:Int) != dj then
   some [.int .i64 1]
  else
   some [.int .i64 0]
theorem af1 {cU dy:Int} {db di:List V} {dj dA:Int} {dz dB:List V} {r:Option (List V)} (h:UG CC cU dy db di dj dA dz dB=r):CC Dm [.int .i64 cU,.int .i64 dy,.list ax db,.list aA di,.int .i64 dj,.int .i64 dA,.list ax dz,.list aA dB]=r:=
 bj (key:=24) (L:=cP) (bs:=[]) (by kernel_rfl) au (Eq.trans (by kernel_rfl) h)
end Go.AM
set_option maxRecDepth 100000
namespace Go.AM
open Go.Proofs
noncomputable abbrev wR:Code:=cy Tryd.prog (ar.aP 41)
noncomputable def A3 (C:ae) (t40 jG jH:Int) (jf ic:List V) (lN lO:Int) (kR j8:List V) (t41:Int) {β:Type} (kn:Int→Option β) (kr:((Bool) ⊕ (Int × Bool))→Option β):Option β:=
 bif decide ((t41:Int)<t40) then
  (idx jf t41).bind fun x1=>
  (idx kR t41).bind fun x2=>
  bif !(x1.toBool==x2.toBool) then
  kr (.inl false)
  else
  kn (IntKind.wrap .i64 (t41+1))
 else
  kr (.inr (t41,decide ((t41:Int)<t40)))
noncomputable def K7 (C:ae) (t40 jG jH:Int) (jf ic:List V) (lN lO:Int) (kR j8:List V):(Int)→Option ((Int) ⊕ ((Bool) ⊕ (Int × Bool))):=fun t41=>A3 C t40 jG jH jf ic lN lO kR j8 t41 (fun y=>some (.inl y)) (fun r=>some (.inr r))
noncomputable def A4 (C:ae) (q t58 t59 t80 jG jH:Int) (jf ic:List V) (lN lO:Int) (kR j8:List V) (t81:Int) {β:Type} (kn:Int→Option β) (kr:((Bool) ⊕ (Int × Bool))→Option β):Option β:=
 bif decide ((t81:Int)<t80) then
  (idx ic q).bind fun x9=>
  (idx x9.toList t81).bind fun iG=>
  (idx j8 q).bind fun fA=>
  (idx fA.toList t81).bind fun oI=>
  bif (iG.toInt:Int) != oI.toInt then
  kr (.inl false)
  else
  kn (IntKind.wrap .i64 (t81+1))
 else
  kr (.inr (t81,decide ((t81:Int)<t80)))
noncomputable def K8 (C:ae) (q t58 t59 t80 jG jH:Int) (jf ic:List V) (lN lO:Int) (kR j8:List V):(Int)→Option ((Int) ⊕ ((Bool) ⊕ (Int × Bool))):=fun t81=>A4 C q t58 t59 t80 jG jH jf ic lN lO kR j8 t81 (fun y=>some (.inl y)) (fun r=>some (.inr r))
noncomputable def A5 (C:ae) (t58 jG jH:Int) (jf ic:List V) (lN lO:Int) (kR j8:List V) (t59:Int) {β:Type} (kn:Int→Option β) (kr:((Bool) ⊕ (Int × Bool))→Option β):Option β:=
 bif decide ((t59:Int)<t58) then
  (idx ic t59).bind fun x6=>
  (idx j8 t59).bind fun x7=>
  bif ((x6.toList.length:Int):Int) != (x7.toList.length:Int) then
  kr (.inl false)
  else
  (idx ic t59).bind fun x8=>
  (Loop (K8 C t59 t58 t59 (x8.toList.length:Int) jG jH jf ic lN lO kR j8) 0).bind (cO (fun (rr:Bool)=>
   kr (.inl rr)) (un fun (Ej:Int) (ah8:Bool)=>
   kn (IntKind.wrap .i64 (t59+1))))
 else
  kr (.inr (t59,decide ((t59:Int)<t58)))
noncomputable def K9 (C:ae) (t58 jG jH:Int) (jf ic:List V) (lN lO:Int) (kR j8:List V):(Int)→Option ((Int) ⊕ ((Bool) ⊕ (Int × Bool))):=fun t59=>A5 C t58 jG jH jf ic lN lO kR j8 t59 (fun y=>some (.inl y)) (fun r=>some (.inr r))
noncomputable def UH (C:ae):cq:=fun β n ds k=>
 bif Nat.beq n 65 then bA IE [false,true,false,false,false,false,false,false,false,false] [[0],[1,0,0,3,4,5,6,7,8,9,10]] (@A3 C) ds k else
 bif Nat.beq n 241 then bA IF [false,false,false,false,true,false,false,false,false,false,false,false,false] [[0],[1,2,3,4,0,0,6,7,8,9,10,11,12,13]] (@A4 C) ds k else
 bif Nat.beq n 161 then bA IG [false,true,false,false,false,false,false,false,false,false] [[0],[1,0,0,3,4,5,6,7,8,9,10]] (@A5 C) ds k else
 none
abbrev La (C:ae) (b:cl):Prop:=cm Tryd.prog ar C (UH C) 41 (cE Tryd.prog (ar.aP 41)) (ar.sin 41).aO.length b
theorem af2 (C:ae):La C (.loop (ao [1,1,0,1,0,0] wR)):=
 bD IE [false,true,false,false,false,false,false,false,false,false] [[0],[1,0,0,3,4,5,6,7,8,9,10]] (@A3 C) (by kernel_rfl) (aT (bs:=[]) (by kernel_rfl) au) (fun ds=>by kernel_rfl) (fun i x=>by kernel_rfl) (fun i x β k=>by kernel_rfl) (fun β ds k=>by kernel_rfl)
theorem af3 (C:ae):La C (.loop (ao [1,1,1,0,1,0,0,1,1,0,0,1,1,1,0,0] wR)):=
 bD IF [false,false,false,false,true,false,false,false,false,false,false,false,false] [[0],[1,2,3,4,0,0,6,7,8,9,10,11,12,13]] (@A4 C) (by kernel_rfl) (aT (bs:=[]) (by kernel_rfl) au) (fun ds=>by kernel_rfl) (fun i x=>by kernel_rfl) (fun i x β k=>by kernel_rfl) (fun β ds k=>by kernel_rfl)
theorem af4 (C:ae):La C (.loop (ao [1,1,1,0,1,0,0] wR)):=
 bD IG [false,true,false,false,false,false,false,false,false,false] [[0],[1,0,0,3,4,5,6,7,8,9,10]] (@A5 C) (by kernel_rfl) (aT (bs:=[.loop (ao [1,1,1,0,1,0,0,1,1,0,0,1,1,1,0,0] wR)]) (by kernel_rfl) (bm (af3 C) au)) (fun ds=>by kernel_rfl) (fun i x=>by kernel_rfl) (fun i x β k=>by kernel_rfl) (fun β ds k=>by kernel_rfl)
noncomputable def UI (C:ae) (cU dy:Int) (db di:List V) (dj dA:Int) (dz dB:List V):Option (List V):=
 bif (cU:Int) != dj then
  some [.bool false]
 else
  bif (dy:Int) != dA then
  some [.bool false]
  else
  bif ((db.length:Int):Int) != (dz.length:Int) then
   some [.bool false]
  else
   bif ((di.length:Int):Int) != (dB.length:Int) then
   some [.bool false]
   else
   (Loop (K7 C (db.length:Int) cU dy db di dj dA dz dB) 0).bind (cO (fun (jV:Bool)=>
    some [.bool jV]) (un fun (jA:Int) (mw:Bool)=>
    (Loop (K9 C (di.length:Int) cU dy db di dj dA dz dB) 0).bind (cO (fun (EG:Bool)=>
     some [.bool EG]) (un fun (ah9:Int) (Tj:Bool)=>
     some [.bool true]))))
theorem af5 {cU dy:Int} {db di:List V} {dj dA:Int} {dz dB:List V} {r:Option (List V)} (h:UI CC cU dy db di dj dA dz dB=r):CC Dq [.int .i64 cU,.int .i64 dy,.list ax db,.list aA di,.int .i64 dj,.int .i64 dA,.list ax dz,.list aA dB]=r:=
 bj (key:=41) (L:=UH CC) (bs:=[.loop (ao [1,1,0,1,0,0] wR),.loop (ao [1,1,1,0,1,0,0] wR)]) (by kernel_rfl) (bm (af2 CC) (bm (af4 CC) au)) (Eq.trans (by kernel_rfl) h)
end Go.AM
set_option maxRecDepth 100000
set_option linter.unusedSimpArgs false
namespace Go.AM
open Go.Proofs
section
variable {a b:Da} (ha:a.Ok) (hb:b.Ok) (hL:a.L=b.L) {op:Nat}
include ha hb hL
end
theorem af6 (m:Da) (hn:m.n≤1000000) (hl:m.L≤1000):CC Dq (jZ m (dQ m))=some [.bool true]:=by
 refine af5 ?_
 unfold UI
 refine bF (by simp) (bF (by simp) (bF (by simp) (bF (by simp) ?_)))
 rw[Da.lC]
 refine bs (fO m.n (fun i=>(i:Int)) (.inr ((m.n:Int),false)) (fun i hi=> ?_) ?_) ?_
 ·simp only[K7,A3]
  refine bT (eL hi) ?_
  refine bs (Da.vS hi) ?_
  refine bs (Da.vS hi) ?_
  refine bF (by simp) ?_
  rw[dh (by omega)]
 ·simp only[K7,A3]
  refine bF (bN (Nat.le_refl _)) ?_
  rw[bN (Nat.le_refl _)]
 ·simp only[cO,un]
  rw[Da.RY]
  refine bs (fO m.n (fun i=>(i:Int)) (.inr ((m.n:Int),false)) (fun i hi=> ?_) ?_) ?_
  ·simp only[K9,A5]
   refine bT (eL hi) ?_
   refine bs (Da.qc hi) ?_
   refine bs (Da.qc hi) ?_
   refine bF (by simp) ?_
   refine bs (Da.qc hi) ?_
   rw[ry,eV]
   refine bs (fO m.L (fun x=>(x:Int)) (.inr ((m.L:Int),false)) (fun x hx=> ?_) ?_) ?_
   ·simp only[K8,A4]
    refine bT (eL hx) ?_
    refine bs (Da.qc hi) ?_
    rw[ry]
    refine bs (tA hx) ?_
    refine bs (Da.qc hi) ?_
    rw[ry]
    refine bs (tA hx) ?_
    refine bF (by simp) ?_
    rw[dh (by omega)]
   ·simp only[K8,A4]
    refine bF (bN (Nat.le_refl _)) ?_
    rw[bN (Nat.le_refl _)]
   ·simp only[cO,un]
    rw[dh (by omega)]
  ·simp only[K9,A5]
   refine bF (bN (Nat.le_refl _)) ?_
   rw[bN (Nat.le_refl _)]
  ·rfl
theorem Da.Ok.same {m:Da} (h:m.Ok):CC Dq (jZ m (dQ m))=some [.bool true]:=af6 m (by have:=h.ee;omega) (by have:=h.l6;omega)
def wS (d e:Df):Int:=if d.val≠0 then d.val else if e.val≠0 then e.val else if d.L≠e.L then 1 else 0
theorem af7 {d e:Df} (hd:d.Ok) (he:e.Ok):CC Dm (kT d (kT e []))=some [.int .i64 (wS d e)]:=by
 refine af1 ?_
 unfold UG wS
 refine bs (RG hd) ?_
 by_cases h1:d.val=0
 ·rw[if_neg (by simp[h1])]
  refine bF (by simp[h1]) ?_
  refine bs (RG he) ?_
  by_cases h2:e.val=0
  ·rw[if_neg (by simp[h2])]
   refine bF (by simp[h2]) ?_
   by_cases h3:d.L=e.L
   ·rw[if_neg (by simp[h3])]
    exact bF (by simp[h3]) rfl
   ·rw[if_pos h3]
    exact bT (by simpa using h3) rfl
  ·rw[if_pos h2]
   exact bT (by simpa using h2) rfl
 ·rw[if_pos h1]
  exact bT (by simpa using h1) rfl
end Go.AM
set_option maxRecDepth 100000
set_option linter.unusedSimpArgs false
namespace Go.AM
open Go.Proofs
namespace Da
def A6 (a:Da) (k q:Nat):Prop:= ∃w,WL a.L w∧w.length≤k∧a.acc q w=true
def Live (a:Da) (q:Nat):Prop:= ∃w,WL a.L w∧a.acc q w=true
open Classical in
noncomputable def Gh (a:Da) (q:Nat):Bool:=decide (a.Live q)
theorem A6.live {a:Da} {k q:Nat} (h:a.A6 k q):a.Live q:=by obtain ⟨w,h1,_,h3⟩:=h;exact ⟨w,h1,h3⟩
theorem A6.mono {a:Da} {k m q:Nat} (h:a.A6 k q) (hk:k≤m):a.A6 m q:=by obtain ⟨w,h1,h2,h3⟩:=h;exact ⟨w,h1,by omega,h3⟩
end Da
def bV (n:Nat) (r:Nat→Bool):List V:=tab n fun q=>V.bool (r q)
def upd (r:Nat→Bool) (p:Nat) (b:Bool) (q:Nat):Bool:=if q=p then b else r q
structure LvI (a:Da) (r0 r:Nat→Bool) (c:Bool):Prop where
 good: ∀q,q<a.n→r q=true→a.Live q
 up: ∀q,q<a.n→r0 q=true→r q=true
 yes:c=true→∃q,q<a.n∧r0 q=false∧r q=true
 no:c=false→∀q,q<a.n→r q=r0 q
section
variable {a:Da} (h:a.Ok)
include h
end
section
variable {a:Da} (h:a.Ok)
include h
end
end Go.AM
set_option maxRecDepth 100000
namespace Go.AM
open Go.Proofs
noncomputable def Lb (C:ae) (bx lB:Int):Option (List V):=
 bif decide ((lB:Int)>64) then
  some [V.bool true]
 else
  some [V.bool false,.int .i64 bx,.int .i64 lB,.int .u64 0,.int .u64 0,.list an ([]:List V)]
theorem UJ {bx lB:Int} {r:Option (List V)} (h:Lb CC bx lB=r):CC tf [.int .i64 bx,.int .i64 lB]=r:=
 bj (key:=61) (L:=cP) (bs:=[]) (by kernel_rfl) au (Eq.trans (by kernel_rfl) h)
end Go.AM
set_option maxRecDepth 100000
namespace Go.AM
open Go.Proofs
noncomputable def UK (C:ae) (A7 letter to aX aU aZ a8:Int) (a9:List V):Option (List V):=
 bif Nat.ble ((a9.length+([.agg [.int .i64 A7,.int .i64 letter,.int .i64 to]]:List V).length)*24) b9 then
  some [.int .i64 aX,.int .i64 aU,.int .u64 aZ,.int .u64 a8,.list an (a9++([.agg [.int .i64 A7,.int .i64 letter,.int .i64 to]]:List V))]
 else none
theorem af8 {A7 letter to aX aU aZ a8:Int} {a9:List V} {r:Option (List V)} (h:UK CC A7 letter to aX aU aZ a8 a9=r):CC th [.int .i64 A7,.int .i64 letter,.int .i64 to,.int .i64 aX,.int .i64 aU,.int .u64 aZ,.int .u64 a8,.list an a9]=r:=
 bj (key:=62) (L:=cP) (bs:=[]) (by kernel_rfl) au (Eq.trans (by kernel_rfl) h)
end Go.AM
set_option maxRecDepth 100000
namespace Go.AM
open Go.Proofs
noncomputable def UL (C:ae) (q aX aU aZ a8:Int) (a9:List V):Option (List V):=
 bif decide (0≤q) then
  some [.int .i64 aX,.int .i64 aU,.int .u64 (IntKind.wrap .u64 ((BitVec.ofInt (IntKind.bits .u64) aZ|||BitVec.ofInt (IntKind.bits .u64) (IntKind.wrap .u64 (1*2^(min q.toNat (IntKind.bits .u64))))).toNat)),.int .u64 a8,.list an a9]
 else none
theorem af9 {q aX aU aZ a8:Int} {a9:List V} {r:Option (List V)} (h:UL CC q aX aU aZ a8 a9=r):CC ti [.int .i64 q,.int .i64 aX,.int .i64 aU,.int .u64 aZ,.int .u64 a8,.list an a9]=r:=
 bj (key:=63) (L:=cP) (bs:=[]) (by kernel_rfl) au (Eq.trans (by kernel_rfl) h)
end Go.AM
set_option maxRecDepth 100000
namespace Go.AM
open Go.Proofs
noncomputable def UM (C:ae) (q aX aU aZ a8:Int) (a9:List V):Option (List V):=
 bif decide (0≤q) then
  some [.int .i64 aX,.int .i64 aU,.int .u64 aZ,.int .u64 (IntKind.wrap .u64 ((BitVec.ofInt (IntKind.bits .u64) a8|||BitVec.ofInt (IntKind.bits .u64) (IntKind.wrap .u64 (1*2^(min q.toNat (IntKind.bits .u64))))).toNat)),.list an a9]
 else none
theorem aga {q aX aU aZ a8:Int} {a9:List V} {r:Option (List V)} (h:UM CC q aX aU aZ a8 a9=r):CC yF [.int .i64 q,.int .i64 aX,.int .i64 aU,.int .u64 aZ,.int .u64 a8,.list an a9]=r:=
 bj (key:=69) (L:=cP) (bs:=[]) (by kernel_rfl) au (Eq.trans (by kernel_rfl) h)
end Go.AM
set_option maxRecDepth 100000
namespace Go.AM
open Go.Proofs
noncomputable abbrev UN:Code:=cy Tryd.prog (ar.aP 64)
noncomputable def A8 (C:ae) (offset:Int) (t8:List V) (t9 t10 aX aU aZ a8:Int) (cY:List V) {β:Type} (kn:(Int × Int × Int × Int × Int × (List V))→Option β) (kr:(Int × Bool × Int × Int × Int × Int × (List V))→Option β):Option β:=
 bif decide ((t10:Int)<t9) then
  (idx t8 t10).bind fun x1=>
  bif x1.toBool then
  (C yF [.int .i64 (IntKind.wrap .i64 (t10+offset)),.int .i64 aX,.int .i64 aU,.int .u64 aZ,.int .u64 a8,.list an cY]).bind fun r2=>
  kn (IntKind.wrap .i64 (t10+1),(V.nth r2 0).toInt,(V.nth (r2.drop 1) 0).toInt,(V.nth ((r2.drop 1).drop 1) 0).toInt,(V.nth (((r2.drop 1).drop 1).drop 1) 0).toInt,(V.nth (r2.drop 4) 0).toList)
  else
  kn (IntKind.wrap .i64 (t10+1),aX,aU,aZ,a8,cY)
 else
  kr (t10,decide ((t10:Int)<t9),aX,aU,aZ,a8,cY)
noncomputable def Lc (C:ae) (offset:Int) (t8:List V) (t9:Int):(Int × Int × Int × Int × Int × (List V))→Option ((Int × Int × Int × Int × Int × (List V)) ⊕ (Int × Bool × Int × Int × Int × Int × (List V))):=un fun t10=>un fun aX=>un fun aU=>un fun aZ=>un fun a8 cY=>A8 C offset t8 t9 t10 aX aU aZ a8 cY (fun y=>some (.inl y)) (fun r=>some (.inr r))
noncomputable def UO (C:ae):cq:=fun β n ds k=>
 bif Nat.beq n 17 then bA IM [false,false,false,true,true,true,true,true,true] [[1,2,3,0,0,0,0,0,0,0]] (@A8 C) ds k else
 none
abbrev agb (C:ae) (b:cl):Prop:=cm Tryd.prog ar C (UO C) 64 (cE Tryd.prog (ar.aP 64)) (ar.sin 64).aO.length b
theorem agc (C:ae):agb C (.loop (ao [1,0,0] UN)):=
 bD IM [false,false,false,true,true,true,true,true,true] [[1,2,3,0,0,0,0,0,0,0]] (@A8 C) (by kernel_rfl) (aT (bs:=[]) (by kernel_rfl) au) (fun ds=>by kernel_rfl) (fun i x=>by kernel_rfl) (fun i x β k=>by kernel_rfl) (fun β ds k=>by kernel_rfl)
noncomputable def UP (C:ae) (final:List V) (offset aX aU aZ a8:Int) (a9:List V):Option (List V):=
 (Loop (Lc C offset final (final.length:Int)) (0,aX,aU,aZ,a8,a9)).bind (un fun (jV:Int)=>un fun (jA:Bool)=>un fun (agd:Int)=>un fun (A9:Int)=>un fun (tY:Int)=>un fun (tZ:Int) (b_9:List V)=>
  some [.int .i64 agd,.int .i64 A9,.int .u64 tY,.int .u64 tZ,.list an b_9])
theorem age {final:List V} {offset aX aU aZ a8:Int} {a9:List V} {r:Option (List V)} (h:UP CC final offset aX aU aZ a8 a9=r):CC tj [.list ax final,.int .i64 offset,.int .i64 aX,.int .i64 aU,.int .u64 aZ,.int .u64 a8,.list an a9]=r:=
 bj (key:=64) (L:=UO CC) (bs:=[.loop (ao [1,0,0] UN)]) (by kernel_rfl) (bm (agc CC) au) (Eq.trans (by kernel_rfl) h)
end Go.AM
set_option maxRecDepth 100000
namespace Go.AM
open Go.Proofs
noncomputable abbrev FC:Code:=cy Tryd.prog (ar.aP 73)
noncomputable def Ba (C:ae) (offset p:Int) (t11:List V) (t12 t13:Int) (t18:List V) (t19 t20 aX aU aZ a8:Int) (cY:List V) {β:Type} (kn:(Int × Int × Int × Int × Int × (List V))→Option β) (kr:(Int × Bool × Int × Int × Int × Int × (List V))→Option β):Option β:=
 bif decide ((t20:Int)<t19) then
  (idx t18 t20).bind fun x2=>
  (C th [.int .i64 (IntKind.wrap .i64 (p+offset)),.int .i64 t20,.int .i64 (IntKind.wrap .i64 (x2.toInt+offset)),.int .i64 aX,.int .i64 aU,.int .u64 aZ,.int .u64 a8,.list an cY]).bind fun r3=>
  kn (IntKind.wrap .i64 (t20+1),(V.nth r3 0).toInt,(V.nth (r3.drop 1) 0).toInt,(V.nth ((r3.drop 1).drop 1) 0).toInt,(V.nth (((r3.drop 1).drop 1).drop 1) 0).toInt,(V.nth (r3.drop 4) 0).toList)
 else
  kr (t20,decide ((t20:Int)<t19),aX,aU,aZ,a8,cY)
noncomputable def Ld (C:ae) (offset p:Int) (t11:List V) (t12 t13:Int) (t18:List V) (t19:Int):(Int × Int × Int × Int × Int × (List V))→Option ((Int × Int × Int × Int × Int × (List V)) ⊕ (Int × Bool × Int × Int × Int × Int × (List V))):=un fun t20=>un fun aX=>un fun aU=>un fun aZ=>un fun a8 cY=>Ba C offset p t11 t12 t13 t18 t19 t20 aX aU aZ a8 cY (fun y=>some (.inl y)) (fun r=>some (.inr r))
noncomputable def Bb (C:ae) (offset:Int) (t11:List V) (t12 t13 aX aU aZ a8:Int) (cY:List V) {β:Type} (kn:(Int × Int × Int × Int × Int × (List V))→Option β) (kr:(Int × Bool × Int × Int × Int × Int × (List V))→Option β):Option β:=
 bif decide ((t13:Int)<t12) then
  (idx t11 t13).bind fun x1=>
  (Loop (Ld C offset t13 t11 t12 t13 x1.toList (x1.toList.length:Int)) (0,aX,aU,aZ,a8,cY)).bind (un fun (jA:Int)=>un fun (mw:Bool)=>un fun (A9:Int)=>un fun (tY:Int)=>un fun (tZ:Int)=>un fun (qt:Int) (wa:List V)=>
   kn (IntKind.wrap .i64 (t13+1),A9,tY,tZ,qt,wa))
 else
  kr (t13,decide ((t13:Int)<t12),aX,aU,aZ,a8,cY)
noncomputable def Lf (C:ae) (offset:Int) (t11:List V) (t12:Int):(Int × Int × Int × Int × Int × (List V))→Option ((Int × Int × Int × Int × Int × (List V)) ⊕ (Int × Bool × Int × Int × Int × Int × (List V))):=un fun t13=>un fun aX=>un fun aU=>un fun aZ=>un fun a8 cY=>Bb C offset t11 t12 t13 aX aU aZ a8 cY (fun y=>some (.inl y)) (fun r=>some (.inr r))
noncomputable def UQ (C:ae):cq:=fun β n ds k=>
 bif Nat.beq n 81 then bA IN [false,false,false,false,false,false,false,true,true,true,true,true,true] [[1,2,3,4,5,6,7,0,0,0,0,0,0,0]] (@Ba C) ds k else
 bif Nat.beq n 33 then bA IP [false,false,false,true,true,true,true,true,true] [[1,2,3,0,0,0,0,0,0,0]] (@Bb C) ds k else
 none
abbrev UR (C:ae) (b:cl):Prop:=cm Tryd.prog ar C (UQ C) 73 (cE Tryd.prog (ar.aP 73)) (ar.sin 73).aO.length b
theorem agf (C:ae):UR C (.loop (ao [1,1,0,0,1,1,0,0,1,1,0,0] FC)):=
 bD IN [false,false,false,false,false,false,false,true,true,true,true,true,true] [[1,2,3,4,5,6,7,0,0,0,0,0,0,0]] (@Ba C) (by kernel_rfl) (aT (bs:=[]) (by kernel_rfl) au) (fun ds=>by kernel_rfl) (fun i x=>by kernel_rfl) (fun i x β k=>by kernel_rfl) (fun β ds k=>by kernel_rfl)
theorem agh (C:ae):UR C (.loop (ao [1,1,0,0] FC)):=
 bD IP [false,false,false,true,true,true,true,true,true] [[1,2,3,0,0,0,0,0,0,0]] (@Bb C) (by kernel_rfl) (aT (bs:=[.loop (ao [1,1,0,0,1,1,0,0,1,1,0,0] FC)]) (by kernel_rfl) (bm (agf C) au)) (fun ds=>by kernel_rfl) (fun i x=>by kernel_rfl) (fun i x β k=>by kernel_rfl) (fun β ds k=>by kernel_rfl)
noncomputable def US (C:ae) (bd bn:Int) (aR bh:List V) (offset aX aU aZ a8:Int) (a9:List V):Option (List V):=
 (Loop (Lf C offset bh (bh.length:Int)) (0,aX,aU,aZ,a8,a9)).bind (un fun (Tf:Int)=>un fun (E4:Bool)=>un fun (agi:Int)=>un fun (Lg:Int)=>un fun (Lh:Int)=>un fun (Li:Int) (zK:List V)=>
  some [.int .i64 agi,.int .i64 Lg,.int .u64 Lh,.int .u64 Li,.list an zK])
theorem agj {bd bn:Int} {aR bh:List V} {offset aX aU aZ a8:Int} {a9:List V} {r:Option (List V)} (h:US CC bd bn aR bh offset aX aU aZ a8 a9=r):CC tk [.int .i64 bd,.int .i64 bn,.list ax aR,.list aA bh,.int .i64 offset,.int .i64 aX,.int .i64 aU,.int .u64 aZ,.int .u64 a8,.list an a9]=r:=
 bj (key:=73) (L:=UQ CC) (bs:=[.loop (ao [1,1,0,0] FC)]) (by kernel_rfl) (bm (agh CC) au) (Eq.trans (by kernel_rfl) h)
end Go.AM
set_option maxRecDepth 100000
namespace Go.AM
open Go.Proofs
noncomputable abbrev UT:Code:=cy Tryd.prog (ar.aP 74)
noncomputable def Bc (C:ae) (final:List V) (to t14:Int) (FD:List V) (t15 aX aU aZ a8:Int) (oT:List V) {β:Type} (kn:(Int × Int × Int × Int × Int × (List V))→Option β) (kr:(Int × Bool × Int × Int × Int × Int × (List V))→Option β):Option β:=
 bif decide ((t15:Int)<t14) then
  bif (decide (0≤t15))&&(decide (t15<(FD.length:Int))) then
  (FD[(t15:Int).toNat]?).bind fun x1=>
  bif decide ((((x1.cell 2).toInt):Int)<(final.length:Int)) then
   (idx final ((x1.cell 2).toInt)).bind fun x2=>
   bif x2.toBool then
   (C th [.int .i64 ((x1.cell 0).toInt),.int .i64 ((x1.cell 1).toInt),.int .i64 to,.int .i64 aX,.int .i64 aU,.int .u64 aZ,.int .u64 a8,.list an oT]).bind fun r3=>
   kn (IntKind.wrap .i64 (t15+1),(V.nth r3 0).toInt,(V.nth (r3.drop 1) 0).toInt,(V.nth ((r3.drop 1).drop 1) 0).toInt,(V.nth (((r3.drop 1).drop 1).drop 1) 0).toInt,(V.nth (r3.drop 4) 0).toList)
   else
   kn (IntKind.wrap .i64 (t15+1),aX,aU,aZ,a8,oT)
  else
   kn (IntKind.wrap .i64 (t15+1),aX,aU,aZ,a8,oT)
  else none
 else
  kr (t15,decide ((t15:Int)<t14),aX,aU,aZ,a8,oT)
noncomputable def Lj (C:ae) (final:List V) (to t14:Int) (FD:List V):(Int × Int × Int × Int × Int × (List V))→Option ((Int × Int × Int × Int × Int × (List V)) ⊕ (Int × Bool × Int × Int × Int × Int × (List V))):=un fun t15=>un fun aX=>un fun aU=>un fun aZ=>un fun a8 oT=>Bc C final to t14 FD t15 aX aU aZ a8 oT (fun y=>some (.inl y)) (fun r=>some (.inr r))
noncomputable def UU (C:ae):cq:=fun β n ds k=>
 bif Nat.beq n 17 then bA IQ [false,false,false,true,true,true,true,true,false,true] [[1,2,3,0,0,0,0,0,0,9,0]] (@Bc C) ds k else
 none
abbrev agk (C:ae) (b:cl):Prop:=cm Tryd.prog ar C (UU C) 74 (cE Tryd.prog (ar.aP 74)) (ar.sin 74).aO.length b
theorem agl (C:ae):agk C (.loop (ao [1,0,0] UT)):=
 bD IQ [false,false,false,true,true,true,true,true,false,true] [[1,2,3,0,0,0,0,0,0,9,0]] (@Bc C) (by kernel_rfl) (aT (bs:=[]) (by kernel_rfl) au) (fun ds=>by kernel_rfl) (fun i x=>by kernel_rfl) (fun i x β k=>by kernel_rfl) (fun β ds k=>by kernel_rfl)
noncomputable def UW (C:ae) (final:List V) (to aX aU aZ a8:Int) (a9:List V):Option (List V):=
 bif Nat.ble (a9.length*24) b9 then
  (Loop (Lj C final to (a9.length:Int) a9) (0,aX,aU,aZ,a8,a9)).bind (un fun (jA:Int)=>un fun (mw:Bool)=>un fun (A9:Int)=>un fun (tY:Int)=>un fun (tZ:Int)=>un fun (qt:Int) (wa:List V)=>
   some [.int .i64 A9,.int .i64 tY,.int .u64 tZ,.int .u64 qt,.list an wa])
 else none
theorem agm {final:List V} {to aX aU aZ a8:Int} {a9:List V} {r:Option (List V)} (h:UW CC final to aX aU aZ a8 a9=r):CC yG [.list ax final,.int .i64 to,.int .i64 aX,.int .i64 aU,.int .u64 aZ,.int .u64 a8,.list an a9]=r:=
 bj (key:=74) (L:=UU CC) (bs:=[.loop (ao [1,0,0] UT)]) (by kernel_rfl) (bm (agl CC) au) (Eq.trans (by kernel_rfl) h)
end Go.AM
set_option maxRecDepth 100000
set_option linter.unusedSimpArgs false
namespace Go.AM
open Go.Proofs
def dk (p x q:Nat):Ed:=⟨(p:Int),(x:Int),(q:Int)⟩
def aN (L S:Nat) (st fin:Nat) (l:List Ed):List V:=[.int .i64 (L:Int),.int .i64 (S:Int),.int .u64 (st:Int),.int .u64 (fin:Int),.list an (l.map Ed.enc)]
def fm (n:Nat) (g:Nat→List Ed):List Ed:=(List.range n).flatMap g
theorem agn {g:Nat→List Ed}:fm 0 g=[]:=rfl
theorem Lk {n:Nat} {g:Nat→List Ed}:fm (n+1) g=fm n g++g n:=by simp[fm,List.range_succ]
theorem UX {n:Nat} {g:Nat→List Ed} {e:Ed}:e∈fm n g↔∃i,i<n∧e∈g i:=by simp[fm]
theorem Ll {n k:Nat} {g:Nat→List Ed} (h: ∀i,i<n→(g i).length≤k):(fm n g).length≤n*k:=by
 induction n with
 | zero=>simp[fm]
 | succ n ih=>
  rw[Lk,List.length_append,Nat.succ_mul]
  have:=ih fun i hi=>h i (by omega)
  have:=h n (by omega)
  omega
theorem ua {X R:Type} {step:X→Option (X ⊕ R)} (n:Nat) (s:Nat→X) (r:R) {x:X} (hx:x=s 0) (h: ∀i,i<n→step (s i)=some (.inl (s (i+1)))) (he:step (s n)=some (.inr r)):Loop step x=some r:=by rw[hx];exact fO n s r h he
theorem ub {a b:Nat} (h:a+b≤1000000000):IntKind.wrap .i64 ((a:Int)+(b:Int))=((a+b:Nat):Int):=by rw[wrap64 (by omega) (by omega)];omega
theorem ago {l:List Ed} {p x q:Nat}:l.map Ed.enc++[V.agg [.int .i64 (p:Int),.int .i64 (x:Int),.int .i64 (q:Int)]]=(l++[dk p x q]).map Ed.enc:=by simp[dk,Ed.enc]
section
variable {L S st fin:Nat} {l:List Ed}
theorem FE {p x q:Nat} (h:l.length≤1000000):CC th [.int .i64 (p:Int),.int .i64 (x:Int),.int .i64 (q:Int),.int .i64 (L:Int),.int .i64 (S:Int),.int .u64 (st:Int),.int .u64 (fin:Int),.list an (l.map Ed.enc)]=some (aN L S st fin (l++[dk p x q])):=by
 refine af8 ?_
 unfold UK
 refine bT (cap (by simp;omega) (by omega)) ?_
 rw[ago];rfl
theorem FF {q:Nat} (hq:q<64) (hs:st<2^64):CC ti [.int .i64 (q:Int),.int .i64 (L:Int),.int .i64 (S:Int),.int .u64 (st:Int),.int .u64 (fin:Int),.list an (l.map Ed.enc)]=some (aN L S (st|||2^q) fin l):=by
 refine af9 ?_
 unfold UL
 refine bT (decide_eq_true (by omega)) ?_
 rw[Int.toNat_natCast,D9 hq,u64_or hs (Nat.pow_lt_pow_right (by omega) hq)];rfl
theorem UY {q:Nat} (hq:q<64) (hs:fin<2^64):CC yF [.int .i64 (q:Int),.int .i64 (L:Int),.int .i64 (S:Int),.int .u64 (st:Int),.int .u64 (fin:Int),.list an (l.map Ed.enc)]=some (aN L S st (fin|||2^q) l):=by
 refine aga ?_
 unfold UM
 refine bT (decide_eq_true (by omega)) ?_
 rw[Int.toNat_natCast,D9 hq,u64_or hs (Nat.pow_lt_pow_right (by omega) hq)];rfl
theorem Lm (h:S≤64):CC tf [.int .i64 (L:Int),.int .i64 (S:Int)]=some (.bool false::aN L S 0 0 []):=by
 refine UJ ?_
 unfold Lb
 exact bF (decide_eq_false (by omega)) rfl
theorem UZ (h:64<S):CC tf [.int .i64 (L:Int),.int .i64 (S:Int)]=some [.bool true]:=by
 refine UJ ?_
 unfold Lb
 exact bT (decide_eq_true (by omega)) rfl
def gg (fin:Nat) (f:Nat→Bool) (off:Nat):Nat→Nat
 | 0=>fin
 | i+1=>if f i=true then gg fin f off i|||2^(i+off) else gg fin f off i
theorem FG {f:Nat→Bool} {off:Nat}: ∀{n j:Nat},(gg fin f off n).testBit j=(fin.testBit j||(decide (off≤j∧j<n+off)&&f (j-off)))
 | 0,j=>by
  rw[decide_eq_false (by omega)];simp[gg]
 | n+1,j=>by
  unfold gg
  by_cases hf:f n=true
  ·rw[if_pos hf,Nat.testBit_or,FG,Nat.testBit_two_pow]
   by_cases hj:j=n+off
   ·subst hj
    rw[decide_eq_true (p:=n+off=n+off) rfl,decide_eq_true (p:=off≤n+off∧n+off<n+1+off) (by omega),show n+off-off=n by omega,hf];simp
   ·rw[decide_eq_false (p:=n+off=j) (by omega)]
    have:(off≤j∧j<n+off)↔(off≤j∧j<n+1+off):=by omega
    simp only[this,Bool.or_false]
  ·rw[if_neg hf,FG]
   by_cases hj:j=n+off
   ·subst hj
    rw[show n+off-off=n by omega,Bool.eq_false_iff.2 hf];simp
   ·have:(off≤j∧j<n+off)↔(off≤j∧j<n+1+off):=by omega
    simp only[this]
theorem Bd {f:Nat→Bool} {off k:Nat} (hf:fin<2^k): ∀{n:Nat},n+off≤k→gg fin f off n<2^k
 | 0,_=>hf
 | n+1,h=>by
  unfold gg
  have ih:=Bd (f:=f) (off:=off) hf (n:=n) (by omega)
  split
  ·exact Nat.or_lt_two_pow ih (Nat.pow_lt_pow_right (by omega) (by omega))
  ·exact ih
theorem Ln {n off:Nat} {f:Nat→Bool} (ho:n+off≤64) (hs:fin<2^64):CC tj [.list ax (bV n f),.int .i64 (off:Int),.int .i64 (L:Int),.int .i64 (S:Int),.int .u64 (st:Int),.int .u64 (fin:Int),.list an (l.map Ed.enc)]=some (aN L S st (gg fin f off n) l):=by
 refine age ?_
 unfold UP
 rw[show (bV n f).length=n from eV]
 refine bs (fO n (fun i=>((i:Int),(L:Int),(S:Int),(st:Int),(gg fin f off i:Int),l.map Ed.enc)) ((n:Int),false,(L:Int),(S:Int),(st:Int),(gg fin f off n:Int),l.map Ed.enc) (fun i hi=> ?_) ?_) ?_
 ·simp only[Lc,A8,un]
  refine bT (eL hi) ?_
  refine bs (qb hi) ?_
  have aK:=Bd (f:=f) (off:=off) hs (n:=i) (by omega)
  cases hf:f i with
  | true=>
   refine bT rfl ?_
   rw[ub (by omega)]
   refine bs (UY (by omega) aK) ?_
   rw[dh (by omega),show gg fin f off (i+1)=gg fin f off i|||2^(i+off) from if_pos hf]
   rfl
  | false=>
   refine bF rfl ?_
   rw[dh (by omega),show gg fin f off (i+1)=gg fin f off i from if_neg (by rw[hf];simp)]
 ·simp only[Lc,A8,un]
  refine bF (bN (Nat.le_refl _)) ?_
  rw[bN (Nat.le_refl _)]
 ·rfl
def rM (a:Da) (off p:Nat):List Ed:=tab a.L fun x=>dk (p+off) x (a.nx p x+off)
def dR (a:Da) (off:Nat):List Ed:=fm a.n (rM a off)
theorem uc {a:Da} {off:Nat} {e:Ed}:e∈dR a off↔∃p x,p<a.n∧x<a.L∧e=dk (p+off) x (a.nx p x+off):=by
 unfold dR rM
 rw[UX]
 constructor
 ·rintro ⟨p,hp,he⟩
  obtain ⟨x,hx,rfl⟩:=vR.1 he
  exact ⟨p,x,hp,hx,rfl⟩
 ·rintro ⟨p,x,hp,hx,rfl⟩
  exact ⟨p,hp,vR.2 ⟨x,hx,rfl⟩⟩
theorem qu {a:Da} (h:a.Ok) {off:Nat} {n:Nat}:(fm n (rM a off)).length≤n*6:=Ll fun p _=>by unfold rM;rw[eV];exact h.l6
theorem FH {a:Da} (h:a.Ok) {off:Nat} (ho:off≤1000) (hl:l.length≤100000):CC tk (jZ a [.int .i64 (off:Int),.int .i64 (L:Int),.int .i64 (S:Int),.int .u64 (st:Int),.int .u64 (fin:Int),.list an (l.map Ed.enc)])=some (aN L S st fin (l++dR a off)):=by
 have hn:=h.ee
 have h6:=h.l6
 refine agj ?_
 unfold US
 rw[show a.cD.length=a.n from eV]
 refine bs (ua a.n (fun i=>((i:Int),(L:Int),(S:Int),(st:Int),(fin:Int),(l++fm i (rM a off)).map Ed.enc)) ((a.n:Int),false,(L:Int),(S:Int),(st:Int),(fin:Int),(l++dR a off).map Ed.enc) (by rw[agn,List.append_nil];rfl) (fun p hp=> ?_) ?_) ?_
 ·have hlen:=qu h (off:=off) (n:=p)
  simp only[Lf,Bb,un]
  refine bT (eL hp) ?_
  refine bs (qb hp) ?_
  rw[show (jB a.L (a.nx p)).toList=tab a.L fun x=>nV (a.nx p x) from rfl,eV]
  refine bs (ua a.L (fun i=>((i:Int),(L:Int),(S:Int),(st:Int),(fin:Int),((l++fm p (rM a off))++tab i fun x=>dk (p+off) x (a.nx p x+off)).map Ed.enc)) ((a.L:Int),false,(L:Int),(S:Int),(st:Int),(fin:Int),((l++fm p (rM a off))++rM a off p).map Ed.enc) (by rw[J8,List.append_nil];rfl) (fun x hx=> ?_) ?_) ?_
  ·have hq:=h.eg hp hx
   simp only[Ld,Ba,un]
   refine bT (eL hx) ?_
   refine bs (qb hx) ?_
   rw[show (nV (a.nx p x)).toInt=((a.nx p x:Nat):Int) from rfl,ub (by omega),ub (by omega)]
   refine bs (FE (by rw[List.length_append,List.length_append,eV];omega)) ?_
   rw[dh (by omega),rv,←List.append_assoc]
   rfl
  ·simp only[Ld,Ba,un]
   refine bF (bN (Nat.le_refl _)) ?_
   rw[bN (Nat.le_refl _)]
   rfl
  ·simp only[un]
   rw[dh (by omega),Lk,←List.append_assoc]
 ·simp only[Lf,Bb,un]
  refine bF (bN (Nat.le_refl _)) ?_
  rw[bN (Nat.le_refl _)]
  rfl
 ·rfl
def kS (n:Nat) (f:Nat→Bool) (to:Nat) (l:List Ed):List Ed:=l.flatMap fun e=>if e.t.toNat<n∧f e.t.toNat=true then [⟨e.f,e.l,(to:Int)⟩] else []
theorem FI {n to:Nat} {f:Nat→Bool} {e:Ed}:e∈kS n f to l↔∃e'∈l,e'.t.toNat<n∧f e'.t.toNat=true∧e=⟨e'.f,e'.l,(to:Int)⟩:=by
 unfold kS
 rw[List.mem_flatMap]
 constructor
 ·rintro ⟨a,ha,h⟩
  split at h
  ·next c=>exact ⟨a,ha,c.1,c.2,by simpa using h⟩
  ·cases h
 ·rintro ⟨a,ha,h1,h2,h3⟩
  exact ⟨a,ha,by rw[if_pos ⟨h1,h2⟩];simpa using h3⟩
theorem FJ {n to:Nat} {f:Nat→Bool}: ∀{l:List Ed},(kS n f to l).length≤l.length
 | []=>by simp[kS]
 | e::l=>by
  have ih:=FJ (n:=n) (to:=to) (f:=f) (l:=l)
  unfold kS at*
  rw[List.flatMap_cons,List.length_append,List.length_cons]
  split
  ·rw[List.length_singleton];omega
  ·rw[List.length_nil];omega
theorem agp {n to i:Nat} {f:Nat→Bool} (hi:i<l.length):kS n f to (l.take (i+1))=kS n f to (l.take i)++(if l[i].t.toNat<n∧f l[i].t.toNat=true then [⟨l[i].f,l[i].l,(to:Int)⟩] else []):=by
 unfold kS
 rw[List.take_succ_eq_append_getElem hi,List.flatMap_append]
 simp
theorem U0 {n to:Nat} {f:Nat→Bool} (hE: ∀e∈l,0≤e.f∧0≤e.l∧0≤e.t) (hl:l.length≤100000) (hn:n≤1000):CC yG [.list ax (bV n f),.int .i64 (to:Int),.int .i64 (L:Int),.int .i64 (S:Int),.int .u64 (st:Int),.int .u64 (fin:Int),.list an (l.map Ed.enc)]=some (aN L S st fin (l++kS n f to l)):=by
 refine agm ?_
 unfold UW
 refine bT (by rw[Nat.ble_eq,vH,List.length_map];omega) ?_
 rw[List.length_map]
 refine bs (ua l.length (fun i=>((i:Int),(L:Int),(S:Int),(st:Int),(fin:Int),(l++kS n f to (l.take i)).map Ed.enc)) ((l.length:Int),false,(L:Int),(S:Int),(st:Int),(fin:Int),(l++kS n f to l).map Ed.enc) (by rw[List.take_zero,show kS n f to []=[] from rfl,List.append_nil];rfl) (fun i hi=> ?_) ?_) ?_
 ·simp only[Lj,Bc,un]
  refine bT (eL hi) ?_
  refine (Ex (i:=i) (v:=l[i].enc) (by simp[hi])).trans ?_
  obtain ⟨e1,e2,e3⟩:=hE l[i] (List.getElem_mem hi)
  have hlen:=FJ (n:=n) (to:=to) (f:=f) (l:=l.take i)
  have M0:=List.length_take_le i l
  rw[Ed.c8,Ed.c9,Ed.da,agp hi,show (bV n f).length=n from eV]
  obtain ⟨t,ht⟩:=Int.eq_ofNat_of_zero_le e3
  obtain ⟨p,hp⟩:=Int.eq_ofNat_of_zero_le e1
  obtain ⟨x,hx⟩:=Int.eq_ofNat_of_zero_le e2
  rw[ht,hp,hx,Int.toNat_natCast]
  by_cases c:t<n
  ·refine bT (eL c) ?_
   refine bs (qb c) ?_
   cases hf:f t with
   | true=>
    refine bT rfl ?_
    refine bs (FE (by rw[List.length_append];omega)) ?_
    rw[dh (by omega),if_pos ⟨c,rfl⟩,←List.append_assoc]
    rfl
   | false=>
    refine bF rfl ?_
    rw[dh (by omega),if_neg (by simp),List.append_nil]
  ·refine bF (bN (by omega)) ?_
   rw[dh (by omega),if_neg (fun h=>c h.1),List.append_nil]
 ·simp only[Lj,Bc,un]
  refine bF (bN (Nat.le_refl _)) ?_
  rw[bN (Nat.le_refl _),List.take_length]
 ·rfl
end
end Go.AM
set_option maxRecDepth 100000
namespace Go.AM
open Go.Proofs
noncomputable def U3 (C:ae) (bd bn:Int) (aR bh:List V):Option (List V):=
 (C nv [.int .i64 bd,.int .i64 bn,.list ax aR,.list aA bh]).bind fun r1=>
 bif (((V.nth r1 0).toInt):Int) != 0 then
  some [.int .i64 0,.int .i64 0,.int .i64 ((V.nth r1 0).toInt),.list ax ([]:List V),.list aA ([]:List V)]
 else
  (C rj [.int .i64 bd,.int .i64 bn,.list ax aR,.list aA bh]).bind fun r2=>
  some [.int .i64 ((V.nth r2 0).toInt),.int .i64 ((V.nth (r2.drop 1) 0).toInt),.int .i64 0,.list ax ((V.nth (r2.drop 2) 0).toList),.list aA ((V.nth ((r2.drop 2).drop 1) 0).toList)]
theorem agq {bd bn:Int} {aR bh:List V} {r:Option (List V)} (h:U3 CC bd bn aR bh=r):CC yE [.int .i64 bd,.int .i64 bn,.list ax aR,.list aA bh]=r:=
 bj (key:=56) (L:=cP) (bs:=[]) (by kernel_rfl) au (Eq.trans (by kernel_rfl) h)
end Go.AM
set_option maxRecDepth 100000
namespace Go.AM
open Go.Proofs
noncomputable def U4 (C:ae) (cU dy:Int) (db di:List V) (dj dA:Int) (dz dB:List V):Option (List V):=
 (C nv [.int .i64 cU,.int .i64 dy,.list ax db,.list aA di]).bind fun r1=>
 bif (((V.nth r1 0).toInt):Int) != 0 then
  some [.int .i64 0,.int .i64 0,.int .i64 0,.int .i64 0,.int .i64 ((V.nth r1 0).toInt),.list ax ([]:List V),.list aA ([]:List V),.list ax ([]:List V),.list aA ([]:List V)]
 else
  (C nv [.int .i64 dj,.int .i64 dA,.list ax dz,.list aA dB]).bind fun r2=>
  bif (((V.nth r2 0).toInt):Int) != 0 then
  some [.int .i64 0,.int .i64 0,.int .i64 0,.int .i64 0,.int .i64 ((V.nth r2 0).toInt),.list ax ([]:List V),.list aA ([]:List V),.list ax ([]:List V),.list aA ([]:List V)]
  else
  bif (cU:Int) != dj then
   some [.int .i64 0,.int .i64 0,.int .i64 0,.int .i64 0,.int .i64 1,.list ax ([]:List V),.list aA ([]:List V),.list ax ([]:List V),.list aA ([]:List V)]
  else
   (C rj [.int .i64 cU,.int .i64 dy,.list ax db,.list aA di]).bind fun r3=>
   (C rj [.int .i64 dj,.int .i64 dA,.list ax dz,.list aA dB]).bind fun r4=>
   some [.int .i64 ((V.nth r3 0).toInt),.int .i64 ((V.nth (r3.drop 1) 0).toInt),.int .i64 ((V.nth r4 0).toInt),.int .i64 ((V.nth (r4.drop 1) 0).toInt),.int .i64 0,.list ax ((V.nth (r3.drop 2) 0).toList),.list aA ((V.nth ((r3.drop 2).drop 1) 0).toList),.list ax ((V.nth (r4.drop 2) 0).toList),.list aA ((V.nth ((r4.drop 2).drop 1) 0).toList)]
theorem agr {cU dy:Int} {db di:List V} {dj dA:Int} {dz dB:List V} {r:Option (List V)} (h:U4 CC cU dy db di dj dA dz dB=r):CC Dw [.int .i64 cU,.int .i64 dy,.list ax db,.list aA di,.int .i64 dj,.int .i64 dA,.list ax dz,.list aA dB]=r:=
 bj (key:=68) (L:=cP) (bs:=[]) (by kernel_rfl) au (Eq.trans (by kernel_rfl) h)
end Go.AM
set_option maxRecDepth 100000
namespace Go.AM
open Go.Proofs
noncomputable def U5 (C:ae) (cU dy:Int) (db di:List V) (dj dA:Int) (dz dB:List V) (ee:Int):Option (List V):=
 bif decide (((db.length:Int):Int)≤ee) then
  bif decide (((dz.length:Int):Int)≤ee) then
  (C Dm [.int .i64 cU,.int .i64 dy,.list ax db,.list aA di,.int .i64 dj,.int .i64 dA,.list ax dz,.list aA dB]).bind fun r1=>
  some [.bool ((((V.nth r1 0).toInt):Int)==0)]
  else
  some [.bool false]
 else
  some [.bool false]
theorem ags {cU dy:Int} {db di:List V} {dj dA:Int} {dz dB:List V} {ee:Int} {r:Option (List V)} (h:U5 CC cU dy db di dj dA dz dB ee=r):CC Dn [.int .i64 cU,.int .i64 dy,.list ax db,.list aA di,.int .i64 dj,.int .i64 dA,.list ax dz,.list aA dB,.int .i64 ee]=r:=
 bj (key:=26) (L:=cP) (bs:=[]) (by kernel_rfl) au (Eq.trans (by kernel_rfl) h)
end Go.AM
set_option maxRecDepth 100000
set_option linter.unusedSimpArgs false
namespace Go.AM
open Go.Proofs
theorem mQ {a:Da} (h:a.Ok):(minD a).Ok:=(v9 h).ok
theorem oU {a:Da} (h:a.Ok):(minD a).L=a.L:=(v9 h).hL
theorem agt {a:Da} (h:a.Ok):(minD a).st=0:=(v9 h).st
theorem ud {a:Da} (h:a.Ok) {w:List Nat} (hw:WL a.L w):(minD a).acc (minD a).st w=a.acc a.st w:=by
 rw[agt h];exact (v9 h).jW w hw
theorem Lo {a:Da} (h:a.Ok):(minD a).n≤a.n:=by
 obtain ⟨p,_,c2,_⟩:=aec h
 rw[←Ag h (Da.Sv h c2)]
 have h1:=(Da.Kl h c2).oK (a.quo p).n
 have h2:(a.quo p).trim.n=(ak (a.quo p).L (a.quo p).nx (a.quo p).st (a.quo p).n).length:=lA
 rw[h2]
 refine Nat.le_trans h1 ?_
 rw[Da.qh]
 exact SK p a.n
theorem U6 {a b:Da} (ha:a.Ok) (hb:b.Ok) (hL:a.L=b.L) (hl: ∀w,WL a.L w→a.acc a.st w=b.acc b.st w):minD a=minD b:=
 Ag hb (hL▸Canon.congr (v9 ha) hl)
theorem agu {a:Da} (ha:a.Ok):minD (minD a)=minD a:=
 U6 (mQ ha) ha (oU ha) fun w hw=>ud ha (by rwa [oU ha] at hw)
theorem Lp {a:Da} (h:a.Ok):CC yE (dQ a)=some (hZ (minD a) 0):=by
 refine agq ?_
 unfold U3
 refine bs (tB h) (bF rfl ?_)
 refine bs (E5 h) ?_
 rfl
def ue (a b:Da) (e:Int):List V:=[.int .i64 (a.L:Int),.int .i64 (a.st:Int),.int .i64 (b.L:Int),.int .i64 (b.st:Int),.int .i64 e,.list ax a.cu,.list aA a.cD,.list ax b.cu,.list aA b.cD]
theorem U7 {a b:Da} (ha:a.Ok) (hb:b.Ok) (hL:a.L=b.L):CC Dw (jZ a (dQ b))=some (ue (minD a) (minD b) 0):=by
 refine agr ?_
 unfold U4
 refine bs (tB ha) (bF rfl ?_)
 refine bs (tB hb) (bF rfl ?_)
 refine bF (by rw[hL];simp) ?_
 refine bs (E5 ha) ?_
 refine bs (E5 hb) ?_
 rfl
theorem agv {d e:Df} (h:wS d e=0): ∃a b:Da,a.Ok∧b.Ok∧a.L=b.L∧d=a.df∧e=b.df:=by
 unfold wS at h
 by_cases h1:d.val=0
 ·rw[if_neg (by simp[h1])] at h
  by_cases h2:e.val=0
  ·rw[if_neg (by simp[h2])] at h
   by_cases h3:d.L=e.L
   ·obtain ⟨a,ha,rfl⟩:=RI h1
    obtain ⟨b,hb,rfl⟩:=RI h2
    simp only[Da.df] at h3
    exact ⟨a,b,ha,hb,by omega,rfl,rfl⟩
   ·rw[if_pos h3] at h;omega
  ·rw[if_pos h2] at h;exact absurd h h2
 ·rw[if_pos h1] at h;exact absurd h h1
theorem agw {d e:Df} (hd:d.Ok) (he:e.Ok) (m:Int):CC Dn (kT d (kT e [.int .i64 m]))=some [.bool (decide ((d.F.length:Int)≤m∧(e.F.length:Int)≤m∧wS d e=0))]:=by
 refine ags ?_
 unfold U5
 rw[List.length_map,List.length_map]
 by_cases h1:(d.F.length:Int)≤m
 ·refine bT (decide_eq_true h1) ?_
  by_cases h2:(e.F.length:Int)≤m
  ·refine bT (decide_eq_true h2) ?_
   refine bs (af7 hd he) ?_
   refine congrArg (fun x=>some [V.bool x]) ?_
   rw[Bool.eq_iff_iff]
   simp[h1,h2]
  ·refine bF (decide_eq_false h2) ?_
   rw[decide_eq_false fun h=>h2 h.2.1]
 ·refine bF (decide_eq_false h1) ?_
  rw[decide_eq_false fun h=>h1 h.1]
end Go.AM
set_option maxRecDepth 100000
set_option linter.unusedSimpArgs false
namespace Go.AM
open Go.Proofs
def eY (E:List Ed):Nat→List Nat→Nat→Prop
 | i,[],k=>i=k
 | i,x::w,k=> ∃j,dk i x j∈E∧eY E j w k
theorem eY.ext {A B:List Ed} (h: ∀e,e∈A→e∈B): ∀{w:List Nat} {i k:Nat},eY A i w k→eY B i w k
 | [],_,_,p=>p
 | _::_,_,_,⟨j,h1,h2⟩=>⟨j,h _ h1,eY.ext h h2⟩
theorem eY.app {E:List Ed}: ∀{v w:List Nat} {i k:Nat},eY E i (v++w) k↔∃j,eY E i v j∧eY E j w k
 | [],w,i,k=>by simp[eY]
 | x::v,w,i,k=>by
  simp only[List.cons_append,eY]
  constructor
  ·rintro ⟨j,h1,h2⟩
   obtain ⟨m,h3,h4⟩:=eY.app.1 h2
   exact ⟨m,⟨j,h1,h3⟩,h4⟩
  ·rintro ⟨m,⟨j,h1,h3⟩,h4⟩
   exact ⟨j,h1,eY.app.2 ⟨m,h3,h4⟩⟩
theorem wU {p x q p' x' q':Nat}:dk p x q=dk p' x' q'↔p=p'∧x=x'∧q=q':=by
 unfold dk
 simp only[Ed.mk.injEq]
 omega
theorem agx {e:Ed} (h1:0≤e.f) (h2:0≤e.l) (h3:0≤e.t):e=dk e.f.toNat e.l.toNat e.t.toNat:=by
 unfold dk
 cases e
 simp only[Ed.mk.injEq] at*
 omega
theorem Lq {E:List Ed} (hE: ∀e∈E,0≤e.f∧0≤e.l∧0≤e.t): ∀(w:List Nat) (s k:Nat),(w.foldl (sn E) s).testBit k=true↔∃i,s.testBit i=true∧eY E i w k
 | [],s,k=>by simp[eY]
 | x::w,s,k=>by
  rw[List.foldl_cons,Lq hE w]
  constructor
  ·rintro ⟨j,h1,h2⟩
   unfold sn at h1
   rw[zd,List.any_eq_true] at h1
   obtain ⟨e,he,h3⟩:=h1
   simp only[Bool.and_eq_true,decide_eq_true_eq] at h3
   obtain ⟨c1,c2,c3⟩:=hE e he
   refine ⟨e.f.toNat,h3.2.1,j,?_,h2⟩
   have:e=dk e.f.toNat x j:=by
    rw[agx c1 c2 c3]
    rw[wU]
    simp only[dk,Int.toNat_natCast]
    exact ⟨trivial,by omega,h3.2.2⟩
   exact this▸he
  ·rintro ⟨i,h1,j,h2,h3⟩
   refine ⟨j,?_,h3⟩
   unfold sn
   rw[zd,List.any_eq_true]
   refine ⟨_,h2,?_⟩
   simp only[Bool.and_eq_true,decide_eq_true_eq,dk,Int.toNat_natCast]
   exact ⟨trivial,h1,trivial⟩
theorem agy {fin s:Nat}:sf fin s=true↔∃k,s.testBit k=true∧fin.testBit k=true:=by
 unfold sf
 rw[Bool.not_eq_true',beq_eq_false_iff_ne]
 constructor
 ·intro h
  obtain ⟨k,hk⟩:=Nat.exists_testBit_of_ne_zero h
  rw[Nat.testBit_and,Bool.and_eq_true] at hk
  exact ⟨k,hk⟩
 ·rintro ⟨k,h1,h2⟩ h0
  have:(s&&&fin).testBit k=true:=by rw[Nat.testBit_and,h1,h2];rfl
  rw[h0,Nat.zero_testBit] at this
  cases this
def qv (st fin:Nat) (l:List Ed) (w:List Nat):Prop:= ∃i k,st.testBit i=true∧fin.testBit k=true∧eY l i w k
section
variable {L S st fin:Nat} {l:List Ed} (h:rL L S st fin l)
include h
theorem agz (hn: ¬gM (cv L S st fin l) L S):(fj (cv L S st fin l) L S).Ok:=by
 unfold fj
 rw[if_neg hn]
 exact mQ (wh (nM h) hn)
theorem agA (hn: ¬gM (cv L S st fin l) L S):(fj (cv L S st fin l) L S).L=L:=by
 unfold fj
 rw[if_neg hn]
 exact oU (wh (nM h) hn)
theorem agB (hn: ¬gM (cv L S st fin l) L S) {w:List Nat} (hw:WL L w):(fj (cv L S st fin l) L S).acc (fj (cv L S st fin l) L S).st w=true↔qv st fin l w:=by
 have aq:=wh (nM h) hn
 unfold fj
 rw[if_neg hn,ud aq hw,show (ia (cv L S st fin l) L S).st=0 from rfl,adO (nM h) hw]
 show sf fin (w.foldl (sn (ql l)) st)=true↔_
 have hE: ∀e∈ql l,0≤e.f∧0≤e.l∧0≤e.t:=fun e he=>by
  have:=h.E e (wk.1 he)
  unfold Ed.In at this
  exact ⟨this.1,this.2.2.2.2.1,this.2.2.1⟩
 rw[agy]
 unfold qv
 constructor
 ·rintro ⟨k,h1,h2⟩
  obtain ⟨i,h3,h4⟩:=(Lq hE w st k).1 h1
  exact ⟨i,k,h3,h2,h4.ext fun e he=>wk.1 he⟩
 ·rintro ⟨i,k,h1,h2,h3⟩
  exact ⟨k,(Lq hE w st k).2 ⟨i,h1,h3.ext fun e he=>wk.2 he⟩,h2⟩
theorem agC (hS:S≤9): ¬gM (cv L S st fin l) L S:=fun ho=>by
 have h1:=wg (nM h) (2^S)
 have h2:2^S≤2^9:=Nat.pow_le_pow_right (by omega) hS
 have h3:(512:Nat)<(ak L (sn (cv L S st fin l).E) (cv L S st fin l).st (2^S)).length:=ho
 have h4:(2:Nat)^9=512:=by decide
 omega
end
end Go.AM
set_option maxRecDepth 100000
namespace Go.AM
open Go.Proofs
noncomputable abbrev FK:Code:=cy Tryd.prog (ar.aP 51)
noncomputable def Be (C:ae) (q t36 t37 t41 bc bw:Int) (bJ bI:List V) (eh ei mC mD:Int) (fP ej ct bR:List V) (t42 aX aU aZ a8:Int) (cG:List V) {β:Type} (kn:(Int × Int × Int × Int × Int × (List V))→Option β) (kr:(Int × Bool × Int × Int × Int × Int × (List V))→Option β):Option β:=
 bif decide ((t42:Int)<t41) then
  (C th [.int .i64 q,.int .i64 t42,.int .i64 q,.int .i64 aX,.int .i64 aU,.int .u64 aZ,.int .u64 a8,.list an cG]).bind fun r4=>
  kn (IntKind.wrap .i64 (t42+1),(V.nth r4 0).toInt,(V.nth (r4.drop 1) 0).toInt,(V.nth ((r4.drop 1).drop 1) 0).toInt,(V.nth (((r4.drop 1).drop 1).drop 1) 0).toInt,(V.nth (r4.drop 4) 0).toList)
 else
  kr (t42,decide ((t42:Int)<t41),aX,aU,aZ,a8,cG)
noncomputable def Lr (C:ae) (q t36 t37 t41 bc bw:Int) (bJ bI:List V) (eh ei mC mD:Int) (fP ej ct bR:List V):(Int × Int × Int × Int × Int × (List V))→Option ((Int × Int × Int × Int × Int × (List V)) ⊕ (Int × Bool × Int × Int × Int × Int × (List V))):=un fun t42=>un fun aX=>un fun aU=>un fun aZ=>un fun a8 cG=>Be C q t36 t37 t41 bc bw bJ bI eh ei mC mD fP ej ct bR t42 aX aU aZ a8 cG (fun y=>some (.inl y)) (fun r=>some (.inr r))
noncomputable def Bf (C:ae) (t36 bc bw:Int) (bJ bI:List V) (eh ei mC mD:Int) (fP ej ct bR:List V) (t37 aX aU aZ a8:Int) (cG:List V) {β:Type} (kn:(Int × Int × Int × Int × Int × (List V))→Option β) (kr:(Int × Bool × Int × Int × Int × Int × (List V))→Option β):Option β:=
 bif decide ((t37:Int)<t36) then
  (Loop (Lr C t37 t36 t37 bc bc bw bJ bI eh ei mC mD fP ej ct bR) (0,aX,aU,aZ,a8,cG)).bind (un fun (mw:Int)=>un fun (pX:Bool)=>un fun (tY:Int)=>un fun (tZ:Int)=>un fun (qt:Int)=>un fun (Bg:Int) (Kq:List V)=>
   kn (IntKind.wrap .i64 (t37+1),tY,tZ,qt,Bg,Kq))
 else
  kr (t37,decide ((t37:Int)<t36),aX,aU,aZ,a8,cG)
noncomputable def Ls (C:ae) (t36 bc bw:Int) (bJ bI:List V) (eh ei mC mD:Int) (fP ej ct bR:List V):(Int × Int × Int × Int × Int × (List V))→Option ((Int × Int × Int × Int × Int × (List V)) ⊕ (Int × Bool × Int × Int × Int × Int × (List V))):=un fun t37=>un fun aX=>un fun aU=>un fun aZ=>un fun a8 cG=>Bf C t36 bc bw bJ bI eh ei mC mD fP ej ct bR t37 aX aU aZ a8 cG (fun y=>some (.inl y)) (fun r=>some (.inr r))
noncomputable def U8 (C:ae):cq:=fun β n ds k=>
 bif Nat.beq n 193 then bA II [false,false,false,false,true,false,false,false,false,false,false,false,false,true,true,true,true,false,false,false,false,true] [[1,2,3,4,0,0,6,7,8,9,10,11,12,13,0,0,0,0,18,19,20,21,0]] (@Be C) ds k else
 bif Nat.beq n 145 then bA IJ [false,true,false,false,false,false,false,false,false,false,true,true,true,true,false,false,false,false,true] [[1,0,0,3,4,5,6,7,8,9,10,0,0,0,0,15,16,17,18,0]] (@Bf C) ds k else
 none
abbrev U9 (C:ae) (b:cl):Prop:=cm Tryd.prog ar C (U8 C) 51 (cE Tryd.prog (ar.aP 51)) (ar.sin 51).aO.length b
theorem agD (C:ae):U9 C (.loop (ao [1,1,1,1,1,1,0,1,0,0,1,1,0,0,1,1,0,0] FK)):=
 bD II [false,false,false,false,true,false,false,false,false,false,false,false,false,true,true,true,true,false,false,false,false,true] [[1,2,3,4,0,0,6,7,8,9,10,11,12,13,0,0,0,0,18,19,20,21,0]] (@Be C) (by kernel_rfl) (aT (bs:=[]) (by kernel_rfl) au) (fun ds=>by kernel_rfl) (fun i x=>by kernel_rfl) (fun i x β k=>by kernel_rfl) (fun β ds k=>by kernel_rfl)
theorem agE (C:ae):U9 C (.loop (ao [1,1,1,1,1,1,0,1,0,0] FK)):=
 bD IJ [false,true,false,false,false,false,false,false,false,false,true,true,true,true,false,false,false,false,true] [[1,0,0,3,4,5,6,7,8,9,10,0,0,0,0,15,16,17,18,0]] (@Bf C) (by kernel_rfl) (aT (bs:=[.loop (ao [1,1,1,1,1,1,0,1,0,0,1,1,0,0,1,1,0,0] FK)]) (by kernel_rfl) (bm (agD C) au)) (fun ds=>by kernel_rfl) (fun i x=>by kernel_rfl) (fun i x β k=>by kernel_rfl) (fun β ds k=>by kernel_rfl)
noncomputable def Va (C:ae) (bd bn:Int) (aR bh:List V):Option (List V):=
 (C yE [.int .i64 bd,.int .i64 bn,.list ax aR,.list aA bh]).bind fun r1=>
 bif (((V.nth (r1.drop 2) 0).toInt):Int) != 0 then
  some [.int .i64 0,.int .i64 0,.int .i64 ((V.nth (r1.drop 2) 0).toInt),.list ax ([]:List V),.list aA ([]:List V)]
 else
  (C tf [.int .i64 bd,.int .i64 (((V.nth (r1.drop 3) 0).toList).length:Int)]).bind fun r2=>
  bif (V.nth r2 0).toBool then
  some [.int .i64 0,.int .i64 0,.int .i64 3,.list ax ([]:List V),.list aA ([]:List V)]
  else
  (C tk [.int .i64 ((V.nth r1 0).toInt),.int .i64 ((V.nth (r1.drop 1) 0).toInt),.list ax ((V.nth (r1.drop 3) 0).toList),.list aA ((V.nth ((r1.drop 3).drop 1) 0).toList),.int .i64 0,.int .i64 ((V.nth (r2.drop 1) 0).toInt),.int .i64 ((V.nth ((r2.drop 1).drop 1) 0).toInt),.int .u64 ((V.nth (((r2.drop 1).drop 1).drop 1) 0).toInt),.int .u64 ((V.nth ((((r2.drop 1).drop 1).drop 1).drop 1) 0).toInt),.list an ((V.nth ((r2.drop 1).drop 4) 0).toList)]).bind fun r3=>
  (Loop (Ls C (((V.nth (r1.drop 3) 0).toList).length:Int) bd bn aR bh 0 0 ((V.nth r1 0).toInt) ((V.nth (r1.drop 1) 0).toInt) ([]:List V) ([]:List V) ((V.nth (r1.drop 3) 0).toList) ((V.nth ((r1.drop 3).drop 1) 0).toList)) (0,(V.nth r3 0).toInt,(V.nth (r3.drop 1) 0).toInt,(V.nth ((r3.drop 1).drop 1) 0).toInt,(V.nth (((r3.drop 1).drop 1).drop 1) 0).toInt,(V.nth (r3.drop 4) 0).toList)).bind (un fun (E4:Int)=>un fun (rr:Bool)=>un fun (Lg:Int)=>un fun (Lh:Int)=>un fun (Li:Int)=>un fun (agF:Int) (zL:List V)=>
   (C ti [.int .i64 ((V.nth (r1.drop 1) 0).toInt),.int .i64 Lg,.int .i64 Lh,.int .u64 Li,.int .u64 agF,.list an zL]).bind fun gd=>
   (C tj [.list ax ((V.nth (r1.drop 3) 0).toList),.int .i64 0,.int .i64 ((V.nth gd 0).toInt),.int .i64 ((V.nth (gd.drop 1) 0).toInt),.int .u64 ((V.nth ((gd.drop 1).drop 1) 0).toInt),.int .u64 ((V.nth (((gd.drop 1).drop 1).drop 1) 0).toInt),.list an ((V.nth (gd.drop 4) 0).toList)]).bind fun gf=>
   (C pN [.int .i64 ((V.nth gf 0).toInt),.int .i64 ((V.nth (gf.drop 1) 0).toInt),.int .u64 ((V.nth ((gf.drop 1).drop 1) 0).toInt),.int .u64 ((V.nth (((gf.drop 1).drop 1).drop 1) 0).toInt),.list an ((V.nth (gf.drop 4) 0).toList)]).bind fun nK=>
   some [.int .i64 ((V.nth nK 0).toInt),.int .i64 ((V.nth (nK.drop 1) 0).toInt),.int .i64 ((V.nth (nK.drop 2) 0).toInt),.list ax ((V.nth ((nK.drop 3).drop 5) 0).toList),.list aA ((V.nth (((nK.drop 3).drop 5).drop 1) 0).toList)])
theorem agG {bd bn:Int} {aR bh:List V} {r:Option (List V)} (h:Va CC bd bn aR bh=r):CC Ds [.int .i64 bd,.int .i64 bn,.list ax aR,.list aA bh]=r:=
 bj (key:=51) (L:=U8 CC) (bs:=[.loop (ao [1,1,1,1,1,1,0,1,0,0] FK)]) (by kernel_rfl) (bm (agE CC) au) (Eq.trans (by kernel_rfl) h)
end Go.AM
set_option maxRecDepth 100000
set_option linter.unusedSimpArgs false
namespace Go.AM
open Go.Proofs
theorem Lt {p x q L S:Nat} (hp:p<S) (hx:x<L) (hq:q<S):(dk p x q).In (L:Int) (S:Int):=by unfold Ed.In dk;simp only;omega
theorem Lu {a:Da} (h:a.Ok) {off S:Nat} (hs:a.n+off≤S) {e:Ed} (he:e∈dR a off):e.In (a.L:Int) (S:Int):=by
 obtain ⟨p,x,hp,hx,rfl⟩:=uc.1 he
 have:=h.eg hp hx
 exact Lt (by omega) hx (by omega)
def jg (L n:Nat):List Ed:=fm n fun q=>tab L fun x=>dk q x q
theorem agH {L n:Nat} {e:Ed}:e∈jg L n↔∃q x,q<n∧x<L∧e=dk q x q:=by
 unfold jg
 rw[UX]
 constructor
 ·rintro ⟨p,hp,he⟩
  obtain ⟨x,hx,rfl⟩:=vR.1 he
  exact ⟨p,x,hp,hx,rfl⟩
 ·rintro ⟨p,x,hp,hx,rfl⟩
  exact ⟨p,hp,vR.2 ⟨x,hx,rfl⟩⟩
def wV (m:Da):Nf:=cv m.L m.n (2^m.st) (gg 0 m.fin 0 m.n) (dR m 0++jg m.L m.n)
theorem Vb {m:Da} (h:m.Ok) (hs:m.n≤64):rL m.L m.n (2^m.st) (gg 0 m.fin 0 m.n) (dR m 0++jg m.L m.n) where
 l1:=h.l1
 l6:=h.l6
 oJ:=hs
 st:=Nat.pow_lt_pow_right (by omega) h.s
 fin:=Bd (Nat.two_pow_pos _) (by omega)
 E:=fun e he=>by
  rcases List.mem_append.1 he with he|he
  ·exact Lu h (by omega) he
  ·obtain ⟨p,x,hp,hx,rfl⟩:=agH.1 he
   exact Lt (by omega) hx (by omega)
 len:=by
  have h1:=qu h (off:=0) (n:=m.n)
  have h2:(jg m.L m.n).length≤m.n*6:=Ll fun p _=>by rw[eV];exact h.l6
  rw[List.length_append]
  unfold dR
  omega
section
variable {a:Da} (h:a.Ok)
include h
theorem agI (hs:(minD a).n≤64) {X:Da} {e:Int} {n:Nf} (hr:CC pN (aN (minD a).L (minD a).n (2^(minD a).st) (gg 0 (minD a).fin 0 (minD a).n) (dR (minD a) 0++jg (minD a).L (minD a).n))=some (K6 X e n)):CC Ds (dQ a)=some (hZ X e):=by
 have hm:=mQ h
 have h6:=hm.l6
 have hL:=oU h
 have b7:=hm.s
 refine agG ?_
 unfold Va
 refine bs (Lp h) (bF rfl ?_)
 have e0:(V.nth ((hZ (minD a) 0).drop 3) 0).toList=(minD a).cu:=rfl
 rw[e0,Da.lC]
 refine bs (Lm hs) (bF rfl ?_)
 refine bs (FH (l:=[]) hm (off:=0) (by omega) (by simp)) ?_
 rw[List.nil_append]
 have hlen:=qu hm (off:=0) (n:=(minD a).n)
 refine bs (ua (minD a).n (fun i=>((i:Int),(a.L:Int),((minD a).n:Int),((0:Nat):Int),((0:Nat):Int),(dR (minD a) 0++jg (minD a).L i).map Ed.enc)) (((minD a).n:Int),false,(a.L:Int),((minD a).n:Int),((0:Nat):Int),((0:Nat):Int),(dR (minD a) 0++jg (minD a).L (minD a).n).map Ed.enc) (by rw[show jg (minD a).L 0=[] from rfl,List.append_nil];rfl) (fun q hq=> ?_) ?_) ?_
 ·have rR:(jg (minD a).L q).length≤q*6:=Ll fun p _=>by rw[eV];exact h6
  simp only[Ls,Bf,un]
  refine bT (eL hq) ?_
  refine bs (ua a.L (fun i=>((i:Int),(a.L:Int),((minD a).n:Int),((0:Nat):Int),((0:Nat):Int),((dR (minD a) 0++jg (minD a).L q)++tab i fun x=>dk q x q).map Ed.enc)) ((a.L:Int),false,(a.L:Int),((minD a).n:Int),((0:Nat):Int),((0:Nat):Int),((dR (minD a) 0++jg (minD a).L q)++tab (minD a).L fun x=>dk q x q).map Ed.enc) (by rw[J8,List.append_nil];rfl) (fun x hx=> ?_) ?_) ?_
  ·simp only[Lr,Be,un]
   refine bT (eL hx) ?_
   refine bs (FE (by rw[List.length_append,List.length_append,eV];unfold dR;omega)) ?_
   rw[dh (by omega),rv,←List.append_assoc]
   rfl
  ·simp only[Lr,Be,un]
   refine bF (bN (Nat.le_refl _)) ?_
   rw[bN (Nat.le_refl _),hL]
  ·simp only[un]
   rw[dh (by omega),show jg (minD a).L (q+1)=jg (minD a).L q++tab (minD a).L fun x=>dk q x q from Lk,←List.append_assoc]
 ·simp only[Ls,Bf,un]
  refine bF (bN (Nat.le_refl _)) ?_
  rw[bN (Nat.le_refl _)]
 ·simp only[un]
  refine bs (FF (q:=(minD a).st) (by omega) (by omega)) ?_
  refine bs (Ln (n:=(minD a).n) (f:=(minD a).fin) (off:=0) (by omega) (by omega)) ?_
  rw[Nat.zero_or]
  rw[hL] at hr
  rw[hL]
  refine bs hr ?_
  rfl
end
end Go.AM
set_option maxRecDepth 100000
namespace Go.AM
open Go.Proofs
noncomputable abbrev FL:Code:=cy Tryd.prog (ar.aP 30)
noncomputable def FM (C:ae) (offset:Int) (t66:Bool) (aia aib aic agJ aX aU aZ a8:Int) (oT fP ej ct bR:List V) {β:Type} (kr:(Int × Int × Int × Int × (List V))→Option β):Option β:=
 bif t66 then
  (C ti [.int .i64 (IntKind.wrap .i64 (offset+agJ)),.int .i64 aX,.int .i64 aU,.int .u64 aZ,.int .u64 a8,.list an bR]).bind fun r8=>
  kr ((V.nth r8 0).toInt,(V.nth (r8.drop 1) 0).toInt,(V.nth ((r8.drop 1).drop 1) 0).toInt,(V.nth (((r8.drop 1).drop 1).drop 1) 0).toInt,(V.nth (r8.drop 4) 0).toList)
 else
  kr (aX,aU,aZ,a8,bR)
noncomputable def Vc (C:ae):cq:=fun β n ds k=>
 bif Nat.beq n 1071 then mq IA [[1,3,4,5,6,0,0,0,0,11,12,13,14,0]] (@FM C) ds k else
 none
abbrev agK (C:ae) (b:cl):Prop:=cm Tryd.prog ar C (Vc C) 30 (cE Tryd.prog (ar.aP 30)) (ar.sin 30).aO.length b
theorem agL (C:ae):agK C (.cond 66 (ao [1,1,1,1,1,1,1,1,1,1,0,1,0] FL) (ao [1,1,1,1,1,1,1,1,1,1,0,1,1] FL)):=
 nu IA [[1,3,4,5,6,0,0,0,0,11,12,13,14,0]] (@FM C) (by kernel_rfl) (aT (bs:=[]) (by kernel_rfl) au) (aT (bs:=[]) (by kernel_rfl) au) (fun ds=>by kernel_rfl) (fun i β k=>by kernel_rfl) (fun β ds k=>by kernel_rfl)
noncomputable def Lv (C:ae) (cU dy:Int) (db di:List V) (dj dA:Int) (dz dB:List V):Option (List V):=
 (C Dw [.int .i64 cU,.int .i64 dy,.list ax db,.list aA di,.int .i64 dj,.int .i64 dA,.list ax dz,.list aA dB]).bind fun r1=>
 bif (((V.nth ((r1.drop 2).drop 2) 0).toInt):Int) != 0 then
  some [.int .i64 0,.int .i64 0,.int .i64 ((V.nth ((r1.drop 2).drop 2) 0).toInt),.list ax ([]:List V),.list aA ([]:List V)]
 else
  (C tf [.int .i64 cU,.int .i64 (IntKind.wrap .i64 ((((V.nth (r1.drop 5) 0).toList).length:Int)+(((V.nth (((r1.drop 5).drop 1).drop 1) 0).toList).length:Int)))]).bind fun r2=>
  bif (V.nth r2 0).toBool then
  some [.int .i64 0,.int .i64 0,.int .i64 3,.list ax ([]:List V),.list aA ([]:List V)]
  else
  (C tk [.int .i64 ((V.nth r1 0).toInt),.int .i64 ((V.nth (r1.drop 1) 0).toInt),.list ax ((V.nth (r1.drop 5) 0).toList),.list aA ((V.nth ((r1.drop 5).drop 1) 0).toList),.int .i64 0,.int .i64 ((V.nth (r2.drop 1) 0).toInt),.int .i64 ((V.nth ((r2.drop 1).drop 1) 0).toInt),.int .u64 ((V.nth (((r2.drop 1).drop 1).drop 1) 0).toInt),.int .u64 ((V.nth ((((r2.drop 1).drop 1).drop 1).drop 1) 0).toInt),.list an ((V.nth ((r2.drop 1).drop 4) 0).toList)]).bind fun r3=>
  (C tk [.int .i64 ((V.nth (r1.drop 2) 0).toInt),.int .i64 ((V.nth ((r1.drop 2).drop 1) 0).toInt),.list ax ((V.nth (((r1.drop 5).drop 1).drop 1) 0).toList),.list aA ((V.nth ((((r1.drop 5).drop 1).drop 1).drop 1) 0).toList),.int .i64 (((V.nth (r1.drop 5) 0).toList).length:Int),.int .i64 ((V.nth r3 0).toInt),.int .i64 ((V.nth (r3.drop 1) 0).toInt),.int .u64 ((V.nth ((r3.drop 1).drop 1) 0).toInt),.int .u64 ((V.nth (((r3.drop 1).drop 1).drop 1) 0).toInt),.list an ((V.nth (r3.drop 4) 0).toList)]).bind fun r4=>
  (C yG [.list ax ((V.nth (r1.drop 5) 0).toList),.int .i64 (IntKind.wrap .i64 ((((V.nth (r1.drop 5) 0).toList).length:Int)+((V.nth ((r1.drop 2).drop 1) 0).toInt))),.int .i64 ((V.nth r4 0).toInt),.int .i64 ((V.nth (r4.drop 1) 0).toInt),.int .u64 ((V.nth ((r4.drop 1).drop 1) 0).toInt),.int .u64 ((V.nth (((r4.drop 1).drop 1).drop 1) 0).toInt),.list an ((V.nth (r4.drop 4) 0).toList)]).bind fun r5=>
  (C ti [.int .i64 ((V.nth (r1.drop 1) 0).toInt),.int .i64 ((V.nth r5 0).toInt),.int .i64 ((V.nth (r5.drop 1) 0).toInt),.int .u64 ((V.nth ((r5.drop 1).drop 1) 0).toInt),.int .u64 ((V.nth (((r5.drop 1).drop 1).drop 1) 0).toInt),.list an ((V.nth (r5.drop 4) 0).toList)]).bind fun r6=>
  bif (decide (0≤((V.nth (r1.drop 1) 0).toInt)))&&(decide (((V.nth (r1.drop 1) 0).toInt)<(((V.nth (r1.drop 5) 0).toList).length:Int))) then
   (((V.nth (r1.drop 5) 0).toList)[((V.nth (r1.drop 1) 0).toInt:Int).toNat]?).bind fun x7=>
   FM C (((V.nth (r1.drop 5) 0).toList).length:Int) x7.toBool 0 0 ((V.nth (r1.drop 2) 0).toInt) ((V.nth ((r1.drop 2).drop 1) 0).toInt) ((V.nth r6 0).toInt) ((V.nth (r6.drop 1) 0).toInt) ((V.nth ((r6.drop 1).drop 1) 0).toInt) ((V.nth (((r6.drop 1).drop 1).drop 1) 0).toInt) ([]:List V) ([]:List V) ((V.nth (((r1.drop 5).drop 1).drop 1) 0).toList) ((V.nth ((((r1.drop 5).drop 1).drop 1).drop 1) 0).toList) ((V.nth (r6.drop 4) 0).toList) (un fun (qt:Int)=>un fun (Bg:Int)=>un fun (Lw:Int)=>un fun (Lx:Int) (vU:List V)=>
    (C tj [.list ax ((V.nth (((r1.drop 5).drop 1).drop 1) 0).toList),.int .i64 (((V.nth (r1.drop 5) 0).toList).length:Int),.int .i64 qt,.int .i64 Bg,.int .u64 Lw,.int .u64 Lx,.list an vU]).bind fun ig=>
    (C pN [.int .i64 ((V.nth ig 0).toInt),.int .i64 ((V.nth (ig.drop 1) 0).toInt),.int .u64 ((V.nth ((ig.drop 1).drop 1) 0).toInt),.int .u64 ((V.nth (((ig.drop 1).drop 1).drop 1) 0).toInt),.list an ((V.nth (ig.drop 4) 0).toList)]).bind fun dW=>
    some [.int .i64 ((V.nth dW 0).toInt),.int .i64 ((V.nth (dW.drop 1) 0).toInt),.int .i64 ((V.nth (dW.drop 2) 0).toInt),.list ax ((V.nth ((dW.drop 3).drop 5) 0).toList),.list aA ((V.nth (((dW.drop 3).drop 5).drop 1) 0).toList)])
  else none
theorem Vd {cU dy:Int} {db di:List V} {dj dA:Int} {dz dB:List V} {r:Option (List V)} (h:Lv CC cU dy db di dj dA dz dB=r):CC vw [.int .i64 cU,.int .i64 dy,.list ax db,.list aA di,.int .i64 dj,.int .i64 dA,.list ax dz,.list aA dB]=r:=
 bj (key:=30) (L:=Vc CC) (bs:=[.cond 66 (ao [1,1,1,1,1,1,1,1,1,1,0,1,0] FL) (ao [1,1,1,1,1,1,1,1,1,1,0,1,1] FL)]) (by kernel_rfl) (bm (agL CC) au) (Eq.trans (by kernel_rfl) h)
end Go.AM
set_option maxRecDepth 100000
set_option linter.unusedSimpArgs false
namespace Go.AM
open Go.Proofs
def oV (m k:Da):List Ed:=(dR m 0++dR k m.n)++kS m.n m.fin (m.n+k.st) (dR m 0++dR k m.n)
def uf (m k:Da):Nat:=if m.fin m.st=true then 2^m.st|||2^(m.n+k.st) else 2^m.st
def FN (m k:Da):Nat:=gg 0 k.fin m.n k.n
def Bh (m k:Da):Nf:=cv m.L (m.n+k.n) (uf m k) (FN m k) (oV m k)
theorem Ve {L S:Nat} {e:Ed} (h:e.In (L:Int) (S:Int)):0≤e.f∧0≤e.l∧0≤e.t:=by unfold Ed.In at h;omega
section
variable {m k:Da} (hm:m.Ok) (hk:k.Ok) (hL:m.L=k.L)
include hm hk hL
theorem Ly {e:Ed} (he:e∈dR m 0++dR k m.n):e.In (m.L:Int) ((m.n+k.n:Nat):Int):=by
 rcases List.mem_append.1 he with he|he
 ·exact Lu hm (by omega) he
 ·rw[hL];exact Lu hk (by omega) he
theorem agM {e:Ed} (he:e∈oV m k):e.In (m.L:Int) ((m.n+k.n:Nat):Int):=by
 rcases List.mem_append.1 he with he|he
 ·exact Ly hm hk hL he
 ·obtain ⟨e',h1,h2,h3,rfl⟩:=FI.1 he
  have:=Ly hm hk hL h1
  have:=hk.s
  unfold Ed.In at*
  simp only
  omega
theorem Vf (hs:m.n+k.n≤64):rL m.L (m.n+k.n) (uf m k) (FN m k) (oV m k) where
 l1:=hm.l1
 l6:=hm.l6
 oJ:=hs
 st:=by
  have h1:=hm.s
  have h2:=hk.s
  unfold uf
  split
  ·exact Nat.or_lt_two_pow (Nat.pow_lt_pow_right (by omega) (by omega)) (Nat.pow_lt_pow_right (by omega) (by omega))
  ·exact Nat.pow_lt_pow_right (by omega) (by omega)
 fin:=Bd (Nat.two_pow_pos _) (by omega)
 E:=fun e he=>agM hm hk hL he
 len:=by
  have h1:=qu hm (off:=0) (n:=m.n)
  have h2:=qu hk (off:=m.n) (n:=k.n)
  have h3:=FJ (l:=dR m 0++dR k m.n) (n:=m.n) (to:=m.n+k.st) (f:=m.fin)
  unfold oV
  rw[List.length_append]
  rw[List.length_append] at*
  unfold dR at*
  omega
end
section
variable {a b:Da} (ha:a.Ok) (hb:b.Ok) (hL:a.L=b.L)
include ha hb hL
theorem agN (hs:(minD a).n+(minD b).n≤64):CC vw (jZ a (dQ b))=some (hZ (fj (Bh (minD a) (minD b)) a.L ((minD a).n+(minD b).n)) (mP (Bh (minD a) (minD b)) a.L ((minD a).n+(minD b).n))):=by
 have hm:=mQ ha
 have hk:=mQ hb
 have ug:=oU ha
 have LA:=oU hb
 have Bi:(minD a).L=(minD b).L:=by rw[ug,LA,hL]
 have b7:=hm.s
 have hsk:=hk.s
 have hr:=UF (Vf hm hk Bi hs)
 have l1:=qu hm (off:=0) (n:=(minD a).n)
 have l2:=qu hk (off:=(minD a).n) (n:=(minD b).n)
 refine Vd ?_
 unfold Lv
 refine bs (U7 ha hb hL) (bF rfl ?_)
 have e0:(V.nth ((ue (minD a) (minD b) 0).drop 5) 0).toList=(minD a).cu:=rfl
 have e1:(V.nth ((((ue (minD a) (minD b) 0).drop 5).drop 1).drop 1) 0).toList=(minD b).cu:=rfl
 have e2:(V.nth (((ue (minD a) (minD b) 0).drop 2).drop 1) 0).toInt=((minD b).st:Int):=rfl
 have e3:(V.nth ((ue (minD a) (minD b) 0).drop 1) 0).toInt=((minD a).st:Int):=rfl
 rw[e0,e1,e2,e3,Da.lC,Da.lC,ub (by omega),ub (by omega)]
 refine bs (Lm hs) (bF rfl ?_)
 refine bs (FH (l:=[]) hm (off:=0) (by omega) (by simp)) ?_
 rw[List.nil_append]
 refine bs (FH hk (off:=(minD a).n) (by omega) (by unfold dR;omega)) ?_
 refine bs (U0 (n:=(minD a).n) (f:=(minD a).fin) (fun e he=>Ve (Ly hm hk Bi he)) (by rw[List.length_append];unfold dR;omega) (by omega)) ?_
 refine bs (FF (q:=(minD a).st) (by omega) (by omega)) ?_
 refine bT (RJ b7) ?_
 rw[Int.toNat_natCast]
 refine bs (Ew b7) ?_
 rw[ug] at hr
 have fin: ∀(s:Nat),s=uf (minD a) (minD b)→s<2^64→((CC tj [.list ax (minD b).cu,.int .i64 ((minD a).n:Int),.int .i64 (a.L:Int),.int .i64 (((minD a).n+(minD b).n:Nat):Int),.int .u64 (s:Int),.int .u64 ((0:Nat):Int),.list an ((oV (minD a) (minD b)).map Ed.enc)]).bind fun ig=>
    (CC pN [.int .i64 ((V.nth ig 0).toInt),.int .i64 ((V.nth (ig.drop 1) 0).toInt),.int .u64 ((V.nth ((ig.drop 1).drop 1) 0).toInt),.int .u64 ((V.nth (((ig.drop 1).drop 1).drop 1) 0).toInt),.list an ((V.nth (ig.drop 4) 0).toList)]).bind fun dW=>
    some [.int .i64 ((V.nth dW 0).toInt),.int .i64 ((V.nth (dW.drop 1) 0).toInt),.int .i64 ((V.nth (dW.drop 2) 0).toInt),.list ax ((V.nth ((dW.drop 3).drop 5) 0).toList),.list aA ((V.nth (((dW.drop 3).drop 5).drop 1) 0).toList)])=some (hZ (fj (Bh (minD a) (minD b)) a.L ((minD a).n+(minD b).n)) (mP (Bh (minD a) (minD b)) a.L ((minD a).n+(minD b).n))):=by
  rintro s rfl ln
  refine bs (Ln (n:=(minD b).n) (f:=(minD b).fin) (off:=(minD a).n) (by omega) (by omega)) ?_
  refine bs hr ?_
  show _=some (hZ (fj (cv (minD a).L _ _ _ _) a.L _) (mP (cv (minD a).L _ _ _ _) a.L _))
  rw[ug]
  rfl
 have p1:(2:Nat)^(minD a).st<2^64:=Nat.pow_lt_pow_right (by omega) (by omega)
 have p2:(2:Nat)^((minD a).n+(minD b).st)<2^64:=Nat.pow_lt_pow_right (by omega) (by omega)
 unfold FM
 rw[Nat.zero_or]
 cases hf:(minD a).fin (minD a).st with
 | true=>
  refine bT rfl ?_
  rw[ub (by omega)]
  refine bs (FF (q:=(minD a).n+(minD b).st) (by omega) p1) ?_
  exact fin _ (if_pos hf).symm (Nat.or_lt_two_pow p1 p2)
 | false=>
  refine bF rfl ?_
  exact fin _ (if_neg (by rw[hf];simp)).symm p1
theorem agO (hs:64<(minD a).n+(minD b).n):CC vw (jZ a (dQ b))=some (hZ zD 3):=by
 have h1:=(mQ ha).ee
 have h2:=(mQ hb).ee
 refine Vd ?_
 unfold Lv
 refine bs (U7 ha hb hL) (bF rfl ?_)
 have e0:(V.nth ((ue (minD a) (minD b) 0).drop 5) 0).toList=(minD a).cu:=rfl
 have e1:(V.nth ((((ue (minD a) (minD b) 0).drop 5).drop 1).drop 1) 0).toList=(minD b).cu:=rfl
 rw[e0,e1,Da.lC,Da.lC,ub (by omega)]
 refine bs (UZ hs) (bT rfl ?_)
 rfl
end
end Go.AM
set_option maxRecDepth 100000
set_option linter.unusedSimpArgs false
namespace Go.AM
open Go.Proofs
theorem uh {q i:Nat}:(2^q).testBit i=true↔i=q:=by rw[Nat.testBit_two_pow,decide_eq_true_eq];exact eq_comm
theorem agP {f:Nat→Bool} {off n j:Nat}:(gg 0 f off n).testBit j=true↔off≤j∧j<n+off∧f (j-off)=true:=by
 rw[FG,Nat.zero_testBit,Bool.false_or,Bool.and_eq_true,decide_eq_true_eq,and_assoc]
theorem wW {m k:Da} (hm:m.Ok) (hL:m.L=k.L) {p x q:Nat}:dk p x q∈oV m k↔(p<m.n∧x<m.L∧(q=m.nx p x∨m.fin (m.nx p x)=true∧q=m.n+k.st))∨∃p',p=p'+m.n∧p'<k.n∧x<m.L∧q=k.nx p' x+m.n:=by
 unfold oV
 rw[List.mem_append,List.mem_append,uc,uc,FI]
 constructor
 ·rintro ((⟨p',x',h1,h2,h3⟩|⟨p',x',h1,h2,h3⟩)|⟨e',h1,h2,h3,h4⟩)
  ·obtain ⟨rfl,rfl,rfl⟩:=wU.1 h3
   exact .inl ⟨h1,h2,.inl rfl⟩
  ·obtain ⟨rfl,rfl,rfl⟩:=wU.1 h3
   exact .inr ⟨p',rfl,h1,hL▸h2,rfl⟩
  ·rcases List.mem_append.1 h1 with h1|h1
   ·obtain ⟨p',x',g1,g2,rfl⟩:=uc.1 h1
    have e:dk p x q=dk (p'+0) x' (m.n+k.st):=h4
    obtain ⟨rfl,rfl,rfl⟩:=wU.1 e
    exact .inl ⟨g1,g2,.inr ⟨h3,rfl⟩⟩
   ·obtain ⟨p',x',g1,g2,rfl⟩:=uc.1 h1
    have:(dk (p'+m.n) x' (k.nx p' x'+m.n)).t.toNat=k.nx p' x'+m.n:=rfl
    omega
 ·rintro (⟨h1,h2,rfl|⟨h3,rfl⟩⟩|⟨p',rfl,h1,h2,rfl⟩)
  ·exact .inl (.inl ⟨p,x,h1,h2,rfl⟩)
  ·exact .inr ⟨dk p x (m.nx p x),List.mem_append_left _ (uc.2 ⟨p,x,h1,h2,rfl⟩),hm.eg h1 h2,h3,rfl⟩
  ·exact .inl (.inr ⟨p',x,h1,hL▸h2,rfl⟩)
section
variable {m k:Da} (hm:m.Ok) (hk:k.Ok) (hL:m.L=k.L)
include hm hk hL
theorem FO: ∀{w:List Nat} {j t:Nat},j<k.n→WL m.L w→(eY (oV m k) (j+m.n) w t↔t=k.run j w+m.n)
 | [],j,t,_,_=>by
  show j+m.n=t↔_
  exact eq_comm
 | x::w,j,t,hj,hw=>by
  rw[Da.zk]
  have ih:=fun t=>FO (w:=w) (j:=k.nx j x) (t:=t) (hk.eg hj (hL▸hw.head)) hw.tail
  constructor
  ·rintro ⟨q,h1,h2⟩
   rcases (wW hm hL).1 h1 with ⟨h3,_⟩|⟨p',h3,h4,h5,rfl⟩
   ·omega
   ·obtain rfl:j=p':=by omega
    exact (ih t).1 h2
  ·intro h
   exact ⟨_,(wW hm hL).2 (.inr ⟨j,rfl,hj,hw.head,rfl⟩),(ih t).2 h⟩
theorem LB: ∀{w:List Nat} {i t:Nat},i<m.n→WL m.L w→(eY (oV m k) i w t↔t=m.run i w∨∃u v,w=u++v∧u≠[]∧m.fin (m.run i u)=true∧t=k.run k.st v+m.n)
 | [],i,t,_,_=>by
  show i=t↔_
  constructor
  ·intro h;exact .inl h.symm
  ·rintro (h|⟨u,v,h1,h2,_⟩)
   ·exact h.symm
   ·exact absurd (List.append_eq_nil_iff.1 h1.symm).1 h2
 | x::w,i,t,hi,hw=>by
  rw[Da.zk]
  have hn:=hm.eg hi hw.head
  have ih:=LB (w:=w) (i:=m.nx i x) (t:=t) hn hw.tail
  have h2:=FO hm hk hL (w:=w) (j:=k.st) (t:=t) hk.s hw.tail
  constructor
  ·rintro ⟨q,h3,h4⟩
   rcases (wW hm hL).1 h3 with ⟨_,_,rfl|⟨h5,rfl⟩⟩|⟨p',h5,h6,_⟩
   ·rcases ih.1 h4 with h5|⟨u,v,rfl,h5,h6,h7⟩
    ·exact .inl h5
    ·exact .inr ⟨x::u,v,rfl,by simp,h6,h7⟩
   ·rw[Nat.add_comm] at h4
    exact .inr ⟨[x],w,rfl,by simp,h5,h2.1 h4⟩
   ·omega
  ·rintro (h|⟨u,v,h3,h4,h5,h6⟩)
   ·exact ⟨_,(wW hm hL).2 (.inl ⟨hi,hw.head,.inl rfl⟩),ih.2 (.inl h)⟩
   ·cases u with
    | nil=>exact absurd rfl h4
    | cons y u=>
     simp only[List.cons_append,List.cons.injEq] at h3
     obtain ⟨rfl,rfl⟩:=h3
     rw[Da.zk] at h5
     by_cases hu:u=[]
     ·subst hu
      refine ⟨m.n+k.st,(wW hm hL).2 (.inl ⟨hi,hw.head,.inr ⟨h5,rfl⟩⟩),?_⟩
      rw[Nat.add_comm]
      exact h2.2 h6
     ·exact ⟨_,(wW hm hL).2 (.inl ⟨hi,hw.head,.inl rfl⟩),ih.2 (.inr ⟨u,v,rfl,hu,h5,h6⟩)⟩
theorem agQ {w:List Nat} (hw:WL m.L w):qv (uf m k) (FN m k) (oV m k) w↔∃u v,w=u++v∧m.acc m.st u=true∧k.acc k.st v=true:=by
 have hs:=hm.s
 have sX:=hk.s
 have hS: ∀i,(uf m k).testBit i=true↔i=m.st∨m.fin m.st=true∧i=m.n+k.st:=by
  intro i
  unfold uf
  split
  ·next h=>rw[Nat.testBit_or,Bool.or_eq_true,uh,uh];simp[h]
  ·next h=>rw[uh];simp[h]
 have hF: ∀t,(FN m k).testBit t=true↔m.n≤t∧t<k.n+m.n∧k.fin (t-m.n)=true:=fun t=>agP
 unfold qv
 constructor
 ·rintro ⟨i,t,h1,h2,h3⟩
  obtain ⟨h4,h5,h6⟩:=(hF t).1 h2
  rcases (hS i).1 h1 with rfl|⟨h7,rfl⟩
  ·rcases (LB hm hk hL hs hw).1 h3 with h8|⟨u,v,rfl,h8,h9,rfl⟩
   ·have:=hm.zj w hs hw
    omega
   ·refine ⟨u,v,rfl,h9,?_⟩
    rw[Nat.add_sub_cancel] at h6
    exact h6
  ·rw[Nat.add_comm] at h3
   have h8:=(FO hm hk hL sX hw).1 h3
   refine ⟨[],w,rfl,h7,?_⟩
   rw[h8,Nat.add_sub_cancel] at h6
   exact h6
 ·rintro ⟨u,v,rfl,h1,h2⟩
  have hv:WL m.L v:=(WL.app.1 hw).2
  have hr:=hk.zj v sX (hL▸hv)
  by_cases hu:u=[]
  ·subst hu
   refine ⟨m.n+k.st,k.run k.st v+m.n,(hS _).2 (.inr ⟨h1,rfl⟩),(hF _).2 ⟨by omega,by omega,?_⟩,?_⟩
   ·rw[Nat.add_sub_cancel];exact h2
   ·rw[Nat.add_comm m.n]
    exact (FO hm hk hL sX hv).2 rfl
  ·refine ⟨m.st,k.run k.st v+m.n,(hS _).2 (.inl rfl),(hF _).2 ⟨by omega,by omega,?_⟩,?_⟩
   ·rw[Nat.add_sub_cancel];exact h2
   ·exact (LB hm hk hL hs hw).2 (.inr ⟨u,v,rfl,hu,h1,rfl⟩)
end
end Go.AM
set_option maxRecDepth 100000
set_option linter.unusedSimpArgs false
namespace Go.AM
open Go.Proofs
inductive ij (K:List Nat→Prop):List Nat→Prop
 | nil:ij K []
 | app {u v:List Nat}:u≠[]→K u→ij K v→ij K (u++v)
section
variable {K:List Nat→Prop}
theorem ij.iff {w:List Nat}:ij K w↔w=[]∨∃u v,w=u++v∧u≠[]∧K u∧ij K v:=by
 constructor
 ·intro h
  cases h with
  | nil=>exact .inl rfl
  | app h1 h2 h3=>exact .inr ⟨_,_,rfl,h1,h2,h3⟩
 ·rintro (rfl|⟨u,v,rfl,h1,h2,h3⟩)
  ·exact .nil
  ·exact .app h1 h2 h3
theorem ij.one {w:List Nat} (h:K w):ij K w:=by
 by_cases hw:w=[]
 ·rw[hw];exact .nil
 ·have:=ij.app hw h .nil
  rwa [List.append_nil] at this
theorem ij.ext {K2:List Nat→Prop} {L:Nat} (h: ∀u,WL L u→(K u↔K2 u)) {w:List Nat} (hw:WL L w):ij K w↔ij K2 w:=by
 constructor
 ·intro hr
  induction hr with
  | nil=>exact .nil
  | app g1 g2 _ ih=>exact .app g1 ((h _ (WL.app.1 hw).1).1 g2) (ih (WL.app.1 hw).2)
 ·intro hr
  induction hr with
  | nil=>exact .nil
  | app g1 g2 _ ih=>exact .app g1 ((h _ (WL.app.1 hw).1).2 g2) (ih (WL.app.1 hw).2)
end
def qw (m:Da):List Ed:=dR m 0++tab m.L fun x=>dk m.n x (m.nx m.st x)
def jh (m:Da):List Ed:=qw m++kS m.n m.fin m.st (qw m)
def Bj (m:Da):Nat:=gg (2^m.n) m.fin 0 m.n
def LC (m:Da):Nf:=cv m.L (m.n+1) (2^m.n) (Bj m) (jh m)
def j9 (m:Da) (p:Nat):Nat:=if p=m.n then m.st else p
section
variable {m:Da} (hm:m.Ok)
include hm
theorem LD {p:Nat} (hp:p≤m.n):j9 m p<m.n:=by
 have:=hm.s
 unfold j9;split<;>omega
theorem FP {e:Ed}:e∈qw m↔∃p x,p≤m.n∧x<m.L∧e=dk p x (m.nx (j9 m p) x):=by
 have hs:=hm.s
 unfold qw
 rw[List.mem_append,uc,vR]
 constructor
 ·rintro (⟨p,x,hp,hx,rfl⟩|⟨x,hx,rfl⟩)
  ·refine ⟨p,x,by omega,hx,?_⟩
   unfold j9;rw[if_neg (by omega)];rfl
  ·refine ⟨m.n,x,Nat.le_refl _,hx,?_⟩
   unfold j9;rw[if_pos rfl]
 ·rintro ⟨p,x,hp,hx,rfl⟩
  by_cases h:p=m.n
  ·exact .inr ⟨x,hx,by unfold j9;rw[if_pos h,h]⟩
  ·exact .inl ⟨p,x,by omega,hx,by unfold j9;rw[if_neg h];rfl⟩
theorem ui {p x q:Nat}:dk p x q∈jh m↔p≤m.n∧x<m.L∧(q=m.nx (j9 m p) x∨m.fin (m.nx (j9 m p) x)=true∧q=m.st):=by
 unfold jh
 rw[List.mem_append,FP hm,FI]
 constructor
 ·rintro (⟨p',x',h1,h2,h3⟩|⟨e',h1,h2,h3,h4⟩)
  ·obtain ⟨rfl,rfl,rfl⟩:=wU.1 h3
   exact ⟨h1,h2,.inl rfl⟩
  ·obtain ⟨p',x',g1,g2,rfl⟩:=(FP hm).1 h1
   have e:dk p x q=dk p' x' m.st:=h4
   obtain ⟨rfl,rfl,rfl⟩:=wU.1 e
   exact ⟨g1,g2,.inr ⟨h3,rfl⟩⟩
 ·rintro ⟨h1,h2,rfl|⟨h3,rfl⟩⟩
  ·exact .inl ⟨p,x,h1,h2,rfl⟩
  ·exact .inr ⟨dk p x (m.nx (j9 m p) x),(FP hm).2 ⟨p,x,h1,h2,rfl⟩,hm.eg (LD hm h1) h2,h3,rfl⟩
theorem LF {e:Ed} (he:e∈qw m):e.In (m.L:Int) ((m.n+1:Nat):Int):=by
 obtain ⟨p,x,hp,hx,rfl⟩:=(FP hm).1 he
 have:=hm.eg (LD hm hp) hx
 exact Lt (by omega) hx (by omega)
theorem agR {e:Ed} (he:e∈jh m):e.In (m.L:Int) ((m.n+1:Nat):Int):=by
 rcases List.mem_append.1 he with he|he
 ·exact LF hm he
 ·obtain ⟨e',h1,h2,h3,rfl⟩:=FI.1 he
  have:=LF hm h1
  have:=hm.s
  unfold Ed.In at*
  simp only
  omega
theorem Vg:(qw m).length≤(m.n+1)*6:=by
 have h1:=qu hm (off:=0) (n:=m.n)
 have h6:=hm.l6
 unfold qw
 rw[List.length_append,eV]
 unfold dR
 omega
theorem Vh (hs:m.n+1≤64):rL m.L (m.n+1) (2^m.n) (Bj m) (jh m) where
 l1:=hm.l1
 l6:=hm.l6
 oJ:=hs
 st:=Nat.pow_lt_pow_right (by omega) (by omega)
 fin:=Bd (Nat.pow_lt_pow_right (by omega) (by omega)) (by omega)
 E:=fun e he=>agR hm he
 len:=by
  have h1:=Vg hm
  have h3:=FJ (l:=qw m) (n:=m.n) (to:=m.st) (f:=m.fin)
  unfold jh
  rw[List.length_append]
  omega
theorem LG: ∀{w:List Nat} {i t:Nat},i<m.n→eY (jh m) i w t→t<m.n
 | [],i,t,hi,h=>by
  have:i=t:=h
  omega
 | x::w,i,t,hi,h=>by
  obtain ⟨q,h1,h2⟩:=h
  obtain ⟨g1,g2,g3⟩:=(ui hm).1 h1
  refine LG (w:=w) ?_ h2
  rcases g3 with rfl|⟨_,rfl⟩
  ·exact hm.eg (LD hm g1) g2
  ·exact hm.s
theorem FQ: ∀{w:List Nat} {i t:Nat},i<m.n→WL m.L w→(eY (jh m) i w t↔t=m.run i w∨∃u v,w=u++v∧u≠[]∧m.fin (m.run i u)=true∧eY (jh m) m.st v t)
 | [],i,t,_,_=>by
  show i=t↔_
  constructor
  ·intro h;exact .inl h.symm
  ·rintro (h|⟨u,v,h1,h2,_⟩)
   ·exact h.symm
   ·exact absurd (List.append_eq_nil_iff.1 h1.symm).1 h2
 | x::w,i,t,hi,hw=>by
  rw[Da.zk]
  have hn:=hm.eg hi hw.head
  have FR:j9 m i=i:=by unfold j9;rw[if_neg (by omega)]
  have ih:=FQ (w:=w) (i:=m.nx i x) (t:=t) hn hw.tail
  constructor
  ·rintro ⟨q,h3,h4⟩
   obtain ⟨_,_,h5⟩:=(ui hm).1 h3
   rw[FR] at h5
   rcases h5 with rfl|⟨h5,rfl⟩
   ·rcases ih.1 h4 with h5|⟨u,v,rfl,h5,h6,h7⟩
    ·exact .inl h5
    ·exact .inr ⟨x::u,v,rfl,by simp,h6,h7⟩
   ·exact .inr ⟨[x],w,rfl,by simp,h5,h4⟩
  ·rintro (h|⟨u,v,h3,h4,h5,h6⟩)
   ·exact ⟨_,(ui hm).2 ⟨by omega,hw.head,.inl (by rw[FR])⟩,ih.2 (.inl h)⟩
   ·cases u with
    | nil=>exact absurd rfl h4
    | cons y u=>
     simp only[List.cons_append,List.cons.injEq] at h3
     obtain ⟨rfl,rfl⟩:=h3
     rw[Da.zk] at h5
     by_cases hu:u=[]
     ·subst hu
      exact ⟨m.st,(ui hm).2 ⟨by omega,hw.head,.inr ⟨by rw[FR];exact h5,rfl⟩⟩,h6⟩
     ·exact ⟨_,(ui hm).2 ⟨by omega,hw.head,.inl (by rw[FR])⟩,ih.2 (.inr ⟨u,v,rfl,hu,h5,h6⟩)⟩
theorem Vi {w:List Nat} {t:Nat} (hw:w≠[]):eY (jh m) m.n w t↔eY (jh m) m.st w t:=by
 have hs:=hm.s
 cases w with
 | nil=>exact absurd rfl hw
 | cons x w=>
  have e: ∀q,dk m.n x q∈jh m↔dk m.st x q∈jh m:=fun q=>by
   have e1:j9 m m.n=m.st:=if_pos rfl
   have e2:j9 m m.st=m.st:=by unfold j9;rw[if_neg (by omega)]
   rw[ui hm,ui hm,e1,e2]
   constructor
   ·rintro ⟨_,h2,h3⟩;exact ⟨by omega,h2,h3⟩
   ·rintro ⟨_,h2,h3⟩;exact ⟨by omega,h2,h3⟩
  constructor
  ·rintro ⟨q,h1,h2⟩;exact ⟨q,(e q).1 h1,h2⟩
  ·rintro ⟨q,h1,h2⟩;exact ⟨q,(e q).2 h1,h2⟩
theorem agS {w:List Nat} (hw:WL m.L w):(∃t,m.fin t=true∧eY (jh m) m.st w t)↔m.acc m.st w=true∨∃u v,w=u++v∧u≠[]∧m.acc m.st u=true∧∃t,m.fin t=true∧eY (jh m) m.st v t:=by
 constructor
 ·rintro ⟨t,h1,h2⟩
  rcases (FQ hm hm.s hw).1 h2 with rfl|⟨u,v,rfl,h3,h4,h5⟩
  ·exact .inl h1
  ·exact .inr ⟨u,v,rfl,h3,h4,t,h1,h5⟩
 ·rintro (h|⟨u,v,rfl,h3,h4,t,h5,h6⟩)
  ·exact ⟨_,h,(FQ hm hm.s hw).2 (.inl rfl)⟩
  ·exact ⟨t,h5,(FQ hm hm.s hw).2 (.inr ⟨u,v,rfl,h3,h4,h6⟩)⟩
theorem LH: ∀(k:Nat) {w:List Nat},w.length≤k→WL m.L w→w≠[]→((∃t,m.fin t=true∧eY (jh m) m.st w t)↔ij (fun u=>m.acc m.st u=true) w)
 | 0,w,hk,_,h0=>absurd (List.length_eq_zero_iff.1 (by omega)) h0
 | k+1,w,hk,hw,h0=>by
  rw[agS hm hw]
  have len: ∀{u v:List Nat},w=u++v→u≠[]→v.length≤k:=fun {u v} e hu=>by
   have:=List.length_pos_iff.2 hu
   rw[e,List.length_append] at hk
   omega
  constructor
  ·rintro (h|⟨u,v,e,h1,h2,h3⟩)
   ·exact .one h
   ·by_cases hv:v=[]
    ·rw[e,hv];exact .app h1 h2 .nil
    ·rw[e]
     exact .app h1 h2 ((LH k (len e h1) (WL.app.1 (e▸hw)).2 hv).1 h3)
  ·intro h
   rcases ij.iff.1 h with h|⟨u,v,e,h1,h2,h3⟩
   ·exact absurd h h0
   ·by_cases hv:v=[]
    ·rw[hv,List.append_nil] at e
     exact .inl (e▸h2)
    ·exact .inr ⟨u,v,e,h1,h2,(LH k (len e h1) (WL.app.1 (e▸hw)).2 hv).2 h3⟩
theorem agT {w:List Nat} (hw:WL m.L w):qv (2^m.n) (Bj m) (jh m) w↔ij (fun u=>m.acc m.st u=true) w:=by
 have hs:=hm.s
 have hF: ∀t,(Bj m).testBit t=true↔t=m.n∨t<m.n∧m.fin t=true:=by
  intro t
  unfold Bj
  rw[FG,Bool.or_eq_true,uh,Bool.and_eq_true,decide_eq_true_eq,Nat.sub_zero]
  constructor
  ·rintro (h|⟨h1,h2⟩)
   ·exact .inl h
   ·exact .inr ⟨by omega,h2⟩
  ·rintro (h|⟨h1,h2⟩)
   ·exact .inl h
   ·exact .inr ⟨by omega,h2⟩
 unfold qv
 by_cases h0:w=[]
 ·subst h0
  exact ⟨fun _=> .nil,fun _=>⟨m.n,m.n,uh.2 rfl,(hF _).2 (.inl rfl),rfl⟩⟩
 ·rw[←LH hm w.length (Nat.le_refl _) hw h0]
  constructor
  ·rintro ⟨i,t,h1,h2,h3⟩
   rw[uh.1 h1,Vi hm h0] at h3
   have ht:=LG hm hs h3
   rcases (hF t).1 h2 with h4|⟨_,h4⟩
   ·omega
   ·exact ⟨t,h4,h3⟩
  ·rintro ⟨t,h1,h2⟩
   have ht:=LG hm hs h2
   exact ⟨m.n,t,uh.2 rfl,(hF t).2 (.inr ⟨ht,h1⟩),(Vi hm h0).2 h2⟩
end
end Go.AM
set_option maxRecDepth 100000
set_option linter.unusedSimpArgs false
namespace Go.AM
open Go.Proofs
section
variable {m:Da} (hm:m.Ok)
include hm
end
def Ed.rev (e:Ed):Ed:=⟨e.t,e.l,e.f⟩
@[simp] theorem Ed.rev_rev (e:Ed):e.rev.rev=e:=rfl
theorem WL.rev {L:Nat} {w:List Nat} (h:WL L w):WL L w.reverse:=fun x hx=>h x (List.mem_reverse.1 hx)
section
variable {m:Da} (hm:m.Ok)
include hm
end
section
variable {m:Da} (hm:m.Ok)
include hm
end
end Go.AM
set_option maxRecDepth 100000
set_option linter.unusedSimpArgs false
namespace Go.AM
open Go.Proofs
namespace Da
end Da
structure mR (X:Da) (L:Nat) (K:List Nat→Prop):Prop where
 ok:X.Ok
 hL:X.L=L
 min:minD X=X
 jW: ∀w,WL L w→(X.acc X.st w=true↔K w)
theorem mR.eq {X Y:Da} {L:Nat} {K K':List Nat→Prop} (h:mR X L K) (h':mR Y L K') (e: ∀w,WL L w→(K w↔K' w)):X=Y:=by
 rw[←h.min,←h'.min]
 refine U6 h.ok h'.ok (h.hL.trans h'.hL.symm) fun w hw=> ?_
 have xT:WL L w:=h.hL▸hw
 rw[Bool.eq_iff_iff,h.jW w xT,h'.jW w xT,e w xT]
theorem mR.ext {X:Da} {L:Nat} {K K':List Nat→Prop} (h:mR X L K) (e: ∀w,WL L w→(K w↔K' w)):mR X L K':=⟨h.ok,h.hL,h.min,fun w hw=>(h.jW w hw).trans (e w hw)⟩
theorem mR.acc {X:Da} {L:Nat} {K:List Nat→Prop} (h:mR X L K) {w:List Nat} (hw:WL L w) {b:Bool} (e:K w↔b=true):X.acc X.st w=b:=by
 rw[Bool.eq_iff_iff,h.jW w hw,e]
section
variable {L S st fin:Nat} {l:List Ed} (h:rL L S st fin l)
include h
theorem agU (hn: ¬gM (cv L S st fin l) L S):mR (fj (cv L S st fin l) L S) L (qv st fin l) where
 ok:=agz h hn
 hL:=agA h hn
 min:=by
  unfold fj
  rw[if_neg hn]
  exact agu (wh (nM h) hn)
 jW:=fun _ hw=>agB h hn hw
theorem agV (hn: ¬gM (cv L S st fin l) L S):(fj (cv L S st fin l) L S).n≤2^S:=by
 have h1:=Lo (wh (nM h) hn)
 have h2:=wg (nM h) (2^S)
 have h3:(ia (cv L S st fin l) L S).n=(gL (cv L S st fin l) L S).length:=lA
 unfold fj
 rw[if_neg hn]
 unfold gL at h3
 omega
theorem agW:(mP (cv L S st fin l) L S=0∧mR (fj (cv L S st fin l) L S) L (qv st fin l)∧(fj (cv L S st fin l) L S).n≤2^S)∨(mP (cv L S st fin l) L S=3∧fj (cv L S st fin l) L S=zD∧9<S):=by
 by_cases hn:gM (cv L S st fin l) L S
 ·refine .inr ⟨if_pos hn,if_pos hn,?_⟩
  rcases Nat.lt_or_ge 9 S with c|c
  ·exact c
  ·exact absurd hn (agC h c)
 ·exact .inl ⟨if_neg hn,agU h hn,agV h hn⟩
end
def rN (r:Option (List V)) (L S:Nat) (K:List Nat→Prop):Prop:=(∃X,r=some (hZ X 0)∧mR X L K∧X.n≤2^S)∨(r=some (hZ zD 3)∧9<S)
theorem rN.of {L S st fin:Nat} {l:List Ed} (h:rL L S st fin l) {r:Option (List V)} (e:r=some (hZ (fj (cv L S st fin l) L S) (mP (cv L S st fin l) L S))) {K:List Nat→Prop} (hK: ∀w,WL L w→(qv st fin l w↔K w)):rN r L S K:=by
 rcases agW h with ⟨h1,h2,h3⟩|⟨h1,h2,h3⟩
 ·exact .inl ⟨_,by rw[e,h1],h2.ext hK,h3⟩
 ·exact .inr ⟨by rw[e,h1,h2],h3⟩
theorem rN.small {r:Option (List V)} {L S:Nat} {K:List Nat→Prop} (h:rN r L S K) (hS:S≤9): ∃X,r=some (hZ X 0)∧mR X L K∧X.n≤2^S:=by
 rcases h with h|⟨_,h⟩
 ·exact h
 ·omega
end Go.AM
set_option maxRecDepth 100000
namespace Go.AM
open Go.Proofs
noncomputable abbrev Vj:Code:=cy Tryd.prog (ar.aP 43)
noncomputable def Bk (C:ae) (s:Int) (t42:List V) (t43 eh ei mC mD:Int) (oT fP ej ct:List V) (t44 aX aU aZ a8:Int) (bR:List V) {β:Type} (kn:(Int × Int × Int × Int × Int × (List V))→Option β) (kr:(Int × Bool × Int × Int × Int × Int × (List V))→Option β):Option β:=
 bif decide ((t44:Int)<t43) then
  (idx t42 t44).bind fun x5=>
  (C th [.int .i64 s,.int .i64 t44,.int .i64 x5.toInt,.int .i64 aX,.int .i64 aU,.int .u64 aZ,.int .u64 a8,.list an bR]).bind fun r6=>
  kn (IntKind.wrap .i64 (t44+1),(V.nth r6 0).toInt,(V.nth (r6.drop 1) 0).toInt,(V.nth ((r6.drop 1).drop 1) 0).toInt,(V.nth (((r6.drop 1).drop 1).drop 1) 0).toInt,(V.nth (r6.drop 4) 0).toList)
 else
  kr (t44,decide ((t44:Int)<t43),aX,aU,aZ,a8,bR)
noncomputable def LI (C:ae) (s:Int) (t42:List V) (t43 eh ei mC mD:Int) (oT fP ej ct:List V):(Int × Int × Int × Int × Int × (List V))→Option ((Int × Int × Int × Int × Int × (List V)) ⊕ (Int × Bool × Int × Int × Int × Int × (List V))):=un fun t44=>un fun aX=>un fun aU=>un fun aZ=>un fun a8 bR=>Bk C s t42 t43 eh ei mC mD oT fP ej ct t44 aX aU aZ a8 bR (fun y=>some (.inl y)) (fun r=>some (.inr r))
noncomputable def Vk (C:ae):cq:=fun β n ds k=>
 bif Nat.beq n 161 then bA IH [false,false,false,true,false,false,false,false,true,true,true,true,false,false,false,false,true] [[1,2,3,0,0,5,6,7,8,0,0,0,0,13,14,15,16,0]] (@Bk C) ds k else
 none
abbrev agX (C:ae) (b:cl):Prop:=cm Tryd.prog ar C (Vk C) 43 (cE Tryd.prog (ar.aP 43)) (ar.sin 43).aO.length b
theorem agY (C:ae):agX C (.loop (ao [1,1,1,1,1,1,1,0,1,0,0] Vj)):=
 bD IH [false,false,false,true,false,false,false,false,true,true,true,true,false,false,false,false,true] [[1,2,3,0,0,5,6,7,8,0,0,0,0,13,14,15,16,0]] (@Bk C) (by kernel_rfl) (aT (bs:=[]) (by kernel_rfl) au) (fun ds=>by kernel_rfl) (fun i x=>by kernel_rfl) (fun i x β k=>by kernel_rfl) (fun β ds k=>by kernel_rfl)
noncomputable def LJ (C:ae) (bd bn:Int) (aR bh:List V):Option (List V):=
 (C yE [.int .i64 bd,.int .i64 bn,.list ax aR,.list aA bh]).bind fun r1=>
 bif (((V.nth (r1.drop 2) 0).toInt):Int) != 0 then
  some [.int .i64 0,.int .i64 0,.int .i64 ((V.nth (r1.drop 2) 0).toInt),.list ax ([]:List V),.list aA ([]:List V)]
 else
  (C tf [.int .i64 bd,.int .i64 (IntKind.wrap .i64 ((((V.nth (r1.drop 3) 0).toList).length:Int)+1))]).bind fun r2=>
  bif (V.nth r2 0).toBool then
  some [.int .i64 0,.int .i64 0,.int .i64 3,.list ax ([]:List V),.list aA ([]:List V)]
  else
  (C tk [.int .i64 ((V.nth r1 0).toInt),.int .i64 ((V.nth (r1.drop 1) 0).toInt),.list ax ((V.nth (r1.drop 3) 0).toList),.list aA ((V.nth ((r1.drop 3).drop 1) 0).toList),.int .i64 0,.int .i64 ((V.nth (r2.drop 1) 0).toInt),.int .i64 ((V.nth ((r2.drop 1).drop 1) 0).toInt),.int .u64 ((V.nth (((r2.drop 1).drop 1).drop 1) 0).toInt),.int .u64 ((V.nth ((((r2.drop 1).drop 1).drop 1).drop 1) 0).toInt),.list an ((V.nth ((r2.drop 1).drop 4) 0).toList)]).bind fun r3=>
  bif (decide (0≤((V.nth (r1.drop 1) 0).toInt)))&&(decide (((V.nth (r1.drop 1) 0).toInt)<(((V.nth ((r1.drop 3).drop 1) 0).toList).length:Int))) then
   (((V.nth ((r1.drop 3).drop 1) 0).toList)[((V.nth (r1.drop 1) 0).toInt:Int).toNat]?).bind fun x4=>
   (Loop (LI C (((V.nth (r1.drop 3) 0).toList).length:Int) x4.toList (x4.toList.length:Int) 0 0 ((V.nth r1 0).toInt) ((V.nth (r1.drop 1) 0).toInt) ([]:List V) ([]:List V) ((V.nth (r1.drop 3) 0).toList) ((V.nth ((r1.drop 3).drop 1) 0).toList)) (0,(V.nth r3 0).toInt,(V.nth (r3.drop 1) 0).toInt,(V.nth ((r3.drop 1).drop 1) 0).toInt,(V.nth (((r3.drop 1).drop 1).drop 1) 0).toInt,(V.nth (r3.drop 4) 0).toList)).bind (un fun (oG:Int)=>un fun (vI:Bool)=>un fun (qt:Int)=>un fun (Bg:Int)=>un fun (Lw:Int)=>un fun (Lx:Int) (vU:List V)=>
    (C yG [.list ax ((V.nth (r1.drop 3) 0).toList),.int .i64 ((V.nth (r1.drop 1) 0).toInt),.int .i64 qt,.int .i64 Bg,.int .u64 Lw,.int .u64 Lx,.list an vU]).bind fun ig=>
    (C ti [.int .i64 (((V.nth (r1.drop 3) 0).toList).length:Int),.int .i64 ((V.nth ig 0).toInt),.int .i64 ((V.nth (ig.drop 1) 0).toInt),.int .u64 ((V.nth ((ig.drop 1).drop 1) 0).toInt),.int .u64 ((V.nth (((ig.drop 1).drop 1).drop 1) 0).toInt),.list an ((V.nth (ig.drop 4) 0).toList)]).bind fun dW=>
    (C yF [.int .i64 (((V.nth (r1.drop 3) 0).toList).length:Int),.int .i64 ((V.nth dW 0).toInt),.int .i64 ((V.nth (dW.drop 1) 0).toInt),.int .u64 ((V.nth ((dW.drop 1).drop 1) 0).toInt),.int .u64 ((V.nth (((dW.drop 1).drop 1).drop 1) 0).toInt),.list an ((V.nth (dW.drop 4) 0).toList)]).bind fun iH=>
    (C tj [.list ax ((V.nth (r1.drop 3) 0).toList),.int .i64 0,.int .i64 ((V.nth iH 0).toInt),.int .i64 ((V.nth (iH.drop 1) 0).toInt),.int .u64 ((V.nth ((iH.drop 1).drop 1) 0).toInt),.int .u64 ((V.nth (((iH.drop 1).drop 1).drop 1) 0).toInt),.list an ((V.nth (iH.drop 4) 0).toList)]).bind fun dv=>
    (C pN [.int .i64 ((V.nth dv 0).toInt),.int .i64 ((V.nth (dv.drop 1) 0).toInt),.int .u64 ((V.nth ((dv.drop 1).drop 1) 0).toInt),.int .u64 ((V.nth (((dv.drop 1).drop 1).drop 1) 0).toInt),.list an ((V.nth (dv.drop 4) 0).toList)]).bind fun mK=>
    some [.int .i64 ((V.nth mK 0).toInt),.int .i64 ((V.nth (mK.drop 1) 0).toInt),.int .i64 ((V.nth (mK.drop 2) 0).toInt),.list ax ((V.nth ((mK.drop 3).drop 5) 0).toList),.list aA ((V.nth (((mK.drop 3).drop 5).drop 1) 0).toList)])
  else none
theorem Vl {bd bn:Int} {aR bh:List V} {r:Option (List V)} (h:LJ CC bd bn aR bh=r):CC vy [.int .i64 bd,.int .i64 bn,.list ax aR,.list aA bh]=r:=
 bj (key:=43) (L:=Vk CC) (bs:=[.loop (ao [1,1,1,1,1,1,1,0,1,0,0] Vj)]) (by kernel_rfl) (bm (agY CC) au) (Eq.trans (by kernel_rfl) h)
end Go.AM
set_option maxRecDepth 100000
set_option linter.unusedSimpArgs false
namespace Go.AM
open Go.Proofs
section
variable {a:Da} (h:a.Ok)
include h
theorem agZ (hs:(minD a).n+1≤64):CC vy (dQ a)=some (hZ (fj (LC (minD a)) a.L ((minD a).n+1)) (mP (LC (minD a)) a.L ((minD a).n+1))):=by
 have hm:=mQ h
 have h6:=hm.l6
 have hL:=oU h
 have b7:=hm.s
 have hr:=UF (Vh hm hs)
 refine Vl ?_
 unfold LJ
 refine bs (Lp h) (bF rfl ?_)
 have e0:(V.nth ((hZ (minD a) 0).drop 3) 0).toList=(minD a).cu:=rfl
 have e1:(V.nth (((hZ (minD a) 0).drop 3).drop 1) 0).toList=(minD a).cD:=rfl
 have e2:(V.nth ((hZ (minD a) 0).drop 1) 0).toInt=((minD a).st:Int):=rfl
 rw[e0,e1,e2,Da.lC,dh (by omega)]
 refine bs (Lm hs) (bF rfl ?_)
 refine bs (FH (l:=[]) hm (off:=0) (by omega) (by simp)) ?_
 rw[List.nil_append]
 refine (fN (i:=(minD a).st) b7).trans ?_
 rw[show (jB (minD a).L ((minD a).nx (minD a).st)).toList=tab (minD a).L fun x=>nV ((minD a).nx (minD a).st x) from rfl,eV]
 have hlen:=qu hm (off:=0) (n:=(minD a).n)
 refine bs (ua (minD a).L (fun i=>((i:Int),(a.L:Int),(((minD a).n+1:Nat):Int),((0:Nat):Int),((0:Nat):Int),(dR (minD a) 0++tab i fun x=>dk (minD a).n x ((minD a).nx (minD a).st x)).map Ed.enc)) (((minD a).L:Int),false,(a.L:Int),(((minD a).n+1:Nat):Int),((0:Nat):Int),((0:Nat):Int),(qw (minD a)).map Ed.enc) (by rw[J8,List.append_nil];rfl) (fun x hx=> ?_) ?_) ?_
 ·simp only[LI,Bk,un]
  refine bT (eL hx) ?_
  refine bs (qb hx) ?_
  rw[show (nV ((minD a).nx (minD a).st x)).toInt=(((minD a).nx (minD a).st x:Nat):Int) from rfl]
  refine bs (FE (by rw[List.length_append,eV];unfold dR;omega)) ?_
  rw[dh (by omega),rv,←List.append_assoc]
  rfl
 ·simp only[LI,Bk,un]
  refine bF (bN (Nat.le_refl _)) ?_
  rw[bN (Nat.le_refl _)]
  rfl
 ·simp only[un]
  have p1:(2:Nat)^(minD a).n<2^64:=Nat.pow_lt_pow_right (by omega) (by omega)
  have l1:=Vg hm
  refine bs (U0 (n:=(minD a).n) (f:=(minD a).fin) (fun e he=>Ve (LF hm he)) (by omega) (by omega)) ?_
  refine bs (FF (q:=(minD a).n) (by omega) (by omega)) ?_
  refine bs (UY (q:=(minD a).n) (by omega) (by omega)) ?_
  rw[Nat.zero_or]
  refine bs (Ln (n:=(minD a).n) (f:=(minD a).fin) (off:=0) (by omega) p1) ?_
  rw[hL] at hr
  refine bs hr ?_
  show _=some (hZ (fj (cv (minD a).L _ _ _ _) a.L _) (mP (cv (minD a).L _ _ _ _) a.L _))
  rw[hL]
  rfl
theorem ag0 (hs:64<(minD a).n+1):CC vy (dQ a)=some (hZ zD 3):=by
 have h1:=(mQ h).ee
 refine Vl ?_
 unfold LJ
 refine bs (Lp h) (bF rfl ?_)
 have e0:(V.nth ((hZ (minD a) 0).drop 3) 0).toList=(minD a).cu:=rfl
 rw[e0,Da.lC,dh (by omega)]
 refine bs (UZ hs) (bT rfl ?_)
 rfl
theorem ag1:rN (CC vy (dQ a)) a.L ((minD a).n+1) (ij fun u=>a.acc a.st u=true):=by
 have hm:=mQ h
 have hL:=oU h
 by_cases hs:(minD a).n+1≤64
 ·have hr:=Vh hm hs
  have he:=agZ h hs
  unfold LC at he
  rw[←hL] at he⊢
  refine rN.of hr he fun w hw=> ?_
  rw[agT hm hw]
  refine ij.ext (fun u hu=> ?_) hw
  rw[ud h (hL▸hu)]
 ·exact .inr ⟨ag0 h (by omega),by omega⟩
end
end Go.AM
set_option maxRecDepth 100000
namespace Go.AM
open Go.Proofs
noncomputable def Vm (C:ae) (s:List UInt8) (n:Int):Option (List V):=
 bif (decide (0≤(if n<(s.length:Int) then n else (s.length:Int))))&&(decide ((if n<(s.length:Int) then n else (s.length:Int))≤(s.length:Int))) then
  some [.str ((s.drop 0).take (((if n<(s.length:Int) then n else (s.length:Int):Int).toNat)-0))]
 else none
theorem ag2 {s:List UInt8} {n:Int} {r:Option (List V)} (h:Vm CC s n=r):CC Dr [.str s,.int .i64 n]=r:=
 bj (key:=42) (L:=cP) (bs:=[]) (by kernel_rfl) au (Eq.trans (by kernel_rfl) h)
end Go.AM
set_option maxRecDepth 100000
set_option linter.unusedSimpArgs false
namespace Go.AM
open Go.Proofs
theorem Bl {w:List UInt8} {L:Int}:cS w L↔1≤L∧L≤6∧w.length≤2048∧∀b∈w,0≤(b.toNat:Int)-97∧(b.toNat:Int)-97<L:=by
 unfold cS
 refine and_congr Iff.rfl (and_congr Iff.rfl (and_congr Iff.rfl ⟨fun h b hb=> ?_,fun h i hi=> ?_⟩))
 ·obtain ⟨i,hi,rfl⟩:=List.mem_iff_getElem.1 hb
  have:=h i hi
  unfold dP at this
  rwa [eU hi] at this
 ·unfold dP
  rw[eU hi]
  exact h _ (List.getElem_mem hi)
theorem cS.part {w v:List UInt8} {L:Int} (h:cS w L) (hl:v.length≤w.length) (hm: ∀b∈v,b∈w):cS v L:=by
 obtain ⟨h1,h2,h3,h4⟩:=Bl.1 h
 exact Bl.2 ⟨h1,h2,by omega,fun b hb=>h4 b (hm b hb)⟩
theorem cS.left {u v:List UInt8} {L:Int} (h:cS (u++v) L):cS u L:=h.part (by simp) fun b hb=>List.mem_append_left _ hb
theorem cS.right {u v:List UInt8} {L:Int} (h:cS (u++v) L):cS v L:=h.part (by simp) fun b hb=>List.mem_append_right _ hb
theorem cS.app {u v:List UInt8} {L:Int} (h1:cS u L) (h2:cS v L) (hl:u.length+v.length≤2048):cS (u++v) L:=by
 obtain ⟨a1,a2,_,a4⟩:=Bl.1 h1
 obtain ⟨_,_,_,b4⟩:=Bl.1 h2
 refine Bl.2 ⟨a1,a2,by rw[List.length_append];exact hl,fun b hb=> ?_⟩
 rcases List.mem_append.1 hb with hb|hb
 ·exact a4 b hb
 ·exact b4 b hb
theorem cS.cut {w:List UInt8} {L:Int} (h:cS w L) (i:Nat):cS ((w.drop 0).take (i-0)) L∧cS ((w.drop i).take (w.length-i)) L:=
 ⟨h.part (by simp[Nat.min_le_right]) fun b hb=>by
  have:=List.mem_of_mem_take hb
  simpa using this,h.part (by simp) fun b hb=>List.mem_of_mem_drop (List.mem_of_mem_take hb)⟩
theorem LL {w:List UInt8} (i:Nat):lets ((w.drop 0).take (i-0))=(lets w).take i∧lets ((w.drop i).take (w.length-i))=(lets w).drop i:=by
 unfold lets
 constructor
 ·simp
 ·rw[List.map_take,List.map_drop,List.take_of_length_le (by simp)]
theorem ag3 (s:List UInt8) (n:Nat):CC Dr [.str s,.int .i64 (n:Int)]=some [.str (s.take n)]:=by
 refine ag2 ?_
 unfold Vm
 by_cases h:(n:Int)<(s.length:Int)
 ·rw[if_pos h]
  refine bT (Bool.and_eq_true_iff.2 ⟨decide_eq_true (by omega),decide_eq_true (by omega)⟩) ?_
  simp
 ·rw[if_neg h]
  refine bT (Bool.and_eq_true_iff.2 ⟨decide_eq_true (by omega),decide_eq_true (by omega)⟩) ?_
  rw[Int.toNat_natCast,List.drop_zero,Nat.sub_zero,List.take_length,List.take_of_length_le (by omega)]
section
variable {a b:Da} (ha:a.Ok) (hb:b.Ok) (hL:a.L=b.L)
include ha hb hL
theorem ag4:rN (CC vw (jZ a (dQ b))) a.L ((minD a).n+(minD b).n) fun w=> ∃u v,w=u++v∧a.acc a.st u=true∧b.acc b.st v=true:=by
 have hm:=mQ ha
 have hk:=mQ hb
 have ug:=oU ha
 have LA:=oU hb
 have Bi:(minD a).L=(minD b).L:=by rw[ug,LA,hL]
 by_cases hs:(minD a).n+(minD b).n≤64
 ·have hr:=Vf hm hk Bi hs
  have he:=agN ha hb hL hs
  unfold Bh at he
  rw[ug] at hr he
  refine rN.of hr he fun w hw=> ?_
  rw[agQ hm hk Bi (by rw[ug];exact hw)]
  constructor
  ·rintro ⟨u,v,rfl,h1,h2⟩
   obtain ⟨w1,w2⟩:=WL.app.1 hw
   exact ⟨u,v,rfl,by rw[←ud ha w1];exact h1,by rw[←ud hb (hL▸w2)];exact h2⟩
  ·rintro ⟨u,v,rfl,h1,h2⟩
   obtain ⟨w1,w2⟩:=WL.app.1 hw
   exact ⟨u,v,rfl,by rw[ud ha w1];exact h1,by rw[ud hb (hL▸w2)];exact h2⟩
 ·exact .inr ⟨agO ha hb hL (by omega),by omega⟩
end
end Go.AM
set_option maxRecDepth 100000
set_option linter.unusedSimpArgs false
namespace Go.AM
open Go.Proofs
def eo:Da:=⟨2,0,[false,true],[[1,0],[0,1]]⟩
def lP:Da:=⟨2,0,[false,true],[[1,0],[1,1]]⟩
theorem Bm:eo.Ok:=⟨by decide,by decide,by decide,by decide,by decide,by decide⟩
theorem FT:lP.Ok:=⟨by decide,by decide,by decide,by decide,by decide,by decide⟩
theorem ag5:eo.Canon eo.L (eo.acc eo.st) where
 ok:=Bm
 hL:=rfl
 st:=rfl
 num:=⟨by decide,by decide,by decide⟩
 red:=fun p q hp hq h=>by
  have h0:=h [] WL.nil
  have hp':p<2:=hp
  have bM:q<2:=hq
  have: ∀p,p<2→∀q,q<2→eo.acc p []=eo.acc q []→p=q:=by decide
  exact this p hp' q bM h0
 jW:=fun _ _=>rfl
theorem ag6:lP.Canon lP.L (lP.acc lP.st) where
 ok:=FT
 hL:=rfl
 st:=rfl
 num:=⟨by decide,by decide,by decide⟩
 red:=fun p q hp hq h=>by
  have h0:=h [] WL.nil
  have hp':p<2:=hp
  have bM:q<2:=hq
  have: ∀p,p<2→∀q,q<2→lP.acc p []=lP.acc q []→p=q:=by decide
  exact this p hp' q bM h0
 jW:=fun _ _=>rfl
theorem Vn:minD eo=eo:=(Ag Bm ag5).symm
theorem ag7:ia (wV eo) 2 2=lP:=by kernel_rfl
theorem Vo: ¬gM (wV eo) 2 2:=by
 have:=wg (nM (Vb Bm (by decide))) (2^2)
 exact fun h=>absurd (Nat.lt_of_lt_of_le h this) (by decide)
theorem ag8:fj (wV eo) 2 2=lP:=by
 unfold fj
 rw[if_neg Vo,ag7]
 exact (Ag FT ag6).symm
end Go.AM
set_option maxRecDepth 100000
namespace Go.AM
open Go.Proofs
noncomputable def Vp (C:ae):Option (List V):=
 (C Dv []).bind fun r1=>
 (C Ds [.int .i64 ((V.nth r1 0).toInt),.int .i64 ((V.nth (r1.drop 1) 0).toInt),.list ax ((V.nth (r1.drop 2) 0).toList),.list aA ((V.nth ((r1.drop 2).drop 1) 0).toList)]).bind fun r2=>
 bif (((V.nth (r2.drop 2) 0).toInt):Int)==0 then
  bif ((((V.nth (r2.drop 3) 0).toList).length:Int):Int)==2 then
  (C iY [.int .i64 ((V.nth r2 0).toInt),.int .i64 ((V.nth (r2.drop 1) 0).toInt),.list ax ((V.nth (r2.drop 3) 0).toList),.list aA ((V.nth ((r2.drop 3).drop 1) 0).toList),.str [98,97,97]]).bind fun r3=>
  bif (V.nth r3 0).toBool then
   (C iY [.int .i64 ((V.nth r2 0).toInt),.int .i64 ((V.nth (r2.drop 1) 0).toInt),.list ax ((V.nth (r2.drop 3) 0).toList),.list aA ((V.nth ((r2.drop 3).drop 1) 0).toList),.str [98,98]]).bind fun r4=>
   some [.bool (!((V.nth r4 0).toBool))]
  else
   some [.bool false]
  else
  some [.bool false]
 else
  some [.bool false]
theorem ag9 {r:Option (List V)} (h:Vp CC=r):CC vu []=r:=
 bj (key:=19) (L:=cP) (bs:=[]) (by kernel_rfl) au (Eq.trans (by kernel_rfl) h)
end Go.AM
set_option maxRecDepth 100000
namespace Go.AM
open Go.Proofs
noncomputable def aha (C:ae):Option (List V):=
 some [.int .i64 2,.int .i64 0,.list ax ([.bool false,.bool true]:List V),.list aA ([.list ba ([.int .i64 1,.int .i64 0]:List V),.list ba ([.int .i64 0,.int .i64 1]:List V)]:List V)]
theorem ahb {r:Option (List V)} (h:aha CC=r):CC Dv []=r:=
 bj (key:=59) (L:=cP) (bs:=[]) (by kernel_rfl) au (Eq.trans (by kernel_rfl) h)
end Go.AM
set_option maxRecDepth 100000
set_option linter.unusedSimpArgs false
namespace Go.AM
open Go.Proofs
def Vq:List Ed:=[⟨0,0,1⟩,⟨0,1,0⟩,⟨1,0,0⟩,⟨1,1,1⟩,⟨0,0,0⟩,⟨0,1,0⟩,⟨1,0,1⟩,⟨1,1,1⟩]
def LM:List Ed:=[⟨0,0,0⟩,⟨0,0,1⟩,⟨0,1,0⟩,⟨0,1,0⟩,⟨1,0,0⟩,⟨1,0,1⟩,⟨1,1,1⟩,⟨1,1,1⟩]
def FU:List Ed:=[⟨0,0,0⟩,⟨0,0,1⟩,⟨0,1,0⟩,⟨1,0,0⟩,⟨1,0,1⟩,⟨1,1,1⟩]
theorem ahc:dR eo 0++jg 2 2=Vq:=by decide
theorem ahd:CC yI [.list an (Vq.map Ed.enc)]=some [.list an (LM.map Ed.enc)]:=Zn (N:=40) (n:=40) (by kernel_rfl)
theorem ahe:wV eo=⟨2,2,1,2,FU⟩:=by kernel_rfl
theorem ahf:CC pN (aN 2 2 (2^eo.st) (gg 0 eo.fin 0 2) (dR eo 0++jg 2 2))=some (K6 lP 0 ⟨2,2,1,2,FU⟩):=by
 obtain ⟨b,e2⟩:=TB (l:=LM) (by decide)
 have hc:gO LM=FU:=by decide
 rw[hc] at e2
 have e3:=UE (nM (Vb Bm (by decide)))
 rw[show cv eo.L eo.n (2^eo.st) (gg 0 eo.fin 0 eo.n) (dR eo 0++jg eo.L eo.n)=wV eo from rfl,show eo.L=2 from rfl,show eo.n=2 from rfl,ag8,show mP (wV eo) 2 2=0 from if_neg Vo,ahe] at e3
 rw[ahc]
 refine UD ?_
 unfold K5
 refine bs ahd ?_
 refine bs e2 ?_
 cases b
 ·refine bF rfl ?_
  refine bs e3 ?_
  rfl
 ·refine bT rfl ?_
  refine bs e3 ?_
  rfl
theorem LN:CC vu []=some [.bool true]:=by
 have h1:CC Dv []=some (dQ eo):=ahb rfl
 have h2:=agI Bm (X:=lP) (e:=0) (n:=⟨2,2,1,2,FU⟩) (by rw[Vn];decide) (by rw[Vn];exact ahf)
 refine ag9 ?_
 unfold Vp
 refine bs h1 ?_
 refine bs h2 ?_
 refine bT rfl (bT (by decide) ?_)
 refine bs (tC FT (w:=[98,97,97]) (by decide)) ?_
 refine bT (by decide) ?_
 refine bs (tC FT (w:=[98,98]) (by decide)) ?_
 rw[show lP.acc lP.st (lets [98,98])=false by decide]
 rfl
end Go.AM
set_option maxRecDepth 100000
namespace Go.AM
open Go.Proofs
noncomputable abbrev Vr:Code:=cy Tryd.prog (ar.aP 10)
noncomputable def Bn (C:ae) (w:List UInt8) (jG jH:Int) (jf ic:List V) (lN lO:Int) (kR j8:List V) (Vs Vt Bo Bp:Int) (fP ej ct bR:List V) (cat rep:Bool) (i:Int) {β:Type} (kn:(Bool × Bool × Int)→Option β) (kr:(Bool × Bool × Int × Bool)→Option β):Option β:=
 bif decide ((i:Int)≤(w.length:Int)) then
  bif cat then
  bif rep then
   kn (true,true,IntKind.wrap .i64 (i+1))
  else
   bif decide ((i:Int)>0) then
   bif (decide (0≤i))&&(decide (i≤(w.length:Int))) then
    (C iY [.int .i64 jG,.int .i64 jH,.list ax jf,.list aA ic,.str ((w.drop 0).take (((i:Int).toNat)-0))]).bind fun r8=>
    bif (V.nth r8 0).toBool then
    bif (decide (0≤i))&&(decide (i≤(w.length:Int))) then
     (C iY [.int .i64 Bo,.int .i64 Bp,.list ax ct,.list aA bR,.str ((w.drop ((i:Int).toNat)).take (w.length-((i:Int).toNat)))]).bind fun r9=>
     kn (true,(V.nth r9 0).toBool,IntKind.wrap .i64 (i+1))
    else none
    else
    kn (true,false,IntKind.wrap .i64 (i+1))
   else none
   else
   kn (true,false,IntKind.wrap .i64 (i+1))
  else
  bif (decide (0≤i))&&(decide (i≤(w.length:Int))) then
   (C iY [.int .i64 jG,.int .i64 jH,.list ax jf,.list aA ic,.str ((w.drop 0).take (((i:Int).toNat)-0))]).bind fun r10=>
   bif (V.nth r10 0).toBool then
   bif (decide (0≤i))&&(decide (i≤(w.length:Int))) then
    (C iY [.int .i64 lN,.int .i64 lO,.list ax kR,.list aA j8,.str ((w.drop ((i:Int).toNat)).take (w.length-((i:Int).toNat)))]).bind fun qs=>
    bif rep then
    kn ((V.nth qs 0).toBool,true,IntKind.wrap .i64 (i+1))
    else
    bif decide ((i:Int)>0) then
     bif (decide (0≤i))&&(decide (i≤(w.length:Int))) then
     (C iY [.int .i64 jG,.int .i64 jH,.list ax jf,.list aA ic,.str ((w.drop 0).take (((i:Int).toNat)-0))]).bind fun ja=>
     bif (V.nth ja 0).toBool then
      bif (decide (0≤i))&&(decide (i≤(w.length:Int))) then
      (C iY [.int .i64 Bo,.int .i64 Bp,.list ax ct,.list aA bR,.str ((w.drop ((i:Int).toNat)).take (w.length-((i:Int).toNat)))]).bind fun Kz=>
      kn ((V.nth qs 0).toBool,(V.nth Kz 0).toBool,IntKind.wrap .i64 (i+1))
      else none
     else
      kn ((V.nth qs 0).toBool,false,IntKind.wrap .i64 (i+1))
     else none
    else
     kn ((V.nth qs 0).toBool,false,IntKind.wrap .i64 (i+1))
   else none
   else
   bif rep then
    kn (false,true,IntKind.wrap .i64 (i+1))
   else
    bif decide ((i:Int)>0) then
    bif (decide (0≤i))&&(decide (i≤(w.length:Int))) then
     (C iY [.int .i64 jG,.int .i64 jH,.list ax jf,.list aA ic,.str ((w.drop 0).take (((i:Int).toNat)-0))]).bind fun ig=>
     bif (V.nth ig 0).toBool then
     bif (decide (0≤i))&&(decide (i≤(w.length:Int))) then
      (C iY [.int .i64 Bo,.int .i64 Bp,.list ax ct,.list aA bR,.str ((w.drop ((i:Int).toNat)).take (w.length-((i:Int).toNat)))]).bind fun dW=>
      kn (false,(V.nth dW 0).toBool,IntKind.wrap .i64 (i+1))
     else none
     else
     kn (false,false,IntKind.wrap .i64 (i+1))
    else none
    else
    kn (false,false,IntKind.wrap .i64 (i+1))
  else none
 else
  kr (cat,rep,i,decide ((i:Int)≤(w.length:Int)))
noncomputable def FV (C:ae) (w:List UInt8) (jG jH:Int) (jf ic:List V) (lN lO:Int) (kR j8:List V) (Vs Vt Bo Bp:Int) (fP ej ct bR:List V):(Bool × Bool × Int)→Option ((Bool × Bool × Int) ⊕ (Bool × Bool × Int × Bool)):=un fun cat=>un fun rep i=>Bn C w jG jH jf ic lN lO kR j8 Vs Vt Bo Bp fP ej ct bR cat rep i (fun y=>some (.inl y)) (fun r=>some (.inr r))
noncomputable def Vu (C:ae):cq:=fun β n ds k=>
 bif Nat.beq n 161 then bA Ix [false,true,true,true,false,false,false,false,false,false,false,false,false,false,false,false,false,false,false,false] [[1,0,0,0,0,5,6,7,8,9,10,11,12,13,14,15,16,17,18,19,20]] (@Bn C) ds k else
 none
abbrev ahg (C:ae) (b:cl):Prop:=cm Tryd.prog ar C (Vu C) 10 (cE Tryd.prog (ar.aP 10)) (ar.sin 10).aO.length b
theorem ahh (C:ae):ahg C (.loop (ao [1,1,1,1,1,1,1,0,1,0,0] Vr)):=
 bD Ix [false,true,true,true,false,false,false,false,false,false,false,false,false,false,false,false,false,false,false,false] [[1,0,0,0,0,5,6,7,8,9,10,11,12,13,14,15,16,17,18,19,20]] (@Bn C) (by kernel_rfl) (aT (bs:=[]) (by kernel_rfl) au) (fun ds=>by kernel_rfl) (fun i x=>by kernel_rfl) (fun i x β k=>by kernel_rfl) (fun β ds k=>by kernel_rfl)
noncomputable def FW (C:ae) (cU dy:Int) (db di:List V) (dj dA:Int) (dz dB:List V) (w:List UInt8):Option (List V):=
 (C Dr [.str w,.int .i64 8]).bind fun r1=>
 (C Dn [.int .i64 cU,.int .i64 dy,.list ax db,.list aA di,.int .i64 dj,.int .i64 dA,.list ax dz,.list aA dB,.int .i64 4]).bind fun r2=>
 bif !((V.nth r2 0).toBool) then
  (C vu []).bind fun r3=>
  some [.bool ((V.nth r3 0).toBool)]
 else
  (C Dp [.str ((V.nth r1 0).toStr),.int .i64 cU]).bind fun r4=>
  bif !((V.nth r4 0).toBool) then
  (C vu []).bind fun r5=>
  some [.bool ((V.nth r5 0).toBool)]
  else
  (C vw [.int .i64 cU,.int .i64 dy,.list ax db,.list aA di,.int .i64 dj,.int .i64 dA,.list ax dz,.list aA dB]).bind fun r6=>
  (C vy [.int .i64 cU,.int .i64 dy,.list ax db,.list aA di]).bind fun r7=>
  bif (((V.nth (r6.drop 2) 0).toInt):Int) != 0 then
   some [.bool false]
  else
   bif (((V.nth (r7.drop 2) 0).toInt):Int) != 0 then
   some [.bool false]
   else
   (Loop (FV C ((V.nth r1 0).toStr) cU dy db di dj dA dz dB ((V.nth r6 0).toInt) ((V.nth (r6.drop 1) 0).toInt) ((V.nth r7 0).toInt) ((V.nth (r7.drop 1) 0).toInt) ((V.nth (r6.drop 3) 0).toList) ((V.nth ((r6.drop 3).drop 1) 0).toList) ((V.nth (r7.drop 3) 0).toList) ((V.nth ((r7.drop 3).drop 1) 0).toList)) (false,((V.nth r1 0).toStr)==[],0)).bind (un fun (ahi:Bool)=>un fun (ahj:Bool)=>un fun (aid:Int) (aie:Bool)=>
    (C iY [.int .i64 ((V.nth r6 0).toInt),.int .i64 ((V.nth (r6.drop 1) 0).toInt),.list ax ((V.nth (r6.drop 3) 0).toList),.list aA ((V.nth ((r6.drop 3).drop 1) 0).toList),.str ((V.nth r1 0).toStr)]).bind fun gf=>
    bif ((V.nth gf 0).toBool)==ahi then
     (C iY [.int .i64 ((V.nth r7 0).toInt),.int .i64 ((V.nth (r7.drop 1) 0).toInt),.list ax ((V.nth (r7.drop 3) 0).toList),.list aA ((V.nth ((r7.drop 3).drop 1) 0).toList),.str ((V.nth r1 0).toStr)]).bind fun nK=>
     bif ((V.nth nK 0).toBool)==ahj then
     (C vu []).bind fun iJ=>
     some [.bool ((V.nth iJ 0).toBool)]
     else
     some [.bool false]
    else
     some [.bool false])
theorem LO {cU dy:Int} {db di:List V} {dj dA:Int} {dz dB:List V} {w:List UInt8} {r:Option (List V)} (h:FW CC cU dy db di dj dA dz dB w=r):CC Ie [.int .i64 cU,.int .i64 dy,.list ax db,.list aA di,.int .i64 dj,.int .i64 dA,.list ax dz,.list aA dB,.str w]=r:=
 bj (key:=10) (L:=Vu CC) (bs:=[.loop (ao [1,1,1,1,1,1,1,0,1,0,0] Vr)]) (by kernel_rfl) (bm (ahh CC) au) (Eq.trans (by kernel_rfl) h)
end Go.AM
set_option maxRecDepth 100000
set_option linter.unusedSimpArgs false
namespace Go.AM
open Go.Proofs
def rO (P Q:Nat→Bool) (i:Nat):Bool:=(List.range i).any fun j=>P j&&Q j
def rP (e:Bool) (P R:Nat→Bool) (i:Nat):Bool:=e||(List.range i).any fun j=>decide (0<j)&&(P j&&R j)
theorem ahk {P Q:Nat→Bool} {i:Nat}:rO P Q (i+1)=(rO P Q i||(P i&&Q i)):=by simp[rO,List.range_succ]
theorem ahl {e:Bool} {P R:Nat→Bool} {i:Nat}:rP e P R (i+1)=(rP e P R i||(decide (0<i)&&(P i&&R i))):=by simp[rP,List.range_succ,Bool.or_assoc]
section
variable {a b s:Da} {w:List UInt8}
theorem ahm (ha:a.Ok) (hb:b.Ok) (hs:s.Ok) (h1:cS w (a.L:Int)) (h2:cS w (b.L:Int)) (h3:cS w (s.L:Int)) {c1 c2:Int} {l1 l2:List V}:
  Loop (FV CC w (a.L:Int) (a.st:Int) a.cu a.cD (b.L:Int) (b.st:Int) b.cu b.cD c1 c2 (s.L:Int) (s.st:Int) l1 l2 s.cu s.cD) (false,w==[],0)=
   some (rO (fun i=>a.acc a.st ((lets w).take i)) (fun i=>b.acc b.st ((lets w).drop i)) (w.length+1),rP (w==[]) (fun i=>a.acc a.st ((lets w).take i)) (fun i=>s.acc s.st ((lets w).drop i)) (w.length+1),((w.length+1:Nat):Int),false):=by
 have hl:=h1.2.2.1
 generalize hP:(fun i=>a.acc a.st ((lets w).take i))=P
 generalize hQ:(fun i=>b.acc b.st ((lets w).drop i))=Q
 generalize hR:(fun i=>s.acc s.st ((lets w).drop i))=R
 refine ua (w.length+1) (fun i=>(rO P Q i,rP (w==[]) P R i,(i:Int))) _ (by simp[rO,rP]) (fun i hi=> ?_) ?_
 ·have hA:=tC ha (h1.cut i).1
  have hB:=tC hb (h2.cut i).2
  have hS:=tC hs (h3.cut i).2
  rw[(LL i).1,show a.acc a.st ((lets w).take i)=P i from congrFun hP i] at hA
  rw[(LL i).2,show b.acc b.st ((lets w).drop i)=Q i from congrFun hQ i] at hB
  rw[(LL i).2,show s.acc s.st ((lets w).drop i)=R i from congrFun hR i] at hS
  have FX:((decide (0≤(i:Int)))&&(decide ((i:Int)≤(w.length:Int))))=true:=Bool.and_eq_true_iff.2 ⟨decide_eq_true (by omega),decide_eq_true (by omega)⟩
  simp only[FV,Bn,un]
  rw[ahk,ahl]
  generalize rO P Q i=cat
  generalize rP (w==[]) P R i=rep
  rw[Int.toNat_natCast,dh (by omega)]
  have key: ∀c:Bool,(bif rep then (some (Sum.inl (c,true,((i+1:Nat):Int))):Option ((Bool × Bool × Int) ⊕ (Bool × Bool × Int × Bool)))
    else
     bif decide ((i:Int)>0) then
     bif (decide (0≤(i:Int)))&&(decide ((i:Int)≤(w.length:Int))) then
      (CC iY (jZ a [.str ((w.drop 0).take (i-0))])).bind fun r8=>
      bif (V.nth r8 0).toBool then
       bif (decide (0≤(i:Int)))&&(decide ((i:Int)≤(w.length:Int))) then
       (CC iY (jZ s [.str ((w.drop i).take (w.length-i))])).bind fun r9=>
       some (Sum.inl (c,(V.nth r9 0).toBool,((i+1:Nat):Int)))
       else none
      else some (Sum.inl (c,false,((i+1:Nat):Int)))
     else none
     else some (Sum.inl (c,false,((i+1:Nat):Int))))=some (Sum.inl (c,rep||(decide (0<i)&&(P i&&R i)),((i+1:Nat):Int))):=by
   intro c
   cases rep with
   | true=>exact bT rfl rfl
   | false=>
    refine bF rfl ?_
    by_cases h0:0<i
    ·refine bT (decide_eq_true (by omega)) (bT FX ?_)
     refine bs hA ?_
     rw[decide_eq_true h0]
     cases hp:P i with
     | true=>
      refine bT rfl (bT FX ?_)
      refine bs hS ?_
      rfl
     | false=>exact bF rfl rfl
    ·refine bF (decide_eq_false (by omega)) ?_
     rw[decide_eq_false h0]
     rfl
  refine bT (decide_eq_true (by omega)) ?_
  cases cat with
  | true=>exact bT rfl (key true)
  | false=>
   refine bF rfl (bT FX ?_)
   refine bs hA ?_
   cases hp:P i with
   | true=>
    refine bT rfl (bT FX ?_)
    refine bs hB ?_
    have:=key (Q i)
    rw[hp] at this
    exact this
   | false=>
    refine bF rfl ?_
    have:=key false
    rw[hp] at this
    exact this
 ·simp only[FV,Bn,un]
  have e:decide (((w.length+1:Nat):Int)≤(w.length:Int))=false:=decide_eq_false (by omega)
  refine bF e ?_
  rw[e]
end
theorem Vv {p:List Nat→List Nat→Prop} {w:List Nat}:(∃u v,w=u++v∧p u v)↔∃i,i<w.length+1∧p (w.take i) (w.drop i):=by
 constructor
 ·rintro ⟨u,v,rfl,h⟩
  exact ⟨u.length,by rw[List.length_append];omega,by simpa using h⟩
 ·rintro ⟨i,_,h⟩
  exact ⟨_,_,(List.take_append_drop i w).symm,h⟩
theorem ahn {w:List UInt8}:lets w=[]↔w=[]:=by simp[lets]
theorem Vy (d:Df) (hd:d.Ok) (e:Df) (he:e.Ok) (w0:List UInt8):CC Ie (kT d (kT e [.str w0]))=some [.bool true]:=by
 have hW:=ag3 w0 8
 have hB:=agw hd he 4
 generalize hw0:w0.take 8=w at hW
 by_cases h4:(d.F.length:Int)≤4∧(e.F.length:Int)≤4∧wS d e=0
 case neg=>
  rw[decide_eq_false h4] at hB
  refine LO ?_
  unfold FW
  refine bs hW ?_
  refine bs hB (bT rfl ?_)
  exact bs LN rfl
 rw[decide_eq_true h4] at hB
 obtain ⟨a,b,ha,hb,hL,rfl,rfl⟩:=agv h4.2.2
 have n1:(a.n:Int)≤4:=h4.1
 have n2:(b.n:Int)≤4:=h4.2.1
 have n3:=Lo ha
 have n4:=Lo hb
 rw[ha.leaves,hb.leaves] at*
 by_cases hw:cS w (a.L:Int)
 case neg=>
  refine LO ?_
  unfold FW
  refine bs hW ?_
  refine bs hB (bF rfl ?_)
  refine bs (RT w a.L) (bT (by rw[V.bS,V.lu,decide_eq_false hw];rfl) ?_)
  exact bs LN rfl
 obtain ⟨c,hc,rc,_⟩:=(ag4 ha hb hL).small (by omega)
 obtain ⟨s,hs,rs,_⟩:=(ag1 ha).small (by omega)
 have wb:cS w (b.L:Int):=hL▸hw
 have wc:cS w (c.L:Int):=by rw[rc.hL];exact hw
 have ws:cS w (s.L:Int):=by rw[rs.hL];exact hw
 have LP:=hw.WL
 refine LO ?_
 unfold FW
 refine bs hW ?_
 refine bs hB (bF rfl ?_)
 refine bs (RT w a.L) (bF (by rw[V.bS,V.lu,decide_eq_true hw];rfl) ?_)
 refine bs hc ?_
 refine bs hs ?_
 refine bF rfl (bF rfl ?_)
 refine bs (ahm ha hb rs.ok hw wb ws) ?_
 simp only[un]
 refine bs (tC rc.ok wc) ?_
 refine bT ?_ ?_
 ·rw[V.bS,V.lu,beq_iff_eq]
  refine rc.acc LP ?_
  rw[Vv (p:=fun u v=>a.acc a.st u=true∧b.acc b.st v=true)]
  unfold rO
  rw[List.any_eq_true,qd]
  simp only[List.mem_range,Bool.and_eq_true]
 refine bs (tC rs.ok ws) ?_
 refine bT ?_ (bs LN rfl)
 rw[V.bS,V.lu,beq_iff_eq]
 refine rs.acc LP ?_
 rw[ij.iff,Vv (p:=fun u v=>u≠[]∧a.acc a.st u=true∧ij (fun u=>a.acc a.st u=true) v),ahn]
 unfold rP
 rw[Bool.or_eq_true,List.any_eq_true,qd]
 refine or_congr (by simp) (exists_congr fun i=> ?_)
 simp only[List.mem_range,Bool.and_eq_true,decide_eq_true_eq]
 refine and_congr_right fun hi=> ?_
 have hd:WL a.L ((lets w).drop i):=fun x hx=>LP x (List.mem_of_mem_drop hx)
 rw[rs.jW _ hd]
 by_cases h0:w=[]
 ·subst h0
  obtain rfl:i=0:=by simpa using hi
  simp[lets]
 ·have hl:0<w.length:=List.length_pos_iff.2 h0
  have:(lets w).take i≠[]↔0<i:=by
   rw[←List.length_pos_iff,List.length_take,qd];omega
  rw[this]
end Go.AM
set_option maxRecDepth 100000
namespace Go.AM
open Go.Proofs
theorem WT.LQ {P:Program} {t:TypeId} {x:V} (hu:P.underlying t=some (.int .i64)) (h:WT P t x): ∃n:Int,x= .int .i64 n∧ -9223372036854775808≤n∧n≤9223372036854775807:=by
 obtain ⟨n,rfl,h1,h2⟩:=h.dV hu
 have e1:IntKind.min .i64= -9223372036854775808:=by decide
 have e2:IntKind.max .i64=9223372036854775807:=by decide
 rw[e1] at h1
 rw[e2] at h2
 exact ⟨n,rfl,h1,h2⟩
theorem aho {α:Type} {l:List α} (h:l.length=4): ∃a b c d,l=[a,b,c,d]:=by
 match l,h with
 | [a,b,c,d],_=>exact ⟨a,b,c,d,rfl⟩
theorem ahp {x:V} (h:gh Tryd.prog aA x): ∃r:List Int,x=jX r∧(r.length≤maxLen∧∀q∈r,-9223372036854775808≤q∧q≤9223372036854775807):=by
 have hu:Tryd.prog.underlying aA=some (.slice ba):=by kernel_rfl
 have hi:Tryd.prog.underlying ba=some (.int .i64):=by kernel_rfl
 obtain ⟨es,rfl,e1,e2⟩:=WT.H0 hu (gh.one (by kernel_rfl) h)
 obtain ⟨r,rfl,hr⟩:=H2 (f:=iV) (p:=fun q=> -9223372036854775808≤q∧q≤9223372036854775807) fun y hy=>WT.LQ hi (gh.one (by kernel_rfl) (e2 y hy))
 exact ⟨r,rfl,by simpa using e1,hr⟩
def Df.enc (d:Df):V:= .agg (kT d [])
theorem LR {t:TypeId} {x:V} (ha:bt Tryd.prog t=true) (he:aL Tryd.prog t=[ba,ba,Ih,Ii]) (h:gh Tryd.prog t x): ∃d:Df,x=d.enc∧d.Ok:=by
 obtain ⟨xs,rfl,hl,hx⟩:=gh.jO ha h
 rw[he] at hl
 obtain ⟨a,b,c,d,rfl⟩:=aho hl
 have hu:Tryd.prog.underlying ba=some (.int .i64):=by kernel_rfl
 have hb:Tryd.prog.underlying ax=some .bool:=by kernel_rfl
 have hv:Tryd.prog.underlying Ih=some (.slice ax):=by kernel_rfl
 have hw:Tryd.prog.underlying Ii=some (.slice aA):=by kernel_rfl
 obtain ⟨L,rfl,l1,l2⟩:=WT.LQ hu (hx 0 ba a (by rw[he];rfl) rfl)
 obtain ⟨S,rfl,s1,s2⟩:=WT.LQ hu (hx 1 ba b (by rw[he];rfl) rfl)
 obtain ⟨fs,rfl,f1,f2⟩:=WT.H0 hv (hx 2 Ih c (by rw[he];rfl) rfl)
 obtain ⟨ns,rfl,n1,n2⟩:=WT.H0 hw (hx 3 Ii d (by rw[he];rfl) rfl)
 obtain ⟨F,rfl⟩:=Pl (f:=V.bool) fun y hy=>WT.iR hb (gh.one (by kernel_rfl) (f2 y hy))
 obtain ⟨N,rfl,hN⟩:=H2 (f:=jX) fun y hy=>ahp (n2 y hy)
 exact ⟨⟨L,S,F,N⟩,rfl,l1,l2,s1,s2,by simpa using f1,by simpa using n1,hN⟩
end Go.AM
