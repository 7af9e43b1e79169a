/-
  Functions of the program, lifted to plain data.
-/
import Derived.Test.YtpigoedhkpjgeaaGreatDoorP6
set_option linter.unusedVariables false
set_option linter.unusedSimpArgs false
set_option linter.unusedSectionVars false
set_option maxRecDepth 100000
namespace Go.AM
open Go.IntKind (wrap)
open Go.Proofs
noncomputable def GL (C:af) (data:LV) (i j k':Int) (t34:Bool) (jJ:Int) {β:Type} (kr:(Int×Int×Int×Int)→Option β):Option β:=
 bif t34 then
  (C AG [.list ae data,V.int .i64 i,V.int .i64 jJ]).bind fun r1=>
  (C AG [.list ae data,V.int .i64 j,V.int .i64 ((V.nth (r1.drop 1) 0).toInt)]).bind fun r2=>
  (C AG [.list ae data,V.int .i64 k',V.int .i64 ((V.nth (r2.drop 1) 0).toInt)]).bind fun r3=>
  kr ((V.nth r1 0).toInt,(V.nth r2 0).toInt,(V.nth r3 0).toInt,(V.nth (r3.drop 1) 0).toInt)
 else
  kr (i,j,k',jJ)
noncomputable def GM (C:af) (data:LV) (l i j k':Int) (t32:Bool) (jJ:Int) {β:Type} (kr:(Int×Int)→Option β):Option β:=
 bif t32 then
  GL C data i j k' (decide (l≥50)) jJ (un fun mc=>un fun j_5=>un fun (k_6:Int) (aqG:Int)=>
   (C Ei [.list ae data,V.int .i64 mc,V.int .i64 j_5,V.int .i64 k_6,V.int .i64 aqG]).bind fun r8=>
   kr ((V.nth r8 0).toInt,(V.nth (r8.drop 1) 0).toInt))
 else
  kr (j,jJ)
noncomputable def adR (C:af):cz:=pb 559 Si [[1,0,0,0,0]] (@GL C) (pb 527 Sj [[0,0]] (@GM C) bB)
theorem aqH (C:af):bc C (adR C) 91 (Cd 34 [1,1,1,1,1,1,0,1,0,0,1,0] [1,1,1,1,1,1,0,1,0,0,1,1] 91):=o9 Si [[1,0,0,0,0]] (@GL C) (aR av) (aR av)
theorem aqI (C:af):bc C (adR C) 91 (Cd 32 [1,1,1,1,1,1,0,1,0] [1,1,1,1,1,1,0,1,1] 91):=o9 Sj [[0,0]] (@GM C) (aR (ba (aqH C) av)) (aR av)
noncomputable def Uu (C:af) (data:LV) (a b':Int):Option LV:=
 GM C data (wrap .i64 (b'-a)) (wrap .i64 (a+(wrap .i64 (1*(wrap .i64 (Int.tdiv (wrap .i64 (b'-a)) 4)))))) (wrap .i64 (a+(wrap .i64 (2*(wrap .i64 (Int.tdiv (wrap .i64 (b'-a)) 4)))))) (wrap .i64 (a+(wrap .i64 (3*(wrap .i64 (Int.tdiv (wrap .i64 (b'-a)) 4)))))) (decide (((wrap .i64 (b'-a)):Int)≥8)) 0 (un fun (Uv:Int) (adS:Int)=>
  bif (adS:Int)==0 then
   some [V.int .i64 Uv,V.int .i64 1]
  else
   bif (adS:Int)==12 then
   some [V.int .i64 Uv,V.int .i64 2]
   else
   some [V.int .i64 Uv,V.int .i64 0])
theorem adT {data:LV} {a b':Int} {r:Option LV} (h:Uu CC data a b'=r):CC Ed [.list ae data,V.int .i64 a,V.int .i64 b']=r:=bA (ba (aqI CC) av) h
noncomputable def adU (C:af) (data:LV) (a b' c jJ:Int):Option LV:=
 (C AH [.list ae data,V.int .i64 a,V.int .i64 b',V.int .i64 jJ]).bind fun r1=>
 (C AH [.list ae data,V.int .i64 ((V.nth (r1.drop 1) 0).toInt),V.int .i64 c,V.int .i64 ((V.nth (r1.drop 2) 0).toInt)]).bind fun r2=>
 (C AH [.list ae data,V.int .i64 ((V.nth r1 0).toInt),V.int .i64 ((V.nth r2 0).toInt),V.int .i64 ((V.nth (r2.drop 2) 0).toInt)]).bind fun r3=>
 some [V.int .i64 ((V.nth (r3.drop 1) 0).toInt),V.int .i64 ((V.nth (r3.drop 2) 0).toInt)]
theorem aqJ {data:LV} {a b' c jJ:Int} {r:Option LV} (h:adU CC data a b' c jJ=r):CC Ei [.list ae data,V.int .i64 a,V.int .i64 b',V.int .i64 c,V.int .i64 jJ]=r:=bA (L:=bB) av h
noncomputable def Uw (C:af) (data:LV) (a b' jJ:Int):Option LV:=
 (idx data b').bind fun x1=>
 (idx data a).bind fun x2=>
 (C jC [V.int .i64 x1.toInt,V.int .i64 x2.toInt]).bind fun r3=>
 bif (V.nth r3 0).toBool then
  some [V.int .i64 b',V.int .i64 a,V.int .i64 (wrap .i64 (jJ+1))]
 else
  some [V.int .i64 a,V.int .i64 b',V.int .i64 jJ]
theorem adV {data:LV} {a b' jJ:Int} {r:Option LV} (h:Uw CC data a b' jJ=r):CC AH [.list ae data,V.int .i64 a,V.int .i64 b',V.int .i64 jJ]=r:=bA (L:=bB) av h
noncomputable def adW (C:af) (data:LV) (a jJ:Int):Option LV:=
 (C Ei [.list ae data,V.int .i64 (wrap .i64 (a-1)),V.int .i64 a,V.int .i64 (wrap .i64 (a+1)),V.int .i64 jJ]).bind fun r1=>
 some [V.int .i64 ((V.nth r1 0).toInt),V.int .i64 ((V.nth (r1.drop 1) 0).toInt)]
theorem aqK {data:LV} {a jJ:Int} {r:Option LV} (h:adW CC data a jJ=r):CC AG [.list ae data,V.int .i64 a,V.int .i64 jJ]=r:=bA (L:=bB) av h
noncomputable def ML (C:af) (a length BD qm other:Int) (t43:Bool) (an:LV) (GN:Int) {β:Type} (kr:(Int)→Option β):Option β:=
 bif t43 then
  kr (wrap .i64 (other-length))
 else
  kr other
noncomputable def GO (C:af) (a length BD qm:Int) (an:LV) (GN:Int) {β:Type} (kn:(Int×LV×Int)→Option β) (kr:(Int×Bool×LV×Int)→Option β):Option β:=
 bif decide (qm≤(wrap .i64 ((wrap .i64 (a+(wrap .i64 (2*(wrap .i64 (Int.tdiv length 4))))))+1))) then
  (C KD [.int .u64 GN]).bind fun r2=>
  ML C a length BD qm (wrap .i64 (wrap .u64 ((BitVec.ofInt (IntKind.bits .u64) ((V.nth r2 0).toInt)&&&BitVec.ofInt (IntKind.bits .u64) (wrap .u64 (BD-1))).toNat))) (decide (((wrap .i64 (wrap .u64 ((BitVec.ofInt (IntKind.bits .u64) ((V.nth r2 0).toInt)&&&BitVec.ofInt (IntKind.bits .u64) (wrap .u64 (BD-1))).toNat))):Int)≥length)) an ((V.nth (r2.drop 1) 0).toInt) (fun Ux=>
   ar an (wrap .i64 (a+Ux)) fun x4=>
   ar an qm fun x5=>
   ar an qm fun x6=>
   ar (aE an qm (V.int .i64 x4.toInt)) (wrap .i64 (a+Ux)) fun x7=>
   kn (wrap .i64 (qm+1),aE (aE an qm (V.int .i64 x4.toInt)) (wrap .i64 (a+Ux)) (V.int .i64 x5.toInt),(V.nth (r2.drop 1) 0).toInt))
 else
  kr (qm,decide (qm≤(wrap .i64 ((wrap .i64 (a+(wrap .i64 (2*(wrap .i64 (Int.tdiv length 4))))))+1))),an,GN)
noncomputable def MM (C:af) (a length BD:Int):=un fun qm=>un fun an GN=>GO C a length BD qm an GN (fun y=>some (Sum.inl y)) (fun r=>some (Sum.inr r))
noncomputable def adX (C:af):cz:=pb 703 Sg [[1,2,3,4,0,7,8]] (@ML C) (bt 81 Sh [EQ,EQ,EQ,H1,H1,H1] [[1,2,3,0,0,0,0]] (@GO C) bB)
theorem aqL (C:af):bc C (adX C) 90 (Cd 43 [1,1,0,1,1,1,0,0,1,0,0,1,0,1,0] [1,1,0,1,1,1,0,0,1,0,0,1,0,1,1] 90):=o9 Sg [[1,2,3,4,0,7,8]] (@ML C) (aR av) (aR av)
theorem aqM (C:af):bc C (adX C) 90 (Lp [1,1,0,1,1,1,0,0] 90):=br Sh [EQ,EQ,EQ,H1,H1,H1] [[1,2,3,0,0,0,0]] (@GO C) (aR (ba (aqL C) av))
noncomputable def adY (C:af) (a b':Int) (an:LV):Option LV:=
 bif decide (((wrap .i64 (b'-a)):Int)≥8) then
  (C KC [V.int .i64 (wrap .i64 (b'-a))]).bind fun r1=>
  (Loop (MM C a (wrap .i64 (b'-a)) ((V.nth r1 0).toInt)) (wrap .i64 ((wrap .i64 (a+(wrap .i64 (2*(wrap .i64 (Int.tdiv (wrap .i64 (b'-a)) 4))))))-1),an,wrap .u64 (wrap .i64 (b'-a)))).bind (un fun au4=>un fun (mO:Bool)=>un fun (rC:LV) (au5:Int)=>
   some [.list ae rC])
 else
  some [.list ae an]
theorem aqN {a b':Int} {an:LV} {r:Option LV} (h:adY CC a b' an=r):CC Kv [V.int .i64 a,V.int .i64 b',.list ae an]=r:=bA (ba (aqM CC) av) h
noncomputable def adZ (C:af) (xs:LV):Option LV:=
 (C D7 [.int .u64 (wrap .u64 (xs.length:Int))]).bind fun r1=>
 (C jc [V.int .i64 0,V.int .i64 (xs.length:Int),V.int .i64 ((V.nth r1 0).toInt),.list ae xs]).bind fun r2=>
 some [.list ae ((V.nth r2 0).toList)]
theorem aqO {xs:LV} {r:Option LV} (h:adZ CC xs=r):CC D3 [.list ae xs]=r:=bA (L:=bB) av h
noncomputable def ad0 (C:af) (kD:Int):Option LV:=
 some [.int .u64 (wrap .u64 ((BitVec.ofInt (IntKind.bits .u64) (wrap .u64 ((BitVec.ofInt (IntKind.bits .u64) (wrap .u64 ((BitVec.ofInt (IntKind.bits .u64) kD ^^^ BitVec.ofInt (IntKind.bits .u64) (wrap .u64 (kD*2^(min (13:Int).toNat (IntKind.bits .u64))))).toNat)) ^^^ BitVec.ofInt (IntKind.bits .u64) (Int.fdiv (wrap .u64 ((BitVec.ofInt (IntKind.bits .u64) kD ^^^ BitVec.ofInt (IntKind.bits .u64) (wrap .u64 (kD*2^(min (13:Int).toNat (IntKind.bits .u64))))).toNat)) (2^(min (7:Int).toNat (IntKind.bits .u64))))).toNat)) ^^^ BitVec.ofInt (IntKind.bits .u64) (wrap .u64 ((wrap .u64 ((BitVec.ofInt (IntKind.bits .u64) (wrap .u64 ((BitVec.ofInt (IntKind.bits .u64) kD ^^^ BitVec.ofInt (IntKind.bits .u64) (wrap .u64 (kD*2^(min (13:Int).toNat (IntKind.bits .u64))))).toNat)) ^^^ BitVec.ofInt (IntKind.bits .u64) (Int.fdiv (wrap .u64 ((BitVec.ofInt (IntKind.bits .u64) kD ^^^ BitVec.ofInt (IntKind.bits .u64) (wrap .u64 (kD*2^(min (13:Int).toNat (IntKind.bits .u64))))).toNat)) (2^(min (7:Int).toNat (IntKind.bits .u64))))).toNat))*2^(min (17:Int).toNat (IntKind.bits .u64))))).toNat)),.int .u64 (wrap .u64 ((BitVec.ofInt (IntKind.bits .u64) (wrap .u64 ((BitVec.ofInt (IntKind.bits .u64) (wrap .u64 ((BitVec.ofInt (IntKind.bits .u64) kD ^^^ BitVec.ofInt (IntKind.bits .u64) (wrap .u64 (kD*2^(min (13:Int).toNat (IntKind.bits .u64))))).toNat)) ^^^ BitVec.ofInt (IntKind.bits .u64) (Int.fdiv (wrap .u64 ((BitVec.ofInt (IntKind.bits .u64) kD ^^^ BitVec.ofInt (IntKind.bits .u64) (wrap .u64 (kD*2^(min (13:Int).toNat (IntKind.bits .u64))))).toNat)) (2^(min (7:Int).toNat (IntKind.bits .u64))))).toNat)) ^^^ BitVec.ofInt (IntKind.bits .u64) (wrap .u64 ((wrap .u64 ((BitVec.ofInt (IntKind.bits .u64) (wrap .u64 ((BitVec.ofInt (IntKind.bits .u64) kD ^^^ BitVec.ofInt (IntKind.bits .u64) (wrap .u64 (kD*2^(min (13:Int).toNat (IntKind.bits .u64))))).toNat)) ^^^ BitVec.ofInt (IntKind.bits .u64) (Int.fdiv (wrap .u64 ((BitVec.ofInt (IntKind.bits .u64) kD ^^^ BitVec.ofInt (IntKind.bits .u64) (wrap .u64 (kD*2^(min (13:Int).toNat (IntKind.bits .u64))))).toNat)) (2^(min (7:Int).toNat (IntKind.bits .u64))))).toNat))*2^(min (17:Int).toNat (IntKind.bits .u64))))).toNat))]
theorem aqP {kD:Int} {r:Option LV} (h:ad0 CC kD=r):CC KD [.int .u64 kD]=r:=bA (L:=bB) av h
noncomputable def ad1 (C:af) (length:Int):Option LV:=
 (C D7 [.int .u64 (wrap .u64 length)]).bind fun r1=>
 bif decide (0≤((V.nth r1 0).toInt)) then
  some [.int .u64 (wrap .u64 (1*2^(min ((V.nth r1 0).toInt).toNat (IntKind.bits .u64))))]
 else none
theorem aqQ {length:Int} {r:Option LV} (h:ad1 CC length=r):CC KC [V.int .i64 length]=r:=bA (L:=bB) av h
noncomputable def ad2 (C:af) (x:Int):Option LV:=
 (C Ky [.int .u64 x]).bind fun r1=>
 some [V.int .i64 ((V.nth r1 0).toInt)]
theorem aqR {x:Int} {r:Option LV} (h:ad2 CC x=r):CC D7 [.int .u64 x]=r:=bA (L:=bB) av h
noncomputable def yQ (C:af) (x n:Int) (t4:Bool) {β:Type} (kr:(Int×Int)→Option β):Option β:=
 bif t4 then
  kr (Int.fdiv x (2^(min (32:Int).toNat (IntKind.bits .u64))),32)
 else
  kr (x,n)
noncomputable def yR (C:af) (x n:Int) (t8:Bool) {β:Type} (kr:(Int×Int)→Option β):Option β:=
 bif t8 then
  kr (Int.fdiv x (2^(min (16:Int).toNat (IntKind.bits .u64))),wrap .i64 (n+16))
 else
  kr (x,n)
noncomputable def ad3 (C:af):cz:=pb 79 SA [[0,0]] (@yQ C) (pb 143 SB [[0,0]] (@yR C) bB)
theorem aqS (C:af):bc C (ad3 C) 98 (Cd 4 [1,0,1,0] [1,0,1,1] 98):=o9 SA [[0,0]] (@yQ C) (aR av) (aR av)
theorem aqT (C:af):bc C (ad3 C) 98 (Cd 8 [1,1,0,1,0] [1,1,0,1,1] 98):=o9 SB [[0,0]] (@yR C) (aR av) (aR av)
noncomputable def aqU (C:af) (x:Int):Option LV:=
 yQ C x 0 (decide (x≥4294967296)) (un fun (wJ:Int) (GP:Int)=>
  yR C wJ GP (decide (wJ≥65536)) (un fun (GQ:Int) (n_4:Int)=>
   bif decide (GQ≥256) then
    (bif decide (0≤(wrap .u8 (Int.fdiv GQ (2^(min (8:Int).toNat (IntKind.bits .u64)))))) then (An[(wrap .u8 (Int.fdiv GQ (2^(min (8:Int).toNat (IntKind.bits .u64)))):Int).toNat]?).map fun b=>V.int .u8 b.toNat else none).bind fun x5=>
    some [V.int .i64 (wrap .i64 ((wrap .i64 (n_4+8))+(wrap .i64 x5.toInt)))]
   else
    (bif decide (0≤(wrap .u8 GQ)) then (An[(wrap .u8 GQ:Int).toNat]?).map fun b=>V.int .u8 b.toNat else none).bind fun x6=>
    some [V.int .i64 (wrap .i64 (n_4+(wrap .i64 x6.toInt)))]))
theorem ad4 {x:Int} {r:Option LV} (h:aqU CC x=r):CC Ky [.int .u64 x]=r:=bA (ba (aqS CC) (ba (aqT CC) av)) h
noncomputable def BE (C:af) (a b' lq:Int) (fW gv:Bool) (length:Int) (t35:Bool) (an:LV) {β:Type} (kr:(Int×LV)→Option β):Option β:=
 bif t35 then
  (C Kv [V.int .i64 a,V.int .i64 b',.list ae an]).bind fun r3=>
  kr (wrap .i64 (lq-1),(V.nth r3 0).toList)
 else
  kr (lq,an)
noncomputable def BF (C:af) (a b' lq:Int) (fW gv:Bool) (length pivot hint:Int) (t50:Bool) (an:LV) {β:Type} (kr:(Int×Int×LV)→Option β):Option β:=
 bif t50 then
  (C Kw [V.int .i64 a,V.int .i64 b',.list ae an]).bind fun r7=>
  kr (wrap .i64 ((wrap .i64 (b'-1))-(wrap .i64 (pivot-a))),1,(V.nth r7 0).toList)
 else
  kr (pivot,hint,an)
noncomputable def pq (C:af) (a b' lq:Int) (fW gv:Bool) (length pivot:Int) (t68:Bool) (an:LV) {β:Type} (kr:((Bool×LV) ⊕ LV)→Option β):Option β:=
 bif t68 then
  (C Kx [V.int .i64 a,V.int .i64 b',.list ae an]).bind fun dy=>
  bif (V.nth dy 0).toBool then
  kr (.inl ((V.nth dy 0).toBool,(V.nth (dy.drop 1) 0).toList))
  else
  kr (.inr ((V.nth (dy.drop 1) 0).toList))
 else
  kr (.inr an)
noncomputable def tc (C:af) (a b' lq:Int) (fW gv:Bool) (an:LV) {β:Type} (kn:(Int×Int×Int×Bool×Bool×LV)→Option β) (kr:LV→Option β):Option β:=
 bif decide (((wrap .i64 (b'-a)):Int)≤12) then
  (C Eb [V.int .i64 a,V.int .i64 b',.list ae an]).bind fun r1=>
  kr ((V.nth r1 0).toList)
 else
  bif lq==0 then
  (C Ec [V.int .i64 a,V.int .i64 b',.list ae an]).bind fun r2=>
  kr ((V.nth r2 0).toList)
  else
  BE C a b' lq fW gv (wrap .i64 (b'-a)) (!fW) an (un fun (dt:Int) (GR:LV)=>
   (C Ed [.list ae GR,V.int .i64 a,V.int .i64 b']).bind fun r6=>
   BF C a b' dt fW gv (wrap .i64 (b'-a)) ((V.nth r6 0).toInt) ((V.nth (r6.drop 1) 0).toInt) ((((V.nth (r6.drop 1) 0).toInt):Int)==2) GR (un fun gx=>un fun (Uy:Int) (rC:LV)=>
    bif fW then
     bif gv then
     pq C a b' dt fW gv (wrap .i64 (b'-a)) gx (Uy==1) rC (cP (un fun (s6:Bool) (Uo:LV)=>
      kr Uo) (fun (GS:LV)=>
      bif decide (a>0) then
       ar GS (wrap .i64 (a-1)) fun rG=>
       ar GS gx fun ql=>
       (C jC [V.int .i64 rG.toInt,V.int .i64 ql.toInt]).bind fun fA=>
       bif !((V.nth fA 0).toBool) then
       (C xU [V.int .i64 a,V.int .i64 b',V.int .i64 gx,.list ae GS]).bind fun BG=>
       kn ((V.nth BG 0).toInt,b',dt,fW,gv,(V.nth (BG.drop 1) 0).toList)
       else
       (C qc [V.int .i64 a,V.int .i64 b',V.int .i64 gx,.list ae GS]).bind fun mX=>
       bif decide (((wrap .i64 (((V.nth mX 0).toInt)-a)):Int)<(wrap .i64 (b'-((V.nth mX 0).toInt)))) then
        (C jc [V.int .i64 a,V.int .i64 ((V.nth mX 0).toInt),V.int .i64 dt,.list ae ((V.nth (mX.drop 2) 0).toList)]).bind fun jh=>
        kn (wrap .i64 (((V.nth mX 0).toInt)+1),b',dt,decide (((wrap .i64 (((V.nth mX 0).toInt)-a)):Int)≥(wrap .i64 (Int.tdiv (wrap .i64 (b'-a)) 8))),(V.nth (mX.drop 1) 0).toBool,(V.nth jh 0).toList)
       else
        (C jc [V.int .i64 (wrap .i64 (((V.nth mX 0).toInt)+1)),V.int .i64 b',V.int .i64 dt,.list ae ((V.nth (mX.drop 2) 0).toList)]).bind fun wK=>
        kn (a,(V.nth mX 0).toInt,dt,decide (((wrap .i64 (b'-((V.nth mX 0).toInt))):Int)≥(wrap .i64 (Int.tdiv (wrap .i64 (b'-a)) 8))),(V.nth (mX.drop 1) 0).toBool,(V.nth wK 0).toList)
      else
       (C qc [V.int .i64 a,V.int .i64 b',V.int .i64 gx,.list ae GS]).bind fun mV=>
       bif decide (((wrap .i64 (((V.nth mV 0).toInt)-a)):Int)<(wrap .i64 (b'-((V.nth mV 0).toInt)))) then
       (C jc [V.int .i64 a,V.int .i64 ((V.nth mV 0).toInt),V.int .i64 dt,.list ae ((V.nth (mV.drop 2) 0).toList)]).bind fun r23=>
       kn (wrap .i64 (((V.nth mV 0).toInt)+1),b',dt,decide (((wrap .i64 (((V.nth mV 0).toInt)-a)):Int)≥(wrap .i64 (Int.tdiv (wrap .i64 (b'-a)) 8))),(V.nth (mV.drop 1) 0).toBool,(V.nth r23 0).toList)
       else
       (C jc [V.int .i64 (wrap .i64 (((V.nth mV 0).toInt)+1)),V.int .i64 b',V.int .i64 dt,.list ae ((V.nth (mV.drop 2) 0).toList)]).bind fun r24=>
       kn (a,(V.nth mV 0).toInt,dt,decide (((wrap .i64 (b'-((V.nth mV 0).toInt))):Int)≥(wrap .i64 (Int.tdiv (wrap .i64 (b'-a)) 8))),(V.nth (mV.drop 1) 0).toBool,(V.nth r24 0).toList)))
     else
     pq C a b' dt fW gv (wrap .i64 (b'-a)) gx false rC (cP (un fun (aon:Bool) (aqV:LV)=>
      kr aqV) (fun (yL:LV)=>
      bif decide (a>0) then
       ar yL (wrap .i64 (a-1)) fun yM=>
       ar yL gx fun yN=>
       (C jC [V.int .i64 yM.toInt,V.int .i64 yN.toInt]).bind fun Bw=>
       bif !((V.nth Bw 0).toBool) then
       (C xU [V.int .i64 a,V.int .i64 b',V.int .i64 gx,.list ae yL]).bind fun MN=>
       kn ((V.nth MN 0).toInt,b',dt,fW,gv,(V.nth (MN.drop 1) 0).toList)
       else
       (C qc [V.int .i64 a,V.int .i64 b',V.int .i64 gx,.list ae yL]).bind fun qn=>
       bif decide (((wrap .i64 (((V.nth qn 0).toInt)-a)):Int)<(wrap .i64 (b'-((V.nth qn 0).toInt)))) then
        (C jc [V.int .i64 a,V.int .i64 ((V.nth qn 0).toInt),V.int .i64 dt,.list ae ((V.nth (qn.drop 2) 0).toList)]).bind fun r33=>
        kn (wrap .i64 (((V.nth qn 0).toInt)+1),b',dt,decide (((wrap .i64 (((V.nth qn 0).toInt)-a)):Int)≥(wrap .i64 (Int.tdiv (wrap .i64 (b'-a)) 8))),(V.nth (qn.drop 1) 0).toBool,(V.nth r33 0).toList)
       else
        (C jc [V.int .i64 (wrap .i64 (((V.nth qn 0).toInt)+1)),V.int .i64 b',V.int .i64 dt,.list ae ((V.nth (qn.drop 2) 0).toList)]).bind fun r34=>
        kn (a,(V.nth qn 0).toInt,dt,decide (((wrap .i64 (b'-((V.nth qn 0).toInt))):Int)≥(wrap .i64 (Int.tdiv (wrap .i64 (b'-a)) 8))),(V.nth (qn.drop 1) 0).toBool,(V.nth r34 0).toList)
      else
       (C qc [V.int .i64 a,V.int .i64 b',V.int .i64 gx,.list ae yL]).bind fun nO=>
       bif decide (((wrap .i64 (((V.nth nO 0).toInt)-a)):Int)<(wrap .i64 (b'-((V.nth nO 0).toInt)))) then
       (C jc [V.int .i64 a,V.int .i64 ((V.nth nO 0).toInt),V.int .i64 dt,.list ae ((V.nth (nO.drop 2) 0).toList)]).bind fun r36=>
       kn (wrap .i64 (((V.nth nO 0).toInt)+1),b',dt,decide (((wrap .i64 (((V.nth nO 0).toInt)-a)):Int)≥(wrap .i64 (Int.tdiv (wrap .i64 (b'-a)) 8))),(V.nth (nO.drop 1) 0).toBool,(V.nth r36 0).toList)
       else
       (C jc [V.int .i64 (wrap .i64 (((V.nth nO 0).toInt)+1)),V.int .i64 b',V.int .i64 dt,.list ae ((V.nth (nO.drop 2) 0).toList)]).bind fun r37=>
       kn (a,(V.nth nO 0).toInt,dt,decide (((wrap .i64 (b'-((V.nth nO 0).toInt))):Int)≥(wrap .i64 (Int.tdiv (wrap .i64 (b'-a)) 8))),(V.nth (nO.drop 1) 0).toBool,(V.nth r37 0).toList)))
    else
     pq C a b' dt fW gv (wrap .i64 (b'-a)) gx false rC (cP (un fun (aqW:Bool) (aqX:LV)=>
      kr aqX) (fun (rH:LV)=>
      bif decide (a>0) then
      ar rH (wrap .i64 (a-1)) fun Gy=>
      ar rH gx fun LY=>
      (C jC [V.int .i64 Gy.toInt,V.int .i64 LY.toInt]).bind fun r43=>
      bif !((V.nth r43 0).toBool) then
       (C xU [V.int .i64 a,V.int .i64 b',V.int .i64 gx,.list ae rH]).bind fun r44=>
       kn ((V.nth r44 0).toInt,b',dt,fW,gv,(V.nth (r44.drop 1) 0).toList)
      else
       (C qc [V.int .i64 a,V.int .i64 b',V.int .i64 gx,.list ae rH]).bind fun qo=>
       bif decide (((wrap .i64 (((V.nth qo 0).toInt)-a)):Int)<(wrap .i64 (b'-((V.nth qo 0).toInt)))) then
       (C jc [V.int .i64 a,V.int .i64 ((V.nth qo 0).toInt),V.int .i64 dt,.list ae ((V.nth (qo.drop 2) 0).toList)]).bind fun r46=>
       kn (wrap .i64 (((V.nth qo 0).toInt)+1),b',dt,decide (((wrap .i64 (((V.nth qo 0).toInt)-a)):Int)≥(wrap .i64 (Int.tdiv (wrap .i64 (b'-a)) 8))),(V.nth (qo.drop 1) 0).toBool,(V.nth r46 0).toList)
       else
       (C jc [V.int .i64 (wrap .i64 (((V.nth qo 0).toInt)+1)),V.int .i64 b',V.int .i64 dt,.list ae ((V.nth (qo.drop 2) 0).toList)]).bind fun r47=>
       kn (a,(V.nth qo 0).toInt,dt,decide (((wrap .i64 (b'-((V.nth qo 0).toInt))):Int)≥(wrap .i64 (Int.tdiv (wrap .i64 (b'-a)) 8))),(V.nth (qo.drop 1) 0).toBool,(V.nth r47 0).toList)
      else
      (C qc [V.int .i64 a,V.int .i64 b',V.int .i64 gx,.list ae rH]).bind fun qp=>
      bif decide (((wrap .i64 (((V.nth qp 0).toInt)-a)):Int)<(wrap .i64 (b'-((V.nth qp 0).toInt)))) then
       (C jc [V.int .i64 a,V.int .i64 ((V.nth qp 0).toInt),V.int .i64 dt,.list ae ((V.nth (qp.drop 2) 0).toList)]).bind fun r49=>
       kn (wrap .i64 (((V.nth qp 0).toInt)+1),b',dt,decide (((wrap .i64 (((V.nth qp 0).toInt)-a)):Int)≥(wrap .i64 (Int.tdiv (wrap .i64 (b'-a)) 8))),(V.nth (qp.drop 1) 0).toBool,(V.nth r49 0).toList)
      else
       (C jc [V.int .i64 (wrap .i64 (((V.nth qp 0).toInt)+1)),V.int .i64 b',V.int .i64 dt,.list ae ((V.nth (qp.drop 2) 0).toList)]).bind fun r50=>
       kn (a,(V.nth qp 0).toInt,dt,decide (((wrap .i64 (b'-((V.nth qp 0).toInt))):Int)≥(wrap .i64 (Int.tdiv (wrap .i64 (b'-a)) 8))),(V.nth (qp.drop 1) 0).toBool,(V.nth r50 0).toList)))))
noncomputable def ad5 (C:af):=un fun a=>un fun b'=>un fun lq=>un fun fW=>un fun gv an=>tc C a b' lq fW gv an (fun y=>some (Sum.inl y)) (fun r=>some (Sum.inr r))
noncomputable def MO (C:af):cz:=pb 575 RH [[1,2,0,4,5,6,0]] (@BE C) (pb 815 RI [[1,2,3,4,5,6,0,0,0]] (@BF C) (pb 1103 RJ [[1,2,3,4,5,6,7,0,0],[1,2,3,4,5,6,7,0]] (@pq C) (bt 33 RK [H1,H1,H1,H1,H1,H1] [[0]] (@tc C) bB)))
theorem aqY (C:af):bc C (MO C) 61 (Cd 35 [1,1,0,0,0,1,1,1,0,1,0] [1,1,0,0,0,1,1,1,0,1,1] 61):=o9 RH [[1,2,0,4,5,6,0]] (@BE C) (aR av) (aR av)
theorem aqZ (C:af):bc C (MO C) 61 (Cd 50 [1,1,0,0,0,1,1,1,1,1,0,1,0] [1,1,0,0,0,1,1,1,1,1,0,1,1] 61):=o9 RI [[1,2,3,4,5,6,0,0,0]] (@BF C) (aR av) (aR av)
theorem aq0 (C:af):bc C (MO C) 61 (Cd 68 [1,1,0,0,0,1,1,1,1,1,1,0,1,0] [1,1,0,0,0,1,1,1,1,1,1,0,1,1] 61):=o9 RJ [[1,2,3,4,5,6,7,0,0],[1,2,3,4,5,6,7,0]] (@pq C) (aR av) (aR av)
theorem aq1 (C:af):bc C (MO C) 61 (Lp [1,1,0,0] 61):=br RK [H1,H1,H1,H1,H1,H1] [[0]] (@tc C) (aR (ba (aqY C) (ba (aqZ C) (ba (aq0 C) av))))
noncomputable def ad6 (C:af) (a b' lq:Int) (an:LV):Option LV:=
 (Loop (ad5 C) (a,b',lq,true,true,an)).bind (fun (Fx:LV)=>
  some [.list ae Fx])
theorem aq2 {a b' lq:Int} {an:LV} {r:Option LV} (h:ad6 CC a b' lq an=r):CC jc [V.int .i64 a,V.int .i64 b',V.int .i64 lq,.list ae an]=r:=bA (ba (aq1 CC) av) h
end Go.AM
set_option maxRecDepth 100000
set_option maxHeartbeats 4000000
namespace Go.AM.SO
open Go.IntKind (wrap)
open Go.Proofs Go.Sort
theorem ad7 (a b:Int):(aC a b=false)= ¬(cG a b<0):=by rw[←wH];simp
theorem BH:SWO (aC):=apZ
def MP:List UInt8:=An
theorem aq3:(List.range 256).all (fun y=>match MP[y]? with|some b=>decide (b.toNat≤8)&&(Nat.beq y 0||(decide (1≤b.toNat)&&decide (2^(b.toNat-1)≤y)))|none=>false)=true:=by decide+kernel
theorem ad8 {y:Nat} (h:y<256): ∃b,MP[y]? =some b∧b.toNat≤8∧(0<y→1≤b.toNat∧2^(b.toNat-1)≤y):=by
 have:=fF.1 aq3 y (fm.2 h);cases hb:MP[y]? with
 | none=>rw[hb] at this;cases this
 | some b=>
  rw[hb] at this;simp only[aK,Cf,fQ] at this;refine ⟨b,rfl,this.1,fun hy=> ?_⟩;rcases this.2 with h2|h2
  ·have:=B0 h2;omega
  ·exact h2
theorem Uz {y t k:Nat} (h:2^(t-1)≤y/2^k) (ht:1≤t):2^(t+k-1)≤y:=by
 have e:t+k-1=(t-1)+k:=by omega
 rw[e,Nat.pow_add];exact lu (ef _ h) (Nat.div_mul_le_self _ _)
noncomputable def BI (y n:Int):Option (List V):=
(bif decide ((y:Int)≥256) then
    (bif decide (0≤(wrap .u8 (Int.fdiv y (2^(min (8:Int).toNat (IntKind.bits .u64)))))) then (An[(wrap .u8 (Int.fdiv y (2^(min (8:Int).toNat (IntKind.bits .u64)))):Int).toNat]?).map fun b=>V.int .u8 b.toNat else none).bind fun x5=>
    some [V.int .i64 (wrap .i64 ((wrap .i64 (n+8))+(wrap .i64 x5.toInt)))]
   else
    (bif decide (0≤(wrap .u8 y)) then (An[(wrap .u8 y:Int).toNat]?).map fun b=>V.int .u8 b.toNat else none).bind fun x6=>
    some [V.int .i64 (wrap .i64 (n+(wrap .i64 x6.toInt)))])
theorem aq4 {x:Nat} (h:x<2^64): ∃L:Nat,CC Ky [.int .u64 (x:Int)]=some [.int .i64 (L:Int)]∧L≤64∧(0<x→1≤L∧2^(L-1)≤x):=by
 have last: ∀y n:Nat,y<65536→n≤48→∃t:Nat,
   BI (y:Int) (n:Int)=some [V.int .i64 ((n+t:Nat):Int)]∧t≤16∧(0<y→1≤t∧2^(t-1)≤y):=by
  intro y n hy hn;unfold BI;rw[show An=MP from rfl];by_cases h1:y≥256
  ·have e:Int.fdiv (y:Int) (2^(min (8:Int).toNat (IntKind.bits .u64)))=((y/2^8:Nat):Int):=SN (m:=8) (by omega);obtain ⟨b,hb,b1,b2⟩:=ad8 (y:=y/2^8) (by omega);refine ⟨b.toNat+8,?_,by omega,fun _=> ?_⟩
   ·rw[e,bw,bu,JP (by omega) (by omega),bw,bu,Int.toNat_natCast,hb];simp only[Option.map_some,Option.bind_some,V.toInt_int,V.dS];simp (disch:=omega) only[wrap64];congr 3;omega
   ·obtain ⟨b3,b4⟩:=b2 (by omega);exact ⟨by omega,Uz b4 b3⟩
  ·obtain ⟨b,hb,b1,b2⟩:=ad8 (y:=y) (by omega);refine ⟨b.toNat,?_,by omega,b2⟩;rw[bw,bO,JP (by omega) (by omega),bw,bu,Int.toNat_natCast,hb];simp (disch:=omega) only[Option.map_some,Option.bind_some,V.toInt_int,V.dS,wrap64];congr 3
 have mid: ∀y n:Nat,y<4294967296→n≤32→∃t:Nat,∀F:Int→Int→Option (List V),
   (∀y n:Nat,y<65536→n≤48→∃t:Nat,F (y:Int) (n:Int)=some [V.int .i64 ((n+t:Nat):Int)]∧t≤16∧(0<y→1≤t∧2^(t-1)≤y))→
   ∃t:Nat,yR CC (y:Int) (n:Int) (decide (((y:Int):Int)≥65536)) (un F)=some [V.int .i64 ((n+t:Nat):Int)]∧t≤32∧(0<y→1≤t∧2^(t-1)≤y):=by
  intro y n hy hn;refine ⟨0,fun F hF=> ?_⟩;unfold yR;by_cases h1:y≥65536
  ·have e:Int.fdiv (y:Int) (2^(min (16:Int).toNat (IntKind.bits .u64)))=((y/2^16:Nat):Int):=SN (m:=16) (by omega);rw[bw,bu,e,gG];obtain ⟨t,h2,h3,h4⟩:=hF (y/2^16) (n+16) (by omega) (by omega);refine ⟨t+16,?_,by omega,fun _=> ?_⟩
   ·rw[show ((n:Int)+16)=((n+16:Nat):Int) by omega];simp only[un];rw[h2];congr 3;omega
   ·obtain ⟨b3,b4⟩:=h4 (by omega);exact ⟨by omega,Uz b4 b3⟩
  ·rw[bw,bO];obtain ⟨t,h2,h3,h4⟩:=hF y n (by omega) (by omega);exact ⟨t,h2,by omega,h4⟩
 by_cases h1:x≥4294967296
 ·have e:Int.fdiv (x:Int) (2^(min (32:Int).toNat (IntKind.bits .u64)))=((x/2^32:Nat):Int):=SN (m:=32) (by omega);obtain ⟨_,hm⟩:=mid (x/2^32) 32 (by omega) (by omega);obtain ⟨t,h2,h3,h4⟩:=hm BI last;refine ⟨32+t,ad4 ?_,by omega,fun _=> ?_⟩
  ·show yQ CC (x:Int) 0 (decide (((x:Int):Int)≥4294967296)) (un fun (wJ:Int) (GP:Int)=>yR CC wJ GP (decide ((wJ:Int)≥65536)) (un BI))=_;unfold yQ;rw[bw,bu,e];exact h2
  ·obtain ⟨b3,b4⟩:=h4 (by omega);rw[Nat.add_comm 32 t];exact ⟨by omega,Uz b4 b3⟩
 ·obtain ⟨_,hm⟩:=mid x 0 (by omega) (by omega);obtain ⟨t,h2,h3,h4⟩:=hm BI last;refine ⟨t,ad4 ?_,by omega,h4⟩;show yQ CC (x:Int) 0 (decide (((x:Int):Int)≥4294967296)) (un fun (wJ:Int) (GP:Int)=>yR CC wJ GP (decide ((wJ:Int)≥65536)) (un BI))=_;unfold yQ;rw[bw,bO];rw[eT] at h2;exact h2
theorem ad9 {x:Nat} (h:x<2^64): ∃L:Nat,CC D7 [.int .u64 (x:Int)]=some [.int .i64 (L:Int)]∧L≤64∧(0<x→1≤L∧2^(L-1)≤x):=by
 obtain ⟨L,h1,h2⟩:=aq4 h;refine ⟨L,aqR ?_,h2⟩;unfold ad2;rw[h1];rfl
theorem aq5 {x:Nat} (h0:0<x) (h:x<1152921504606846976): ∃M:Nat,CC KC [.int .i64 (x:Int)]=some [.int .u64 (M:Int)]∧1≤M∧M≤2*x:=by
 obtain ⟨L,h1,h2,h3⟩:=ad9 (x:=x) (by omega);obtain ⟨h4,h5⟩:=h3 h0;have e:2^L=2*2^(L-1):=by
  obtain ⟨k,rfl⟩: ∃k,L=k+1:=⟨L-1,by omega⟩
  rw[Nat.pow_succ];simp only[Nat.add_sub_cancel];omega
 have hL:L<64:=by
  by_cases hx:L<64
  ·exact hx
  ·have:2^63≤2^(L-1):=Nat.pow_le_pow_right (by omega) (by omega);omega
 refine ⟨2^L,aqQ ?_,Nat.pos_of_ne_zero (by simp),by omega⟩;unfold ad1;rw[EN (A:=x) (by omega),h1];simp only[Option.bind_some,V.dJ,V.toInt_int,V.dS];rw[bw,bu,Int.toNat_natCast,alU hL]
theorem aq6 (r:Int): ∃R:Nat,CC KD [.int .u64 r]=some [.int .u64 (R:Int),.int .u64 (R:Int)]∧R<2^64:=by
 have h: ∀n:Int,∃R:Nat,wrap .u64 n=(R:Int)∧R<2^64:=fun n=>⟨(wrap .u64 n).toNat,by rw[wrap_u64];omega,by rw[wrap_u64];omega⟩
 obtain ⟨R,h1,h2⟩:=h _;exact ⟨R,aqP (by unfold ad0;rw[h1]),h2⟩
theorem MQ {d:Array Int} {i:Nat} (h:i<d.size):idx (eA d) (i:Int)=some (rF (d[i]!)):=by rw[JQ,iN h]
theorem UA {d:Array Int} {a b:Nat} {s:Int} (ha:a<d.size) (hb:b<d.size): ∃(x y:Nat) (s':Int),CC AH [.list ae (eA d),.int .i64 (a:Int),.int .i64 (b:Int),.int .i64 s]=some [.int .i64 (x:Int),.int .i64 (y:Int),.int .i64 s']∧(x=a∧y=b∨x=b∧y=a):=by
 by_cases h:cG d[b]! d[a]! <0
 ·refine ⟨b,a,_,adV (by unfold Uw;rw[MQ hb,MQ ha];simp only[Option.bind_some,gj,jg,V.dJ,V.toInt_int,V.dS];rw[bw,ak h]),.inr ⟨rfl,rfl⟩⟩
 ·refine ⟨a,b,_,adV (by unfold Uw;rw[MQ hb,MQ ha];simp only[Option.bind_some,gj,jg,V.dJ,V.toInt_int,V.dS];rw[bw,aj h]),.inl ⟨rfl,rfl⟩⟩
theorem UB {d:Array Int} {a b c:Nat} {s:Int} (ha:a<d.size) (hb:b<d.size) (hc:c<d.size): ∃(m:Nat) (s':Int),CC Ei [.list ae (eA d),.int .i64 (a:Int),.int .i64 (b:Int),.int .i64 (c:Int),.int .i64 s]=some [.int .i64 (m:Int),.int .i64 s']∧(m=a∨m=b∨m=c):=by
 obtain ⟨x1,y1,s1,e1,o1⟩:=UA (s:=s) ha hb;obtain ⟨x2,y2,s2,e2,o2⟩:=UA (d:=d) (a:=y1) (b:=c) (s:=s1) (by omega) hc;obtain ⟨x3,y3,s3,e3,o3⟩:=UA (d:=d) (a:=x1) (b:=x2) (s:=s2) (by omega) (by omega);refine ⟨y3,s3,aqJ ?_,by omega⟩;unfold adU;rw[e1];simp only[Option.bind_some,V.dJ,V.uo,V.toInt_int,V.dS,pH,lx];rw[e2];simp only[Option.bind_some,V.dJ,V.uo,V.toInt_int,V.dS,pH,lx];rw[e3];rfl
theorem UC {d:Array Int} {a:Nat} {s:Int} (h1:1≤a) (ha:a+1<d.size) (hs:d.size<1152921504606846976): ∃(m:Nat) (s':Int),CC AG [.list ae (eA d),.int .i64 (a:Int),.int .i64 s]=some [.int .i64 (m:Int),.int .i64 s']∧a≤m+1∧m≤a+1:=by
 obtain ⟨m,s',e,o⟩:=UB (d:=d) (a:=a-1) (b:=a) (c:=a+1) (s:=s) (by omega) (by omega) (by omega);refine ⟨m,s',aqK ?_,by omega,by omega⟩;unfold adW;simp (disch:=omega) only[mU,eR,wrap64];rw[e];rfl
theorem UD (n:Nat):Int.tdiv (n:Int) 4=((n/4:Nat):Int):=by
 have:=divC n 4;exact this
theorem mulC (k n:Nat):((k:Nat):Int)*(n:Int)=((k*n:Nat):Int):=(Int.natCast_mul k n).symm
theorem aq7 {d:Array Int} {a b:Nat} (ik:a+12<b) (hb:b≤d.size) (hs:d.size<1152921504606846976): ∃(p:Nat) (h:Int),CC Ed [.list ae (eA d),.int .i64 (a:Int),.int .i64 (b:Int)]=some [.int .i64 (p:Int),.int .i64 h]∧a≤p∧p<b:=by
 have fin: ∀(p:Nat) (s:Int),∃h:Int,(bif (s:Int)==0 then some [V.int .i64 (p:Int),V.int .i64 1] else bif (s:Int)==12 then some [V.int .i64 (p:Int),V.int .i64 2] else some [V.int .i64 (p:Int),V.int .i64 0])=some [V.int .i64 (p:Int),V.int .i64 h]:=by
  intro p s;rw[vX];split
  ·exact ⟨1,rfl⟩
  ·rw[vX];split
   ·exact ⟨2,rfl⟩
   ·exact ⟨0,rfl⟩
 have e1:wrap .i64 ((b:Int)-(a:Int))=((b-a:Nat):Int):=by rw[po (by omega),gG]
 have e2:wrap .i64 (Int.tdiv ((b-a:Nat):Int) 4)=(((b-a)/4:Nat):Int):=by rw[UD,gG]
 have e3: ∀k:Nat,k≤3→wrap .i64 ((a:Int)+wrap .i64 ((k:Int)*(((b-a)/4:Nat):Int)))=((a+k*((b-a)/4):Nat):Int):=by
  intro k hk;have xI:k*((b-a)/4)≤3*((b-a)/4):=ef _ hk;simp (disch:=omega) only[mulC,wrap64,iz]
 have UE:=e3 1 (by omega);have wM:=e3 2 (by omega);have UF:=e3 3 (by omega);rw[show ((1:Nat):Int)=1 from rfl] at UE;rw[show ((2:Nat):Int)=2 from rfl] at wM;rw[show ((3:Nat):Int)=3 from rfl] at UF;by_cases h50:b-a≥50
 ·obtain ⟨m1,s1,q1,r1⟩:=UC (d:=d) (a:=a+1*((b-a)/4)) (s:=0) (by omega) (by omega) hs;obtain ⟨m2,s2,q2,r2⟩:=UC (d:=d) (a:=a+2*((b-a)/4)) (s:=s1) (by omega) (by omega) hs;obtain ⟨m3,s3,q3,r3⟩:=UC (d:=d) (a:=a+3*((b-a)/4)) (s:=s2) (by omega) (by omega) hs;obtain ⟨m,s,q,r⟩:=UB (d:=d) (a:=m1) (b:=m2) (c:=m3) (s:=s3) (by omega) (by omega) (by omega);obtain ⟨h,hf⟩:=fin m s;refine ⟨m,h,adT ?_,by omega,by omega⟩;unfold Uu GM GL;rw[e1,e2,UE,wM,UF,qk (by omega),cond_true,qk (by omega),cond_true,q1];simp only[Option.bind_some,V.dJ,V.uo,V.toInt_int,V.dS,pH,lx];rw[q2];simp only[Option.bind_some,V.dJ,V.uo,V.toInt_int,V.dS,pH,lx];rw[q3];simp only[Option.bind_some,V.dJ,V.uo,V.toInt_int,V.dS,pH,lx,un];rw[q];exact hf
 ·obtain ⟨m,s,q,r⟩:=UB (d:=d) (a:=a+1*((b-a)/4)) (b:=a+2*((b-a)/4)) (c:=a+3*((b-a)/4)) (s:=0) (by omega) (by omega) (by omega);obtain ⟨h,hf⟩:=fin m s;refine ⟨m,h,adT ?_,by omega,by omega⟩;unfold Uu GM GL;rw[e1,e2,UE,wM,UF,qk (by omega),cond_true,wF (by omega),cond_false];simp only[un];rw[q];exact hf
theorem aq8 {a b M:Nat} (Uk:1≤M) (hM:M≤2*(b-a)) (h8:8≤b-a) (hB:b<1152921504606846976): ∀(n i:Nat) (d:Array Int) (r:Int),a+2*((b-a)/4)+2-i=n→a≤i→b≤d.size→d.size<1152921504606846976→
  ∃x y z R,Loop (MM CC a (b-a:Nat) M) ((i:Int),eA d,r)=some (x,y,eA R,z)∧PermIn a b d R:=by
 have e2:wrap .i64 (Int.tdiv ((b-a:Nat):Int) 4)=(((b-a)/4:Nat):Int):=by rw[UD,gG]
 have wM:wrap .i64 ((a:Int)+wrap .i64 (2*(((b-a)/4:Nat):Int)))=((a+2*((b-a)/4):Nat):Int):=by
  have:=mulC 2 ((b-a)/4);rw[show ((2:Nat):Int)=2 from rfl] at this;rw[this];simp (disch:=omega) only[wrap64,iz]
 intro n
 induction n with
 | zero=>
  intro i d r hn hi hb hs;refine ⟨(i:Int),false,r,d,cT ?_,permIn_refl _ _ _⟩;simp only[MM,GO,un];rw[e2,wM,eR,gG,wF (by omega),cond_false]
 | succ n ih=>
  intro i d r hn hi hb hs;obtain ⟨R1,q1,q2⟩:=aq6 r;obtain ⟨o,ho,pU⟩: ∃o:Nat,(o=if R1&&&(M-1)≥b-a then (R1&&&(M-1))-(b-a) else R1&&&(M-1))∧o<b-a:=by
   refine ⟨_,rfl,?_⟩;have:R1&&&(M-1)≤M-1:=Nat.and_le_right;split<;>omega
  have hand:R1&&&(M-1)≤M-1:=Nat.and_le_right;have hP:=swp_permIn d a b i (a+o) hi (by omega) (by omega) (by omega) hb;obtain ⟨x,y,z,R,e,hR⟩:=ih (i+1) (swp d i (a+o)) (R1:Int) (by omega) (by omega) (by rw[size_swp];exact hb) (by rw[size_swp];exact hs);refine ⟨x,y,z,R,(eJ ?_).trans e,permIn_trans _ _ _ a b hP hR⟩;simp only[MM,GO,un];rw[e2,wM,eR,wrap64 (x:=((a+2*((b-a)/4)+1:Nat):Int)) (by omega) (by omega),qk (by omega),cond_true,q1];simp only[Option.bind_some,V.dJ,V.uo,V.toInt_int,V.dS,pH,lx];have e5:wrap .u64 ((M:Int)-1)=((M-1:Nat):Int):=by rw[mU Uk,EN (by omega)]
  rw[e5,u64_and q2 (by omega),wrap64 (x:=((R1&&&(M-1):Nat):Int)) (by omega) (by omega)];have fin: ∀k:Int,k=(o:Int)→(bif (decide (0≤(wrap .i64 ((a:Int)+k))))&&(decide ((wrap .i64 ((a:Int)+k))<((eA d).length:Int))) then
   ((eA d)[(wrap .i64 ((a:Int)+k):Int).toNat]?).bind fun x4=>
   bif (decide (0≤(i:Int)))&&(decide ((i:Int)<((eA d).length:Int))) then
    ((eA d)[((i:Int):Int).toNat]?).bind fun x5=>
    bif (decide (0≤(i:Int)))&&(decide ((i:Int)<((eA d).length:Int))) then
    ((eA d)[((i:Int):Int).toNat]?).bind fun x6=>
    bif (decide (0≤(wrap .i64 ((a:Int)+k))))&&(decide ((wrap .i64 ((a:Int)+k))<(((eA d).set (((i:Int):Int).toNat) (V.int .i64 x4.toInt)).length:Int))) then
     (((eA d).set (((i:Int):Int).toNat) (V.int .i64 x4.toInt))[(wrap .i64 ((a:Int)+k):Int).toNat]?).bind fun x7=>
     some (.inl (wrap .i64 ((i:Int)+1),((eA d).set (((i:Int):Int).toNat) (V.int .i64 x4.toInt)).set ((wrap .i64 ((a:Int)+k):Int).toNat) (V.int .i64 x5.toInt),(R1:Int)))
    else none
    else none
   else none
   else none:Option ((Int×List V×Int) ⊕ (Int×Bool×List V×Int)))=some (.inl (((i+1:Nat):Int),eA (swp d i (a+o)),(R1:Int))):=by
   intro k hk;subst hk;simp (disch:=omega) only[bw,jb,ja,ak,aj,wrap64,eR,iz,Int.toNat_natCast,Option.bind_some,iM,iN,gj,iy,j8,jm,jg,V.dJ,V.toInt_int,V.dS,cond_true,cond_false];rfl
  unfold ML;by_cases h:R1&&&(M-1)≥b-a
  ·rw[ak h] at ho;rw[qk (by omega),cond_true];exact fin _ (by rw[po (by omega),gG];omega)
  ·rw[aj h] at ho;rw[wF (by omega),cond_false];exact fin _ (by omega)
theorem aq9 {a b:Nat} {d:Array Int} (ik:a+12<b) (hb:b≤d.size) (hs:d.size<1152921504606846976): ∃R,CC Kv [.int .i64 (a:Int),.int .i64 (b:Int),.list ae (eA d)]=some [.list ae (eA R)]∧PermIn a b d R:=by
 obtain ⟨M,q1,q2,q3⟩:=aq5 (x:=b-a) (by omega) (by omega);have e1:wrap .i64 ((b:Int)-(a:Int))=((b-a:Nat):Int):=by rw[po (by omega),gG]
 have e2:wrap .i64 (Int.tdiv ((b-a:Nat):Int) 4)=(((b-a)/4:Nat):Int):=by rw[UD,gG]
 have wM:wrap .i64 ((a:Int)+wrap .i64 (2*(((b-a)/4:Nat):Int)))=((a+2*((b-a)/4):Nat):Int):=by
  have:=mulC 2 ((b-a)/4);rw[show ((2:Nat):Int)=2 from rfl] at this;rw[this];simp (disch:=omega) only[wrap64,iz]
 obtain ⟨x,y,z,R,e,hR⟩:=aq8 (a:=a) (b:=b) (M:=M) q2 q3 (by omega) (by omega) _ (a+2*((b-a)/4)-1) d (wrap .u64 ((b-a:Nat):Int)) rfl (by omega) hb hs;refine ⟨R,aqN ?_,hR⟩;unfold adY;rw[e1,bw,bu,q1];simp only[Option.bind_some,V.dJ,V.toInt_int,V.dS];rw[e2,wM,mU (by omega),wrap64 (x:=((a+2*((b-a)/4)-1:Nat):Int)) (by omega) (by omega),e];rfl
noncomputable def wO (C:af) (a b':Int) (fW gv:Bool) (dt gx:Int) (rE:List V) {β:Type} (kn:(Int×Int×Int×Bool×Bool×(List V))→Option β):Option β:=
      bif decide ((a:Int)>0) then
       ar rE (wrap .i64 (a-1)) fun uU=>
       ar rE gx fun Br=>
        (C jC [V.int .i64 uU.toInt,V.int .i64 Br.toInt]).bind fun rn=>
        bif !((V.nth rn 0).toBool) then
        (C xU [.int .i64 a,.int .i64 b',.int .i64 gx,.list ae rE]).bind fun nL=>
        kn ((V.nth nL 0).toInt,b',dt,fW,gv,(V.nth (nL.drop 1) 0).toList)
        else
        (C qc [.int .i64 a,.int .i64 b',.int .i64 gx,.list ae rE]).bind fun fA=>
        bif decide (((wrap .i64 (((V.nth fA 0).toInt)-a)):Int)<(wrap .i64 (b'-((V.nth fA 0).toInt)))) then
         (C jc [.int .i64 a,.int .i64 ((V.nth fA 0).toInt),.int .i64 dt,.list ae ((V.nth (fA.drop 2) 0).toList)]).bind fun BG=>
         kn (wrap .i64 (((V.nth fA 0).toInt)+1),b',dt,decide (((wrap .i64 (((V.nth fA 0).toInt)-a)):Int)≥(wrap .i64 (Int.tdiv (wrap .i64 (b'-a)) 8))),(V.nth (fA.drop 1) 0).toBool,(V.nth BG 0).toList)
        else
         (C jc [.int .i64 (wrap .i64 (((V.nth fA 0).toInt)+1)),.int .i64 b',.int .i64 dt,.list ae ((V.nth (fA.drop 2) 0).toList)]).bind fun mX=>
         kn (a,(V.nth fA 0).toInt,dt,decide (((wrap .i64 (b'-((V.nth fA 0).toInt))):Int)≥(wrap .i64 (Int.tdiv (wrap .i64 (b'-a)) 8))),(V.nth (fA.drop 1) 0).toBool,(V.nth mX 0).toList)
      else
       (C qc [.int .i64 a,.int .i64 b',.int .i64 gx,.list ae rE]).bind fun jh=>
       bif decide (((wrap .i64 (((V.nth jh 0).toInt)-a)):Int)<(wrap .i64 (b'-((V.nth jh 0).toInt)))) then
       (C jc [.int .i64 a,.int .i64 ((V.nth jh 0).toInt),.int .i64 dt,.list ae ((V.nth (jh.drop 2) 0).toList)]).bind fun wK=>
       kn (wrap .i64 (((V.nth jh 0).toInt)+1),b',dt,decide (((wrap .i64 (((V.nth jh 0).toInt)-a)):Int)≥(wrap .i64 (Int.tdiv (wrap .i64 (b'-a)) 8))),(V.nth (jh.drop 1) 0).toBool,(V.nth wK 0).toList)
       else
       (C jc [.int .i64 (wrap .i64 (((V.nth jh 0).toInt)+1)),.int .i64 b',.int .i64 dt,.list ae ((V.nth (jh.drop 2) 0).toList)]).bind fun mV=>
       kn (a,(V.nth jh 0).toInt,dt,decide (((wrap .i64 (b'-((V.nth jh 0).toInt))):Int)≥(wrap .i64 (Int.tdiv (wrap .i64 (b'-a)) 8))),(V.nth (jh.drop 1) 0).toBool,(V.nth mV 0).toList)
theorem MR (C:af) (a b' lq:Int) (fW gv:Bool) (an:List V) {β:Type} (kn:(Int×Int×Int×Bool×Bool×(List V))→Option β) (kr:(List V)→Option β):
  tc C a b' lq fW gv an kn kr=
 bif decide (((wrap .i64 (b'-a)):Int)≤12) then
  (C Eb [.int .i64 a,.int .i64 b',.list ae an]).bind fun r1=>
  kr ((V.nth r1 0).toList)
 else
  bif (lq:Int)==0 then
  (C Ec [.int .i64 a,.int .i64 b',.list ae an]).bind fun r2=>
  kr ((V.nth r2 0).toList)
  else
  BE C a b' lq fW gv (wrap .i64 (b'-a)) (!fW) an (un fun (dt:Int) (GR:List V)=>
   (C Ed [.list ae GR,.int .i64 a,.int .i64 b']).bind fun r6=>
   BF C a b' dt fW gv (wrap .i64 (b'-a)) ((V.nth r6 0).toInt) ((V.nth (r6.drop 1) 0).toInt) ((((V.nth (r6.drop 1) 0).toInt):Int)==2) GR (un fun (gx:Int)=>un fun (Uy:Int) (rC:List V)=>
    bif fW then
     bif gv then
     pq C a b' dt fW gv (wrap .i64 (b'-a)) gx ((Uy:Int)==1) rC (cP (un fun (acT:Bool) (UG:List V)=>
      kr UG) (fun (rE:List V)=>wO C a b' fW gv dt gx rE kn))
     else
     pq C a b' dt fW gv (wrap .i64 (b'-a)) gx false rC (cP (un fun (ara:Bool) (arb:List V)=>
      kr arb) (fun (arc:List V)=>wO C a b' fW gv dt gx arc kn))
    else
     pq C a b' dt fW gv (wrap .i64 (b'-a)) gx false rC (cP (un fun (au6:Bool) (ard:List V)=>
      kr ard) (fun (are:List V)=>wO C a b' fW gv dt gx are kn)))):=rfl
section
variable {a b:Nat} {lim:Int} {wb wp:Bool}
theorem arf {d:Array Int} (ik:a+12<b) (hb:b≤d.size) (hs:d.size<1152921504606846976) (len:Int) (t:Bool): ∃(l1:Int) (d1:Array Int),PermIn a b d d1∧∀(β:Type) (kr:(Int×List V)→Option β),BE CC a b lim wb wp len t (eA d) kr=kr (l1,eA d1):=by
 cases t with
 | true=>
  obtain ⟨R,e,hR⟩:=aq9 ik hb hs;refine ⟨wrap .i64 (lim-1),R,hR,fun β kr=> ?_⟩;unfold BE;rw[cond_true,e];rfl
 | false=>exact ⟨lim,d,permIn_refl _ _ _,fun β kr=>rfl⟩
theorem arh {d:Array Int} (ik:a+12<b) (hb:b≤d.size) (hs:d.size<1152921504606846976) (len h:Int) (t:Bool) {p:Nat} (h1:a≤p) (h2:p<b): ∃(p2:Nat) (h2:Int) (d1:Array Int),a≤p2∧p2<b∧PermIn a b d d1∧∀(β:Type) (kr:(Int×Int×List V)→Option β),BF CC a b lim wb wp len p h t (eA d) kr=kr ((p2:Int),h2,eA d1):=by
 cases t with
 | true=>
  refine ⟨b-1-(p-a),1,reverseRange d a b,by omega,by omega,reverseRange_holds d a b (by omega) hb,fun β kr=> ?_⟩;unfold BF;rw[cond_true,ap5 (by omega) hb hs];simp (disch:=omega) only[Option.bind_some,V.dJ,V.eo,mU,po,wrap64]
 | false=>exact ⟨p,h,d,h1,h2,permIn_refl _ _ _,fun β kr=>rfl⟩
theorem ari {d:Array Int} (ik:a+12<b) (hb:b≤d.size) (hs:d.size<1152921504606846976) (hB:Below aC a b d) (len p:Int) (t:Bool): ∃d1:Array Int,PermIn a b d d1∧
  ((∀(β:Type) (kr:((Bool×List V) ⊕ List V)→Option β),pq CC a b lim wb wp len p t (eA d) kr=kr (.inr (eA d1)))∨
  (SortedIn aC a b d1∧∀(β:Type) (kr:((Bool×List V) ⊕ List V)→Option β),pq CC a b lim wb wp len p t (eA d) kr=kr (.inl (true,eA d1)))):=by
 cases t with
 | true=>
  have hp:=partialInsertionSort_holds (lt:=aC) BH d a b (by omega) hb hB;refine ⟨_,hp.1,?_⟩;cases h:(partialInsertionSort aC d a b).2 with
  | true=>
   refine .inr ⟨hp.2 h,fun β kr=> ?_⟩;unfold pq;rw[cond_true,adQ (by omega) hb hs,h];rfl
  | false=>
   refine .inl fun β kr=> ?_;unfold pq;rw[cond_true,adQ (by omega) hb hs,h];rfl
 | false=>exact ⟨d,permIn_refl _ _ _,.inl fun β kr=>rfl⟩
end
def MS (a b:Nat) (d:Array Int):Prop:= ∀(lim:Int) (wb wp:Bool),∃R,Loop (ad5 CC) ((a:Int),(b:Int),lim,wb,wp,eA d)=some (eA R)∧PermIn a b d R∧SortedIn aC a b R
theorem MS.call {a b:Nat} {d:Array Int} (h:MS a b d) (lim:Int): ∃R,CC jc [.int .i64 (a:Int),.int .i64 (b:Int),.int .i64 lim,.list ae (eA d)]=some [.list ae (eA R)]∧PermIn a b d R∧SortedIn aC a b R:=by
 obtain ⟨R,e,h1,h2⟩:=h lim true true;refine ⟨R,aq2 ?_,h1,h2⟩;unfold ad6;rw[e];rfl
theorem arj {a b p:Nat} {d:Array Int} (ik:a+12<b) (hb:b≤d.size) (hs:d.size<1152921504606846976) (hB:Below aC a b d) (h1:a≤p) (h2:p<b)
  (ih: ∀(a2 b2:Nat) (d2:Array Int),b2-a2<b-a→a2≤b2→b2≤d2.size→d2.size<1152921504606846976→Below aC a2 b2 d2→MS a2 b2 d2) (wb wp:Bool) (lim:Int):
  ∃(a2 b2:Nat) (yS yT:Bool) (d2:Array Int),b2-a2<b-a∧a2≤b2∧b2≤d2.size∧d2.size<1152921504606846976∧Below aC a2 b2 d2∧
   (∀R,PermIn a2 b2 d2 R→SortedIn aC a2 b2 R→PermIn a b d R∧SortedIn aC a b R)∧
   ∀(β:Type) (kn:(Int×Int×Int×Bool×Bool×(List V))→Option β),wO CC a b wb wp lim p (eA d) kn=kn ((a2:Int),(b2:Int),lim,yS,yT,eA d2):=by
 have part: ∃(a2 b2:Nat) (yS yT:Bool) (d2:Array Int),b2-a2<b-a∧a2≤b2∧b2≤d2.size∧d2.size<1152921504606846976∧Below aC a2 b2 d2∧
   (∀R,PermIn a2 b2 d2 R→SortedIn aC a2 b2 R→PermIn a b d R∧SortedIn aC a b R)∧
   ∀(β:Type) (kn:(Int×Int×Int×Bool×Bool×(List V))→Option β),
    ((CC qc [.int .i64 (a:Int),.int .i64 (b:Int),.int .i64 (p:Int),.list ae (eA d)]).bind fun fA=>
        bif decide (((wrap .i64 (((V.nth fA 0).toInt)-(a:Int))):Int)<(wrap .i64 ((b:Int)-((V.nth fA 0).toInt)))) then
         (CC jc [.int .i64 (a:Int),.int .i64 ((V.nth fA 0).toInt),.int .i64 lim,.list ae ((V.nth (fA.drop 2) 0).toList)]).bind fun BG=>
         kn (wrap .i64 (((V.nth fA 0).toInt)+1),(b:Int),lim,decide (((wrap .i64 (((V.nth fA 0).toInt)-(a:Int))):Int)≥(wrap .i64 (Int.tdiv (wrap .i64 ((b:Int)-(a:Int))) 8))),(V.nth (fA.drop 1) 0).toBool,(V.nth BG 0).toList)
        else
         (CC jc [.int .i64 (wrap .i64 (((V.nth fA 0).toInt)+1)),.int .i64 (b:Int),.int .i64 lim,.list ae ((V.nth (fA.drop 2) 0).toList)]).bind fun mX=>
         kn ((a:Int),(V.nth fA 0).toInt,lim,decide (((wrap .i64 ((b:Int)-((V.nth fA 0).toInt))):Int)≥(wrap .i64 (Int.tdiv (wrap .i64 ((b:Int)-(a:Int))) 8))),(V.nth (fA.drop 1) 0).toBool,(V.nth mX 0).toList))=kn ((a2:Int),(b2:Int),lim,yS,yT,eA d2):=by
  obtain ⟨mid,ap,d4,hx⟩: ∃mid ap d4,partition aC d a b p=(mid,ap,d4):=⟨_,_,_,rfl⟩
  obtain ⟨g1,g2,rI,hBa,hBr,ark,arl⟩:=round_part BH (partition_holds aC) h1 h2 hb hB hx;have hc:=aqy (a:=a) (b:=b) (pivot:=p) (d:=d) h2 (by omega) hb hs;rw[hx] at hc;by_cases hl:mid-a<b-mid
  ·obtain ⟨L,e,l1,l2⟩:=(ih a mid d4 (by omega) g1 (by rw[rI];omega) (by rw[rI];exact hs) hBa).call lim;obtain ⟨UH,yG⟩:=ark _ l1 l2;refine ⟨mid+1,b,decide (((wrap .i64 ((mid:Int)-(a:Int))):Int)≥(wrap .i64 (Int.tdiv (wrap .i64 ((b:Int)-(a:Int))) 8))),ap,L,by omega,by omega,by rw[l1.1,rI];exact hb,by rw[l1.1,rI];exact hs,UH,yG,fun β kn=> ?_⟩
   ·rw[hc];simp only[Option.bind_some,V.dJ,V.uo,V.toInt_int,V.dS,V.dS,V.eo,pH,lx];rw[bw,ak (by rw[po g1,po (by omega),wrap64 (by omega) (by omega),wrap64 (by omega) (by omega)];omega),e];simp only[Option.bind_some,V.dJ,V.eo];rw[eR,wrap64 (x:=((mid+1:Nat):Int)) (by omega) (by omega)]
  ·obtain ⟨L,e,l1,l2⟩:=(ih (mid+1) b d4 (by omega) (by omega) (by rw[rI];exact hb) (by rw[rI];exact hs) hBr).call lim;obtain ⟨UH,yG⟩:=arl _ l1 l2;refine ⟨a,mid,decide (((wrap .i64 ((b:Int)-(mid:Int))):Int)≥(wrap .i64 (Int.tdiv (wrap .i64 ((b:Int)-(a:Int))) 8))),ap,L,by omega,by omega,by rw[l1.1,rI];omega,by rw[l1.1,rI];exact hs,UH,yG,fun β kn=> ?_⟩
   ·rw[hc];simp only[Option.bind_some,V.dJ,V.uo,V.toInt_int,V.dS,V.dS,V.eo,pH,lx];rw[bw,aj (by rw[po g1,po (by omega),wrap64 (by omega) (by omega),wrap64 (by omega) (by omega)];omega),eR,wrap64 (x:=((mid+1:Nat):Int)) (by omega) (by omega),e];simp only[Option.bind_some,V.dJ,V.eo]
 by_cases ha:0<a
 ·by_cases hc:cG d[a-1]! d[p]! <0
  ·obtain ⟨a2,b2,yS,yT,d2,q1,q2,q3,q4,q5,q6,q7⟩:=part;refine ⟨a2,b2,yS,yT,d2,q1,q2,q3,q4,q5,q6,fun β kn=> ?_⟩;rw[←q7 β kn];unfold wO;rw[bw,bu,mU ha,gG,mW (i:=a-1),mW (i:=p)];simp only[gj,jg,Option.bind_some,V.dJ,V.toInt_int,V.dS];rw[ja,bw,ak hc]
  ·obtain ⟨mid,d4,hx⟩: ∃mid d4,partitionEqual aC d a b p=(mid,d4):=⟨_,_,rfl⟩
   obtain ⟨g1,N7,rI,hB4,yG⟩:=round_eq BH (partitionEqual_holds aC) ha h1 h2 hb hB (by rw[ad7];exact hc) hx;have he:=aqA (a:=a) (b:=b) (pivot:=p) (d:=d) h2 (by omega) hb hs;rw[hx] at he;refine ⟨mid,b,wb,wp,d4,by omega,N7,by rw[rI];exact hb,by rw[rI];exact hs,hB4,yG,fun β kn=> ?_⟩;unfold wO;rw[bw,bu,mU ha,gG,mW (i:=a-1),mW (i:=p)];simp only[gj,jg,Option.bind_some,V.dJ,V.toInt_int,V.dS];rw[ja,bw,aj hc,he];rfl
 ·obtain ⟨a2,b2,yS,yT,d2,q1,q2,q3,q4,q5,q6,q7⟩:=part;refine ⟨a2,b2,yS,yT,d2,q1,q2,q3,q4,q5,q6,fun β kn=> ?_⟩;rw[←q7 β kn];unfold wO;rw[bw,bO]
theorem arn: ∀(n a b:Nat) (d:Array Int),b-a≤n→a≤b→b≤d.size→d.size<1152921504606846976→Below aC a b d→MS a b d:=by
 intro n
 induction n with
 | zero=>
  intro a b d hn ik hb hs hB lim wb wp;have hi:=insertionSort_holds (lt:=aC) BH d a b ik hb;refine ⟨_,cT ?_,hi⟩;show tc CC a b lim wb wp (eA d) (fun y=>some (Sum.inl y)) (fun r=>some (Sum.inr r))=_;rw[MR,bw,ak (by rw[po ik,wrap64 (by omega) (by omega)];omega),adB hb hs (by omega)];rfl
 | succ n ih=>
  intro a b d hn ik hb hs hB lim wb wp;by_cases h12:b-a≤12
  ·have hi:=insertionSort_holds (lt:=aC) BH d a b ik hb;refine ⟨_,cT ?_,hi⟩;show tc CC a b lim wb wp (eA d) (fun y=>some (Sum.inl y)) (fun r=>some (Sum.inr r))=_;rw[MR,bw,ak (by rw[po ik,wrap64 (by omega) (by omega)];omega),adB hb hs (by omega)];rfl
  ·have GU:a+12<b:=by omega
   have xD: ¬(((wrap .i64 ((b:Int)-(a:Int))):Int)≤12):=by rw[po ik,gG];omega
   by_cases h0:lim=0
   ·have hi:=heapSort_holds (lt:=aC) BH d a b ik hb;refine ⟨_,cT ?_,hi⟩;show tc CC a b lim wb wp (eA d) (fun y=>some (Sum.inl y)) (fun r=>some (Sum.inr r))=_;rw[MR,bw,aj xD,vX,ak h0,ap3 (by omega) hb hs];rfl
   ·obtain ⟨l1,d1,s1,k1⟩:=arf (lim:=lim) (wb:=wb) (wp:=wp) GU hb hs (wrap .i64 ((b:Int)-(a:Int))) (!wb);have b1:b≤d1.size:=by rw[s1.1];exact hb
    have z1:d1.size<1152921504606846976:=by rw[s1.1];exact hs
    obtain ⟨p,h,c1,p1,p2⟩:=aq7 GU b1 z1;obtain ⟨q,h2,d2,q1,q2,s2,k2⟩:=arh (lim:=l1) (wb:=wb) (wp:=wp) GU b1 z1 (wrap .i64 ((b:Int)-(a:Int))) h (h==2) p1 p2;have b2:b≤d2.size:=by rw[s2.1];exact b1
    have z2:d2.size<1152921504606846976:=by rw[s2.1];exact z1
    have B2:Below aC a b d2:=(hB.perm hb s1).perm b1 s2;obtain ⟨t,ht⟩: ∃t:Bool,t=(bif wb then (bif wp then (h2==1) else false) else false):=⟨_,rfl⟩
    obtain ⟨d3,s3,k3⟩:=ari (lim:=l1) (wb:=wb) (wp:=wp) GU b2 z2 B2 (wrap .i64 ((b:Int)-(a:Int))) (q:Int) t;have b3:b≤d3.size:=by rw[s3.1];exact b2
    have z3:d3.size<1152921504606846976:=by rw[s3.1];exact z2
    have B3:Below aC a b d3:=B2.perm b2 s3;have P3:PermIn a b d d3:=permIn_trans _ _ _ a b (permIn_trans _ _ _ a b s1 s2) s3;have step: ∀(β:Type) (kn:(Int×Int×Int×Bool×Bool×(List V))→Option β) (kr:(List V)→Option β),tc CC a b lim wb wp (eA d) kn kr=
      pq CC a b l1 wb wp (wrap .i64 ((b:Int)-(a:Int))) (q:Int) t (eA d2) (cP (un fun (acT:Bool) (UG:List V)=>kr UG) (fun (rE:List V)=>wO CC a b wb wp l1 q rE kn)):=by
     intro β kn kr;rw[MR,bw,aj xD,vX,aj h0,k1];simp only[un];rw[c1];simp only[Option.bind_some,V.dJ,V.uo,V.toInt_int,V.dS,pH,lx];rw[k2];simp only[un];rw[ht];cases wb
     ·rfl
     ·cases wp
      ·rfl
      ·rfl
    rcases k3 with k3|⟨k3s,k3⟩
    ·obtain ⟨a4,b4,wb4,wp4,d4,r1,r2,r3,r4,r5,r6,r7⟩:=arj GU b3 z3 B3 q1 q2 (fun a2 b2 d2 aY h1 h2 h3 h4=>ih a2 b2 d2 (by omega) h1 h2 h3 h4) wb wp l1;obtain ⟨R,e,e1,e2⟩:=ih a4 b4 d4 (by omega) r2 r3 r4 r5 l1 wb4 wp4;obtain ⟨f1,f2⟩:=r6 R e1 e2;refine ⟨R,(eJ ?_).trans e,permIn_trans _ _ _ a b P3 f1,f2⟩;show tc CC a b lim wb wp (eA d) (fun y=>some (Sum.inl y)) (fun r=>some (Sum.inr r))=_;rw[step,k3];exact r7 _ (fun y=>some (Sum.inl y))
    ·refine ⟨d3,cT ?_,P3,k3s⟩;show tc CC a b lim wb wp (eA d) (fun y=>some (Sum.inl y)) (fun r=>some (Sum.inr r))=_;rw[step,k3];rfl
theorem aro (l:List Int) (hs:l.length<1152921504606846976): ∃R:List Int,CC D3 [.list ae (l.map rF)]=some [.list ae (R.map rF)]∧R.Perm l∧R.Pairwise (fun x y=> ¬cG y x<0):=by
 obtain ⟨L,e1,_⟩:=ad9 (x:=l.length) (by omega);obtain ⟨R,e2,h1,h2⟩:=(arn _ 0 l.toArray.size l.toArray (az _) (kP _) (az _) (by simpa using hs) (.inl rfl)).call (L:Int);have aU:R.size=l.length:=by rw[h1.1];simp
 refine ⟨R.toList,aqO ?_,?_,?_⟩
 ·unfold adZ;rw[cY,EN (A:=l.length) (by omega),e1];simp only[Option.bind_some,V.dJ,V.toInt_int,V.dS];have e3:eA l.toArray=l.map rF:=by simp[ta]
  rw[e3,show ((l.toArray.size:Nat):Int)=(l.length:Int) by simp,show ((0:Nat):Int)=0 from rfl] at e2;rw[e2];rfl
 ·have h3:=h1.2.2;rw[show l.toArray.size=R.size from h1.1.symm,Array.extract_size,h1.1,Array.extract_size] at h3;exact h3
 ·rw[HS];intro i j hi hj O4;have h3:=h2 i j (kP _) O4 (by simpa[←aU] using hj);rw[ad7] at h3;have cd:i<R.size:=by simpa using hi
  have dQ:j<R.size:=by simpa using hj
  rw[getElem!_pos R i cd,getElem!_pos R j dQ] at h3;simpa using h3
end Go.AM.SO
set_option maxRecDepth 100000
namespace Go.AM
open Go.IntKind (wrap)
open Go.Proofs
noncomputable def GV (C:af) (t14:LV) (t15 t16:Int) (cs aQ aH aI:LV) {β:Type} (kn:(Int×LV×LV×LV×LV)→Option β) (kr:(Int×Bool×LV×LV×LV×LV)→Option β):Option β:=
 bif decide (t16<t15) then
  (idx t14 t16).bind fun x3=>
  (C D2 [V.int .i64 x3.toInt,.list ah cs,.list ae aQ,.list ax aH,.list ae aI]).bind fun r4=>
  kn (wrap .i64 (t16+1),(V.nth r4 0).toList,(V.nth (r4.drop 1) 0).toList,(V.nth ((r4.drop 1).drop 1) 0).toList,(V.nth (((r4.drop 1).drop 1).drop 1) 0).toList)
 else
  kr (t16,decide (t16<t15),cs,aQ,aH,aI)
noncomputable def MT (C:af) (t14:LV) (t15:Int):=un fun t16=>un fun cs=>un fun aQ=>un fun aH aI=>GV C t14 t15 t16 cs aQ aH aI (fun y=>some (Sum.inl y)) (fun r=>some (Sum.inr r))
noncomputable def arp (C:af):cz:=bt 81 Q0 [EQ,EQ,H1,H1,H1,H1,H1] [[1,2,0,0,0,0,0,0]] (@GV C) bB
theorem arq (C:af):bc C (arp C) 10 (Lp [1,1,1,0,1,0,0] 10):=br Q0 [EQ,EQ,H1,H1,H1,H1,H1] [[1,2,0,0,0,0,0,0]] (@GV C) (aR av)
noncomputable def aea (C:af) (t ep:LV):Option LV:=
 (C Kb [.list ah t,.list ae ep]).bind fun r1=>
 bif !((V.nth r1 0).toBool) then
  some [.list ae ([]:LV)]
 else
  (C Kd [.list ah t]).bind fun r2=>
  (Loop (MT C ep (ep.length:Int)) (0,(V.nth r2 0).toList,(V.nth (r2.drop 1) 0).toList,(V.nth ((r2.drop 1).drop 1) 0).toList,(V.nth (((r2.drop 1).drop 1).drop 1) 0).toList)).bind (un fun oA=>un fun (oB:Bool)=>un fun (au7:LV)=>un fun (wB:LV)=>un fun (Bd:LV) (pj:LV)=>
   (C D3 [.list ae pj]).bind fun dy=>
   some [.list ae ((V.nth dy 0).toList)])
theorem ars {t ep:LV} {r:Option LV} (h:aea CC t ep=r):CC J1 [.list ah t,.list ae ep]=r:=bA (ba (arq CC) av) h
theorem aeb (l:List Nat):(l.map fun (x:Nat)=>(x:Int)).map SO.rF=nS l:=by
 rw[pI];rfl
theorem art {l:List Nat} (hl:l.length≤1000000) (hn:l.Nodup): ∃Z:List Nat,CC D3 [.list ae (nS l)]=some [.list ae (nS Z)]∧Z.Perm l∧Z.Pairwise (· < ·):=by
 obtain ⟨R,e,hp,hs⟩:=SO.aro (l.map fun (x:Nat)=>(x:Int)) (by rw[cY];omega);have hR: ∀x∈R,∃n∈l,(n:Int)=x:=fun x hx=>ez.1 (hp.mem_iff.1 hx);have hRe:(R.map Int.toNat).map (fun (x:Nat)=>(x:Int))=R:=by
  rw[pI]
  conv=>rhs;rw[←List.map_id R]
  refine mr fun x hx=> ?_;obtain ⟨n,_,rfl⟩:=hR x hx;rfl
 have eD:(R.map Int.toNat).Perm l:=by
  have:=hp.map Int.toNat
  rw[pI] at this;simpa[Function.comp_def] using this
 refine ⟨R.map Int.toNat,?_,eD,?_⟩
 ·rw[←aeb,←aeb,hRe];exact e
 ·have lg:=eD.nodup_iff.2 hn;have h2:(R.map Int.toNat).Pairwise (fun x y=>x≤y):=by
   rw[List.pairwise_map];refine hs.imp_of_mem fun {x y} hx hy h=> ?_;unfold SO.cG at h;omega
  refine (h2.and lg).imp fun ⟨p,q⟩=>by omega
structure GW (K:Nat) (mul:Nat→Nat→Nat) (G Z:List Nat):Prop where
 GX:Z.Pairwise (· < ·)
 lt: ∀x∈Z,x<K
 sub: ∀g∈G,g∈Z
 pr: ∀x∈Z,kC mul G x
 cl: ∀x∈Z,∀y∈Z,mul x y∈Z
section
variable {K:Nat} {mul:Nat→Nat→Nat} (h:Tb K mul) (ha: ∀i j k,i<K→j<K→k<K→mul (mul i j) k=mul i (mul j k))
include ha
theorem aru {G M:List Nat} (hI:Gj K mul G M): ∀x∈M,∀y,kC mul G y→mul x y∈M:=fun x hx y hy=>by
 induction hy with
 | one hg=>exact hI.cl x hx _ hg
 | more hy hg ih=>
  rename_i y g;have hyM: ∀z,kC mul G z→z∈M:=fun z hz=>by
   induction hz with
   | one hg=>exact hI.sub _ hg
   | more _ hg ih=>exact hI.cl _ ih _ hg
  rw[←ha _ _ _ (hI.gd.lt _ hx) (hI.gd.lt _ (hyM _ hy)) (hI.gd.lt _ (hI.sub _ hg))];exact hI.cl _ ih _ hg
include h
theorem arv {G:List Nat} (hG: ∀g∈G,g<K) (hl:G.length≤1000000): ∃Z,CC J1 [.list ah (tG K mul),.list ae (nS G)]=some [.list ae (nS Z)]∧GW K mul G Z:=by
 have h4:=h.k4;have Ds:CC Kd [.list ah (tG K mul)]=some (wE K mul [] []):=by
  refine apv ?_;unfold adn;rw[nM];refine bT (gh (by omega) (by omega)) ?_;rw[Int.toNat_natCast,wE,dX];simp only[List.not_mem_nil,decide_false];rw[show tab K (fun _=>V.bool false)=List.replicate K (.bool false) by simp[tab,List.map_const']];rfl
 have key:=sM (step:=MT CC (nS G) (G.length:Int)) (fun i y=> ∃G' M,y=((i:Int),tG K mul,nS G',dX K M,nS M)∧Gj K mul G' M∧(∀x∈G',x∈G)∧∀j,j<i→G.getD j 0∈M) (fun r=> ∃G' M,r=((G.length:Int),false,tG K mul,nS G',dX K M,nS M)∧Gj K mul G' M∧(∀x∈G',x∈G)∧∀j,j<G.length→G.getD j 0∈M) G.length 0 (0,tG K mul,nS [],dX K [],nS []) (fun i _ hi y hy=> ?_) (fun y hy=> ?_) ⟨[],[],rfl,⟨⟨List.nodup_nil,fun _ h=>(by cases h)⟩,fun _ h=>(by cases h),fun _ h=>(by cases h),fun _ h=>(by cases h),az _⟩,fun _ h=>(by cases h),fun j hj=>(by omega)⟩
 ·obtain ⟨r,e,G',M,rfl,hI,hs,hj⟩:=key;have hM:=hI.gd;obtain ⟨Z,e2,hp,arw⟩:=art (l:=M) (by have:=hM.le;omega) hM.nd;refine ⟨Z,ars ?_,arw,fun x hx=>hM.lt x (hp.mem_iff.1 hx),fun g hg=> ?_,fun x hx=>(hI.pr x (hp.mem_iff.1 hx)).mono hs,fun x hx y hy=> ?_⟩
  ·unfold aea;refine bs (apu h ha hl hG) (bF rfl (bs Ds ?_));rw[cL];exact bs e (bs e2 rfl)
  ·obtain ⟨j,dQ,rfl⟩:=qy hg;have:=hj j dQ;rw[vi,bS dQ,Option.getD_some] at this;exact hp.mem_iff.2 this
  ·exact hp.mem_iff.2 (aru ha hI x (hp.mem_iff.1 hx) y (hI.pr y (hp.mem_iff.1 hy)))
 ·obtain ⟨G',M,rfl,hI,hs,hj⟩:=hy;have cd:i<G.length:=by omega
  have MU:G.getD i 0=G[i]:=by rw[vi,bS cd,Option.getD_some]
  obtain ⟨G2,M2,e,PK,hm,Ji,mI⟩:=apE h hI (g:=G[i]) (hG _ (cM cd));simp only[MT,GV,un];refine ⟨_,bT (cg cd) (bs (gi cd) (bs e rfl)),G2,M2,?_,PK,fun x hx=>(mI x hx).elim (hs x) fun e=>e▸cM cd,fun j dQ=> ?_⟩
  ·rw[cq (by omega)];rfl
  ·by_cases c:j=i
   ·rw[c,MU];exact Ji
   ·exact hm _ (hj j (by omega))
 ·obtain ⟨G',M,rfl,hI,hs,hj⟩:=hy;rw[eT] at*
  simp only[MT,GV,un];refine ⟨_,bF (aW (az _)) rfl,G',M,?_,hI,hs,hj⟩;rw[aW (az _)]
end
noncomputable def GY (C:af) (t dz:LV) (t34 t35:Int) (places:LV) {β:Type} (kn:(Int×LV)→Option β) (kr:(Int×Bool×LV)→Option β):Option β:=
 bif decide (t35<t34) then
  ar places t35 fun x3=>
  kn (wrap .i64 (t35+1),aE places t35 (V.int .i64 (-1)))
 else
  kr (t35,decide (t35<t34),places)
noncomputable def UI (C:af) (t dz:LV) (t34:Int):=un fun t35 places=>GY C t dz t34 t35 places (fun y=>some (Sum.inl y)) (fun r=>some (Sum.inr r))
noncomputable def GZ (C:af) (t dz t42:LV) (t43 t44:Int) (places:LV) {β:Type} (kn:(Int×LV)→Option β) (kr:((Int×LV) ⊕ (Int×Bool×LV))→Option β):Option β:=
 bif decide (t44<t43) then
  (idx t42 t44).bind fun x7=>
  bif decide (t44>0) then
  (idx dz (wrap .i64 (t44-1))).bind fun x8=>
  bif decide ((x8.toInt:Int)≥x7.toInt) then
   kr (.inl (1,([]:LV)))
  else
   bif (decide (0≤x7.toInt))&&(decide (x7.toInt<(places.length:Int))) then
   (places[(x7.toInt:Int).toNat]?).bind fun x9=>
   kn (wrap .i64 (t44+1),aE places (x7.toInt) (V.int .i64 t44))
   else none
  else
  bif (decide (0≤x7.toInt))&&(decide (x7.toInt<(places.length:Int))) then
   (places[(x7.toInt:Int).toNat]?).bind fun lY=>
   kn (wrap .i64 (t44+1),aE places (x7.toInt) (V.int .i64 t44))
  else none
 else
  kr (.inr (t44,decide (t44<t43),places))
noncomputable def MV (C:af) (t dz t42:LV) (t43:Int):=un fun t44 places=>GZ C t dz t42 t43 t44 places (fun y=>some (Sum.inl y)) (fun r=>some (Sum.inr r))
noncomputable def G0 (C:af) (t dz:LV) (i x:Int) (t68:LV) (t69 t70:Int) (t81:LV) (t82:Int) (places:LV) (t83:Int) (ss:LV) {β:Type} (kn:(Int×LV)→Option β) (kr:((Int×LV) ⊕ (Int×Bool×LV))→Option β):Option β:=
 bif decide (t83<t82) then
  (idx t81 t83).bind fun sY=>
  ar ss i fun oL=>
  (idx t x).bind fun sZ=>
  (idx sZ.toList sY.toInt).bind fun s0=>
  bif (decide (0≤s0.toInt))&&(decide (s0.toInt<(places.length:Int))) then
  (places[(s0.toInt:Int).toNat]?).bind fun oK=>
  (eV Tryz.prog ah ss [(i.toNat,0)]).bind fun pk=>
  bif (decide (0≤t83))&&(decide (t83<(pk.toList.length:Int))) then
   (eV Tryz.prog ah ss [(i.toNat,0)]).bind fun lZ=>
   (lZ.toList[t83.toNat]?).bind fun yP=>
   ar (setRow Tryz.prog (aE lZ.toList t83 (V.int .i64 oK.toInt)) ah ss [(i.toNat,0)]) i fun Bb=>
   (eV Tryz.prog ah (setRow Tryz.prog (aE lZ.toList t83 (V.int .i64 oK.toInt)) ah ss [(i.toNat,0)]) [(i.toNat,0)]).bind fun LU=>
   bif (decide (0≤t83))&&(decide (t83<(LU.toList.length:Int))) then
   (eV Tryz.prog ah (setRow Tryz.prog (aE lZ.toList t83 (V.int .i64 oK.toInt)) ah ss [(i.toNat,0)]) [(i.toNat,0)]).bind fun yM=>
   (yM.toList[t83.toNat]?).bind fun yN=>
   bif decide ((yN.toInt:Int)<0) then
    kr (.inl (9,([]:LV)))
   else
    kn (wrap .i64 (t83+1),setRow Tryz.prog (aE lZ.toList t83 (V.int .i64 oK.toInt)) ah ss [(i.toNat,0)])
   else none
  else none
  else none
 else
  kr (.inr (t83,decide (t83<t82),ss))
noncomputable def MW (C:af) (t dz:LV) (i x:Int) (t68:LV) (t69 t70:Int) (t81:LV) (t82:Int) (places:LV):=un fun t83 ss=>G0 C t dz i x t68 t69 t70 t81 t82 places t83 ss (fun y=>some (Sum.inl y)) (fun r=>some (Sum.inr r))
noncomputable def G1 (C:af) (t dz t68:LV) (t69:Int) (places:LV) (t70:Int) (ss:LV) {β:Type} (kn:(Int×LV)→Option β) (kr:((Int×LV) ⊕ (Int×Bool×LV))→Option β):Option β:=
 bif decide (t70<t69) then
  (idx t68 t70).bind fun ql=>
  bif (decide (0≤(dz.length:Int)))&&((decide ((dz.length:Int)≤(dz.length:Int)))&&(Nat.ble (((dz.length:Int).toNat)*8) bm)) then
  ar ss t70 fun rz=>
  (Loop (MW C t dz t70 ql.toInt t68 t69 t70 dz (dz.length:Int) places) (0,aE ss t70 (.list ae (List.replicate ((dz.length:Int).toNat) (V.int .i64 0))))).bind (cP (un fun (aec:Int) (arx:LV)=>
   kr (.inl (aec,arx))) (un fun ap6=>un fun (MI:Bool) (ary:LV)=>
   kn (wrap .i64 (t70+1),ary)))
  else none
 else
  kr (.inr (t70,decide (t70<t69),ss))
noncomputable def UJ (C:af) (t dz t68:LV) (t69:Int) (places:LV):=un fun t70 ss=>G1 C t dz t68 t69 places t70 ss (fun y=>some (Sum.inl y)) (fun r=>some (Sum.inr r))
noncomputable def MX (C:af):cz:=bt 129 Q1 [EQ,EQ,EQ,H1,H1] [[1,2,3,0,0,0]] (@GY C) (bt 209 Q2 [EQ,EQ,EQ,EQ,H1,H1] [[0,0],[1,2,3,4,0,0,0]] (@GZ C) (bt 401 Q3 [EQ,EQ,EQ,EQ,EQ,EQ,EQ,EQ,EQ,H1,EQ,H1] [[0,0],[1,2,3,4,5,6,7,8,9,0,0,11,0]] (@G0 C) (bt 337 Q4 [EQ,EQ,EQ,EQ,H1,EQ,H1] [[0,0],[1,2,3,4,0,0,6,0]] (@G1 C) bB)))
theorem arz (C:af):bc C (MX C) 11 (Lp [1,1,1,1,0,1,0,0] 11):=br Q1 [EQ,EQ,EQ,H1,H1] [[1,2,3,0,0,0]] (@GY C) (aR av)
theorem arA (C:af):bc C (MX C) 11 (Lp [1,1,1,1,1,0,1,0,0] 11):=br Q2 [EQ,EQ,EQ,EQ,H1,H1] [[0,0],[1,2,3,4,0,0,0]] (@GZ C) (aR av)
theorem arB (C:af):bc C (MX C) 11 (Lp [1,1,1,1,1,1,1,0,1,0,0,1,1,0,0,1,1,1,0,0] 11):=br Q3 [EQ,EQ,EQ,EQ,EQ,EQ,EQ,EQ,EQ,H1,EQ,H1] [[0,0],[1,2,3,4,5,6,7,8,9,0,0,11,0]] (@G0 C) (aR av)
theorem arC (C:af):bc C (MX C) 11 (Lp [1,1,1,1,1,1,1,0,1,0,0] 11):=br Q4 [EQ,EQ,EQ,EQ,H1,EQ,H1] [[0,0],[1,2,3,4,0,0,6,0]] (@G1 C) (aR (ba (arB C) av))
noncomputable def aed (C:af) (t dz:LV):Option LV:=
 (C uy [.list ah t]).bind fun r1=>
 bif (((V.nth r1 0).toInt):Int) != 0 then
  some [.list ah ([]:LV),V.int .i64 ((V.nth r1 0).toInt)]
 else
  bif (dz.length:Int)==0 then
  some [.list ah ([]:LV),V.int .i64 1]
  else
  (C D4 [.list ah t,.list ae dz]).bind fun r2=>
  bif !((V.nth r2 0).toBool) then
   some [.list ah ([]:LV),V.int .i64 1]
  else
   bif (decide (0≤(t.length:Int)))&&((decide ((t.length:Int)≤(t.length:Int)))&&(Nat.ble (((t.length:Int).toNat)*8) bm)) then
   (Loop (UI C t dz ((List.replicate ((t.length:Int).toNat) (V.int .i64 0)).length:Int)) (0,List.replicate ((t.length:Int).toNat) (V.int .i64 0))).bind (un fun gU=>un fun (oA:Bool) (arD:LV)=>
    (Loop (MV C t dz dz (dz.length:Int)) (0,arD)).bind (cP (un fun (wD:Int) (arE:LV)=>
     some [.list ah arE,V.int .i64 wD]) (un fun yE=>un fun (sX:Bool) (arF:LV)=>
     bif (decide (0≤(dz.length:Int)))&&((decide ((dz.length:Int)≤(dz.length:Int)))&&(Nat.ble (((dz.length:Int).toNat)*24) bm)) then
      (Loop (UJ C t dz dz (dz.length:Int) arF) (0,List.replicate ((dz.length:Int).toNat) (V.list ae ([]:LV)))).bind (cP (un fun (arG:Int) (arH:LV)=>
       some [.list ah arH,V.int .i64 arG]) (un fun au8=>un fun (aqW:Bool) (arI:LV)=>
       some [.list ah arI,V.int .i64 0]))
     else none)))
   else none
theorem arJ {t dz:LV} {r:Option LV} (h:aed CC t dz=r):CC J2 [.list ah t,.list ae dz]=r:=bA (ba (arz CC) (ba (arA CC) (ba (arC CC) av))) h
def mY (K:Nat) (Z:List Nat) (k:Nat):LV:=tab K fun x=>if∃j,j<k∧Z.getD j 0=x then nV (cQ Z x) else .int .i64 (-1)
def iA (mul:Nat→Nat→Nat) (Z:List Nat) (i j:Nat):Nat:=cQ Z (mul (Z.getD i 0) (Z.getD j 0))
theorem MY {Z:List Nat} (h:Z.Pairwise (· < ·)):Z.Nodup:=h.imp fun h=>by omega
theorem yU {Z:List Nat} {i:Nat} (hi:i<Z.length):Z.getD i 0∈Z:=by rw[bD hi];exact cM hi
theorem BJ {Z:List Nat} {x:Nat} (hx:x∈Z):Z.getD (cQ Z x) 0=x:=by rw[bD (ky hx)];exact Fp hx
section
variable {K:Nat} {mul:Nat→Nat→Nat} {G Z:List Nat} (h:Tb K mul) (ha: ∀i j k,i<K→j<K→k<K→mul (mul i j) k=mul i (mul j k)) (hZ:GW K mul G Z)
include hZ
theorem aee {i j:Nat} (hi:i<Z.length) (hj:j<Z.length):iA mul Z i j<Z.length:=ky (hZ.cl _ (yU hi) _ (yU hj))
theorem UK {i j:Nat} (hi:i<Z.length) (hj:j<Z.length):Z.getD (iA mul Z i j) 0=mul (Z.getD i 0) (Z.getD j 0):=BJ (hZ.cl _ (yU hi) _ (yU hj))
theorem GW.le:Z.length≤K:=eQ.le ⟨MY hZ.GX,hZ.lt⟩
include h
theorem arK (h0:Z≠[]):Tb Z.length (iA mul Z):=⟨by have:=List.length_pos_iff.2 h0;omega,lu hZ.le h.k4,fun i j hi hj=>aee hZ hi hj⟩
include ha
omit h in
theorem arL {i j k:Nat} (hi:i<Z.length) (hj:j<Z.length) (hk:k<Z.length):iA mul Z (iA mul Z i j) k=iA mul Z i (iA mul Z j k):=by
 have e: ∀i,i<Z.length→Z.getD i 0<K:=fun i hi=>hZ.lt _ (yU hi);rw[iA,UK hZ hi hj,ha _ _ _ (e i hi) (e j hj) (e k hk),←UK hZ hj hk];rfl
theorem arM (h0:Z≠[]):CC J2 [.list ah (tG K mul),.list ae (nS Z)]=some [.list ah (tG Z.length (iA mul Z)),.int .i64 0]:=by
 have h4:=h.k4;have hle:=hZ.le;have hp:=List.length_pos_iff.2 h0;refine arJ ?_;unfold aed;rw[nM,cL];refine bs (Bl h ha) (bF rfl (bF (by simp;omega) (bs (adm (by omega) hZ.lt) (bF rfl (bT (gh (by omega) (by omega)) ?_)))));rw[Int.toNat_natCast,za];refine bs (sS (fun i a=>((i:Int),a)) K (fun _=> .int .i64 (-1)) _ (by simp) (fun a=>((K:Int),false,a)) (fun i hi a hl=> ?_) ?_) ?_
 ·simp only[UI,GY,un,ar,aE];refine bT (cg hi) ((rq (by omega)).trans ?_);rw[cq (by omega),Int.toNat_natCast]
 ·simp only[UI,GY,un];refine bF (aW (az _)) ?_;rw[aW (az _)]
 simp only[un];rw[show (tab K fun _=>V.int .i64 (-1))=mY K Z 0 from cJ fun j _=>by rw[aj];rintro ⟨a,ha,_⟩;omega];have l2: ∀{a b:LV},a=nS Z→b=nS Z→Loop (MV CC (tG K mul) a b (Z.length:Int)) (0,mY K Z 0)=some (.inr ((Z.length:Int),false,mY K Z Z.length)):=by
  rintro _ _ rfl rfl;refine dW Z.length (fun i=>((i:Int),mY K Z i)) _ (fun i hi=> ?_) ?_
  ·have UL:Z[i]<K:=hZ.lt _ (cM hi);have oc:(mY K Z i).set Z[i] (.int .i64 (i:Int))=mY K Z (i+1):=by
    unfold mY;rw[iI];refine cJ fun x _=> ?_;by_cases c:x=Z[i]
    ·rw[ak c,ak ⟨i,by omega,by rw[bD hi,c]⟩,c,A8 (MY hZ.GX) hi];rfl
    ·rw[aj c];refine ite_congr (propext ⟨fun ⟨j,hj,e⟩=>⟨j,by omega,e⟩,fun ⟨j,hj,e⟩=>⟨j,?_,e⟩⟩) (fun _=>rfl) (fun _=>rfl);by_cases c2:j=i
     ·rw[c2,bD hi] at e;exact absurd e.symm c
     ·omega
   have hl:(mY K Z i).length=K:=eH;simp only[MV,GZ,un,aE];have fin:(bif (decide (0≤(nV Z[i]).toInt))&&(decide ((nV Z[i]).toInt<((mY K Z i).length:Int))) then
     ((mY K Z i)[((nV Z[i]).toInt:Int).toNat]?).bind fun _=>some (Sum.inl (β:=(Int×LV) ⊕ (Int×Bool×LV)) (wrap .i64 ((i:Int)+1),(mY K Z i).set ((nV Z[i]).toInt).toNat (V.int .i64 (i:Int))))
     else none)=some (Sum.inl (((i+1:Nat):Int),mY K Z (i+1))):=by
    refine bT (nB (by rw[hl];exact UL)) (bs (bS (by rw[hl];exact UL)) ?_);rw[show (nV Z[i]).toInt.toNat=Z[i] from rfl,oc,cq (by omega)]
   refine bT (cg hi) (bs (gi hi) ?_);rcases B6 i with c|c
   ·refine bF (by simp[c]) fin
   ·refine bT (cZ (by omega)) (bs (a:=nV (Z[i-1]'(by omega))) ?_ (bF ?_ fin))
    ·rw[show wrap .i64 ((i:Int)-1)=((i-1:Nat):Int) by rw[show ((i:Int)-1)=((i-1:Nat):Int) by omega];exact wrap64 (by omega) (by omega)];exact gi (by omega)
    ·have:=HS.1 hZ.GX (i-1) i (by omega) hi (by omega);exact cR (by show¬((Z[i-1]:Nat):Int)≥((Z[i]:Nat):Int);omega)
  ·simp only[MV,GZ,un];refine bF (aW (az _)) ?_;rw[aW (az _)]
 have eb: ∀{x:Nat},x∈Z→(mY K Z Z.length)[x]? =some (nV (cQ Z x)):=fun {x} hx=>by
  unfold mY;rw[lk (hZ.lt x hx),ak ⟨cQ Z x,ky hx,BJ hx⟩]
 have l3: ∀{i:Nat} (hi:i<Z.length) {k1 k2:Int} {a b c l1:LV} {s:LV},a=nS Z→b=nS Z→s.length=Z.length→Loop (MW CC (tG K mul) a (i:Int) (Z[i]:Int) l1 k1 k2 b (Z.length:Int) (mY K Z Z.length)) (0,s.set i (.list ae (List.replicate Z.length (V.int .i64 0))))=some (.inr ((Z.length:Int),false,s.set i (.list ae (tab Z.length fun j=>nV (iA mul Z i j))))):=by
  rintro i hi k1 k2 _ _ c l1 s rfl rfl hs;refine sS (fun x b=>((x:Int),s.set i (.list ae b))) Z.length (fun j=>nV (iA mul Z i j)) (List.replicate Z.length (V.int .i64 0)) (by simp) (fun b=>(Sum.inr (α:=Int×LV) ((Z.length:Int),false,s.set i (.list ae b)))) (fun j hj b hb=> ?_) ?_
  ·simp only[MW,G0,un,ar,aE,Int.toNat_natCast];have e0: ∀b:LV,(s.set i (V.list ae b))[i]? =some (.list ae b):=fun b=>qx (by rw[hs];exact hi);have hm:mul Z[i] Z[j]∈Z:=hZ.cl _ (cM hi) _ (cM hj);have e1:setRow Tryz.prog (b.set j (V.int .i64 (cQ Z (mul Z[i] Z[j]):Int))) ah (s.set i (V.list ae b)) [(i,0)]=s.set i (.list ae (b.set j (V.int .i64 (cQ Z (mul Z[i] Z[j]):Int)))):=by
    rw[Mu (e0 b),List.set_set]
   refine bT (cg hj) (bs (gi hj) ((cy (e0 b)).trans (bs (pn (hZ.lt _ (cM hi))) (bs (uT (hZ.lt _ (cM hj))) (bT (nB (by rw[show (mY K Z Z.length).length=K from eH];exact hZ.lt _ hm)) (bs (by rw[show (nV (mul Z[i] Z[j])).toInt.toNat=mul Z[i] Z[j] from rfl];exact eb hm) (bs (oM (e0 b)) ?_)))))));rw[V.eo];refine bT (nB (by rw[hb];exact hj)) (bs (oM (e0 b)) ?_);rw[V.eo];refine bs (bS (by rw[hb];exact hj)) ?_;rw[show (nV (cQ Z (mul Z[i] Z[j]))).toInt=((cQ Z (mul Z[i] Z[j]):Nat):Int) from rfl];simp only[e1];refine (cy (e0 _)).trans (bs (oM (e0 _)) ?_)
   rw[V.eo];refine bT (nB (by rw[tm,hb];exact hj)) (bs (oM (e0 _)) ?_);rw[V.eo];refine bs (qx (by rw[hb];exact hj)) (bF yq ?_);rw[cq (by omega)];show _=some (Sum.inl (((j+1:Nat):Int),s.set i (V.list ae (b.set j (nV (iA mul Z i j))))));rw[iA,bD hi,bD hj];rfl
  ·simp only[MW,G0,un];refine bF (aW (az _)) ?_;rw[aW (az _)]
 refine bs (l2 rfl rfl) ?_;simp only[cP,un];refine bT (gh (by omega) (by omega)) ?_;rw[Int.toNat_natCast];refine bs (sS (fun i a=>((i:Int),a)) Z.length (fun i=> .list ae (tab Z.length fun j=>nV (iA mul Z i j))) (List.replicate Z.length (V.list ae [])) (by simp) (fun a=>Sum.inr (α:=Int×LV) ((Z.length:Int),false,a)) (fun i hi a hl=> ?_) ?_) ?_
 ·simp only[UJ,G1,un,ar,aE];rw[cL];refine bT (cg hi) (bs (gi hi) (bT (gh (by omega) (by omega)) ((rq (by rw[hl];exact hi)).trans ?_)));rw[Int.toNat_natCast,Int.toNat_natCast];refine bs (l3 (c:=[]) hi rfl rfl hl) ?_;rw[cq (by omega)];rfl
 ·simp only[UJ,G1,un];refine bF (aW (az _)) ?_;rw[aW (az _)]
 ·rfl
end
noncomputable def G3 (C:af) (n:Int) (t7:LV) (t8 t9:Int) {β:Type} (kn:Int→Option β) (kr:((Bool) ⊕ (Int×Bool))→Option β):Option β:=
 bif decide (t9<t8) then
  (idx t7 t9).bind fun x1=>
  bif decide ((x1.toInt:Int)<0) then
  kr (.inl false)
  else
  bif decide ((x1.toInt:Int)≥n) then
   kr (.inl false)
  else
   kn (wrap .i64 (t9+1))
 else
  kr (.inr (t9,decide (t9<t8)))
noncomputable def UM (C:af) (n:Int) (t7:LV) (t8:Int):=fun t9=>G3 C n t7 t8 t9 (fun y=>some (Sum.inl y)) (fun r=>some (Sum.inr r))
noncomputable def arN (C:af):cz:=bt 33 Rv [EQ,EQ,EQ,H1] [[0],[1,2,3,0,0]] (@G3 C) bB
theorem arO (C:af):bc C (arN C) 35 (Lp [1,0,1,0,0] 35):=br Rv [EQ,EQ,EQ,H1] [[0],[1,2,3,0,0]] (@G3 C) (aR av)
noncomputable def aef (C:af) (list:LV) (n:Int):Option LV:=
 (Loop (UM C n list (list.length:Int)) 0).bind (cP (fun (sR:Bool)=>
  some [.bool sR]) (un fun (jF:Int) (gU:Bool)=>
  some [.bool true]))
theorem arP {list:LV} {n:Int} {r:Option LV} (h:aef CC list n=r):CC Aq [.list ae list,V.int .i64 n]=r:=bA (ba (arO CC) av) h
noncomputable def G4 (C:af) (u f:LV) (x:Int) (t23:LV) (t24 t25:Int) (t30:LV) (t31 t32:Int) {β:Type} (kn:Int→Option β) (kr:((Bool) ⊕ (Int×Bool))→Option β):Option β:=
 bif decide (t32<t31) then
  (idx t30 t32).bind fun x3=>
  (idx f x3.toInt).bind fun x4=>
  (idx f x).bind fun x5=>
  (idx u x5.toInt).bind fun x6=>
  (idx f t32).bind fun x7=>
  (idx x6.toList x7.toInt).bind fun x8=>
  bif (x4.toInt:Int) != x8.toInt then
  kr (.inl false)
  else
  kn (wrap .i64 (t32+1))
 else
  kr (.inr (t32,decide (t32<t31)))
noncomputable def UN (C:af) (u f:LV) (x:Int) (t23:LV) (t24 t25:Int) (t30:LV) (t31:Int):=fun t32=>G4 C u f x t23 t24 t25 t30 t31 t32 (fun y=>some (Sum.inl y)) (fun r=>some (Sum.inr r))
noncomputable def G5 (C:af) (u f t23:LV) (t24 t25:Int) {β:Type} (kn:Int→Option β) (kr:((Bool) ⊕ (Int×Bool))→Option β):Option β:=
 bif decide (t25<t24) then
  (idx t23 t25).bind fun x2=>
  (Loop (UN C u f t25 t23 t24 t25 x2.toList (x2.toList.length:Int)) 0).bind (cP (fun (mO:Bool)=>
   kr (.inl mO)) (un fun (LN:Int) (wD:Bool)=>
   kn (wrap .i64 (t25+1))))
 else
  kr (.inr (t25,decide (t25<t24)))
noncomputable def UO (C:af) (u f t23:LV) (t24:Int):=fun t25=>G5 C u f t23 t24 t25 (fun y=>some (Sum.inl y)) (fun r=>some (Sum.inr r))
noncomputable def aeg (C:af):cz:=bt 113 RT [EQ,EQ,EQ,EQ,EQ,EQ,EQ,EQ,H1] [[0],[1,2,3,4,5,6,7,8,0,0]] (@G4 C) (bt 65 RU [EQ,EQ,EQ,EQ,H1] [[0],[1,2,3,4,0,0]] (@G5 C) bB)
theorem arQ (C:af):bc C (aeg C) 66 (Lp [1,1,0,1,0,0,1,1,0,0,1,1,0,0] 66):=br RT [EQ,EQ,EQ,EQ,EQ,EQ,EQ,EQ,H1] [[0],[1,2,3,4,5,6,7,8,0,0]] (@G4 C) (aR av)
theorem arR (C:af):bc C (aeg C) 66 (Lp [1,1,0,1,0,0] 66):=br RU [EQ,EQ,EQ,EQ,H1] [[0],[1,2,3,4,0,0]] (@G5 C) (aR (ba (arQ C) av))
noncomputable def aeh (C:af) (t u f:LV):Option LV:=
 bif (f.length:Int) != (t.length:Int) then
  some [.bool false]
 else
  (C Aq [.list ae f,V.int .i64 (u.length:Int)]).bind fun r1=>
  bif !((V.nth r1 0).toBool) then
  some [.bool false]
  else
  (Loop (UO C u f t (t.length:Int)) 0).bind (cP (fun (s6:Bool)=>
   some [.bool s6]) (un fun (yE:Int) (sX:Bool)=>
   some [.bool true]))
theorem arS {t u f:LV} {r:Option LV} (h:aeh CC t u f=r):CC Qi [.list ah t,.list ah u,.list ae f]=r:=bA (ba (arR CC) av) h
noncomputable def aei (C:af) (t u f:LV):Option LV:=
 bif (f.length:Int)==(t.length:Int) then
  (C uy [.list ah t]).bind fun r1=>
  bif (((V.nth r1 0).toInt):Int)==0 then
  (C uy [.list ah u]).bind fun r2=>
  bif (((V.nth r2 0).toInt):Int)==0 then
   (C Qi [.list ah t,.list ah u,.list ae f]).bind fun r3=>
   some [.bool ((V.nth r3 0).toBool)]
  else
   some [.bool false]
  else
  some [.bool false]
 else
  some [.bool false]
theorem arT {t u f:LV} {r:Option LV} (h:aei CC t u f=r):CC Ke [.list ah t,.list ah u,.list ae f]=r:=bA (L:=bB) av h
noncomputable def aej (C:af) (x image:Int) (aH aI:LV):Option LV:=
 ar aH x fun x1=>
 bif decide ((x1.toInt:Int)<0) then
  ar aH x fun x2=>
  bif Nat.ble ((aI.length+([V.int .i64 x]:LV).length)*8) bm then
  ar (aE aH x (V.int .i64 image)) x fun x3=>
  some [.bool ((x3.toInt:Int)==image),.list ae (aE aH x (V.int .i64 image)),.list ae (aI++([V.int .i64 x]:LV))]
  else none
 else
  ar aH x fun x4=>
  some [.bool ((x4.toInt:Int)==image),.list ae aH,.list ae aI]
theorem arU {x image:Int} {aH aI:LV} {r:Option LV} (h:aej CC x image aH aI=r):CC rj [V.int .i64 x,V.int .i64 image,.list ae aH,.list ae aI]=r:=bA (L:=bB) av h
noncomputable def G6 (C:af) (t ep u cS:LV) (t54 t55:Int) (aQ:LV) {β:Type} (kn:(Int×LV)→Option β) (kr:(Int×Bool×LV)→Option β):Option β:=
 bif decide (t55<t54) then
  ar aQ t55 fun x5=>
  kn (wrap .i64 (t55+1),aE aQ t55 (V.int .i64 (-1)))
 else
  kr (t55,decide (t55<t54),aQ)
noncomputable def UP (C:af) (t ep u cS:LV) (t54:Int):=un fun t55 aQ=>G6 C t ep u cS t54 t55 aQ (fun y=>some (Sum.inl y)) (fun r=>some (Sum.inr r))
noncomputable def G7 (C:af) (t u cS t63:LV) (t64 t65:Int) (aH aI:LV) {β:Type} (kn:(Int×LV×LV)→Option β) (kr:((Bool×LV) ⊕ (Int×Bool×LV×LV))→Option β):Option β:=
 bif decide (t65<t64) then
  (idx t63 t65).bind fun x9=>
  (idx cS t65).bind fun lY=>
  (C rj [V.int .i64 x9.toInt,V.int .i64 lY.toInt,.list ae aH,.list ae aI]).bind fun dy=>
  bif !((V.nth dy 0).toBool) then
  kr (.inl (false,([]:LV)))
  else
  kn (wrap .i64 (t65+1),(V.nth (dy.drop 1) 0).toList,(V.nth ((dy.drop 1).drop 1) 0).toList)
 else
  kr (.inr (t65,decide (t65<t64),aH,aI))
noncomputable def G8 (C:af) (t u cS t63:LV) (t64:Int):=un fun t65=>un fun aH aI=>G7 C t u cS t63 t64 t65 aH aI (fun y=>some (Sum.inl y)) (fun r=>some (Sum.inr r))
noncomputable def G9 (C:af) (t u distinct:LV) (i x:Int) (t95:LV) (t96 t97:Int) (aH aI:LV) {β:Type} (kn:(Int×LV×LV)→Option β) (kr:((Bool×LV) ⊕ (Int×Bool×LV×LV))→Option β):Option β:=
 bif decide (t97<t96) then
  (idx t95 t97).bind fun oL=>
  (idx t x).bind fun sZ=>
  (idx sZ.toList oL.toInt).bind fun s0=>
  ar aH x fun oK=>
  (idx u oK.toInt).bind fun pk=>
  bif (decide (0≤oL.toInt))&&(decide (oL.toInt<(aH.length:Int))) then
  (aH[(oL.toInt:Int).toNat]?).bind fun lZ=>
  (idx pk.toList lZ.toInt).bind fun yP=>
  (C rj [V.int .i64 s0.toInt,V.int .i64 yP.toInt,.list ae aH,.list ae aI]).bind fun UQ=>
  bif !((V.nth UQ 0).toBool) then
   kr (.inl (false,([]:LV)))
  else
   kn (wrap .i64 (t97+1),(V.nth (UQ.drop 1) 0).toList,(V.nth ((UQ.drop 1).drop 1) 0).toList)
  else none
 else
  kr (.inr (t97,decide (t97<t96),aH,aI))
noncomputable def Ha (C:af) (t u distinct:LV) (i x:Int) (t95:LV) (t96:Int):=un fun t97=>un fun aH aI=>G9 C t u distinct i x t95 t96 t97 aH aI (fun y=>some (Sum.inl y)) (fun r=>some (Sum.inr r))
noncomputable def MZ (C:af) (t u distinct:LV) (i:Int) (aH aI:LV) {β:Type} (kn:(Int×LV×LV)→Option β) (kr:((Bool×LV) ⊕ (Int×Bool×LV×LV))→Option β):Option β:=
 bif decide (i<(aI.length:Int)) then
  ar aI i fun sY=>
  (Loop (Ha C t u distinct i sY.toInt distinct (distinct.length:Int)) (0,aH,aI)).bind (cP (un fun (LJ:Bool) (arV:LV)=>
   kr (.inl (LJ,arV))) (un fun adJ=>un fun (aec:Bool)=>un fun (arW:LV) (E8:LV)=>
   kn (wrap .i64 (i+1),arW,E8)))
 else
  kr (.inr (i,decide (i<(aI.length:Int)),aH,aI))
noncomputable def M1 (C:af) (t u distinct:LV):=un fun i=>un fun aH aI=>MZ C t u distinct i aH aI (fun y=>some (Sum.inl y)) (fun r=>some (Sum.inr r))
noncomputable def M3 (C:af):cz:=bt 81 Q5 [EQ,EQ,EQ,EQ,EQ,H1,H1] [[1,2,3,4,5,0,0,0]] (@G6 C) (bt 193 Q6 [EQ,EQ,EQ,EQ,EQ,H1,H1,H1] [[0,0],[1,2,3,4,5,0,0,0,0]] (@G7 C) (bt 369 Q7 [EQ,EQ,EQ,EQ,EQ,EQ,EQ,H1,H1,H1] [[0,0],[1,2,3,4,5,6,7,0,0,0,0]] (@G9 C) (bt 305 Q8 [EQ,EQ,EQ,H1,H1,H1] [[0,0],[1,2,3,0,0,0,0]] (@MZ C) bB)))
theorem arX (C:af):bc C (M3 C) 12 (Lp [1,1,1,0,1,0,0] 12):=br Q5 [EQ,EQ,EQ,EQ,EQ,H1,H1] [[1,2,3,4,5,0,0,0]] (@G6 C) (aR av)
theorem arY (C:af):bc C (M3 C) 12 (Lp [1,1,1,1,1,1,0,1,0,0] 12):=br Q6 [EQ,EQ,EQ,EQ,EQ,H1,H1,H1] [[0,0],[1,2,3,4,5,0,0,0,0]] (@G7 C) (aR av)
theorem arZ (C:af):bc C (M3 C) 12 (Lp [1,1,1,1,1,1,1,1,0,1,0,0,1,0,0,1,1,0,0] 12):=br Q7 [EQ,EQ,EQ,EQ,EQ,EQ,EQ,H1,H1,H1] [[0,0],[1,2,3,4,5,6,7,0,0,0,0]] (@G9 C) (aR av)
theorem ar0 (C:af):bc C (M3 C) 12 (Lp [1,1,1,1,1,1,1,1,0,1,0,0] 12):=br Q8 [EQ,EQ,EQ,H1,H1,H1] [[0,0],[1,2,3,0,0,0,0]] (@MZ C) (aR (ba (arZ C) av))
noncomputable def aek (C:af) (t ep u cS:LV):Option LV:=
 bif (ep.length:Int) != (cS.length:Int) then
  some [.bool false,.list ae ([]:LV)]
 else
  (C uy [.list ah t]).bind fun r1=>
  bif (((V.nth r1 0).toInt):Int) != 0 then
  some [.bool false,.list ae ([]:LV)]
  else
  (C uy [.list ah u]).bind fun r2=>
  bif (((V.nth r2 0).toInt):Int) != 0 then
   some [.bool false,.list ae ([]:LV)]
  else
   (C Aq [.list ae ep,V.int .i64 (t.length:Int)]).bind fun r3=>
   bif !((V.nth r3 0).toBool) then
   some [.bool false,.list ae ([]:LV)]
   else
   (C Aq [.list ae cS,V.int .i64 (u.length:Int)]).bind fun r4=>
   bif !((V.nth r4 0).toBool) then
    some [.bool false,.list ae ([]:LV)]
   else
    bif (decide (0≤(t.length:Int)))&&((decide ((t.length:Int)≤(t.length:Int)))&&(Nat.ble (((t.length:Int).toNat)*8) bm)) then
    (Loop (UP C t ep u cS ((List.replicate ((t.length:Int).toNat) (V.int .i64 0)).length:Int)) (0,List.replicate ((t.length:Int).toNat) (V.int .i64 0))).bind (un fun oB=>un fun (oC:Bool) (wB:LV)=>
     (Loop (G8 C t u cS ep (ep.length:Int)) (0,wB,([]:LV))).bind (cP (un fun (s6:Bool) (ar1:LV)=>
      some [.bool s6,.list ae ar1]) (un fun sX=>un fun (ada:Bool)=>un fun (yz:LV) (j7:LV)=>
      bif (decide (0≤(j7.length:Int)))&&((decide ((j7.length:Int)≤(j7.length:Int)))&&(decide ((j7.length:Int)≤(j7.length:Int)))) then
       (Loop (M1 C t u ((j7.drop 0).take ((j7.length:Int).toNat))) (0,yz,j7)).bind (cP (un fun (MI:Bool) (ar2:LV)=>
        some [.bool MI,.list ae ar2]) (un fun au9=>un fun (ara:Bool)=>un fun (Fv:LV) (Fw:LV)=>
        bif decide ((Fw.length:Int)<(t.length:Int)) then
        some [.bool false,.list ae ([]:LV)]
        else
        some [.bool true,.list ae Fv]))
      else none)))
    else none
theorem ar3 {t ep u cS:LV} {r:Option LV} (h:aek CC t ep u cS=r):CC J3 [.list ah t,.list ae ep,.list ah u,.list ae cS]=r:=bA (ba (arX CC) (ba (arY CC) (ba (ar0 CC) av))) h
noncomputable def Hb (C:af) (t21:LV) (t22 t23:Int) (BK:LV) {β:Type} (kn:(Int×LV)→Option β) (kr:(Int×Bool×LV)→Option β):Option β:=
 bif decide (t23<t22) then
  (idx t21 t23).bind fun x2=>
  bif (decide (0≤x2.toInt))&&(decide (x2.toInt<(BK.length:Int))) then
  (BK[(x2.toInt:Int).toNat]?).bind fun x3=>
  kn (wrap .i64 (t23+1),aE BK (x2.toInt) (.bool true))
  else none
 else
  kr (t23,decide (t23<t22),BK)
noncomputable def M4 (C:af) (t21:LV) (t22:Int):=un fun t23 BK=>Hb C t21 t22 t23 BK (fun y=>some (Sum.inl y)) (fun r=>some (Sum.inr r))
noncomputable def Hc (C:af) (t32:Int) (UR:LV) (t33:Int) (BL:LV) {β:Type} (kn:(Int×LV)→Option β) (kr:(Int×Bool×LV)→Option β):Option β:=
 bif decide (t33<t32) then
  ar UR t33 fun x7=>
  bif x7.toBool then
  bif Nat.ble ((BL.length+([V.int .i64 t33]:LV).length)*8) bm then
   kn (wrap .i64 (t33+1),BL++([V.int .i64 t33]:LV))
  else none
  else
  kn (wrap .i64 (t33+1),BL)
 else
  kr (t33,decide (t33<t32),BL)
noncomputable def US (C:af) (t32:Int) (UR:LV):=un fun t33 BL=>Hc C t32 UR t33 BL (fun y=>some (Sum.inl y)) (fun r=>some (Sum.inr r))
noncomputable def ael (C:af):cz:=bt 81 Q9 [EQ,EQ,H1,H1] [[1,2,0,0,0]] (@Hb C) (bt 177 Ra [EQ,H1,H1,EQ] [[1,0,0,0,4]] (@Hc C) bB)
theorem ar4 (C:af):bc C (ael C) 13 (Lp [1,1,1,0,1,0,0] 13):=br Q9 [EQ,EQ,H1,H1] [[1,2,0,0,0]] (@Hb C) (aR av)
theorem ar5 (C:af):bc C (ael C) 13 (Lp [1,1,1,1,1,0,1,0,0] 13):=br Ra [EQ,H1,H1,EQ] [[1,0,0,0,4]] (@Hc C) (aR av)
noncomputable def aem (C:af) (t u f:LV):Option LV:=
 (C Ke [.list ah t,.list ah u,.list ae f]).bind fun r1=>
 bif !((V.nth r1 0).toBool) then
  some [.list ae ([]:LV)]
 else
  bif (decide (0≤(u.length:Int)))&&((decide ((u.length:Int)≤(u.length:Int)))&&(Nat.ble (((u.length:Int).toNat)*1) bm)) then
  (Loop (M4 C f (f.length:Int)) (0,List.replicate ((u.length:Int).toNat) (V.bool false))).bind (un fun gU=>un fun (oA:Bool) (aen:LV)=>
   (Loop (US C (aen.length:Int) aen) (0,([]:LV))).bind (un fun wu=>un fun (mO:Bool) (ar6:LV)=>
    some [.list ae ar6]))
  else none
theorem ar7 {t u f:LV} {r:Option LV} (h:aem CC t u f=r):CC J4 [.list ah t,.list ah u,.list ae f]=r:=bA (ba (ar4 CC) (ba (ar5 CC) av)) h
theorem UT {l:List Nat} {n:Nat} (hl:l.length≤1000000) (h: ∀y∈l,y<n):CC Aq [.list ae (nS l),.int .i64 (n:Int)]=some [.bool true]:=by
 refine arP ?_;unfold aef;rw[cL];refine bs (dW l.length (fun i=>(i:Int)) (.inr ((l.length:Int),false)) (fun i hi=> ?_) ?_) rfl
 ·simp only[UM,G3];refine bT (cg hi) (bs (gi hi) (bF yq (bF (Fl (h _ (cM hi))) ?_)));rw[cq (by omega)]
 ·simp only[UM,G3];rw[aW (az _)];rfl
def fV (K:Nat) (φ:Nat→Nat) (M:List Nat):LV:=tab K fun x=>if x∈M then nV (φ x) else .int .i64 (-1)
section
variable {K:Nat} {φ:Nat→Nat}
theorem M5 {M:List Nat} {x:Nat} (hx:x<K):(fV K φ M)[x]? =some (if x∈M then nV (φ x) else .int .i64 (-1)):=lk hx
theorem ar8 {M:List Nat} {x:Nat} (h:x∉M):(fV K φ M).set x (.int .i64 (φ x:Int))=fV K φ (M++[x]):=by
 unfold fV;rw[iI];refine cJ fun j _=> ?_;by_cases c:j=x
 ·rw[ak c,c,ak (by simp)];rfl
 ·rw[aj c];exact ite_congr (by simp[c]) (fun _=>rfl) (fun _=>rfl)
theorem aeo {M:List Nat} (hM:eQ K M) (h4:K≤400) {x:Nat} (hx:x<K):CC rj [.int .i64 (x:Int),.int .i64 (φ x:Int),.list ae (fV K φ M),.list ae (nS M)]=some [.bool true,.list ae (fV K φ (bR M x)),.list ae (nS (bR M x))]:=by
 have hl:=hM.le;refine arU ?_;unfold aej;have e0:=M5 (φ:=φ) (M:=M) hx;by_cases c:x∈M
 ·rw[ak c] at e0;rw[show bR M x=M by rw[bR,ak c]];refine (cy e0).trans (bF yq ((cy e0).trans ?_))
  simp[nV]
 ·rw[aj c] at e0;have e1:(fV K φ (M++[x]))[x]? =some (nV (φ x)):=by rw[M5 hx,ak (by simp)]
  rw[show bR M x=M++[x] by rw[bR,aj c]];refine (cy e0).trans (bT (cZ (by decide)) ((cy e0).trans (bT (cap (by rw[cL];simp;omega) (by omega)) ?_)))
  rw[show aE (fV K φ M) (x:Int) (.int .i64 (φ x:Int))=fV K φ (M++[x]) from ar8 c];refine (cy e1).trans ?_;simp[nV,nS]
theorem ar9 {M:List Nat} (h: ∀x,x<K→x∈M):fV K φ M=nS ((List.range K).map φ):=by
 rw[nS,pI];exact cJ fun x hx=>ak (h x hx)
variable {U:Nat} {mul mZ:Nat→Nat→Nat} (h:Tb K mul) (ha: ∀i j k,i<K→j<K→k<K→mul (mul i j) k=mul i (mul j k)) (h2:Tb U mZ) (zL: ∀i j k,i<U→j<U→k<U→mZ (mZ i j) k=mZ i (mZ j k))
  (pw: ∀x,x<K→φ x<U) (M6: ∀x y,x<K→y<K→φ (mul x y)=mZ (φ x) (φ y))
include h ha h2 zL pw M6
theorem asa:CC Ke [.list ah (tG K mul),.list ah (tG U mZ),.list ae (nS ((List.range K).map φ))]=some [.bool true]:=by
 have h4:=h.k4;have hlen:(nS ((List.range K).map φ)).length=K:=by rw[cL];simp
 have nk: ∀{x:Nat},x<K→idx (nS ((List.range K).map φ)) (x:Int)=some (nV (φ x)):=fun {x} hx=>by
  rw[gi (by simpa using hx)];simp[nV]
 refine arT ?_;unfold aei;rw[hlen,nM];refine bT (by simp) (bs (Bl h ha) (bT rfl (bs (Bl h2 zL) (bT rfl (bs (a:=[.bool true]) (arS ?_) rfl)))));unfold aeh;rw[hlen,nM,nM];refine bF (by simp) (bs (UT (by simp;omega) fun y hy=> ?_) (bF rfl (bs (dW K (fun i=>(i:Int)) (.inr ((K:Int),false)) (fun i hi=> ?_) ?_) rfl)))
 ·obtain ⟨x,hx,rfl⟩:=ez.1 hy;exact pw x (fm.1 hx)
 ·simp only[UO,G5];refine bT (cg hi) (bs (pn hi) ?_);rw[V.eo,eH];refine bs (dW K (fun j=>(j:Int)) (.inr ((K:Int),false)) (fun j hj=> ?_) ?_) ?_
  ·simp only[UN,G4];refine bT (cg hj) (bs (qh hj) (bs (nk (h.lt i j hi hj)) (bs (nk hi) (bs (pn (pw i hi)) (bs (nk hj) (bs (uT (pw j hj)) (bF ?_ ?_)))))))
   ·show (((φ (mul i j):Nat):Int) != ((mZ (φ i) (φ j):Nat):Int))=false;rw[M6 i j hi hj];simp
   ·rw[cq (by omega)]
  ·simp only[UN,G4];rw[aW (az _)];rfl
  ·rw[cq (by omega)];rfl
 ·simp only[UO,G5];rw[aW (az _)];rfl
theorem asb (asd: ∀y,y<U→∃x,x<K∧φ x=y):CC J4 [.list ah (tG K mul),.list ah (tG U mZ),.list ae (nS ((List.range K).map φ))]=some [.list ae (nS (List.range U))]:=by
 have h4:=h.k4;have h24:=h2.k4;have hlen:(nS ((List.range K).map φ)).length=K:=by rw[cL];simp
 have nk: ∀{x:Nat},x<K→idx (nS ((List.range K).map φ)) (x:Int)=some (nV (φ x)):=fun {x} hx=>by
  rw[gi (by simpa using hx)];simp[nV]
 refine ar7 ?_;unfold aem;rw[hlen,nM];refine bs (asa h ha h2 zL pw M6) (bF rfl (bT (gh (by omega) (by omega)) ?_));rw[Int.toNat_natCast];have l1:Loop (M4 CC (nS ((List.range K).map φ)) (K:Int)) (0,List.replicate U (.bool false))=some ((K:Int),false,List.replicate U (.bool true)):=by
  rw[show List.replicate U (V.bool false)=tab U fun y=> .bool (decide (y∈(List.range 0).map φ)) by rw[mP];exact cJ fun j _=>by simp];rw[show List.replicate U (V.bool true)=tab U fun y=> .bool (decide (y∈(List.range K).map φ)) by rw[mP];exact cJ fun j hj=>by obtain ⟨x,hx,e⟩:=asd j hj;rw[cZ (ez.2 ⟨x,fm.2 hx,e⟩)]];refine dW K (fun i=>((i:Int),tab U fun y=>V.bool (decide (y∈(List.range i).map φ)))) _ (fun i hi=> ?_) ?_
  ·simp only[M4,Hb,un,aE];refine bT (cg hi) (bs (nk hi) (bT (nB (by rw[eH];exact pw i hi)) (bs (bS (by rw[eH];exact pw i hi)) ?_)));rw[cq (by omega),show (nV (φ i)).toInt.toNat=φ i from rfl,iI];refine congrArg (fun t=>some (Sum.inl (((i+1:Nat):Int),t))) (cJ fun y _=> ?_);rw[Cg,rM];by_cases c:y=φ i
   ·rw[ak c,cZ (by simp[c])]
   ·rw[aj c];exact congrArg V.bool (decide_eq_decide.2 (by simp[c]))
  ·simp only[M4,Hb,un];refine bF (aW (az _)) ?_;rw[aW (az _)]
 refine bs l1 ?_;simp only[un];rw[za];refine bs (dW U (fun i=>((i:Int),nS (List.range i))) ((U:Int),false,nS (List.range U)) (fun i hi=> ?_) ?_) rfl
 ·simp only[US,Hc,un];have e0:(List.replicate U (V.bool true))[i]? =some (.bool true):=by rw[HN,ak hi]
  refine bT (cg hi) ((cy e0).trans (bT rfl (bT (cap (by rw[cL];simp;omega) (by omega)) ?_)));rw[cq (by omega),Cg];simp[nS,nV]
 ·simp only[US,Hc,un];refine bF (aW (az _)) ?_;rw[aW (az _)]
theorem ase {gs:List Nat} (hg: ∀g∈gs,g<K) (hl:gs.length≤1000) (xB: ∀x,x<K→kC mul gs x):CC J3 [.list ah (tG K mul),.list ae (nS gs),.list ah (tG U mZ),.list ae (nS (gs.map φ))]=some [.bool true,.list ae (nS ((List.range K).map φ))]:=by
 have h4:=h.k4;have lM:(nS (gs.map φ)).length=gs.length:=by rw[cL];simp
 refine ar3 ?_;unfold aek;rw[lM,cL,nM,nM];refine bF (by simp) (bs (Bl h ha) (bF rfl (bs (Bl h2 zL) (bF rfl (bs (UT (by omega) hg) (bF rfl (bs (UT (by simp;omega) fun y hy=> ?_) (bF rfl (bT (gh (by omega) (by omega)) ?_)))))))))
 ·obtain ⟨x,hx,rfl⟩:=ez.1 hy;exact pw x (hg x hx)
 rw[Int.toNat_natCast,za];refine bs (sS (fun i a=>((i:Int),a)) K (fun _=> .int .i64 (-1)) (List.replicate K (V.int .i64 0)) (by simp) (fun a=>((K:Int),false,a)) (fun i hi a hl=> ?_) ?_) ?_
 ·simp only[UP,G6,un,ar,aE];refine bT (cg hi) ((rq (by omega)).trans ?_);rw[cq (by omega),Int.toNat_natCast]
 ·simp only[UP,G6,un];refine bF (aW (az _)) ?_;rw[aW (az _)]
 simp only[un];rw[show (tab K fun _=>V.int .i64 (-1))=fV K φ [] from cJ fun j _=>by simp];have l2: ∃M,Loop (G8 CC (tG K mul) (tG U mZ) (nS (gs.map φ)) (nS gs) (gs.length:Int)) (0,fV K φ [],([]:LV))=some (.inr ((gs.length:Int),false,fV K φ M,nS M))∧eQ K M∧∀g,g∈gs→g∈M:=by
  have key:=sM (step:=G8 CC (tG K mul) (tG U mZ) (nS (gs.map φ)) (nS gs) (gs.length:Int)) (fun i y=> ∃M,y=((i:Int),fV K φ M,nS M)∧eQ K M∧∀j,j<i→gs.getD j 0∈M) (fun r=> ∃M,r= .inr ((gs.length:Int),false,fV K φ M,nS M)∧eQ K M∧∀j,j<gs.length→gs.getD j 0∈M) gs.length 0 (0,fV K φ [],([]:LV)) (fun i _ hi y hy=> ?_) (fun y hy=> ?_) ⟨[],rfl,⟨List.nodup_nil,fun _ h=>(by cases h)⟩,fun j hj=>(by omega)⟩
  ·obtain ⟨r,e,M,rfl,hM,hj⟩:=key;refine ⟨M,e,hM,fun g hg=> ?_⟩;obtain ⟨j,dQ,rfl⟩:=qy hg;rw[←bD (d:=0) dQ];exact hj j dQ
  ·obtain ⟨M,rfl,hM,hj⟩:=hy;have cd:i<gs.length:=by omega
   have MU:=hg _ (cM cd);have hgm:idx (nS (gs.map φ)) (i:Int)=some (nV (φ gs[i])):=by rw[gi (by simpa using cd)];simp[nV]
   simp only[G8,G7,un];refine ⟨_,bT (cg cd) (bs (gi cd) (bs hgm (bs (aeo hM h4 MU) (bF rfl rfl)))),bR M gs[i],?_,hM.add MU,fun j dQ=> ?_⟩
   ·rw[cq (by omega)];rfl
   ·by_cases c:j=i
    ·rw[c,bD cd];exact wq
    ·exact (nz _ _).subset (hj j (by omega))
  ·obtain ⟨M,rfl,hM,hj⟩:=hy;rw[eT] at*
   simp only[G8,G7,un];refine ⟨_,bF (aW (az _)) rfl,M,?_,hM,hj⟩;rw[aW (az _)]
 obtain ⟨D,e2,hD,hDg⟩:=l2;have yB:=hD.le;refine bs e2 ?_;simp only[cP,un];refine bT (by simp) ?_;rw[cL,Int.toNat_natCast,lx,show (nS D).take D.length=nS D from List.take_of_length_le (by rw[cL];exact az _)];have l3: ∀{M0:List Nat} {i:Nat} (hi:i<M0.length),eQ K M0→(∀g∈D,g∈M0)→∃M,Loop (Ha CC (tG K mul) (tG U mZ) (nS D) (i:Int) (M0[i]:Int) (nS D) ((nS D).length:Int)) (0,fV K φ M0,nS M0)=some (.inr ((D.length:Int),false,fV K φ M,nS M))∧eQ K M∧M0 <+: M∧∀g∈D,mul M0[i] g∈M:=by
  intro M0 i hi rB uW;have hx:=rB.lt _ (cM hi);have key:=sM (step:=Ha CC (tG K mul) (tG U mZ) (nS D) (i:Int) (M0[i]:Int) (nS D) ((nS D).length:Int)) (fun k y=> ∃M,y=((k:Int),fV K φ M,nS M)∧eQ K M∧M0 <+: M∧∀j,j<k→mul M0[i] (D.getD j 0)∈M) (fun r=> ∃M,r= .inr ((D.length:Int),false,fV K φ M,nS M)∧eQ K M∧M0 <+: M∧∀j,j<D.length→mul M0[i] (D.getD j 0)∈M) D.length 0 (0,fV K φ M0,nS M0) (fun k _ hk y hy=> ?_) (fun y hy=> ?_) ⟨M0,rfl,rB,nW _,fun j hj=>(by omega)⟩
  ·obtain ⟨r,e,M,rfl,hM,hp,hj⟩:=key;refine ⟨M,e,hM,hp,fun g hg=> ?_⟩;obtain ⟨j,dQ,rfl⟩:=qy hg;have:=hj j dQ;rwa [bD dQ] at this
  ·obtain ⟨M,rfl,hM,hp,hj⟩:=hy;have dh:k<D.length:=by omega
   have hgD:=cM dh;have BM:=hD.lt _ hgD;have hmK:=h.lt _ _ hx BM;have e5:(fV K φ M)[M0[i]]? =some (nV (φ M0[i])):=by rw[M5 hx,ak (hp.subset (cM hi))]
   have e6:(fV K φ M)[D[k]]? =some (nV (φ D[k])):=by rw[M5 BM,ak (hp.subset (uW _ hgD))]
   have er:=aeo (φ:=φ) hM h4 hmK;rw[M6 _ _ hx BM] at er;simp only[Ha,G9,un];refine ⟨_,bT (by rw[cL];exact cg dh) (bs (gi dh) (bs (pn hx) (bs (uT BM) ((cy e5).trans (bs (pn (pw _ hx)) (bT (nB (by rw[show (fV K φ M).length=K from eH];exact BM)) (bs (a:=nV (φ D[k])) e6 (bs (uT (pw _ BM)) (bs er (bF rfl rfl)))))))))),bR M (mul M0[i] D[k]),?_,hM.add hmK,hp.trans (nz _ _),fun j dQ=> ?_⟩
   ·rw[cq (by omega)];rfl
   ·by_cases c:j=k
    ·rw[c,bD dh];exact wq
    ·exact (nz _ _).subset (hj j (by omega))
  ·obtain ⟨M,rfl,hM,hp,hj⟩:=hy;rw[eT] at*
   simp only[Ha,G9,un];refine ⟨_,bF (by rw[cL];exact aW (az _)) rfl,M,?_,hM,hp,hj⟩;rw[cL,aW (az _)]
 have l4: ∃M,Loop (M1 CC (tG K mul) (tG U mZ) (nS D)) (0,fV K φ D,nS D)=some (.inr ((M.length:Int),false,fV K φ M,nS M))∧eQ K M∧(∀g∈D,g∈M)∧∀x∈M,∀g∈D,mul x g∈M:=by
  have key:=DQ (step:=M1 CC (tG K mul) (tG U mZ) (nS D)) (fun y=> ∃(i:Nat) (M:List Nat),y=((i:Int),fV K φ M,nS M)∧eQ K M∧(∀g∈D,g∈M)∧i≤M.length∧∀j,j<i→∀g∈D,mul (M.getD j 0) g∈M) (fun y=>1000-y.1.toNat) (fun r=> ∃M,r= .inr ((M.length:Int),false,fV K φ M,nS M)∧eQ K M∧(∀g∈D,g∈M)∧∀j,j<M.length→∀g∈D,mul (M.getD j 0) g∈M) (fun y hy=> ?_) (0,fV K φ D,nS D) ⟨0,D,rfl,hD,fun g hg=>hg,kP _,fun j hj=>(by omega)⟩
  ·obtain ⟨r,e,M,rfl,hM,uW,hj⟩:=key;refine ⟨M,e,hM,uW,fun x hx=> ?_⟩;obtain ⟨j,dQ,rfl⟩:=qy hx;have:=hj j dQ;rwa [bD dQ] at this
  ·obtain ⟨i,M,rfl,hM,uW,hi,hj⟩:=hy;have hle:=hM.le;simp only[M1,MZ,un];rw[cL];by_cases c:i<M.length
   ·obtain ⟨M',e,Ge,hp,hm⟩:=l3 c hM uW;refine .inl ⟨(((i+1:Nat):Int),fV K φ M',nS M'),bT (cg c) ((cy (uM c)).trans (bs e ?_)),⟨i+1,M',rfl,Ge,fun g hg=>hp.subset (uW g hg),by have:=hp.length_le;omega,fun j dQ g hg=> ?_⟩,by simp only;omega⟩
    ·simp only[cP,un];rw[cq (by omega)]
    ·have dn:j<M.length:=by omega
     have mJ:M'.getD j 0=M.getD j 0:=by
      obtain ⟨t,rfl⟩:=hp;rw[bD (by simp;omega),bD dn,List.getElem_append_left dn]
     rw[mJ];by_cases c2:j=i
     ·rw[c2,bD c];exact hm g hg
     ·exact hp.subset (hj j (by omega) g hg)
   ·obtain rfl:i=M.length:=by omega
    refine .inr ⟨_,bF (aW (az _)) rfl,M,?_,hM,uW,hj⟩;rw[aW (az _)]
 obtain ⟨M,e4,hM,uW,mG⟩:=l4;have ju: ∀x,kC mul gs x→x∈M:=fun x hx=>by
  induction hx with
  | one hg=>exact uW _ (hDg _ hg)
  | more _ hg ih=>exact mG _ ih _ (hDg _ hg)
 have hKM:K≤M.length:=by
  have:=wR (l₁:=List.range K) (l₂:=M) List.nodup_range fun x hx=>ju x (xB x (fm.1 hx));simpa using this
 refine bs e4 ?_;simp only[cP,un];refine bF (by rw[cL];exact aW hKM) ?_;rw[ar9 fun x hx=>ju x (xB x hx)]
end
noncomputable def Hd (C:af) (s:LV) (v t7 t8:Int) {β:Type} (kn:Int→Option β) (kr:((Int) ⊕ (Int×Bool))→Option β):Option β:=
 bif decide (t8<t7) then
  (idx s t8).bind fun x1=>
  bif v==x1.toInt then
  kr (.inl t8)
  else
  kn (wrap .i64 (t8+1))
 else
  kr (.inr (t8,decide (t8<t7)))
noncomputable def M7 (C:af) (s:LV) (v t7:Int):=fun t8=>Hd C s v t7 t8 (fun y=>some (Sum.inl y)) (fun r=>some (Sum.inr r))
noncomputable def asf (C:af):cz:=bt 33 R9 [EQ,EQ,EQ,H1] [[0],[1,2,3,0,0]] (@Hd C) bB
theorem asg (C:af):bc C (asf C) 85 (Lp [1,0,1,0,0] 85):=br R9 [EQ,EQ,EQ,H1] [[0],[1,2,3,0,0]] (@Hd C) (aR av)
noncomputable def UU (C:af) (s:LV) (v:Int):Option LV:=
 (Loop (M7 C s v (s.length:Int)) 0).bind (cP (fun sR=>
  some [V.int .i64 sR]) (un fun (jF:Int) (gU:Bool)=>
  some [V.int .i64 (-1)]))
theorem aep {s:LV} {v:Int} {r:Option LV} (h:UU CC s v=r):CC Ku [.list ae s,V.int .i64 v]=r:=bA (ba (asg CC) av) h
noncomputable def aeq (C:af) (s:LV) (v:Int):Option LV:=
 (C Ku [.list ae s,V.int .i64 v]).bind fun r1=>
 some [.bool (decide ((((V.nth r1 0).toInt):Int)≥0))]
theorem ash {s:LV} {v:Int} {r:Option LV} (h:aeq CC s v=r):CC Kh [.list ae s,V.int .i64 v]=r:=bA (L:=bB) av h
noncomputable def He (C:af) (n ss:Int) (aQ:LV) (me mf:Int) (mg:Bool) (mh ms:Int) (aS bf bK bU ca fy iw fN e9 fa fh fx dB fM jH:LV) (i:Int) (fb fX:LV) {β:Type} (kn:(Int×LV×LV)→Option β) (kr:(Int×Bool×LV×LV)→Option β):Option β:=
 bif decide (i<n) then
  ar e9 i fun x3=>
  bif (decide (0≤x3.toInt))&&(decide (x3.toInt<(fb.length:Int))) then
  (fb[(x3.toInt:Int).toNat]?).bind fun x4=>
  ar fa i fun x5=>
  bif Nat.ble (x4.toStr.length+(lD ([.int .u8 (wrap .u8 (wrap .i64 (97+x5.toInt)))]:LV)).length) pL then
   ar fb i fun x6=>
   ar fX i fun x7=>
   kn (wrap .i64 (i+1),aE fb i (.str (x4.toStr++(lD ([.int .u8 (wrap .u8 (wrap .i64 (97+x5.toInt)))]:LV)))),aE fX i (.bool true))
  else none
  else none
 else
  kr (i,decide (i<n),fb,fX)
noncomputable def Hf (C:af) (n ss:Int) (aQ:LV) (me mf:Int) (mg:Bool) (mh ms:Int) (aS bf bK bU ca fy iw fN e9 fa fh fx dB fM jH:LV):=un fun i=>un fun fb fX=>He C n ss aQ me mf mg mh ms aS bf bK bU ca fy iw fN e9 fa fh fx dB fM jH i fb fX (fun y=>some (Sum.inl y)) (fun r=>some (Sum.inr r))
noncomputable def Hg (C:af) (n i t87 t88 ss:Int) (aQ:LV) (me mf:Int) (mg:Bool) (mh ms:Int) (td bf bK bU ca fy iw fN e9 fa fh fx fb fM jH fX:LV) (j:Int) (dB:LV) {β:Type} (kn:(Int×LV)→Option β) (kr:(Int×Bool×LV)→Option β):Option β:=
 bif decide (j<n) then
  ar dB i fun sZ=>
  ar dB i fun s0=>
  ar fa j fun oK=>
  (eV Tryz.prog ah dB [(i.toNat,0)]).bind fun pk=>
  bif (decide (0≤oK.toInt))&&(decide (oK.toInt<(pk.toList.length:Int))) then
  (eV Tryz.prog ah dB [(i.toNat,0)]).bind fun lZ=>
  (lZ.toList[(oK.toInt:Int).toNat]?).bind fun yP=>
  bif (decide (0≤yP.toInt))&&(decide (yP.toInt<(td.length:Int))) then
   (td[(yP.toInt:Int).toNat]?).bind fun Bb=>
   ar fh j fun LU=>
   (idx Bb.toList LU.toInt).bind fun yM=>
   (eV Tryz.prog ah dB [(i.toNat,0)]).bind fun yN=>
   bif (decide (0≤j))&&(decide (j<(yN.toList.length:Int))) then
   (eV Tryz.prog ah dB [(i.toNat,0)]).bind fun x30=>
   (x30.toList[j.toNat]?).bind fun x31=>
   kn (wrap .i64 (j+1),setRow Tryz.prog (aE x30.toList j (V.int .i64 yM.toInt)) ah dB [(i.toNat,0)])
   else none
  else none
  else none
 else
  kr (j,decide (j<n),dB)
noncomputable def BN (C:af) (n i t87 t88 ss:Int) (aQ:LV) (me mf:Int) (mg:Bool) (mh ms:Int) (td bf bK bU ca fy iw fN e9 fa fh fx fb fM jH fX:LV):=un fun j dB=>Hg C n i t87 t88 ss aQ me mf mg mh ms td bf bK bU ca fy iw fN e9 fa fh fx fb fM jH fX j dB (fun y=>some (Sum.inl y)) (fun r=>some (Sum.inr r))
noncomputable def Hh (C:af) (n t87 ss:Int) (aQ:LV) (me mf:Int) (mg:Bool) (mh ms:Int) (td bf bK bU ca fy iw fN e9 fa fh fx fb fM jH:LV) (t88:Int) (dB fX:LV) {β:Type} (kn:(Int×LV×LV)→Option β) (kr:(Int×Bool×LV×LV)→Option β):Option β:=
 bif decide (t88<t87) then
  ar td t88 fun qj=>
  bif decide (0<(fX.length:Int)) then
  (fX[0]?).bind fun uU=>
  bif uU.toBool then
   bif decide (0<(fX.length:Int)) then
   (fX[0]?).bind fun Br=>
   bif (decide (0≤n))&&((decide (n≤n))&&(Nat.ble ((n.toNat)*8) bm)) then
    ar dB t88 fun rG=>
    ar (aE dB t88 (.list ae (List.replicate (n.toNat) (V.int .i64 0)))) t88 fun ql=>
    (eV Tryz.prog ah (aE dB t88 (.list ae (List.replicate (n.toNat) (V.int .i64 0)))) [(t88.toNat,0)]).bind fun rz=>
    bif decide (0<(rz.toList.length:Int)) then
    (eV Tryz.prog ah (aE dB t88 (.list ae (List.replicate (n.toNat) (V.int .i64 0)))) [(t88.toNat,0)]).bind fun sY=>
    (sY.toList[0]?).bind fun oL=>
    (Loop (BN C n t88 t87 t88 ss aQ me mf mg mh ms td bf bK bU ca fy iw fN e9 fa fh fx fb fM jH (fX.set 0 (.bool true))) (1,setRow Tryz.prog (sY.toList.set 0 (V.int .i64 t88)) ah (aE dB t88 (.list ae (List.replicate (n.toNat) (V.int .i64 0)))) [(t88.toNat,0)])).bind (un fun aqr=>un fun (MI:Bool) (yp:LV)=>
     kn (wrap .i64 (t88+1),yp,fX.set 0 (.bool true)))
    else none
   else none
   else none
  else
   (C Kh [.list ae qj.toList,V.int .i64 0]).bind fun nO=>
   bif decide (0<(fX.length:Int)) then
   (fX[0]?).bind fun x36=>
   bif (decide (0≤n))&&((decide (n≤n))&&(Nat.ble ((n.toNat)*8) bm)) then
    ar dB t88 fun x37=>
    ar (aE dB t88 (.list ae (List.replicate (n.toNat) (V.int .i64 0)))) t88 fun x38=>
    (eV Tryz.prog ah (aE dB t88 (.list ae (List.replicate (n.toNat) (V.int .i64 0)))) [(t88.toNat,0)]).bind fun x39=>
    bif decide (0<(x39.toList.length:Int)) then
    (eV Tryz.prog ah (aE dB t88 (.list ae (List.replicate (n.toNat) (V.int .i64 0)))) [(t88.toNat,0)]).bind fun x40=>
    (x40.toList[0]?).bind fun Gy=>
    (Loop (BN C n t88 t87 t88 ss aQ me mf mg mh ms td bf bK bU ca fy iw fN e9 fa fh fx fb fM jH (fX.set 0 (.bool ((V.nth nO 0).toBool)))) (1,setRow Tryz.prog (x40.toList.set 0 (V.int .i64 t88)) ah (aE dB t88 (.list ae (List.replicate (n.toNat) (V.int .i64 0)))) [(t88.toNat,0)])).bind (un fun ava=>un fun (Tx:Bool) (Tz:LV)=>
     kn (wrap .i64 (t88+1),Tz,fX.set 0 (.bool ((V.nth nO 0).toBool))))
    else none
   else none
   else none
  else none
 else
  kr (t88,decide (t88<t87),dB,fX)
noncomputable def M8 (C:af) (n t87 ss:Int) (aQ:LV) (me mf:Int) (mg:Bool) (mh ms:Int) (td bf bK bU ca fy iw fN e9 fa fh fx fb fM jH:LV):=un fun t88=>un fun dB fX=>Hh C n t87 ss aQ me mf mg mh ms td bf bK bU ca fy iw fN e9 fa fh fx fb fM jH t88 dB fX (fun y=>some (Sum.inl y)) (fun r=>some (Sum.inr r))
noncomputable def Hi (C:af) (n k' t163 t164 t176 BO:Int) (aQ:LV) (me mf:Int) (mg:Bool) (mh ms te:Int) (tf:LV) (UW:Int) (yV UX ca fy iw fN e9 fa fh fx dB fb fM jH fX BP aer:LV) (t177:Int) (py:LV) {β:Type} (kn:(Int×LV)→Option β) (kr:(Int×Bool×LV)→Option β):Option β:=
 bif decide (t177<t176) then
  ar UX t177 fun x51=>
  ar py k' fun x52=>
  (C Ki [V.int .i64 te,.list ax tf,V.int .i64 UW,.list ae x51.toList]).bind fun r53=>
  (eV Tryz.prog ko py [(k'.toNat,0)]).bind fun x54=>
  bif (decide (0≤t177))&&(decide (t177<(x54.toList.length:Int))) then
  (eV Tryz.prog ko py [(k'.toNat,0)]).bind fun x55=>
  (x55.toList[t177.toNat]?).bind fun x56=>
  kn (wrap .i64 (t177+1),setRow Tryz.prog (aE x55.toList t177 (.bool ((V.nth r53 0).toBool))) ko py [(k'.toNat,0)])
  else none
 else
  kr (t177,decide (t177<t176),py)
noncomputable def M9 (C:af) (n k' t163 t164 t176 BO:Int) (aQ:LV) (me mf:Int) (mg:Bool) (mh ms te:Int) (tf:LV) (UW:Int) (yV UX ca fy iw fN e9 fa fh fx dB fb fM jH fX BP aer:LV):=un fun t177 py=>Hi C n k' t163 t164 t176 BO aQ me mf mg mh ms te tf UW yV UX ca fy iw fN e9 fa fh fx dB fb fM jH fX BP aer t177 py (fun y=>some (Sum.inl y)) (fun r=>some (Sum.inr r))
noncomputable def Hj (C:af) (n t163 BO:Int) (aQ:LV) (me mf:Int) (mg:Bool) (mh ms:Int) (yV bK bU ca fy iw fN e9 fa fh fx dB fb fM jH fX BP:LV) (t164:Int) (py:LV) {β:Type} (kn:(Int×LV)→Option β) (kr:(Int×Bool×LV)→Option β):Option β:=
 bif decide (t164<t163) then
  ar yV t164 fun UY=>
  bif (decide (0≤n))&&((decide (n≤n))&&(Nat.ble ((n.toNat)*1) bm)) then
  ar py t164 fun x50=>
  (Loop (M9 C n t164 t163 t164 (e9.length:Int) BO aQ me mf mg mh ms ((UY.cell 0).toInt) ((UY.cell 1).toList) ((UY.cell 2).toInt) yV e9 bK bU ca fy iw fN fa fh fx dB fb fM jH fX BP) (0,aE py t164 (.list ax (List.replicate (n.toNat) (V.bool false))))).bind (un fun anE=>un fun (anF:Bool) (asi:LV)=>
   kn (wrap .i64 (t164+1),asi))
  else none
 else
  kr (t164,decide (t164<t163),py)
noncomputable def Na (C:af) (n t163 BO:Int) (aQ:LV) (me mf:Int) (mg:Bool) (mh ms:Int) (yV bK bU ca fy iw fN e9 fa fh fx dB fb fM jH fX BP:LV):=un fun t164 py=>Hj C n t163 BO aQ me mf mg mh ms yV bK bU ca fy iw fN e9 fa fh fx dB fb fM jH fX BP t164 py (fun y=>some (Sum.inl y)) (fun r=>some (Sum.inr r))
noncomputable def Hk (C:af):cz:=bt 145 Rl [EQ,H1,EQ,EQ,EQ,EQ,EQ,EQ,EQ,EQ,EQ,EQ,EQ,EQ,EQ,EQ,EQ,EQ,EQ,EQ,EQ,EQ,H1,EQ,EQ,H1] [[1,0,0,3,4,5,6,7,8,9,10,11,12,13,14,15,16,17,18,19,20,21,22,0,24,25,0]] (@He C) (bt 321 Rm [EQ,EQ,H1,EQ,EQ,EQ,EQ,EQ,EQ,EQ,EQ,EQ,EQ,EQ,EQ,EQ,EQ,EQ,EQ,EQ,EQ,EQ,EQ,EQ,H1,EQ,EQ,EQ,EQ] [[1,2,0,4,5,0,6,7,8,9,10,11,12,13,14,15,16,17,18,19,20,21,22,23,24,0,26,27,28,29]] (@Hg C) (bt 225 Rn [EQ,EQ,H1,EQ,EQ,EQ,EQ,EQ,EQ,EQ,EQ,EQ,EQ,EQ,EQ,EQ,EQ,EQ,EQ,EQ,EQ,EQ,H1,EQ,EQ,EQ,H1] [[1,2,0,0,4,5,6,7,8,9,10,11,12,13,14,15,16,17,18,19,20,21,22,0,24,25,26,0]] (@Hh C) (bt 481 Ro [EQ,EQ,EQ,EQ,EQ,H1,EQ,EQ,EQ,EQ,EQ,EQ,EQ,H1,EQ,EQ,EQ,EQ,EQ,EQ,EQ,EQ,EQ,EQ,EQ,EQ,EQ,EQ,EQ,EQ,EQ,EQ,EQ,EQ] [[1,2,3,4,5,0,0,7,8,9,10,11,12,13,0,15,16,17,18,19,20,21,22,23,24,25,26,27,28,29,30,31,32,33,34]] (@Hi C) (bt 417 Rp [EQ,EQ,H1,EQ,EQ,EQ,EQ,EQ,EQ,EQ,H1,EQ,EQ,EQ,EQ,EQ,EQ,EQ,EQ,EQ,EQ,EQ,EQ,EQ,EQ,EQ,EQ,EQ] [[1,2,0,0,4,5,6,7,8,9,10,0,12,13,14,15,16,17,18,19,20,21,22,23,24,25,26,27,28]] (@Hj C) bB))))
theorem asj (C:af):bc C (Hk C) 26 (Lp [1,1,1,1,1,1,0,1,0,0] 26):=br Rl [EQ,H1,EQ,EQ,EQ,EQ,EQ,EQ,EQ,EQ,EQ,EQ,EQ,EQ,EQ,EQ,EQ,EQ,EQ,EQ,EQ,EQ,H1,EQ,EQ,H1] [[1,0,0,3,4,5,6,7,8,9,10,11,12,13,14,15,16,17,18,19,20,21,22,0,24,25,0]] (@He C) (aR av)
theorem asl (C:af):bc C (Hk C) 26 (Lp [1,1,1,1,1,1,1,0,1,0,0,1,1,0,0,1,1,1,1,1,0,0] 26):=br Rm [EQ,EQ,H1,EQ,EQ,EQ,EQ,EQ,EQ,EQ,EQ,EQ,EQ,EQ,EQ,EQ,EQ,EQ,EQ,EQ,EQ,EQ,EQ,EQ,H1,EQ,EQ,EQ,EQ] [[1,2,0,4,5,0,6,7,8,9,10,11,12,13,14,15,16,17,18,19,20,21,22,23,24,0,26,27,28,29]] (@Hg C) (aR av)
theorem asm (C:af):bc C (Hk C) 26 (Lp [1,1,1,1,1,1,1,0,1,0,0] 26):=br Rn [EQ,EQ,H1,EQ,EQ,EQ,EQ,EQ,EQ,EQ,EQ,EQ,EQ,EQ,EQ,EQ,EQ,EQ,EQ,EQ,EQ,EQ,H1,EQ,EQ,EQ,H1] [[1,2,0,0,4,5,6,7,8,9,10,11,12,13,14,15,16,17,18,19,20,21,22,0,24,25,26,0]] (@Hh C) (aR (ba (asl C) av))
theorem asn (C:af):bc C (Hk C) 26 (Lp [1,1,1,1,1,1,1,1,1,0,1,0,0,1,1,0,0,1,1,1,0,0] 26):=br Ro [EQ,EQ,EQ,EQ,EQ,H1,EQ,EQ,EQ,EQ,EQ,EQ,EQ,H1,EQ,EQ,EQ,EQ,EQ,EQ,EQ,EQ,EQ,EQ,EQ,EQ,EQ,EQ,EQ,EQ,EQ,EQ,EQ,EQ] [[1,2,3,4,5,0,0,7,8,9,10,11,12,13,0,15,16,17,18,19,20,21,22,23,24,25,26,27,28,29,30,31,32,33,34]] (@Hi C) (aR av)
theorem aso (C:af):bc C (Hk C) 26 (Lp [1,1,1,1,1,1,1,1,1,0,1,0,0] 26):=br Rp [EQ,EQ,H1,EQ,EQ,EQ,EQ,EQ,EQ,EQ,H1,EQ,EQ,EQ,EQ,EQ,EQ,EQ,EQ,EQ,EQ,EQ,EQ,EQ,EQ,EQ,EQ,EQ] [[1,2,0,0,4,5,6,7,8,9,10,0,12,13,14,15,16,17,18,19,20,21,22,23,24,25,26,27,28]] (@Hj C) (aR (ba (asn C) av))
noncomputable def Hl (C:af) (ss:Int) (aQ aH:LV):Option LV:=
 (C Kg [.list ah aQ,.bool true]).bind fun r1=>
 bif (((V.nth (r1.drop 3) 0).toInt):Int) != 0 then
  some [V.int .i64 0,.list ah ([]:LV),.list cp ([]:LV),.list ae ([]:LV),.list ax ([]:LV),.list ax ([]:LV),.list ko ([]:LV),V.int .i64 ((V.nth (r1.drop 3) 0).toInt),V.int .i64 ss,.list ah aQ,.list jD aH]
 else
  bif decide (((((V.nth ((r1.drop 4).drop 1) 0).toList).length:Int):Int)>400) then
  some [V.int .i64 0,.list ah ([]:LV),.list cp ([]:LV),.list ae ([]:LV),.list ax ([]:LV),.list ax ([]:LV),.list ko ([]:LV),V.int .i64 3,V.int .i64 ss,.list ah aQ,.list jD aH]
  else
  bif (decide (0≤(((V.nth ((r1.drop 4).drop 1) 0).toList).length:Int)))&&((decide ((((V.nth ((r1.drop 4).drop 1) 0).toList).length:Int)≤(((V.nth ((r1.drop 4).drop 1) 0).toList).length:Int)))&&(Nat.ble ((((((V.nth ((r1.drop 4).drop 1) 0).toList).length:Int):Int).toNat)*24) bm)) then
   bif (decide (0≤(((V.nth ((r1.drop 4).drop 1) 0).toList).length:Int)))&&((decide ((((V.nth ((r1.drop 4).drop 1) 0).toList).length:Int)≤(((V.nth ((r1.drop 4).drop 1) 0).toList).length:Int)))&&(Nat.ble ((((((V.nth ((r1.drop 4).drop 1) 0).toList).length:Int):Int).toNat)*16) bm)) then
   bif decide (0<(((V.nth (((((r1.drop 4).drop 1).drop 1).drop 1).drop 1) 0).toList).length:Int)) then
    (((V.nth (((((r1.drop 4).drop 1).drop 1).drop 1).drop 1) 0).toList)[0]?).bind fun x2=>
    bif Nat.ble (x2.toList.length*8) bm then
    bif (decide (0≤(((V.nth ((r1.drop 4).drop 1) 0).toList).length:Int)))&&((decide ((((V.nth ((r1.drop 4).drop 1) 0).toList).length:Int)≤(((V.nth ((r1.drop 4).drop 1) 0).toList).length:Int)))&&(Nat.ble ((((((V.nth ((r1.drop 4).drop 1) 0).toList).length:Int):Int).toNat)*1) bm)) then
     (Loop (Hf C (((V.nth ((r1.drop 4).drop 1) 0).toList).length:Int) ss aQ 0 ((V.nth r1 0).toInt) ((V.nth (r1.drop 1) 0).toBool) ((V.nth ((r1.drop 1).drop 1) 0).toInt) (aQ.length:Int) aH ([]:LV) ([]:LV) ([]:LV) ([]:LV) ([]:LV) ((V.nth (r1.drop 4) 0).toList) ((V.nth ((r1.drop 4).drop 1) 0).toList) ((V.nth (((r1.drop 4).drop 1).drop 1) 0).toList) ((V.nth ((((r1.drop 4).drop 1).drop 1).drop 1) 0).toList) ((V.nth (((((r1.drop 4).drop 1).drop 1).drop 1).drop 1) 0).toList) ((V.nth ((((((r1.drop 4).drop 1).drop 1).drop 1).drop 1).drop 1) 0).toList) (List.replicate (((((V.nth ((r1.drop 4).drop 1) 0).toList).length:Int):Int).toNat) (V.list ae ([]:LV))) x2.toList ([]:LV)) (1,List.replicate (((((V.nth ((r1.drop 4).drop 1) 0).toList).length:Int):Int).toNat) (V.str []),List.replicate (((((V.nth ((r1.drop 4).drop 1) 0).toList).length:Int):Int).toNat) (V.bool false))).bind (un fun ln=>un fun (mO:Bool)=>un fun (pj:LV) (yA:LV)=>
      (Loop (M8 C (((V.nth ((r1.drop 4).drop 1) 0).toList).length:Int) (((V.nth (((((r1.drop 4).drop 1).drop 1).drop 1).drop 1) 0).toList).length:Int) ss aQ 0 ((V.nth r1 0).toInt) ((V.nth (r1.drop 1) 0).toBool) ((V.nth ((r1.drop 1).drop 1) 0).toInt) (aQ.length:Int) ((V.nth (((((r1.drop 4).drop 1).drop 1).drop 1).drop 1) 0).toList) aH ([]:LV) ([]:LV) ([]:LV) ([]:LV) ([]:LV) ((V.nth (r1.drop 4) 0).toList) ((V.nth ((r1.drop 4).drop 1) 0).toList) ((V.nth (((r1.drop 4).drop 1).drop 1) 0).toList) ((V.nth ((((r1.drop 4).drop 1).drop 1).drop 1) 0).toList) ((V.nth ((((((r1.drop 4).drop 1).drop 1).drop 1).drop 1).drop 1) 0).toList) pj x2.toList ([]:LV)) (0,List.replicate (((((V.nth ((r1.drop 4).drop 1) 0).toList).length:Int):Int).toNat) (V.list ae ([]:LV)),yA)).bind (un fun avb=>un fun (avc:Bool)=>un fun (L0:LV) (Ba:LV)=>
       bif (decide (0≤(aH.length:Int)))&&((decide ((aH.length:Int)≤(aH.length:Int)))&&(Nat.ble (((aH.length:Int).toNat)*24) bm)) then
       (Loop (Na C (((V.nth ((r1.drop 4).drop 1) 0).toList).length:Int) (aH.length:Int) ss aQ 0 ((V.nth r1 0).toInt) ((V.nth (r1.drop 1) 0).toBool) ((V.nth ((r1.drop 1).drop 1) 0).toInt) (aQ.length:Int) aH ([]:LV) ([]:LV) ([]:LV) ([]:LV) ([]:LV) ((V.nth (r1.drop 4) 0).toList) ((V.nth ((r1.drop 4).drop 1) 0).toList) ((V.nth (((r1.drop 4).drop 1).drop 1) 0).toList) ((V.nth ((((r1.drop 4).drop 1).drop 1).drop 1) 0).toList) ((V.nth (((((r1.drop 4).drop 1).drop 1).drop 1).drop 1) 0).toList) ((V.nth ((((((r1.drop 4).drop 1).drop 1).drop 1).drop 1).drop 1) 0).toList) L0 pj x2.toList ([]:LV) Ba) (0,List.replicate ((aH.length:Int).toNat) (V.list ax ([]:LV)))).bind (un fun avd=>un fun (ave:Bool) (asp:LV)=>
        some [V.int .i64 (aQ.length:Int),.list ah L0,.list cp pj,.list ae x2.toList,.list ax ([]:LV),.list ax Ba,.list ko asp,V.int .i64 0,V.int .i64 ss,.list ah aQ,.list jD aH])
       else none))
    else none
    else none
   else none
   else none
  else none
theorem asq {ss:Int} {aQ aH:LV} {r:Option LV} (h:Hl CC ss aQ aH=r):CC DZ [V.int .i64 ss,.list ah aQ,.list jD aH]=r:=bA (ba (asj CC) (ba (asm CC) (ba (aso CC) av))) h
theorem asr {l:List Nat} (hl:l.length≤1000000):CC Kh [.list ae (nS l),.int .i64 0]=some [.bool (decide (0∈l))]:=by
 have key: ∃k:Int,CC Ku [.list ae (nS l),.int .i64 0]=some [.int .i64 k]∧decide (k≥0)=decide (0∈l):=by
  have hL:=amo (step:=M7 CC (nS l) 0 ((nS l).length:Int)) (fun i=>l.getD i 0==0) l.length (fun i=>(i:Int)) (fun i=> .inl (i:Int)) (.inr ((l.length:Int),false)) (fun i hi=> ?_) ?_
  ·rcases hL with ⟨i,hi,hb,_,e⟩|⟨hb,e⟩
   ·refine ⟨(i:Int),aep ?_,?_⟩
    ·unfold UU;exact bs e rfl
    ·rw[cZ (by omega),cZ ?_];rw[bD hi,beq_iff_eq] at hb;exact hb▸cM hi
   ·refine ⟨-1,aep ?_,?_⟩
    ·unfold UU;exact bs e rfl
    ·rw[cR (by omega),cR fun hm=> ?_];obtain ⟨i,hi,e⟩:=qy hm;have:=hb i hi;rw[bD hi,e] at this;cases this
  ·simp only[M7,Hd];rw[cL];refine bT (cg hi) (bs (gi hi) ?_);by_cases c:l[i]=0
   ·rw[ak (by rw[bD hi,c];rfl)];exact bT (by show ((0:Int)==((l[i]:Nat):Int))=true;rw[c];rfl) rfl
   ·rw[aj (by rw[bD hi];simpa using c)];refine bF (by show ((0:Int)==((l[i]:Nat):Int))=false;rw[vb];omega) ?_;rw[cq (by omega)]
  ·simp only[M7,Hd];rw[cL];refine bF (aW (az _)) ?_;rw[aW (az _)]
 obtain ⟨k,e,h⟩:=key;refine ash ?_;unfold aeq;rw[←h];exact bs e rfl
theorem getD_map {l:List Nat} {k:Nat→Nat} {i:Nat} (h:i<l.length):(l.map k).getD i 0=k (l.getD i 0):=by
 rw[bD (by simpa using h),bD h,zg]
theorem UZ {n:Nat} {f g k:List Nat} (hf:Tr n f) (hg:Tr n g):comp (comp f g) k=comp f (comp g k):=by
 unfold comp;rw[pI];exact mr fun i hi=>(getD_map (k:=fun i=>k.getD i 0) (by rw[hg.1];exact hf.2 i hi)).symm
theorem comp_id {n:Nat} {f:List Nat} (hf:Tr n f):comp f (List.range n)=f:=by
 refine tn (by simp[comp]) fun i h1 h2=> ?_;have:=hf.at h2;simp[comp,this]
def dE (S:List (List Nat)) (i j:Nat):Nat:=cQ S (comp (S.getD i []) (S.getD j []))
def rJ (S:List (List Nat)) (i j:Nat):LV:=tab S.length fun b=>if b<j then nV (dE S i b) else V.int .i64 0
def pz (S:List (List Nat)) (i j:Nat):LV:=tab S.length fun a=>if a<i then .list ae (rJ S a S.length) else if a=i then .list ae (rJ S i j) else .list ae []
def qq (S:List (List Nat)) (i:Nat):LV:=tab S.length fun a=>if a<i then .list ae (rJ S a S.length) else .list ae []
def yW (L:Nat) (g:Nat→List Nat) (S:List (List Nat)) (i:Nat):Bool:=decide (∃a,a<i∧0∈eO L g S (S.getD a []))
def jK (L:Nat) (g:Nat→List Nat) (S:List (List Nat)) (i:Nat):LV:=tab S.length fun j=> .bool (if j=0 then yW L g S i else true)
def U0 (n:Nat):Prop:= ∃T:List (List Nat),T.Nodup∧(∀f∈T,Tr n f)∧400<T.length
section
variable {L n:Nat} {g:Nat→List Nat} {S:List (List Nat)} {P K:List Int} {R:List (List Nat)} {W:List (List UInt8)} {B:List Int} {s:List Nat}
theorem kz.row (h:kz L n S.length g S P K R W B s):R=S.map (eO L g S):=by rw[h.rr,va]
theorem kz.Nb (h:kz L n S.length g S P K R W B s) {i:Nat} (hi:i<S.length):(sV R)[i]? =some (tV (eO L g S (S.getD i []))):=by
 rw[h.row];simp[sV,hi]
theorem kz.cl' (h:kz L n S.length g S P K R W B s) {f:List Nat} (hf:f∈S) {x:Nat} (hx:x<L):bn g f x∈S:=h.cl f (by rw[va];exact hf) x hx
theorem kz.word (h:kz L n S.length g S P K R W B s): ∀{i:Nat},i<S.length→∃w,WL L w∧S.getD i []=w.foldl (bn g) (List.range n):=by
 intro i
 induction i using Nat.strongRecOn with
 | ind i ih=>
  intro hi;rcases B6 i with rfl|h0
  ·refine ⟨[],WL.nil,?_⟩;have:=h.I.id;cases S with
   | nil=>cases this
   | cons a S=>exact dC this
  ·obtain ⟨p,x,_,_,hp,hx,e⟩:=h.I.p i h0 hi;obtain ⟨w,hw,e2⟩:=ih p hp (by omega);refine ⟨w++[x],WL.app.2 ⟨hw,WL.nil.cons hx⟩,?_⟩;rw[ze,←e2,e];rfl
theorem kz.aes (h:kz L n S.length g S P K R W B s) (hg: ∀x,x<L→Tr n (g x)) {f:List Nat} (hf:f∈S): ∀{j:Nat},j<S.length→comp f (S.getD j [])∈S:=by
 intro j hj
 induction j using Nat.strongRecOn with
 | ind j ih=>
  rcases B6 j with rfl|h0
  ·have:S.getD 0 []=List.range n:=by
    have:=h.I.id;cases S with
    | nil=>cases this
    | cons a S=>exact dC this
   rw[this,comp_id (h.I.tr f hf)];exact hf
  ·obtain ⟨p,x,_,_,hp,hx,e⟩:=h.I.p j h0 hj;have eb:p<S.length:=by omega
   have U3:Tr n (S.getD p []):=by rw[bD eb];exact h.I.tr _ (cM eb)
   rw[e,←UZ (h.I.tr f hf) U3];exact h.cl' (ih p hp eb) hx
theorem kz.ass (h:kz L n S.length g S P K R W B s) (hg: ∀x,x<L→Tr n (g x)) {i j:Nat} (hi:i<S.length) (hj:j<S.length):dE S i j<S.length:=
 ky (h.aes hg (by rw[bD hi];exact cM hi) hj)
section
variable (h:kz L n S.length g S P K R W B s) (hg: ∀x,x<L→Tr n (g x))
include h hg
theorem aet {i:Nat} (hi:i<S.length) {k1 k2 k3 k4 k5 k6 k7:Int} {k8:Bool} {l1 l2 l3 l4 l5 l6 l7 l8 l9 l10 l11 l12 l13 l14:LV}:
  Loop (BN CC (S.length:Int) (i:Int) k1 k2 k3 l1 k4 k5 k8 k6 k7 (sV R) l2 l3 l4 l5 l6 l7 l8 l9 (iL P) (iL K) l10 l11 l12 l13 l14) (1,pz S i 1)=some ((S.length:Int),false,pz S i S.length):=by
 have hlen:=h.I.len;have oW: ∀{j:Nat},(pz S i j)[i]? =some (.list ae (rJ S i j)):=fun {j}=>by unfold pz;rw[lk hi,bO,bu]
 have hl: ∀{j:Nat},(rJ S i j).length=S.length:=fun {j}=>eH;have oc: ∀{j:Nat},j<S.length→(pz S i j).set i (.list ae ((rJ S i j).set j (nV (dE S i j))))=pz S i (j+1):=fun {j} hj=>by
  unfold pz rJ;rw[iI,iI];refine cJ fun a _=> ?_;by_cases c:a=i
  ·subst c;rw[bu,bO,bu];refine congrArg _ (cJ fun b _=> ?_);by_cases c2:b=j
   ·rw[ak c2,bu,c2]
   ·rw[aj c2];by_cases c3:b<j
    ·rw[ak c3,bu]
    ·rw[aj c3,bO]
  ·rw[aj c];by_cases c2:a<i
   ·rw[ak c2,ak c2]
   ·rw[aj c2,aj c,aj c2,aj c]
 have hfi:Tr n (S.getD i []):=by rw[bD hi];exact h.I.tr _ (cM hi)
 have key:=sM (step:=BN CC (S.length:Int) (i:Int) k1 k2 k3 l1 k4 k5 k8 k6 k7 (sV R) l2 l3 l4 l5 l6 l7 l8 l9 (iL P) (iL K) l10 l11 l12 l13 l14) (fun j x=>x=((j:Int),pz S i j)) (fun r=>r=((S.length:Int),false,pz S i S.length)) (S.length-1) 1 (1,pz S i 1) (fun j h1 hj x hx=> ?_) (fun x hx=> ?_) rfl
 ·obtain ⟨r,e,rfl⟩:=key;exact e
 ·subst hx;have hj:j<S.length:=by omega
  obtain ⟨p,x,eP,eK,hp,hx,e⟩:=h.I.p j (by omega) hj;have eb:p<S.length:=by omega
  have U3:Tr n (S.getD p []):=by rw[bD eb];exact h.I.tr _ (cM eb)
  have hm:=h.ass hg hi eb;have hmm:S.getD (dE S i p) []=comp (S.getD i []) (S.getD p []):=by
   rw[bD hm];exact Fp (h.aes hg (by rw[bD hi];exact cM hi) eb)
  have hv:(eO L g S (S.getD (dE S i p) [])).getD x 0=dE S i j:=by
   unfold eO;rw[getD_map (by rw[jP];exact hx),bD (l:=List.range L) (by rw[jP];exact hx),HZ,hmm];unfold dE bn;rw[UZ hfi U3,←e]
  have hrl:(eO L g S (S.getD (dE S i p) [])).length=L:=by simp[eO]
  refine ⟨_,?_,rfl⟩;simp only[BN,Hg,un,ar,aE,Int.toNat_natCast];have g1:(rJ S i j)[p]? =some (nV (dE S i p)):=by unfold rJ;rw[lk eb,ak hp]
  have g2:(rJ S i j)[j]? =some (.int .i64 0):=by unfold rJ;rw[lk hj,bO]
  refine bT (cg hj) ((cy oW).trans ((cy oW).trans ((cy (sU (by rw[h.I.lP];exact hj))).trans (bs (oM oW) ?_))));rw[eP,V.eo];refine bT (nB (by rw[hl];exact eb)) (bs (oM oW) ?_);rw[V.eo,show (V.int IntKind.i64 (p:Int)).toInt.toNat=p from rfl];refine bs g1 (bT (nB (by rw[wy,h.row,cY];exact hm)) (bs (by rw[show (nV (dE S i p)).toInt.toNat=dE S i p from rfl];exact h.Nb hm) ((cy (sU (by rw[h.I.lK];exact hj))).trans ?_)));rw[eK,ph];refine bs (gi (i:=x) (by rw[hrl];exact hx)) (bs (oM oW) ?_);rw[V.eo];refine bT (nB (by rw[hl];exact hj)) (bs (oM oW) ?_);rw[V.eo];refine bs g2 ?_;have lG:(eO L g S (S.getD (dE S i p) []))[x]'(by rw[hrl];exact hx)=dE S i j:=(bD (d:=0) _).symm.trans hv;rw[Mu oW,cq (by omega),←oc hj,lG];rfl
 ·subst hx;have e1:1+(S.length-1)=S.length:=by have:=h.I.pos;omega
  rw[e1];refine ⟨_,?_,rfl⟩;simp only[BN,Hg,un];refine bF (aW (az _)) ?_;rw[aW (az _)]
end
end
section
variable {L n:Nat} {g:Nat→List Nat} {S:List (List Nat)} {P K:List Int} {R:List (List Nat)} {W:List (List UInt8)} {B:List Int} {s:List Nat}
section
variable (h:kz L n S.length g S P K R W B s) (hg: ∀x,x<L→Tr n (g x))
include h
theorem kz.BQ:S.getD 0 []=List.range n:=by
 have:=h.I.id;cases S with
 | nil=>cases this
 | cons a S=>exact dC this
theorem mul_zero {i:Nat} (hi:i<S.length):dE S i 0=i:=by
 unfold dE;have:=h.I.tr _ (cM hi);rw[h.BQ,bD hi,comp_id this];exact A8 h.I.nd hi
theorem ast {k1 k2 k3 k4 k5:Int} {k8:Bool} {l1 l2 l3 l4 l5 l6 l7 l8 l9 l10 l11 l12 l13 l14:LV}: ∃f:Nat→List UInt8,
  Loop (Hf CC (S.length:Int) k1 l1 k2 k3 k8 k4 k5 l2 l3 l4 l5 l6 l7 l8 l9 (iL P) (iL K) l10 l11 l12 l13 l14) (1,List.replicate S.length (V.str []),List.replicate S.length (V.bool false))=some ((S.length:Int),false,tab S.length fun j=> .str (f j),jK L g S 0):=by
 have hlen:=h.I.len;have key:=sM (step:=Hf CC (S.length:Int) k1 l1 k2 k3 k8 k4 k5 l2 l3 l4 l5 l6 l7 l8 l9 (iL P) (iL K) l10 l11 l12 l13 l14)
  (fun i x=> ∃f:Nat→List UInt8,x=((i:Int),(tab S.length fun j=>V.str (f j)),tab S.length fun j=>V.bool (decide (0<j∧j<i)))∧∀j,(f j).length≤j)
  (fun r=> ∃f:Nat→List UInt8,r=((S.length:Int),false,(tab S.length fun j=>V.str (f j)),jK L g S 0)) (S.length-1) 1
  (1,List.replicate S.length (V.str []),List.replicate S.length (V.bool false)) (fun i h1 hi x hx=> ?_) (fun x hx=> ?_) ⟨fun _=>[],?_,fun j=>by simp⟩
 ·obtain ⟨r,e,f,rfl⟩:=key;exact ⟨f,e⟩
 ·obtain ⟨f,rfl,hf⟩:=hx;have cd:i<S.length:=by omega
  obtain ⟨p,x,eP,eK,hp,hx,_⟩:=h.I.p i (by omega) cd;have eb:p<S.length:=by omega
  have hfp:=hf p;simp only[Hf,He,un,ar,aE];refine ⟨_,bT (cg cd) ((cy (sU (by rw[h.I.lP];exact cd))).trans ?_),fun j=>if j=i then f p++lD [V.int .u8 (wrap .u8 (wrap .i64 (97+(x:Int))))] else f j,rfl,fun j=> ?_⟩
  ·rw[eP];refine bT (nB (by simpa using eb)) (bs (by rw[show (V.int IntKind.i64 (p:Int)).toInt.toNat=p from rfl];exact lk eb) ((cy (sU (by rw[h.I.lK];exact cd))).trans ?_));rw[eK];refine bT (zd ?_) ((rq (by simpa using cd)).trans ((rq (by simpa using cd)).trans ?_))
   ·show (f p).length+1≤pL;unfold pL;omega
   ·rw[cq (by omega),Int.toNat_natCast,iI,iI];refine congrArg (fun t=>some (Sum.inl t)) (jl rfl (jl (cJ fun j _=> ?_) (cJ fun j _=> ?_)))
    ·dsimp only;by_cases c:j=i
     ·rw[ak c,ak c];rfl
     ·rw[aj c,aj c]
    ·by_cases c:j=i
     ·rw[ak c,cZ (by omega)]
     ·rw[aj c];by_cases c2:0<j∧j<i
      ·rw[cZ c2,cZ (by omega)]
      ·rw[cR c2,cR (by omega)]
  ·dsimp only;by_cases c:j=i
   ·rw[ak c,gI];show _+1≤j;omega
   ·rw[aj c];exact hf j
 ·obtain ⟨f,rfl,hf⟩:=hx;have e1:1+(S.length-1)=S.length:=by have:=h.I.pos;omega
  rw[e1];simp only[Hf,He,un];refine ⟨_,bF (aW (az _)) rfl,f,?_⟩;rw[aW (az _)];refine jl rfl (jl rfl (jl rfl (cJ fun j hj=> ?_)));by_cases c:j=0
  ·rw[ak c,cR (by omega)];exact congrArg V.bool (cR (by rintro ⟨a,ha,_⟩;omega)).symm
  ·rw[aj c,cZ (by omega)]
 ·rw[mP,mP];refine jl rfl (jl rfl (cJ fun j _=> ?_));rw[cR (by omega)]
include hg
theorem asu (hL:L≤6) {k1 k2 k3 k4 k5:Int} {k8:Bool} {l1 l2 l3 l4 l5 l6 l7 l8 l9 l10 l11 l12 l13:LV}:
  Loop (M8 CC (S.length:Int) (S.length:Int) k1 l1 k2 k3 k8 k4 k5 (sV R) l2 l3 l4 l5 l6 l7 l8 l9 (iL P) (iL K) l10 l11 l12 l13) (0,List.replicate S.length (V.list ae ([]:LV)),jK L g S 0)=some ((S.length:Int),false,qq S S.length,jK L g S S.length):=by
 have hlen:=h.I.len;have gQ:=h.I.pos;rw[show List.replicate S.length (V.list ae ([]:LV))=qq S 0 from by rw[mP];exact cJ fun j _=>by rw[bO]];refine dW S.length (fun i=>((i:Int),qq S i,jK L g S i)) _ (fun i hi=> ?_) ?_
 ·have hl:(jK L g S i).length=S.length:=eH;have hy:(qq S i).length=S.length:=eH;have e0:(jK L g S i)[0]? =some (.bool (yW L g S i)):=lk gQ;have hz:((qq S i).set i (V.list ae (List.replicate S.length (V.int .i64 0))))[i]? =some (V.list ae (List.replicate S.length (V.int .i64 0))):=by
   rw[qx (by rw[hy];exact hi)]
  have mH:setRow Tryz.prog ((List.replicate S.length (V.int .i64 0)).set 0 (V.int .i64 (i:Int))) ah ((qq S i).set i (V.list ae (List.replicate S.length (V.int .i64 0)))) [(i,0)]=pz S i 1:=by
   rw[Mu hz,List.set_set];unfold qq pz;rw[iI];refine cJ fun a _=> ?_;by_cases c:a=i
   ·subst c;rw[bu,bO,bu,mP,iI];refine congrArg _ (cJ fun b _=> ?_);by_cases c2:b=0
    ·rw[ak c2,bu,c2,mul_zero h hi];rfl
    ·rw[aj c2,bO]
   ·rw[aj c];by_cases c2:a<i
    ·rw[ak c2,ak c2]
    ·rw[aj c2,aj c2,aj c]
  have jv:pz S i S.length=qq S (i+1):=cJ fun a _=>by
   by_cases c:a=i
   ·subst c;rw[bO,bu,bu]
   ·by_cases c2:a<i
    ·rw[bu,bu]
    ·rw[bO,aj c,bO]
  have eb: ∀c:Bool,c=yW L g S (i+1)→(jK L g S i).set 0 (.bool c)=jK L g S (i+1):=fun c hc=>by
   unfold jK;rw[iI];refine cJ fun j _=> ?_;by_cases c2:j=0
   ·rw[ak c2,ak c2,hc]
   ·rw[aj c2,aj c2,aj c2]
  have Nc:yW L g S (i+1)=(yW L g S i||decide (0∈eO L g S (S.getD i []))):=by
   unfold yW;rw[wS,Cf,Ch,Ch,Ch];constructor
   ·rintro ⟨a,ha,hm⟩;rcases gy a i with c|c
    ·exact .inl ⟨a,c,hm⟩
    ·exact .inr (by rw[show i=a by omega];exact hm)
   ·rintro (⟨a,ha,hm⟩|hm)
    ·exact ⟨a,by omega,hm⟩
    ·exact ⟨i,by omega,hm⟩
  simp only[M8,Hh,un,ar,aE,Int.toNat_natCast];have BR: ∀{l:LV},l.length=S.length→decide (0<(l.length:Int))=true:=fun {l} hl=>cZ (by omega);have BT:(decide (0≤(S.length:Int))&&(decide ((S.length:Int)≤(S.length:Int))&&(S.length*8).ble bm))=true:=by
   have:=gh (n:=S.length) (m:=8) (by omega) (by omega);rwa [Int.toNat_natCast] at this
  have JA:(qq S i)[i]? =some (.list ae []):=by unfold qq;rw[lk hi,bO]
  have UL:(((qq S i).set i (V.list ae (List.replicate S.length (V.int .i64 0)))).length)=S.length:=by rw[tm,hy]
  have hz0:(List.replicate S.length (V.int .i64 0))[0]? =some (.int .i64 0):=by rw[HN,ak gQ]
  cases hb:yW L g S i with
  | true=>
   rw[hb] at e0 Nc;refine bT (cg hi) ((cy (h.Nb hi)).trans (bT (BR hl) (bs e0 (bT rfl (bT (BR hl) (bs e0 (bT BT ((cy JA).trans ((cy hz).trans (bs (oM hz) ?_))))))))));rw[V.eo];refine bT (BR (by simp)) (bs (oM hz) ?_);rw[V.eo];refine bs hz0 ?_;rw[mH];refine bs (aet h hg hi) ?_;rw[eb true (by rw[Nc];rfl),jv,cq (by omega)];rfl
  | false=>
   rw[hb] at e0 Nc;have hC:=asr (l:=eO L g S (S.getD i [])) (by rw[eO,cY,jP];omega);refine bT (cg hi) ((cy (h.Nb hi)).trans (bT (BR hl) (bs e0 (bF rfl (bs (by rw[ph];exact hC) (bT (BR hl) (bs e0 (bT BT ((cy JA).trans ((cy hz).trans (bs (oM hz) ?_)))))))))));rw[V.eo];refine bT (BR (by simp)) (bs (oM hz) ?_);rw[V.eo];refine bs hz0 ?_;rw[mH];refine bs (aet h hg hi) ?_;rw[jv,cq (by omega)];show some (Sum.inl (_,_,(jK L g S i).set 0 (V.bool (decide (0∈eO L g S (S.getD i []))))))=_;rw[eb _ (by rw[Nc];rfl)]
 ·simp only[M8,Hh,un];refine bF (aW (az _)) ?_;rw[aW (az _)]
end
end
theorem asv {n q:Nat} {f:Nat→V} {z v:V} (hv:v=f q):(tab n fun j=>if j<q then f j else z).set q v=tab n fun j=>if j<q+1 then f j else z:=by
 rw[hv,iI];refine cJ fun j _=> ?_;by_cases hj:j=q
 ·rw[ak hj,bu,hj]
 ·rw[aj hj];by_cases dj:j<q
  ·rw[ak dj,bu]
  ·rw[aj dj,bO]
theorem asw {n:Nat} {f:Nat→V} {z:V}:(tab n fun j=>if j<n then f j else z)=tab n f:=cJ fun j hj=>ak hj
def U4 (m:Da) (e:Int):List V:=[.int .i64 (m.L:Int),.int .i64 (m.st:Int),.int .i64 e,.list ax m.dM,.list ah m.ed]
end Go.AM
set_option maxRecDepth 100000
namespace Go.AM
open Go.IntKind (wrap)
open Go.Proofs
namespace Da
def Hm (a:Da) (k q:Nat):Prop:= ∃w,WL a.L w∧w.length≤k∧a.acc q w=true
def Live (a:Da) (q:Nat):Prop:= ∃w,WL a.L w∧a.acc q w=true
open Classical in
noncomputable def NR (a:Da) (q:Nat):Bool:=decide (a.Live q)
theorem Hm.live {a:Da} {k q:Nat} (h:a.Hm k q):a.Live q:=by obtain ⟨w,h1,_,h3⟩:=h;exact ⟨w,h1,h3⟩
theorem Hm.mono {a:Da} {k m q:Nat} (h:a.Hm k q) (hk:k≤m):a.Hm m q:=by obtain ⟨w,h1,h2,h3⟩:=h;exact ⟨w,h1,by omega,h3⟩
end Da
def upd (r:Nat→Bool) (p:Nat) (b:Bool) (q:Nat):Bool:=if q=p then b else r q
structure LvI (a:Da) (r0 r:Nat→Bool) (c:Bool):Prop where
 good: ∀q,q<a.n→r q=true→a.Live q
 up: ∀q,q<a.n→r0 q=true→r q=true
 yes:c=true→∃q,q<a.n∧r0 q=false∧r q=true
 no:c=false→∀q,q<a.n→r q=r0 q
section
variable {a:Da} (h:a.Ok)
include h
end
section
variable {a:Da} (h:a.Ok)
include h
end
end Go.AM
set_option maxRecDepth 100000
namespace Go.AM
open Go.IntKind (wrap)
open Go.Proofs
noncomputable def aeu (C:af) (bW cf:Int) (bH b9:LV):Option LV:=
 (C sF [V.int .i64 bW,V.int .i64 cf,.list ax bH,.list ah b9]).bind fun r1=>
 bif (((V.nth r1 0).toInt):Int) != 0 then
  some [V.int .i64 0,V.int .i64 0,V.int .i64 ((V.nth r1 0).toInt),.list ax ([]:LV),.list ah ([]:LV)]
 else
  (C ux [V.int .i64 bW,V.int .i64 cf,.list ax bH,.list ah b9]).bind fun r2=>
  some [V.int .i64 ((V.nth r2 0).toInt),V.int .i64 ((V.nth (r2.drop 1) 0).toInt),V.int .i64 0,.list ax ((V.nth (r2.drop 2) 0).toList),.list ah ((V.nth ((r2.drop 2).drop 1) 0).toList)]
theorem asx {bW cf:Int} {bH b9:LV} {r:Option LV} (h:aeu CC bW cf bH b9=r):CC J8 [V.int .i64 bW,V.int .i64 cf,.list ax bH,.list ah b9]=r:=bA (L:=bB) av h
theorem qs {a:Da} (h:a.Ok):(minD a).Ok:=(uQ h).ok
theorem qt {a:Da} (h:a.Ok):(minD a).L=a.L:=(uQ h).hL
theorem aev {a:Da} (h:a.Ok):(minD a).st=0:=(uQ h).st
theorem Nd {a:Da} (h:a.Ok) {w:List Nat} (hw:WL a.L w):(minD a).acc (minD a).st w=a.acc a.st w:=by
 rw[aev h];exact (uQ h).AZ w hw
theorem aew {a b:Da} (ha:a.Ok) (hb:b.Ok) (hL:a.L=b.L) (hl: ∀w,WL a.L w→a.acc a.st w=b.acc b.st w):minD a=minD b:=
 acY hb (hL▸Canon.congr (uQ ha) hl)
theorem aex {a:Da} (ha:a.Ok):minD (minD a)=minD a:=
 aew (qs ha) ha (qt ha) fun w hw=>Nd ha (by rwa [qt ha] at hw)
theorem asy {a:Da} (h:a.Ok):CC J8 (fE a)=some (U4 (minD a) 0):=by
 refine asx ?_;unfold aeu;refine bs (uL h) (bF rfl ?_);refine bs (Bj h) ?_;rfl
noncomputable def yX (C:af) (bW cf:Int) (bH b9:LV):Option LV:=
 (C sF [V.int .i64 bW,V.int .i64 cf,.list ax bH,.list ah b9]).bind fun r1=>
 bif (((V.nth r1 0).toInt):Int) != 0 then
  some [V.int .i64 0,.list ah ([]:LV),.list cp ([]:LV),.list ae ([]:LV),.list ax ([]:LV),.list ax ([]:LV),V.int .i64 ((V.nth r1 0).toInt)]
 else
  (C ux [V.int .i64 bW,V.int .i64 cf,.list ax bH,.list ah b9]).bind fun r2=>
  (C Ka [V.int .i64 ((V.nth r2 0).toInt),V.int .i64 ((V.nth (r2.drop 1) 0).toInt),.list ax ((V.nth (r2.drop 2) 0).toList),.list ah ((V.nth ((r2.drop 2).drop 1) 0).toList),V.int .i64 0]).bind fun r3=>
  bif (((V.nth r3 0).toInt):Int) != 0 then
  some [V.int .i64 0,.list ah ([]:LV),.list cp ([]:LV),.list ae ([]:LV),.list ax ([]:LV),.list ax ([]:LV),V.int .i64 ((V.nth r3 0).toInt)]
  else
  (C DZ [V.int .i64 ((V.nth (r3.drop 1) 0).toInt),.list ah ((V.nth ((r3.drop 1).drop 1) 0).toList),.list jD ((V.nth (((r3.drop 1).drop 1).drop 1) 0).toList)]).bind fun r4=>
  bif (((V.nth ((r4.drop 6).drop 1) 0).toInt):Int) != 0 then
   some [V.int .i64 0,.list ah ([]:LV),.list cp ([]:LV),.list ae ([]:LV),.list ax ([]:LV),.list ax ([]:LV),V.int .i64 ((V.nth ((r4.drop 6).drop 1) 0).toInt)]
  else
   (((V.nth (r4.drop 6) 0).toList)[0]?).bind fun x5=>
   some [V.int .i64 ((V.nth r4 0).toInt),.list ah ((V.nth (r4.drop 1) 0).toList),.list cp ((V.nth ((r4.drop 1).drop 1) 0).toList),.list ae ((V.nth (((r4.drop 1).drop 1).drop 1) 0).toList),.list ax x5.toList,.list ax ((V.nth (((((r4.drop 1).drop 1).drop 1).drop 1).drop 1) 0).toList),V.int .i64 0]
theorem U5 {bW cf:Int} {bH b9:LV} {r:Option LV} (h:yX CC bW cf bH b9=r):CC ow [V.int .i64 bW,V.int .i64 cf,.list ax bH,.list ah b9]=r:=bA (L:=bB) av h
structure th (m:Da) (S:List (List Nat)):Prop where
 tr: ∀f∈S,Tr m.n f
 nd:S.Nodup
 BQ:S.getD 0 []=List.range m.n
 pos:0<S.length
 cl: ∀f∈S,∀x,x<m.L→bn m.gT f x∈S
 re: ∀i,i<S.length→∃w,WL m.L w∧S.getD i []=w.foldl (bn m.gT) (List.range m.n)
 le:S.length≤400
def kG (S:List (List Nat)):LV:=tab S.length fun i=> .list ae (tab S.length fun j=>nV (dE S i j))
def iO (m:Da) (S:List (List Nat)):LV:=nS (eO m.L m.gT S (List.range m.n))
def mi (m:Da) (S:List (List Nat)):LV:=tab S.length fun i=> .bool (m.fin ((S.getD i []).getD m.st 0))
def qu (m:Da) (S:List (List Nat)) (f:Nat→List UInt8):List V:=
 [.int .i64 (m.L:Int),.list ah (kG S),.list cp (tab S.length fun j=> .str (f j)),.list ae (iO m S),.list ax (mi m S),.list ax (jK m.L m.gT S S.length)]
def syZ (e:Int):List V:=[.int .i64 0,.list ah [],.list cp [],.list ae [],.list ax [],.list ax [],.int .i64 e]
theorem asz {S:List (List Nat)}:qq S S.length=kG S:=cJ fun i hi=>by
 rw[ak hi];exact congrArg _ (cJ fun j hj=>ak hj)
section
variable {m:Da} (h:m.Ok) (nD:m.n≤32)
include h nD
theorem asA {S:List (List Nat)} (hS: ∀f∈S,Tr m.n f) (hl:S.length≤400) {k1 k2 k3 k4 k5 k6 k7 k8:Int} {k9:Bool} {l1 l2 l3 l4 l5 l6 l7 l8 l9 l10 l11 l12 l13 l14 Nf Ng l17:LV}:
  Loop (M9 CC k1 0 k2 k3 (S.length:Int) k4 l1 k5 k6 k9 k7 k8 (m.st:Int) m.dM 0 l2 (sV S) l3 l4 l5 l6 l7 l8 l9 l10 l11 l12 l13 l14 Nf Ng l17) (0,[V.list ax (List.replicate S.length (V.bool false))])=some ((S.length:Int),false,[V.list ax (mi m S)]):=by
 refine sS (fun i a=>((i:Int),[V.list ax a])) S.length (fun i=> .bool (m.fin ((S.getD i []).getD m.st 0))) _ (by simp) (fun a=>((S.length:Int),false,[V.list ax a])) (fun i hi a ha=> ?_) ?_
 ·simp only[M9,Hi,un,ar,aE];have e0:([V.list ax a]:LV)[0]? =some (.list ax a):=rfl;refine bT (cg hi) ((cy (Fq hi)).trans ((cy (i:=0) e0).trans (bs (by rw[ph];exact ao2 h nD (hS _ (cM hi))) (bs (ac6 e0) ?_))));rw[V.eo];refine bT (nB (by rw[ha];exact hi)) (bs (ac6 e0) ?_);rw[V.eo,Int.toNat_natCast];refine bs (bS (by rw[ha];exact hi)) ?_;rw[cq (by omega),bD hi];exact congrArg (fun t=>some (Sum.inl (((i+1:Nat):Int),t))) (aoZ e0)
 ·simp only[M9,Hi,un];refine bF (aW (az _)) ?_;rw[aW (az _)]
theorem asB: ∃r,CC DZ [.int .i64 (m.n:Int),.list ah (gV m.L m.gT),.list jD (rA m)]=some r∧
  ((r=[.int .i64 0,.list ah [],.list cp [],.list ae [],.list ax [],.list ax [],.list ko [],.int .i64 3,.int .i64 (m.n:Int),.list ah (gV m.L m.gT),.list jD (rA m)]∧U0 m.n)∨
   ∃S,∃f:Nat→List UInt8,r=[.int .i64 (m.L:Int),.list ah (kG S),.list cp (tab S.length fun j=> .str (f j)),.list ae (iO m S),.list ax [],.list ax (jK m.L m.gT S S.length),.list ko [.list ax (mi m S)],.int .i64 0,.int .i64 (m.n:Int),.list ah (gV m.L m.gT),.list jD (rA m)]∧th m S):=by
 have hs:=h.s;have hL:=h.l6;have hg: ∀x,x<m.L→Tr m.n (m.gT x):=fun x hx=>h.gT hx;obtain ⟨r,e1,h1⟩:=aoe (n:=m.n) (by omega) nD hg h.l1 h.l6;have fin: ∀z,Hl CC (m.n:Int) (gV m.L m.gT) (rA m)=z→CC DZ [.int .i64 (m.n:Int),.list ah (gV m.L m.gT),.list jD (rA m)]=z:=fun z h=>asq h;rcases h1 with ⟨rfl,T,t1,t2,t3⟩|⟨S,P,K,R,W,B,s,U,rfl,hE⟩
 ·refine ⟨_,fin _ ?_,.inl ⟨rfl,T,t1,t2,by omega⟩⟩;unfold Hl;exact bs e1 (bT rfl rfl)
 ·rcases gy 400 S.length with c|c
  ·refine ⟨_,fin _ ?_,.inl ⟨rfl,S,hE.I.nd,hE.I.tr,c⟩⟩;unfold Hl;exact bs e1 (bF rfl (bT (by show decide ((((sV S).length:Nat):Int)>400)=true;rw[wy];exact cZ (by omega)) rfl))
  ·have gQ:=hE.I.pos;obtain ⟨f,e2⟩:=ast (L:=m.L) (g:=m.gT) hE (k1:=(m.n:Int)) (k2:=0) (k3:=(m.n:Int)) (k4:=(S.length:Int)) (k5:=((gV m.L m.gT).length:Int)) (k8:=true) (l1:=gV m.L m.gT) (l2:=rA m) (l3:=[]) (l4:=[]) (l5:=[]) (l6:=[]) (l7:=[]) (l8:=gV m.L m.gT) (l9:=sV S) (l10:=sV R) (l11:=U) (l12:=List.replicate S.length (V.list ae [])) (l13:=iO m S) (l14:=[]);refine ⟨_,fin _ ?_,.inr ⟨S,f,rfl,hE.I.tr,hE.I.nd,hE.BQ,gQ,fun f hf x hx=>hE.cl' hf hx,fun i hi=>hE.word hi,c⟩⟩;unfold Hl;refine bs e1 (bF rfl (bF (by show decide ((((sV S).length:Nat):Int)>400)=false;rw[wy];exact cR (by omega)) ?_));have jv:(sV R)[0]? =some (tV (eO m.L m.gT S (List.range m.n))):=by rw[hE.Nb gQ,hE.BQ]
   have hRl:(sV R).length=S.length:=by rw[wy,hE.row,cY]
   have e3:=asu hE hg hL (k1:=(m.n:Int)) (k2:=0) (k3:=(m.n:Int)) (k4:=(S.length:Int)) (k5:=((gV m.L m.gT).length:Int)) (k8:=true) (l1:=gV m.L m.gT) (l2:=rA m) (l3:=[]) (l4:=[]) (l5:=[]) (l6:=[]) (l7:=[]) (l8:=gV m.L m.gT) (l9:=sV S) (l10:=U) (l11:=tab S.length fun j=> .str (f j)) (l12:=iO m S) (l13:=[]);have e4: ∀{k1 k2 k3 k4 k5:Int} {k8:Bool} {l1 l2 l3 l4 l5 l6 l7 l8 l9 l10 l11 l12 l13 l14 Nf Ng:LV},Loop (Na CC (S.length:Int) 1 k1 l1 k2 k3 k8 k4 k5 (rA m) l2 l3 l4 l5 l6 l7 (sV S) l8 l9 l10 l11 l12 l13 l14 Nf Ng) (0,[V.list ax []])=some (1,false,[V.list ax (mi m S)]):=by
    intro k1 k2 k3 k4 k5 k8 l1 l2 l3 l4 l5 l6 l7 l8 l9 l10 l11 l12 l13 l14 Nf Ng;refine dW 1 (fun i=>((i:Int),if i=0 then [V.list ax []] else [V.list ax (mi m S)])) _ (fun i hi=> ?_) ?_
    ·obtain rfl:i=0:=by omega
     simp only[Na,Hj,un,ar,aE];refine bT rfl ((cy (es:=rA m) (i:=0) rfl).trans (bT (gh (by omega) (by omega)) ((cy (i:=0) (v:= .list ax []) rfl).trans ?_)));rw[wy];exact bs (asA h nD hE.I.tr c) rfl
    ·simp only[Na,Hj,un];rfl
   have BT: ∀k,k≤1000→(decide (0≤(S.length:Int))&&(decide ((S.length:Int)≤(S.length:Int))&&(S.length*k).ble bm))=true:=fun k hk=>by
    have:=gh (n:=S.length) (m:=k) (by omega) hk;rwa [Int.toNat_natCast] at this
   have jx:(nS (eO m.L m.gT S (List.range m.n))).length≤6:=by rw[cL,eO,cY,jP];exact hL
   simp only[pH,lx,V.dJ,V.eo,V.toInt_int,V.dS,wy,Int.toNat_natCast];refine bT (BT 24 (by omega)) (bT (BT 16 (by omega)) (bT (cZ (by rw[hE.row,cY];omega)) (bs jv (bT (by rw[ph];exact cap (b:=0) (by omega) (by omega)) (bT (BT 1 (by omega)) ?_)))));rw[ph];refine bs e2 ?_;rw[show R.length=S.length by rw[hE.row,cY]];refine bs e3 ?_;simp only[un];rw[show (rA m).length=1 from rfl];refine bT (gh (n:=1) (by omega) (by omega)) (bs e4 ?_);rw[asz,show (gV m.L m.gT).length=m.L from eH];rfl
end
theorem aey {a:Da} (h:a.Ok) (nD:(minD a).n≤32):(CC ow (fE a)=some (syZ 3)∧U0 (minD a).n)∨∃S,∃f:Nat→List UInt8,CC ow (fE a)=some (qu (minD a) S f++[.int .i64 0])∧th (minD a) S:=by
 have hm:=qs h;obtain ⟨r,e,h1⟩:=asB hm nD;have fin: ∀z,yX CC (a.L:Int) (a.st:Int) a.dM a.ed=z→CC ow (fE a)=z:=fun z h=>U5 h;rcases h1 with ⟨rfl,hb⟩|⟨S,f,rfl,hS⟩
 ·refine .inl ⟨fin _ ?_,hb⟩;unfold yX;exact bs (uL h) (bF rfl (bs (Bj h) (bs (ac7 hm nD) (bF rfl (bs e (bT rfl rfl))))))
 ·refine .inr ⟨S,f,fin _ ?_,hS⟩;unfold yX;refine bs (uL h) (bF rfl (bs (Bj h) (bs (ac7 hm nD) (bF rfl (bs e (bF rfl (bs (a:=V.list ax (mi (minD a) S)) rfl ?_)))))));rw[V.eo];rfl
def kH (m:Da) (w:List Nat):List Nat:=w.foldl (bn m.gT) (List.range m.n)
def vl (m:Da) (S:List (List Nat)) (w:List Nat):Nat:=cQ S (kH m w)
section
variable {m:Da} (hm:m.Ok)
include hm
theorem aez: ∀(w:List Nat) {f:List Nat},Tr m.n f→WL m.L w→Tr m.n (w.foldl (bn m.gT) f)
 | [],_,hf,_=>hf
 | x::w,f,hf,hw=>aez w (f:=bn m.gT f x) (hf.comp (hm.gT hw.head)) hw.tail
theorem U6 {w:List Nat} (hw:WL m.L w):Tr m.n (kH m w):=aez hm w Fm hw
theorem asC: ∀(w:List Nat) {f:List Nat},Tr m.n f→WL m.L w→w.foldl (bn m.gT) f=comp f (kH m w):=by
 intro w
 induction w with
 | nil=>exact fun {f} hf _=>(comp_id hf).symm
 | cons x w ih=>
  intro f hf hw;have h1:=hm.gT hw.head;have e1:kH m (x::w)=comp (m.gT x) (kH m w):=by
   show w.foldl (bn m.gT) (bn m.gT (List.range m.n) x)=_;rw[ih (f:=bn m.gT (List.range m.n) x) (Fm.comp h1) hw.tail,acD (L:=m.L) (fun x hx=>hm.gT hx) hw.head]
  rw[e1,←UZ hf h1];exact ih (hf.comp h1) hw.tail
theorem asD {u v:List Nat} (hu:WL m.L u) (hv:WL m.L v):kH m (u++v)=comp (kH m u) (kH m v):=by
 unfold kH;rw[ze];exact asC hm v (U6 hm hu) hv
theorem aeA: ∀(w:List Nat) {f:List Nat} {q:Nat},Tr m.n f→q<m.n→WL m.L w→(w.foldl (bn m.gT) f).getD q 0=m.run (f.getD q 0) w
 | [],_,_,_,_,_=>rfl
 | x::w,f,q,hf,hq,hw=>by
  have h1:=hm.gT hw.head;rw[List.foldl_cons,aeA w (f:=bn m.gT f x) (hf.comp h1) hq hw.tail,Da.SP];refine congrArg (fun p=>m.run p w) ?_;have dI:q<f.length:=by rw[hf.1];exact hq
  have h2:=hf.at dI;unfold bn comp;rw[getD_map (k:=fun i=>(m.gT x).getD i 0) dI,bD dI,Da.gT,getD_map (by simpa using h2),bD (l:=List.range m.n) (by simpa using h2),HZ]
theorem Hn {w:List Nat} {q:Nat} (hq:q<m.n) (hw:WL m.L w):(kH m w).getD q 0=m.run q w:=by
 unfold kH;rw[aeA hm w Fm hq hw,bD (by simpa using hq),HZ]
theorem asE {u v:List Nat} (hu:WL m.L u) (hv:WL m.L v):kH m u=kH m v↔∀q,q<m.n→m.run q u=m.run q v:=by
 constructor
 ·intro e q hq;rw[←Hn hm hq hu,←Hn hm hq hv,e]
 ·intro h;have h1:=U6 hm hu;have h2:=U6 hm hv;refine tn (h1.1.trans h2.1.symm) fun i a b=> ?_;have hi:i<m.n:=by rw[←h1.1];exact a
  rw[←bD (d:=0) a,←bD (d:=0) b,Hn hm hi hu,Hn hm hi hv,h i hi]
section
variable {S:List (List Nat)} (hS:th m S)
include hS
omit hm in
theorem aeB: ∀(w:List Nat) {f:List Nat},f∈S→WL m.L w→w.foldl (bn m.gT) f∈S
 | [],_,hf,_=>hf
 | x::w,f,hf,hw=>aeB w (hS.cl f hf x hw.head) hw.tail
omit hm in
theorem U7:List.range m.n∈S:=by
 rw[←hS.BQ,bD hS.pos];exact cM _
omit hm in
theorem aeC {w:List Nat} (hw:WL m.L w):kH m w∈S:=aeB hS w (U7 hS) hw
omit hm in
theorem yY {w:List Nat} (hw:WL m.L w):vl m S w<S.length:=ky (aeC hS hw)
omit hm in
theorem yZ {w:List Nat} (hw:WL m.L w):S.getD (vl m S w) []=kH m w:=by
 rw[bD (yY hS hw)];exact Fp (aeC hS hw)
omit hm in
theorem y4 {i:Nat} (hi:i<S.length): ∃w,WL m.L w∧vl m S w=i:=by
 obtain ⟨w,hw,e⟩:=hS.re i hi;refine ⟨w,hw,?_⟩;unfold vl kH;rw[←e,bD hi];exact A8 hS.nd hi
omit hm in
theorem BU:vl m S []=0:=by
 unfold vl;show cQ S (List.range m.n)=0;rw[←hS.BQ,bD hS.pos];exact A8 hS.nd hS.pos
theorem ti {u v:List Nat} (hu:WL m.L u) (hv:WL m.L v):dE S (vl m S u) (vl m S v)=vl m S (u++v):=by
 unfold dE;rw[yZ hS hu,yZ hS hv,←asD hm hu hv];rfl
theorem aeD {u v:List Nat} (hu:WL m.L u) (hv:WL m.L v):vl m S u=vl m S v↔∀q,q<m.n→m.run q u=m.run q v:=by
 rw[←asE hm hu hv];exact ⟨fun e=>by rw[←yZ hS hu,←yZ hS hv,e],fun e=>by unfold vl;rw[e]⟩
theorem aeE {i j:Nat} (hi:i<S.length) (hj:j<S.length):dE S i j<S.length:=by
 obtain ⟨u,hu,rfl⟩:=y4 hS hi;obtain ⟨v,hv,rfl⟩:=y4 hS hj;rw[ti hm hS hu hv];exact yY hS (WL.app.2 ⟨hu,hv⟩)
theorem aeF {i j k:Nat} (hi:i<S.length) (hj:j<S.length) (hk:k<S.length):dE S (dE S i j) k=dE S i (dE S j k):=by
 obtain ⟨u,hu,rfl⟩:=y4 hS hi;obtain ⟨v,hv,rfl⟩:=y4 hS hj;obtain ⟨w,hw,rfl⟩:=y4 hS hk;rw[ti hm hS hu hv,ti hm hS hv hw,ti hm hS (WL.app.2 ⟨hu,hv⟩) hw,ti hm hS hu (WL.app.2 ⟨hv,hw⟩),jO]
end
end
def jL (m:Da) (S:List (List Nat)):Da:=⟨m.L,0,tab S.length fun i=>m.fin ((S.getD i []).getD m.st 0),tab S.length fun i=>eO m.L m.gT S (S.getD i [])⟩
section
variable {m:Da} (hm:m.Ok) {S:List (List Nat)} (hS:th m S)
theorem BV:(jL m S).n=S.length:=eH
theorem aeG {i:Nat} (hi:i<S.length):(jL m S).fin i=m.fin ((S.getD i []).getD m.st 0):=uJ hi
theorem aeH {i x:Nat} (hi:i<S.length) (hx:x<m.L):(jL m S).nx i x=cQ S (bn m.gT (S.getD i []) x):=by
 unfold Da.nx jL;simp only;rw[uJ hi];unfold eO;rw[getD_map (by rw[jP];exact hx),bD (l:=List.range m.L) (by rw[jP];exact hx),HZ]
include hm hS
theorem aeI:(jL m S).Ok:=by
 refine ⟨hm.l1,hm.l6,by rw[BV];exact eH,fun r hr=> ?_,by rw[BV];exact hS.pos,by rw[BV];have:=hS.le;omega⟩;obtain ⟨i,hi,rfl⟩:=Lv.1 hr;refine ⟨by simp[eO,jL],fun q hq=> ?_⟩;obtain ⟨x,hx,rfl⟩:=ez.1 hq;rw[BV];exact ky (hS.cl _ (by rw[bD hi];exact cM _) x (fm.1 hx))
omit hm in
theorem aeJ: ∀(w:List Nat) {f:List Nat},f∈S→WL m.L w→(jL m S).run (cQ S f) w=cQ S (w.foldl (bn m.gT) f)
 | [],_,_,_=>rfl
 | x::w,f,hf,hw=>by
  rw[Da.SP,aeH (ky hf) hw.head,bD (ky hf),Fp hf];exact aeJ w (hS.cl f hf x hw.head) hw.tail
omit hm in
theorem asF {w:List Nat} (hw:WL m.L w):(jL m S).run 0 w=vl m S w:=by
 have:=aeJ hS w (U7 hS) hw;rwa [show cQ S (List.range m.n)=0 from BU hS] at this
theorem asG {w:List Nat} (hw:WL m.L w):(jL m S).acc (jL m S).st w=m.acc m.st w:=by
 show (jL m S).fin ((jL m S).run 0 w)=m.fin (m.run m.st w);rw[asF hS hw,aeG (yY hS hw),yZ hS hw,Hn hm hm.s hw]
end
theorem asH {a:Da} (ha:a.Ok) {S:List (List Nat)} (hS:th (minD a) S):minD (jL (minD a) S)=minD a:=by
 have hm:=qs ha;refine (aew (aeI hm hS) hm rfl fun w hw=>asG hm hS hw).trans (aex ha)
theorem asI {a b:Da} (ha:a.Ok) (hb:b.Ok) (e:minD a=minD b):CC ow (fE a)=CC ow (fE b):=by
 have A: ∀z,yX CC (a.L:Int) (a.st:Int) a.dM a.ed=z→CC ow (fE a)=z:=fun z h=>U5 h;have B: ∀z,yX CC (b.L:Int) (b.st:Int) b.dM b.ed=z→CC ow (fE b)=z:=fun z h=>U5 h;refine A _ (Eq.trans ?_ (B _ rfl).symm);unfold yX;refine bs (uL ha) (bF rfl (bs (Bj ha) ?_));rw[e];exact (bs (uL hb) (bF rfl (bs (Bj hb) rfl))).symm
end Go.AM
set_option maxRecDepth 100000
namespace Go.AM
open Go.IntKind (wrap)
open Go.Proofs
namespace Da
theorem Ll.reach {d:Da} (h1:1≤d.L) (h:d.Ll): ∀t,t≤d.n*d.L→∀q,q<d.mt t→∃w,WL d.L w∧d.run 0 w=q
 | 0,_,q,hq=>⟨[],WL.nil,by have:q<1:=hq;show 0=q;omega⟩
 | t+1,ht,q,hq=>by
  have ih:=h.reach h1 t (by omega);rcases gy q (d.mt t) with c|c
  ·exact ih q c
  ·have e:d.pos t=q:=by
    unfold mt at hq;split at hq
    ·rename_i h3;omega
    ·omega
   have hx:t %d.L<d.L:=wP _ (by omega);have hp:t/d.L<d.n:=by rw[HV (by omega)];omega
   have h2:=h.row _ hp;have h3:=d.Lm (Nat.div_mul_le_self t d.L);obtain ⟨w,hw,hr⟩:=ih (t/d.L) (by omega);refine ⟨w++[t %d.L],WL.app.2 ⟨hw,WL.nil.cons hx⟩,?_⟩;rw[Lk,hr];exact e
end Da
theorem aeK {a:Da} (h:a.Ok) {q:Nat} (hq:q<(minD a).n): ∃w,WL a.L w∧(minD a).run (minD a).st w=q:=by
 have hc:=uQ h;obtain ⟨w,hw,hr⟩:=hc.num.reach (qs h).l1 _ (az _) q (by rw[hc.num.all];exact hq);exact ⟨w,by rw[qt h] at hw;exact hw,by rw[aev h];exact hr⟩
end Go.AM
set_option maxRecDepth 100000
namespace Go.AM
open Go.IntKind (wrap)
open Go.Proofs
namespace Da
def pre (a:Da) (k:Nat) (g:Nat→List Nat):Da:=⟨k,a.st,a.F,tab a.n fun q=>tab k fun x=>a.run q (g x)⟩
theorem asJ {a:Da} {k:Nat} {g:Nat→List Nat}:(a.pre k g).n=a.n:=rfl
theorem aeL {a:Da} {k:Nat} {g:Nat→List Nat} {q x:Nat} (hq:q<a.n) (hx:x<k):(a.pre k g).nx q x=a.run q (g x):=by
 show ((tab a.n fun q=>tab k fun x=>a.run q (g x)).getD q []).getD x 0=_;rw[uJ hq,uJ hx]
theorem Ok.pre {a:Da} (h:a.Ok) {k:Nat} {g:Nat→List Nat} (h1:1≤k) (h6:k≤6) (hg: ∀x,x<k→WL a.L (g x)):(a.pre k g).Ok:=⟨h1,h6,by simp[Da.pre,n],fun r hr=>by
 obtain ⟨q,hq,rfl⟩:=Lv.1 hr;refine ⟨by simp[Da.pre],fun s hs=> ?_⟩;obtain ⟨x,hx,rfl⟩:=Lv.1 hs;exact h.wm _ hq (hg x hx),h.s,h.je⟩
theorem aeM {a:Da} (h:a.Ok) {k:Nat} {g:Nat→List Nat} (hg: ∀x,x<k→WL a.L (g x)): ∀(w:List Nat) {q:Nat},q<a.n→WL k w→(a.pre k g).run q w=a.run q (w.flatMap g)
 | [],_,_,_=>rfl
 | x::w,q,hq,hw=>by
  rw[SP,aeL hq hw.head,aeM h hg w (h.wm _ hq (hg x hw.head)) hw.tail,vh,Lk]
theorem asK {a:Da} (h:a.Ok) {k:Nat} {g:Nat→List Nat} (hg: ∀x,x<k→WL a.L (g x)) {w:List Nat} {q:Nat} (hq:q<a.n) (hw:WL k w):(a.pre k g).acc q w=a.acc q (w.flatMap g):=by
 show (a.pre k g).fin ((a.pre k g).run q w)=_;rw[aeM h hg w hq hw];rfl
end Da
end Go.AM
set_option maxRecDepth 100000
namespace Go.AM
open Go.IntKind (wrap)
open Go.Proofs
theorem asL {f:Nat→Nat} {n:Nat} (h: ∀p q,p<n→q<n→f p=f q→p=q):((List.range n).map f).Nodup:=by
 refine List.pairwise_map.2 (List.nodup_range.imp_of_mem fun {a b} ha hb bL e=>bL ?_);exact h a b (fm.1 ha) (fm.1 hb) e
theorem aeN {a:Da} (h:a.Ok):(minD a).n≤a.n:=by
 have hc:=uQ h;have hL:=qt h;have hex: ∀q:Nat,∃w,q<(minD a).n→WL a.L w∧(minD a).run (minD a).st w=q:=fun q=>by
  by_cases c:q<(minD a).n
  ·obtain ⟨w,h1,h2⟩:=aeK h c;exact ⟨w,fun _=>⟨h1,h2⟩⟩
  ·exact ⟨[],fun c2=>absurd c2 c⟩
 obtain ⟨W,hW⟩:=Classical.axiomOfChoice hex;have key:=wR (l₁:=(List.range (minD a).n).map fun q=>a.run a.st (W q)) (l₂:=List.range a.n) (asL fun p q hp hq e=> ?_) fun x hx=> ?_
 ·simpa using key
 ·obtain ⟨p1,p2⟩:=hW p hp;obtain ⟨q1,q2⟩:=hW q hq;refine hc.red p q hp hq fun w hw=> ?_;rw[hL] at hw;rw[←p2,←q2,←Da.wo,←Da.wo,Nd h (WL.app.2 ⟨p1,hw⟩),Nd h (WL.app.2 ⟨q1,hw⟩),Da.wo,Da.wo,e]
 ·obtain ⟨q,hq,rfl⟩:=ez.1 hx;exact fm.2 (h.wm _ h.s (hW q (fm.1 hq)).1)
def Ho:Nat→List (List Nat)
 | 0=>[[]]
 | n+1=>(Ho n).flatMap fun t=>[0::t,1::t,2::t]
theorem aeO: ∀{f:List Nat},(∀x∈f,x<3)→f∈Ho f.length
 | [],_=>by simp[Ho]
 | x::f,h=>by
  have h1:=aeO fun y hy=>h y (ka _ hy);have h2:=h x (by simp);refine List.mem_flatMap.2 ⟨f,h1,?_⟩;rcases (by omega:x=0∨x=1∨x=2) with rfl|rfl|rfl<;>simp
theorem asM: ∀n,n≤3→(Ho n).length≤400:=by decide
theorem aeP {n:Nat} (h:n≤3): ¬U0 n:=by
 rintro ⟨T,hd,ht,hl⟩;have:=wR (l₂:=Ho n) hd fun f hf=>by
  have:=ht f hf;rw[←this.1];exact aeO fun x hx=>by have:=this.2 x hx;omega
 have:=asM n h;omega
section
variable {m:Da} (hm:m.Ok) {S:List (List Nat)} (hS:th m S) {k:Nat} (h1:1≤k) (h6:k≤6) {g:Nat→List Nat} (hg: ∀x,x<k→WL m.L (g x)) {S2:List (List Nat)} (iP:th (minD (m.pre k g)) S2)
theorem uX (hg: ∀x,x<k→WL m.L (g x)) {v:List Nat} (hv:WL k v):WL m.L (v.flatMap g):=fun x hx=>by
 obtain ⟨y,hy,hx⟩:=List.mem_flatMap.1 hx;exact hg y (hv y hy) x hx
include hm hS h1 h6 hg iP
theorem asN {u v:List Nat} (hu:WL k u) (hv:WL k v) (e:vl m S (u.flatMap g)=vl m S (v.flatMap g)):vl (minD (m.pre k g)) S2 u=vl (minD (m.pre k g)) S2 v:=by
 have hp:=hm.pre h1 h6 hg;have hL:(minD (m.pre k g)).L=k:=qt hp;have hP:=qs hp;refine (aeD hP iP (by rw[hL];exact hu) (by rw[hL];exact hv)).2 fun q hq=> ?_;have e2:=(aeD hm hS (uX hg hu) (uX hg hv)).1 e;obtain ⟨w,hw,rfl⟩:=aeK hp hq;have xq:WL k w:=hw;refine (uQ hp).red _ _ (hP.wm _ hq (by rw[hL];exact hu)) (hP.wm _ hq (by rw[hL];exact hv)) fun z hz=> ?_;rw[hL] at hz;have A: ∀{x:List Nat},WL k x→(minD (m.pre k g)).acc ((minD (m.pre k g)).run ((minD (m.pre k g)).run (minD (m.pre k g)).st w) x) z=m.acc (m.run (m.run m.st (w.flatMap g)) (x.flatMap g)) (z.flatMap g):=fun {x} hx=>by
  rw[←Da.wo,←Da.wo,Nd hp (WL.app.2 ⟨xq,WL.app.2 ⟨hx,hz⟩⟩)];show (m.pre k g).acc m.st (w++(x++z))=_;rw[Da.asK hm hg hm.s (WL.app.2 ⟨xq,WL.app.2 ⟨hx,hz⟩⟩),H0,H0,Da.wo,Da.wo]
 rw[A hu,A hv,e2 _ (hm.wm _ hm.s (uX hg xq))]
def vals (m:Da) (S:List (List Nat)) (k:Nat) (g:Nat→List Nat):List Nat:=0::(List.range k).map fun x=>vl m S (g x)
omit hm h1 h6 hg iP in
theorem U8 {z:Nat} (hz:z∈vals m S k g): ∃v,WL k v∧v.length≤1∧vl m S (v.flatMap g)=z:=by
 rcases lz.1 hz with rfl|hz
 ·exact ⟨[],WL.nil,by simp,BU hS⟩
 ·obtain ⟨x,hx,rfl⟩:=ez.1 hz;exact ⟨[x],WL.nil.cons (fm.1 hx),by simp,by simp⟩
omit hm h1 h6 iP in
theorem asO {z:Nat} (hz:z∈vals m S k g):z<S.length:=by
 obtain ⟨v,hv,_,rfl⟩:=U8 hS hz;exact yY hS (uX hg hv)
omit h1 h6 iP in
theorem asP {z:Nat} (hz:kC (dE S) (vals m S k g) z): ∃v,WL k v∧vl m S (v.flatMap g)=z:=by
 induction hz with
 | one h=>obtain ⟨v,hv,_,e⟩:=U8 hS h;exact ⟨v,hv,e⟩
 | more _ h ih=>
  obtain ⟨u,hu,rfl⟩:=ih;obtain ⟨v,hv,_,rfl⟩:=U8 hS h;exact ⟨u++v,WL.app.2 ⟨hu,hv⟩,by rw[H0,ti hm hS (uX hg hu) (uX hg hv)]⟩
open Classical in
noncomputable def Nh (m:Da) (S:List (List Nat)) (k:Nat) (g:Nat→List Nat) (z:Nat):List Nat:=if h: ∃v,WL k v∧vl m S (v.flatMap g)=z then Classical.choose h else []
section
variable {Z:List Nat} (hZ:GW S.length (dE S) (vals m S k g) Z)
include hZ
noncomputable def pA (m:Da) (S:List (List Nat)) (k:Nat) (g:Nat→List Nat) (S2:List (List Nat)) (Z:List Nat) (i:Nat):Nat:=vl (minD (m.pre k g)) S2 (Nh m S k g (Z.getD i 0))
omit h1 h6 iP in
theorem Ni {i:Nat} (hi:i<Z.length):WL k (Nh m S k g (Z.getD i 0))∧vl m S ((Nh m S k g (Z.getD i 0)).flatMap g)=Z.getD i 0:=by
 have h:=asP hm hS hg (hZ.pr _ (yU hi));unfold Nh;rw[pD h];exact HY h
theorem U9 {i:Nat} (hi:i<Z.length) {v:List Nat} (hv:WL k v) (e:vl m S (v.flatMap g)=Z.getD i 0):pA m S k g S2 Z i=vl (minD (m.pre k g)) S2 v:=by
 have h:=Ni hm hS hg hZ hi;exact asN hm hS h1 h6 hg iP h.1 hv (h.2.trans e.symm)
theorem asQ {i:Nat} (hi:i<Z.length):pA m S k g S2 Z i<S2.length:=by
 have hL:(minD (m.pre k g)).L=k:=qt (hm.pre h1 h6 hg);exact yY iP (by rw[hL];exact (Ni hm hS hg hZ hi).1)
theorem asR {i j:Nat} (hi:i<Z.length) (hj:j<Z.length):pA m S k g S2 Z (iA (dE S) Z i j)=dE S2 (pA m S k g S2 Z i) (pA m S k g S2 Z j):=by
 have hp:=hm.pre h1 h6 hg;have hL:(minD (m.pre k g)).L=k:=qt hp;have a:=Ni hm hS hg hZ hi;have b:=Ni hm hS hg hZ hj;have c:=aee hZ hi hj;rw[U9 hm hS h1 h6 hg iP hZ c (WL.app.2 ⟨a.1,b.1⟩) (by rw[UK hZ hi hj,H0,←ti hm hS (uX hg a.1) (uX hg b.1),a.2,b.2])];unfold pA;rw[ti (qs hp) iP (by rw[hL];exact a.1) (by rw[hL];exact b.1)]
theorem asS:((vals m S k g).map (cQ Z)).map (pA m S k g S2 Z)=0::(List.range k).map fun x=>vl (minD (m.pre k g)) S2 [x]:=by
 have at_: ∀{v:List Nat},WL k v→vl m S (v.flatMap g)∈vals m S k g→pA m S k g S2 Z (cQ Z (vl m S (v.flatMap g)))=vl (minD (m.pre k g)) S2 v:=fun {v} hv xf=>
  U9 hm hS h1 h6 hg iP hZ (ky (hZ.sub _ xf)) hv (BJ (hZ.sub _ xf)).symm
 have e0:vl m S (([]:List Nat).flatMap g)=0:=BU hS;unfold vals;rw[iQ,iQ,pI,pI];refine congr (congrArg List.cons ?_) (mr fun x hx=> ?_)
 ·have:=at_ (v:=[]) WL.nil (by rw[e0];simp[vals]);rw[e0] at this;rw[this];exact BU iP
 ·have cW:=fm.1 hx;have hv:vl m S (([x]:List Nat).flatMap g)∈vals m S k g:=ka _ (ez.2 ⟨x,hx,by simp⟩);have:=at_ (v:=[x]) (WL.nil.cons cW) hv;simpa using this
theorem asT {y:Nat} (hy:y<S2.length): ∃i,i<Z.length∧pA m S k g S2 Z i=y:=by
 have hp:=hm.pre h1 h6 hg;have hL:(minD (m.pre k g)).L=k:=qt hp;obtain ⟨v,hv,rfl⟩:=y4 iP hy;rw[hL] at hv;have hz: ∀{v:List Nat},WL k v→vl m S (v.flatMap g)∈Z:=by
  intro v
  induction v with
  | nil=>intro _;exact hZ.sub _ (by rw[show vl m S (([]:List Nat).flatMap g)=0 from BU hS];simp[vals])
  | cons x v ih=>
   intro hv;rw[vh,←ti hm hS (hg x hv.head) (uX hg hv.tail)];exact hZ.cl _ (hZ.sub _ (ka _ (ez.2 ⟨x,fm.2 hv.head,rfl⟩))) _ (ih hv.tail)
 exact ⟨cQ Z (vl m S (v.flatMap g)),ky (hz hv),U9 hm hS h1 h6 hg iP hZ (ky (hz hv)) hv (BJ (hz hv)).symm⟩
end
end
section
variable {K:Nat} {mul:Nat→Nat→Nat} {G Z:List Nat} (hZ:GW K mul G Z)
include hZ
theorem asU {x:Nat} (hx:x<Z.length):kC (iA mul Z) (G.map (cQ Z)) x:=by
 have key: ∀z,kC mul G z→z∈Z∧kC (iA mul Z) (G.map (cQ Z)) (cQ Z z):=fun z hz=>by
  induction hz with
  | one h=>exact ⟨hZ.sub _ h,.one (ez.2 ⟨_,h,rfl⟩)⟩
  | more _ h ih=>
   rename_i x y hx;have hg:=hZ.sub _ h;refine ⟨hZ.cl _ ih.1 _ hg,?_⟩;have:cQ Z (mul x y)=iA mul Z (cQ Z x) (cQ Z y):=by unfold iA;rw[BJ ih.1,BJ hg]
   rw[this];exact .more ih.2 (ez.2 ⟨_,h,rfl⟩)
 have:=(key _ (hZ.pr _ (yU hx))).2;rwa [bD hx,A8 (MY hZ.GX) hx] at this
end
noncomputable def Hp (C:af) (s1 s2:LV) (t12 t13:Int) {β:Type} (kn:Int→Option β) (kr:((Bool) ⊕ (Int×Bool))→Option β):Option β:=
 bif decide (t13<t12) then
  (idx s1 t13).bind fun x1=>
  (idx s2 t13).bind fun x2=>
  bif (x1.toInt:Int) != x2.toInt then
  kr (.inl false)
  else
  kn (wrap .i64 (t13+1))
 else
  kr (.inr (t13,decide (t13<t12)))
noncomputable def Va (C:af) (s1 s2:LV) (t12:Int):=fun t13=>Hp C s1 s2 t12 t13 (fun y=>some (Sum.inl y)) (fun r=>some (Sum.inr r))
noncomputable def asV (C:af):cz:=bt 65 RE [EQ,EQ,EQ,H1] [[0],[1,2,3,0,0]] (@Hp C) bB
theorem asW (C:af):bc C (asV C) 56 (Lp [1,1,0,1,0,0] 56):=br RE [EQ,EQ,EQ,H1] [[0],[1,2,3,0,0]] (@Hp C) (aR av)
noncomputable def aeQ (C:af) (s1 s2:LV):Option LV:=
 bif (s1.length:Int) != (s2.length:Int) then
  some [.bool false]
 else
  (Loop (Va C s1 s2 (s1.length:Int)) 0).bind (cP (fun (jF:Bool)=>
   some [.bool jF]) (un fun (gU:Int) (oA:Bool)=>
   some [.bool true]))
theorem asX {s1 s2:LV} {r:Option LV} (h:aeQ CC s1 s2=r):CC D5 [.list ae s1,.list ae s2]=r:=bA (ba (asW CC) av) h
noncomputable def Hq (C:af) (s1 s2:LV) (t12 t13:Int) {β:Type} (kn:Int→Option β) (kr:((Bool) ⊕ (Int×Bool))→Option β):Option β:=
 bif decide (t13<t12) then
  (idx s1 t13).bind fun x1=>
  (idx s2 t13).bind fun x2=>
  bif !(x1.toBool==x2.toBool) then
  kr (.inl false)
  else
  kn (wrap .i64 (t13+1))
 else
  kr (.inr (t13,decide (t13<t12)))
noncomputable def Vb (C:af) (s1 s2:LV) (t12:Int):=fun t13=>Hq C s1 s2 t12 t13 (fun y=>some (Sum.inl y)) (fun r=>some (Sum.inr r))
noncomputable def asY (C:af):cz:=bt 65 RG [EQ,EQ,EQ,H1] [[0],[1,2,3,0,0]] (@Hq C) bB
theorem asZ (C:af):bc C (asY C) 58 (Lp [1,1,0,1,0,0] 58):=br RG [EQ,EQ,EQ,H1] [[0],[1,2,3,0,0]] (@Hq C) (aR av)
noncomputable def aeR (C:af) (s1 s2:LV):Option LV:=
 bif (s1.length:Int) != (s2.length:Int) then
  some [.bool false]
 else
  (Loop (Vb C s1 s2 (s1.length:Int)) 0).bind (cP (fun (jF:Bool)=>
   some [.bool jF]) (un fun (gU:Int) (oA:Bool)=>
   some [.bool true]))
theorem as0 {s1 s2:LV} {r:Option LV} (h:aeR CC s1 s2=r):CC D6 [.list ax s1,.list ax s2]=r:=bA (ba (asZ CC) av) h
noncomputable def Hr (C:af) (s1 s2:LV) (t12 t13:Int) {β:Type} (kn:Int→Option β) (kr:((Bool) ⊕ (Int×Bool))→Option β):Option β:=
 bif decide (t13<t12) then
  (idx s1 t13).bind fun x1=>
  (idx s2 t13).bind fun x2=>
  bif !(x1.toStr==x2.toStr) then
  kr (.inl false)
  else
  kn (wrap .i64 (t13+1))
 else
  kr (.inr (t13,decide (t13<t12)))
noncomputable def Vc (C:af) (s1 s2:LV) (t12:Int):=fun t13=>Hr C s1 s2 t12 t13 (fun y=>some (Sum.inl y)) (fun r=>some (Sum.inr r))
noncomputable def as1 (C:af):cz:=bt 65 RF [EQ,EQ,EQ,H1] [[0],[1,2,3,0,0]] (@Hr C) bB
theorem as2 (C:af):bc C (as1 C) 57 (Lp [1,1,0,1,0,0] 57):=br RF [EQ,EQ,EQ,H1] [[0],[1,2,3,0,0]] (@Hr C) (aR av)
noncomputable def aeS (C:af) (s1 s2:LV):Option LV:=
 bif (s1.length:Int) != (s2.length:Int) then
  some [.bool false]
 else
  (Loop (Vc C s1 s2 (s1.length:Int)) 0).bind (cP (fun (jF:Bool)=>
   some [.bool jF]) (un fun (gU:Int) (oA:Bool)=>
   some [.bool true]))
theorem as3 {s1 s2:LV} {r:Option LV} (h:aeS CC s1 s2=r):CC Kl [.list cp s1,.list cp s2]=r:=bA (ba (as2 CC) av) h
noncomputable def Hs (C:af) (n:Int) (t7:LV) (t8 t9:Int) {β:Type} (kn:Int→Option β) (kr:((Bool) ⊕ (Int×Bool))→Option β):Option β:=
 bif decide (t9<t8) then
  (idx t7 t9).bind fun x1=>
  bif decide ((x1.toInt:Int)<0) then
  kr (.inl false)
  else
  bif decide ((x1.toInt:Int)≥n) then
   kr (.inl false)
  else
   kn (wrap .i64 (t9+1))
 else
  kr (.inr (t9,decide (t9<t8)))
noncomputable def Vd (C:af) (n:Int) (t7:LV) (t8:Int):=fun t9=>Hs C n t7 t8 t9 (fun y=>some (Sum.inl y)) (fun r=>some (Sum.inr r))
noncomputable def as4 (C:af):cz:=bt 33 Sa [EQ,EQ,EQ,H1] [[0],[1,2,3,0,0]] (@Hs C) bB
theorem as5 (C:af):bc C (as4 C) 86 (Lp [1,0,1,0,0] 86):=br Sa [EQ,EQ,EQ,H1] [[0],[1,2,3,0,0]] (@Hs C) (aR av)
noncomputable def aeT (C:af) (list:LV) (n:Int):Option LV:=
 (Loop (Vd C n list (list.length:Int)) 0).bind (cP (fun (sR:Bool)=>
  some [.bool sR]) (un fun (jF:Int) (gU:Bool)=>
  some [.bool true]))
theorem as6 {list:LV} {n:Int} {r:Option LV} (h:aeT CC list n=r):CC Ea [.list ae list,V.int .i64 n]=r:=bA (ba (as5 CC) av) h
noncomputable def Ht (C:af) (n:Int) (t53:LV) (t54 iB:Int) (jM kI ji kJ kK:LV) (t55:Int) {β:Type} (kn:Int→Option β) (kr:((Bool) ⊕ (Int×Bool))→Option β):Option β:=
 bif decide (t55<t54) then
  (idx t53 t55).bind fun x1=>
  bif (x1.toList.length:Int) != n then
  kr (.inl false)
  else
  (C Ea [.list ae x1.toList,V.int .i64 n]).bind fun r2=>
  bif !((V.nth r2 0).toBool) then
   kr (.inl false)
  else
   kn (wrap .i64 (t55+1))
 else
  kr (.inr (t55,decide (t55<t54)))
noncomputable def Ve (C:af) (n:Int) (t53:LV) (t54 iB:Int) (jM kI ji kJ kK:LV):=fun t55=>Ht C n t53 t54 iB jM kI ji kJ kK t55 (fun y=>some (Sum.inl y)) (fun r=>some (Sum.inr r))
noncomputable def as7 (C:af):cz:=bt 113 RB [EQ,EQ,EQ,H1,EQ,EQ,EQ,EQ,EQ,EQ] [[0],[1,2,3,0,0,5,6,7,8,9,10]] (@Ht C) bB
theorem as8 (C:af):bc C (as7 C) 54 (Lp [1,1,1,1,0,1,0,0] 54):=br RB [EQ,EQ,EQ,H1,EQ,EQ,EQ,EQ,EQ,EQ] [[0],[1,2,3,0,0,5,6,7,8,9,10]] (@Ht C) (aR av)
noncomputable def aeU (C:af) (fj:Int) (dN fY fP fB fZ:LV):Option LV:=
 bif decide (fj<1) then
  some [.bool false]
 else
  bif decide (fj>6) then
  some [.bool false]
  else
  bif decide ((dN.length:Int)<1) then
   some [.bool false]
  else
   bif decide ((dN.length:Int)>400) then
   some [.bool false]
   else
   bif (fY.length:Int) != (dN.length:Int) then
    some [.bool false]
   else
    bif (fB.length:Int) != (dN.length:Int) then
    some [.bool false]
    else
    bif (fZ.length:Int) != (dN.length:Int) then
     some [.bool false]
    else
     bif (fP.length:Int) != fj then
     some [.bool false]
     else
     (Loop (Ve C (dN.length:Int) dN (dN.length:Int) fj dN fY fP fB fZ) 0).bind (cP (fun (jF:Bool)=>
      some [.bool jF]) (un fun (gU:Int) (oA:Bool)=>
      (C Ea [.list ae fP,V.int .i64 (dN.length:Int)]).bind fun r6=>
      some [.bool ((V.nth r6 0).toBool)]))
theorem as9 {fj:Int} {dN fY fP fB fZ:LV} {r:Option LV} (h:aeU CC fj dN fY fP fB fZ=r):CC Kj [V.int .i64 fj,.list ah dN,.list cp fY,.list ae fP,.list ax fB,.list ax fZ]=r:=bA (ba (as8 CC) av) h
noncomputable def Hu (C:af) (x:Int) (row t19:LV) (t20 t21:Int) (t34:LV) (t35 iB:Int) (jM kI ji kJ kK:LV) (gq gr cF cX:Int) (aI bh bq:LV) (t36:Int) (aS:LV) {β:Type} (kn:(Int×LV)→Option β) (kr:(Int×Bool×LV)→Option β):Option β:=
 bif decide (t36<t35) then
  (idx t34 t36).bind fun x3=>
  ar aS x fun x4=>
  (idx row x3.toInt).bind fun x5=>
  (eV Tryz.prog ah aS [(x.toNat,0)]).bind fun x6=>
  bif (decide (0≤t36))&&(decide (t36<(x6.toList.length:Int))) then
  (eV Tryz.prog ah aS [(x.toNat,0)]).bind fun x7=>
  (x7.toList[t36.toNat]?).bind fun x8=>
  kn (wrap .i64 (t36+1),setRow Tryz.prog (aE x7.toList t36 (V.int .i64 x5.toInt)) ah aS [(x.toNat,0)])
  else none
 else
  kr (t36,decide (t36<t35),aS)
noncomputable def Nj (C:af) (x:Int) (row t19:LV) (t20 t21:Int) (t34:LV) (t35 iB:Int) (jM kI ji kJ kK:LV) (gq gr cF cX:Int) (aI bh bq:LV):=un fun t36 aS=>Hu C x row t19 t20 t21 t34 t35 iB jM kI ji kJ kK gq gr cF cX aI bh bq t36 aS (fun y=>some (Sum.inl y)) (fun r=>some (Sum.inr r))
noncomputable def Hv (C:af) (t19:LV) (t20 iB:Int) (jM kI ji kJ kK:LV) (gq gr cF cX:Int) (aI bh bq:LV) (t21:Int) (aS:LV) {β:Type} (kn:(Int×LV)→Option β) (kr:(Int×Bool×LV)→Option β):Option β:=
 bif decide (t21<t20) then
  (idx t19 t21).bind fun x1=>
  bif (decide (0≤iB))&&((decide (iB≤iB))&&(Nat.ble ((iB.toNat)*8) bm)) then
  ar aS t21 fun x2=>
  (Loop (Nj C t21 x1.toList t19 t20 t21 ji (ji.length:Int) iB jM kI ji kJ kK gq gr cF cX aI bh bq) (0,aE aS t21 (.list ae (List.replicate (iB.toNat) (V.int .i64 0))))).bind (un fun mO=>un fun (LN:Bool) (yA:LV)=>
   kn (wrap .i64 (t21+1),yA))
  else none
 else
  kr (t21,decide (t21<t20),aS)
noncomputable def Vf (C:af) (t19:LV) (t20 iB:Int) (jM kI ji kJ kK:LV) (gq gr cF cX:Int) (aI bh bq:LV):=un fun t21 aS=>Hv C t19 t20 iB jM kI ji kJ kK gq gr cF cX aI bh bq t21 aS (fun y=>some (Sum.inl y)) (fun r=>some (Sum.inr r))
noncomputable def aeV (C:af):cz:=bt 113 RC [EQ,EQ,EQ,EQ,EQ,EQ,EQ,H1,EQ,EQ,EQ,EQ,EQ,EQ,EQ,EQ,EQ,EQ,EQ,EQ,EQ,H1] [[1,2,3,4,5,6,7,0,0,9,10,11,12,13,14,15,16,17,18,19,20,21,0]] (@Hu C) (bt 49 RD [EQ,EQ,H1,EQ,EQ,EQ,EQ,EQ,EQ,EQ,EQ,EQ,EQ,EQ,EQ,EQ,H1] [[1,2,0,0,4,5,6,7,8,9,10,11,12,13,14,15,16,0]] (@Hv C) bB)
theorem ata (C:af):bc C (aeV C) 55 (Lp [1,1,0,1,0,0,1,1,0,0,1,1,1,0,0] 55):=br RC [EQ,EQ,EQ,EQ,EQ,EQ,EQ,H1,EQ,EQ,EQ,EQ,EQ,EQ,EQ,EQ,EQ,EQ,EQ,EQ,EQ,H1] [[1,2,3,4,5,6,7,0,0,9,10,11,12,13,14,15,16,17,18,19,20,21,0]] (@Hu C) (aR av)
theorem atb (C:af):bc C (aeV C) 55 (Lp [1,1,0,1,0,0] 55):=br RD [EQ,EQ,H1,EQ,EQ,EQ,EQ,EQ,EQ,EQ,EQ,EQ,EQ,EQ,EQ,EQ,H1] [[1,2,0,0,4,5,6,7,8,9,10,11,12,13,14,15,16,0]] (@Hv C) (aR (ba (ata C) av))
noncomputable def aeW (C:af) (fj:Int) (dN fY fP fB fZ:LV):Option LV:=
 bif Nat.ble (fB.length*1) bm then
  bif (decide (0≤(dN.length:Int)))&&((decide ((dN.length:Int)≤(dN.length:Int)))&&(Nat.ble (((dN.length:Int).toNat)*24) bm)) then
  (Loop (Vf C dN (dN.length:Int) fj dN fY fP fB fZ 0 0 fj 0 ([]:LV) ([]:LV) fB) (0,List.replicate ((dN.length:Int).toNat) (V.list ae ([]:LV)))).bind (un fun s6=>un fun (yE:Bool) (qi:LV)=>
   some [V.int .i64 fj,V.int .i64 0,.list ax fB,.list ah qi])
  else none
 else none
theorem atc {fj:Int} {dN fY fP fB fZ:LV} {r:Option LV} (h:aeW CC fj dN fY fP fB fZ=r):CC Kk [V.int .i64 fj,.list ah dN,.list cp fY,.list ae fP,.list ax fB,.list ax fZ]=r:=bA (ba (atb CC) av) h
noncomputable def Hw (C:af) (t28:LV) (t29 iB:Int) (jM kI ji kJ kK:LV) (iJ:Int) (iK uR s7 aeX aeY:LV) (t30:Int) {β:Type} (kn:Int→Option β) (kr:((Int) ⊕ (Int×Bool))→Option β):Option β:=
 bif decide (t30<t29) then
  (idx t28 t30).bind fun x4=>
  (idx jM t30).bind fun x5=>
  (C D5 [.list ae x4.toList,.list ae x5.toList]).bind fun r6=>
  bif !((V.nth r6 0).toBool) then
  kr (.inl 8)
  else
  kn (wrap .i64 (t30+1))
 else
  kr (.inr (t30,decide (t30<t29)))
noncomputable def Nk (C:af) (t28:LV) (t29 iB:Int) (jM kI ji kJ kK:LV) (iJ:Int) (iK uR s7 aeX aeY:LV):=fun t30=>Hw C t28 t29 iB jM kI ji kJ kK iJ iK uR s7 aeX aeY t30 (fun y=>some (Sum.inl y)) (fun r=>some (Sum.inr r))
noncomputable def atd (C:af):cz:=bt 113 Rq [EQ,EQ,H1,EQ,EQ,EQ,EQ,EQ,EQ,EQ,EQ,EQ,EQ,EQ,EQ] [[0],[1,2,0,0,4,5,6,7,8,9,10,11,12,13,14,15]] (@Hw C) bB
theorem ate (C:af):bc C (atd C) 27 (Lp [1,1,1,1,0,1,0,0] 27):=br Rq [EQ,EQ,H1,EQ,EQ,EQ,EQ,EQ,EQ,EQ,EQ,EQ,EQ,EQ,EQ] [[0],[1,2,0,0,4,5,6,7,8,9,10,11,12,13,14,15]] (@Hw C) (aR av)
noncomputable def Vg (C:af) (fj:Int) (dN fY fP fB fZ:LV):Option LV:=
 (C Kj [V.int .i64 fj,.list ah dN,.list cp fY,.list ae fP,.list ax fB,.list ax fZ]).bind fun r1=>
 bif !((V.nth r1 0).toBool) then
  some [V.int .i64 8]
 else
  (C Kk [V.int .i64 fj,.list ah dN,.list cp fY,.list ae fP,.list ax fB,.list ax fZ]).bind fun r2=>
  (C ow [V.int .i64 ((V.nth r2 0).toInt),V.int .i64 ((V.nth (r2.drop 1) 0).toInt),.list ax ((V.nth (r2.drop 2) 0).toList),.list ah ((V.nth ((r2.drop 2).drop 1) 0).toList)]).bind fun r3=>
  bif (((V.nth (r3.drop 6) 0).toInt):Int) != 0 then
  some [V.int .i64 8]
  else
  bif ((((V.nth (r3.drop 1) 0).toList).length:Int):Int) != (dN.length:Int) then
   some [V.int .i64 8]
  else
   (Loop (Nk C ((V.nth (r3.drop 1) 0).toList) (((V.nth (r3.drop 1) 0).toList).length:Int) fj dN fY fP fB fZ ((V.nth r3 0).toInt) ((V.nth (r3.drop 1) 0).toList) ((V.nth ((r3.drop 1).drop 1) 0).toList) ((V.nth (((r3.drop 1).drop 1).drop 1) 0).toList) ((V.nth ((((r3.drop 1).drop 1).drop 1).drop 1) 0).toList) ((V.nth (((((r3.drop 1).drop 1).drop 1).drop 1).drop 1) 0).toList)) 0).bind (cP (fun oC=>
    some [V.int .i64 oC]) (un fun (wu:Int) (mO:Bool)=>
    (C Kl [.list cp ((V.nth ((r3.drop 1).drop 1) 0).toList),.list cp fY]).bind fun Mx=>
    bif !((V.nth Mx 0).toBool) then
    some [V.int .i64 8]
    else
    (C D5 [.list ae ((V.nth (((r3.drop 1).drop 1).drop 1) 0).toList),.list ae fP]).bind fun dy=>
    bif !((V.nth dy 0).toBool) then
     some [V.int .i64 8]
    else
     (C D6 [.list ax ((V.nth ((((r3.drop 1).drop 1).drop 1).drop 1) 0).toList),.list ax fB]).bind fun mb=>
     bif !((V.nth mb 0).toBool) then
     some [V.int .i64 8]
     else
     (C D6 [.list ax ((V.nth (((((r3.drop 1).drop 1).drop 1).drop 1).drop 1) 0).toList),.list ax fZ]).bind fun qv=>
     bif !((V.nth qv 0).toBool) then
      some [V.int .i64 8]
     else
      some [V.int .i64 0]))
theorem atf {fj:Int} {dN fY fP fB fZ:LV} {r:Option LV} (h:Vg CC fj dN fY fP fB fZ=r):CC D0 [V.int .i64 fj,.list ah dN,.list cp fY,.list ae fP,.list ax fB,.list ax fZ]=r:=bA (ba (ate CC) av) h
noncomputable def Hy (C:af) (w:List UInt8) (t13 iB:Int) (jM kI ji kJ kK:LV) (x t14:Int) {β:Type} (kn:(Int×Int)→Option β) (kr:(Int×Int×Bool)→Option β):Option β:=
 bif decide (t14<t13) then
  (idx jM x).bind fun x2=>
  (bif decide (0≤t14) then (w[t14.toNat]?).map fun b=>V.int .u8 b.toNat else none).bind fun x3=>
  (idx ji (wrap .u8 (x3.toInt-97))).bind fun x4=>
  (idx x2.toList x4.toInt).bind fun x5=>
  kn (x5.toInt,wrap .i64 (t14+1))
 else
  kr (x,t14,decide (t14<t13))
noncomputable def Nl (C:af) (w:List UInt8) (t13 iB:Int) (jM kI ji kJ kK:LV):=un fun x t14=>Hy C w t13 iB jM kI ji kJ kK x t14 (fun y=>some (Sum.inl y)) (fun r=>some (Sum.inr r))
noncomputable def atg (C:af):cz:=bt 81 Rr [EQ,H1,EQ,H1,EQ,EQ,EQ,EQ,EQ,EQ] [[1,0,3,0,0,5,6,7,8,9,10]] (@Hy C) bB
theorem ath (C:af):bc C (atg C) 28 (Lp [1,1,1,0,1,0,0] 28):=br Rr [EQ,H1,EQ,H1,EQ,EQ,EQ,EQ,EQ,EQ] [[1,0,3,0,0,5,6,7,8,9,10]] (@Hy C) (aR av)
noncomputable def Vh (C:af) (fj:Int) (dN fY fP fB fZ:LV) (w:List UInt8):Option LV:=
 (C Ap [.str w,V.int .i64 fj]).bind fun r1=>
 bif !((V.nth r1 0).toBool) then
  some [V.int .i64 (-1)]
 else
  (Loop (Nl C w (w.length:Int) fj dN fY fP fB fZ) (0,0)).bind (un fun x_6=>un fun (oC:Int) (wu:Bool)=>
   some [V.int .i64 x_6])
theorem ati {fj:Int} {dN fY fP fB fZ:LV} {w:List UInt8} {r:Option LV} (h:Vh CC fj dN fY fP fB fZ w=r):CC D1 [V.int .i64 fj,.list ah dN,.list cp fY,.list ae fP,.list ax fB,.list ax fZ,.str w]=r:=bA (ba (ath CC) av) h
noncomputable def Vi (C:af) (fj:Int) (dN fY fP fB fZ:LV) (w:List UInt8):Option LV:=
 (C D0 [V.int .i64 fj,.list ah dN,.list cp fY,.list ae fP,.list ax fB,.list ax fZ]).bind fun r1=>
 bif (((V.nth r1 0).toInt):Int) != 0 then
  some [V.int .i64 (-1)]
 else
  (C D1 [V.int .i64 fj,.list ah dN,.list cp fY,.list ae fP,.list ax fB,.list ax fZ,.str w]).bind fun r2=>
  some [V.int .i64 ((V.nth r2 0).toInt)]
theorem atj {fj:Int} {dN fY fP fB fZ:LV} {w:List UInt8} {r:Option LV} (h:Vi CC fj dN fY fP fB fZ w=r):CC DX [V.int .i64 fj,.list ah dN,.list cp fY,.list ae fP,.list ax fB,.list ax fZ,.str w]=r:=bA (L:=bB) av h
section
variable {l:LV} (hl:l.length≤1000000)
include hl
theorem aeZ:CC D5 [.list ae l,.list ae l]=some [.bool true]:=by
 refine asX ?_;unfold aeQ;refine bF (by simp) (bs (dW l.length (fun i=>(i:Int)) (.inr ((l.length:Int),false)) (fun i hi=> ?_) ?_) rfl)
 ·simp only[Va,Hp];have e:=JQ l i;rw[bS hi] at e;refine bT (cg hi) (bs e (bs e (bF (by simp) ?_)));rw[cq (by omega)]
 ·simp only[Va,Hp];rw[aW (az _)];rfl
theorem ae0:CC D6 [.list ax l,.list ax l]=some [.bool true]:=by
 refine as0 ?_;unfold aeR;refine bF (by simp) (bs (dW l.length (fun i=>(i:Int)) (.inr ((l.length:Int),false)) (fun i hi=> ?_) ?_) rfl)
 ·simp only[Vb,Hq];have e:=JQ l i;rw[bS hi] at e;refine bT (cg hi) (bs e (bs e (bF (by simp) ?_)));rw[cq (by omega)]
 ·simp only[Vb,Hq];rw[aW (az _)];rfl
theorem atk:CC Kl [.list cp l,.list cp l]=some [.bool true]:=by
 refine as3 ?_;unfold aeS;refine bF (by simp) (bs (dW l.length (fun i=>(i:Int)) (.inr ((l.length:Int),false)) (fun i hi=> ?_) ?_) rfl)
 ·simp only[Vc,Hr];have e:=JQ l i;rw[bS hi] at e;refine bT (cg hi) (bs e (bs e (bF (by simp) ?_)));rw[cq (by omega)]
 ·simp only[Vc,Hr];rw[aW (az _)];rfl
end
theorem ae1 {l:List Nat} {n:Nat} (hl:l.length≤1000000) (h: ∀y∈l,y<n):CC Ea [.list ae (nS l),.int .i64 (n:Int)]=some [.bool true]:=by
 refine as6 ?_;unfold aeT;rw[cL];refine bs (dW l.length (fun i=>(i:Int)) (.inr ((l.length:Int),false)) (fun i hi=> ?_) ?_) rfl
 ·simp only[Vd,Hs];refine bT (cg hi) (bs (gi hi) (bF yq (bF (Fl (h _ (cM hi))) ?_)));rw[cq (by omega)]
 ·simp only[Vd,Hs];rw[aW (az _)];rfl
section
variable {m:Da} (hm:m.Ok) {S:List (List Nat)} (hS:th m S) (f:Nat→List UInt8)
def pB (S:List (List Nat)) (i:Nat):List Nat:=(List.range S.length).map fun j=>dE S i j
theorem atl {i:Nat}:(tab S.length fun j=>nV (dE S i j))=nS (pB S i):=by unfold pB nS;rw[pI];rfl
theorem Hz {i:Nat} (hi:i<S.length):idx (kG S) (i:Int)=some (.list ae (nS (pB S i))):=by rw[←atl];exact qh hi
include hm hS
theorem atm {i:Nat} (hi:i<S.length): ∀y∈pB S i,y<S.length:=fun y hy=>by
 obtain ⟨j,hj,rfl⟩:=ez.1 hy;exact aeE hm hS hi (fm.1 hj)
theorem atn:CC Kj (qu m S f)=some [.bool true]:=by
 have h1:=hm.l1;have h6:=hm.l6;have hp:=hS.pos;have hle:=hS.le;have e1:(kG S).length=S.length:=eH;have e2:(iO m S).length=m.L:=by unfold iO;rw[cL,eO,cY,jP]
 have e3:(mi m S).length=S.length:=eH;have e4:(jK m.L m.gT S S.length).length=S.length:=eH;refine as9 ?_;unfold aeU;rw[e1,e2,e3,e4,eH];refine bF (cR (by omega)) (bF (cR (by omega)) (bF (cR (by omega)) (bF (cR (by omega)) (bF (by simp) (bF (by simp) (bF (by simp) (bF (by simp) ?_)))))));refine bs (dW S.length (fun i=>(i:Int)) (.inr ((S.length:Int),false)) (fun i hi=> ?_) ?_) ?_
 ·simp only[Ve,Ht];refine bT (cg hi) (bs (Hz hi) ?_);rw[V.eo];have e5:(nS (pB S i)).length=S.length:=by rw[cL,pB,cY,jP]
  refine bF (by rw[e5];simp) (bs (ae1 (by rw[cL] at e5;omega) (atm hm hS hi)) (bF rfl ?_));rw[cq (by omega)]
 ·simp only[Ve,Ht];rw[aW (az _)];rfl
 ·refine bs (ae1 (l:=eO m.L m.gT S (List.range m.n)) (by rw[eO,cY,jP];omega) fun y hy=> ?_) rfl;obtain ⟨x,hx,rfl⟩:=ez.1 hy;exact ky (hS.cl _ (U7 hS) x (fm.1 hx))
omit hm hS in
theorem ae2 {x:Nat} (hx:x<m.L):idx (iO m S) (x:Int)=some (nV (vl m S [x])):=by
 unfold iO;rw[gi (by rw[eO,cY,jP];exact hx)];simp[eO,vl,kH]
theorem ae3 {i x:Nat} (hi:i<S.length) (hx:x<m.L):idx (nS (pB S i)) (vl m S [x]:Int)=some (nV (cQ S (bn m.gT (S.getD i []) x))):=by
 have mH:WL m.L [x]:=WL.nil.cons hx;have h1:=yY hS mH;rw[gi (by rw[pB,cY,jP];exact h1)];obtain ⟨w,hw,rfl⟩:=y4 hS hi;have:(pB S (vl m S w))[vl m S [x]]'(by rw[pB,cY,jP];exact h1)=dE S (vl m S w) (vl m S [x]):=by simp[pB]
 rw[this,ti hm hS hw mH,yZ hS hw];unfold vl kH;rw[ze];rfl
theorem ato:CC Kk (qu m S f)=some (fE (jL m S)):=by
 have h6:=hm.l6;have hle:=hS.le;have e1:(kG S).length=S.length:=eH;have e2:(iO m S).length=m.L:=by unfold iO;rw[cL,eO,cY,jP]
 have e3:(mi m S).length=S.length:=eH;refine atc ?_;unfold aeW;rw[e1,e3];refine bT (cap (b:=0) (by omega) (by omega)) (bT (gh (by omega) (by omega)) ?_);rw[Int.toNat_natCast];have ju: ∀{i:Nat},i<S.length→∀{k1 k2 k3 k4 k5 k6 k7:Int} {l1 l2 l3 l4 l5 l6 l7 l8 l9:LV} {a:LV},a.length=S.length→Loop (Nj CC (i:Int) (nS (pB S i)) l1 k1 k2 (iO m S) (m.L:Int) k3 l2 l3 l4 l5 l6 k4 k5 k6 k7 l7 l8 l9) (0,a.set i (.list ae (List.replicate m.L (V.int .i64 0))))=some ((m.L:Int),false,a.set i (lV m.L ((jL m S).nx i))):=by
  intro i hi k1 k2 k3 k4 k5 k6 k7 l1 l2 l3 l4 l5 l6 l7 l8 l9 a ha;refine sS (fun x b=>((x:Int),a.set i (.list ae b))) m.L (fun x=>nV ((jL m S).nx i x)) _ (by simp) (fun b=>((m.L:Int),false,a.set i (.list ae b))) (fun x hx b hb=> ?_) ?_
  ·simp only[Nj,Hu,un,ar,aE,Int.toNat_natCast];have e0:(a.set i (V.list ae b))[i]? =some (.list ae b):=qx (by rw[ha];exact hi);refine bT (cg hx) (bs (ae2 hx) ((cy e0).trans (bs (ae3 hm hS hi hx) (bs (oM e0) ?_))));rw[V.eo];refine bT (nB (by rw[hb];exact hx)) (bs (oM e0) ?_);rw[V.eo];refine bs (bS (by rw[hb];exact hx)) ?_;rw[Mu e0,List.set_set,cq (by omega),aeH hi hx];rfl
  ·simp only[Nj,Hu,un];refine bF (aW (az _)) ?_;rw[aW (az _)]
 refine bs (sS (fun i a=>((i:Int),a)) S.length (fun i=>lV m.L ((jL m S).nx i)) _ (by simp) (fun a=>((S.length:Int),false,a)) (fun i hi a ha=> ?_) ?_) ?_
 ·simp only[Vf,Hv,un,ar,aE];refine bT (cg hi) (bs (Hz hi) (bT (gh (by omega) (by omega)) ((rq (by rw[ha];exact hi)).trans ?_)));rw[V.eo,e2,Int.toNat_natCast,Int.toNat_natCast];refine bs (ju hi ha) ?_;rw[cq (by omega)];rfl
 ·simp only[Vf,Hv,un];refine bF (aW (az _)) ?_;rw[aW (az _)]
 ·have e5:mi m S=(jL m S).dM:=by
   unfold mi Da.dM;rw[BV];exact cJ fun i hi=>by rw[aeG hi]
  have e6:(tab S.length fun i=>lV m.L ((jL m S).nx i))=(jL m S).ed:=by unfold Da.ed;rw[BV];rfl
  rw[e6,e5];rfl
end
section
variable {a:Da} (ha:a.Ok) {S:List (List Nat)} {f:Nat→List UInt8} (hS:th (minD a) S) (Vj:CC ow (fE a)=some (qu (minD a) S f++[.int .i64 0]))
include ha hS Vj
theorem atp:CC D0 (qu (minD a) S f)=some [.int .i64 0]:=by
 have hm:=qs ha;have hle:=hS.le;have hL6:=hm.l6;have hO:CC ow (fE (jL (minD a) S))=some (qu (minD a) S f++[.int .i64 0]):=(asI (aeI hm hS) ha (asH ha hS)).trans Vj;have fin: ∀z,Vg CC ((minD a).L:Int) (kG S) (tab S.length fun j=> .str (f j)) (iO (minD a) S) (mi (minD a) S) (jK (minD a).L (minD a).gT S S.length)=z→CC D0 (qu (minD a) S f)=z:=fun z h=>atf h;refine fin _ ?_;unfold Vg;refine bs (atn hm hS f) (bF rfl (bs (ato hm hS f) (bs hO (bF rfl (bF (by simp[qu]) ?_)))));have e1:(kG S).length=S.length:=eH;refine bs (a:= .inr ((S.length:Int),false)) ?_ ?_
 ·show Loop (Nk CC (kG S) ((kG S).length:Int) _ _ _ _ _ _ _ _ _ _ _ _) 0=_;rw[e1];refine dW S.length (fun i=>(i:Int)) _ (fun i hi=> ?_) ?_
  ·simp only[Nk,Hw];refine bT (cg hi) (bs (Hz hi) (bs (Hz hi) (bs (aeZ (by rw[V.eo,cL,pB,cY,jP];omega)) (bF rfl ?_))));rw[cq (by omega)]
  ·simp only[Nk,Hw];rw[aW (az _)];rfl
 ·have e2:(iO (minD a) S).length=(minD a).L:=by unfold iO;rw[cL,eO,cY,jP]
  refine bs (atk (l:=tab S.length fun j=> .str (f j)) (by simp;omega)) (bF rfl (bs (aeZ (l:=iO (minD a) S) (by omega)) (bF rfl (bs (ae0 (l:=mi (minD a) S) (by simp[mi];omega)) (bF rfl (bs (ae0 (l:=jK (minD a).L (minD a).gT S S.length) (by simp[jK];omega)) (bF rfl rfl)))))))
theorem atq {w:List UInt8} (hw:ku w ((minD a).L:Int)):CC DX (qu (minD a) S f++[.str w])=some [.int .i64 (vl (minD a) S (lets w):Int)]:=by
 have hm:=qs ha;have hle:=hS.le;have hlen:=hw.2.2.1;have fin: ∀z,Vi CC ((minD a).L:Int) (kG S) (tab S.length fun j=> .str (f j)) (iO (minD a) S) (mi (minD a) S) (jK (minD a).L (minD a).gT S S.length) w=z→CC DX (qu (minD a) S f++[.str w])=z:=fun z h=>atj h;have atr: ∀z,Vh CC ((minD a).L:Int) (kG S) (tab S.length fun j=> .str (f j)) (iO (minD a) S) (mi (minD a) S) (jK (minD a).L (minD a).gT S S.length) w=z→CC D1 (qu (minD a) S f++[.str w])=z:=fun z h=>ati h;have hWL:=hw.WL;have hv:CC D1 (qu (minD a) S f++[.str w])=some [.int .i64 (vl (minD a) S (lets w):Int)]:=by
  refine atr _ ?_;unfold Vh;refine bs ((SZ w _).trans (by rw[cZ hw])) (bF rfl ?_);have key:Loop (Nl CC w (w.length:Int) ((minD a).L:Int) (kG S) (tab S.length fun j=> .str (f j)) (iO (minD a) S) (mi (minD a) S) (jK (minD a).L (minD a).gT S S.length)) (((vl (minD a) S ((lets w).take 0):Nat):Int),0)=some (((vl (minD a) S (lets w):Nat):Int),(w.length:Int),false):=by
   refine dW w.length (fun i=>(((vl (minD a) S ((lets w).take i):Nat):Int),(i:Int))) _ (fun i hi=> ?_) ?_
   ·simp only[Nl,Hy,un];have hT:WL (minD a).L ((lets w).take i):=fun x hx=>hWL x (HP hx);have jx:i<(lets w).length:=by rw[wv];exact hi
    have hx:(lets w).getD i 0<(minD a).L:=abW hw hi;have h1:=yY hS hT;refine bT (cg hi) (bs (Hz h1) (bs (Lx hi) ?_));rw[show wrap .u8 ((V.int .u8 (((w.getD i 0).toNat:Nat):Int)).toInt-97)=(((lets w).getD i 0:Nat):Int) from by
     rw[S3 hi (hw.2.2.2 i hi).1];exact Ly (hw.2.2.2 i hi).1]
    refine bs (ae2 hx) ?_;rw[V.eo];refine bs (ae3 hm hS h1 hx) ?_;rw[cq (by omega)];have e:vl (minD a) S ((lets w).take (i+1))=cQ S (bn (minD a).gT (S.getD (vl (minD a) S ((lets w).take i)) []) ((lets w).getD i 0)):=by
     rw[yZ hS hT,HX jx,←bD (d:=0) jx];unfold vl kH;rw[ze];rfl
    rw[e];rfl
   ·simp only[Nl,Hy,un];refine bF (aW (az _)) ?_;rw[aW (az _),show w.length=(lets w).length from wv.symm,va]
  rw[List.take_zero,BU hS] at key;exact bs key rfl
 refine fin _ ?_;unfold Vi;exact bs (atp ha hS Vj) (bF rfl (bs hv rfl))
end
noncomputable def HA (C:af) (w:List UInt8) (dk i:Int) {β:Type} (kn:Int→Option β) (kr:((Bool) ⊕ (Int×Bool))→Option β):Option β:=
 bif decide (i<(w.length:Int)) then
  (bif decide (0≤i) then (w[i.toNat]?).map fun b=>V.int .u8 b.toNat else none).bind fun x2=>
  bif decide ((x2.toInt:Int)<97) then
  kr (.inl false)
  else
  (bif decide (0≤i) then (w[i.toNat]?).map fun b=>V.int .u8 b.toNat else none).bind fun x3=>
  bif decide (((wrap .i64 (wrap .u8 (x3.toInt-97))):Int)≥dk) then
   kr (.inl false)
  else
   kn (wrap .i64 (i+1))
 else
  kr (.inr (i,decide (i<(w.length:Int))))
noncomputable def Nm (C:af) (w:List UInt8) (dk:Int):=fun i=>HA C w dk i (fun y=>some (Sum.inl y)) (fun r=>some (Sum.inr r))
noncomputable def ats (C:af):cz:=bt 65 QW [EQ,EQ,H1] [[0],[1,2,0,0]] (@HA C) bB
theorem att (C:af):bc C (ats C) 6 (Lp [1,1,0,1,0,0] 6):=br QW [EQ,EQ,H1] [[0],[1,2,0,0]] (@HA C) (aR av)
noncomputable def ae4 (C:af) (w:List UInt8) (dk:Int):Option LV:=
 (C DY [V.int .i64 dk]).bind fun r1=>
 bif !((V.nth r1 0).toBool) then
  some [.bool false]
 else
  bif decide ((w.length:Int)>2048) then
  some [.bool false]
  else
  (Loop (Nm C w dk) 0).bind (cP (fun (gU:Bool)=>
   some [.bool gU]) (un fun (i_5:Int) (oB:Bool)=>
   some [.bool true]))
theorem atu {w:List UInt8} {dk:Int} {r:Option LV} (h:ae4 CC w dk=r):CC DW [.str w,V.int .i64 dk]=r:=bA (ba (att CC) av) h
theorem atv {w:List UInt8} {L:Int} (hl:w.length≤2048):Loop (Nm CC w L) 0=some (if∀i,i<w.length→0≤fL w i∧fL w i<L then .inr ((w.length:Int),false) else .inl false):=by
 refine AY (good:=fun i=>0≤fL w i∧fL w i<L) w.length (fun i=>(i:Int)) (Sum.inl false:Bool ⊕ (Int×Bool)) (Sum.inr ((w.length:Int),false)) (fun i hi=> ?_) ?_
 ·simp only[Nm,HA,un];rw[bw,bu,Lx hi];simp only[Option.bind_some,V.toInt_int,bw];by_cases h1:0≤fL w i
  ·have kY:=h1;unfold fL at kY;rw[bO,Ly h1,wrap64 (by omega) (by have:= @abU w i;omega)];by_cases h2:fL w i<L
   ·rw[bO,ak ⟨h1,h2⟩,gG];simp
   ·rw[bu,aj (fun h=>h2 h.2)]
  ·have kY:=h1;unfold fL at kY;rw[bu,aj (fun h=>h1 h.1)]
 ·simp only[Nm,HA,un];rw[bw,bO];simp
theorem atw (w:List UInt8) (L:Int):CC DW [.str w,.int .i64 L]=some [.bool (decide (ku w L))]:=by
 refine atu ?_;unfold ae4;rw[abN];simp only[Option.bind_some,V.dJ,V.dS,ja,bw];by_cases h1: ¬(1≤L∧L≤6)
 ·rw[aj h1,cR (fun h=>h1 ⟨h.1,h.2.1⟩)]
 have h1:=Classical.not_not.1 h1;rw[ak h1];by_cases h3:(w.length:Int)>2048
 ·rw[ak h3,cR (fun h=>by have:=h.2.2.1;omega)]
 rw[aj h3,atv (by omega)];by_cases h4: ∀i,i<w.length→0≤fL w i∧fL w i<L
 ·rw[ak h4,cZ (show ku w L from ⟨h1.1,h1.2,by omega,h4⟩)];simp[cP,un]
 ·rw[aj h4,cR (fun h=>h4 h.2.2.2)];simp[cP,un]
end Go.AM
set_option maxRecDepth 100000
namespace Go.AM
open Go.IntKind (wrap)
theorem WT.Vk {P:Program} {t:TypeId} {x:V} (hu:P.underlying t=some (.int .i64)) (h:WT P t x): ∃n:Int,x= .int .i64 n∧ -9223372036854775808≤n∧n≤9223372036854775807:=by
 obtain ⟨n,rfl,h1,h2⟩:=h.eY hu;have e1:IntKind.min .i64= -9223372036854775808:=by decide
 have e2:IntKind.max .i64=9223372036854775807:=by decide
 rw[e1] at h1;rw[e2] at h2;exact ⟨n,rfl,h1,h2⟩
theorem WT.O8 {P:Program} {t:TypeId} {x:V} (hu:P.underlying t=some (.int .u8)) (h:WT P t x): ∃n:Int,x= .int .u8 n∧0≤n∧n≤255:=by
 obtain ⟨n,rfl,h1,h2⟩:=h.eY hu;have e1:IntKind.min .u8=0:=by decide
 have e2:IntKind.max .u8=255:=by decide
 rw[e1] at h1;rw[e2] at h2;exact ⟨n,rfl,h1,h2⟩
end Go.AM
set_option maxRecDepth 100000
namespace Go.AM
open Go.IntKind (wrap)
open Go.Proofs
theorem atx {α:Type} {l:List α} (h:l.length=4): ∃a b c d,l=[a,b,c,d]:=by
 match l,h with
 | [a,b,c,d],_=>exact ⟨a,b,c,d,rfl⟩
theorem aty {x:V} (h:iH Tryz.prog ah x): ∃r:List Int,x=lU r∧(r.length≤maxLen∧∀q∈r,-9223372036854775808≤q∧q≤9223372036854775807):=by
 have hu:Tryz.prog.underlying ah=some (.slice ae):=by kernel_rfl
 have hi:Tryz.prog.underlying ae=some (.int .i64):=by kernel_rfl
 obtain ⟨es,rfl,e1,e2⟩:=WT.JS hu (iH.one (by kernel_rfl) h);obtain ⟨r,rfl,hr⟩:=JT (f:=iV) (p:=fun q=> -9223372036854775808≤q∧q≤9223372036854775807) fun y hy=>WT.Vk hi (iH.one (by kernel_rfl) (e2 y hy));exact ⟨r,rfl,by simpa using e1,hr⟩
def Df.enc (d:Df):V:= .agg (rK d [])
theorem afh {t:TypeId} {x:V} (ha:bZ Tryz.prog t=true) (he:aP Tryz.prog t=[ae,ae,ko,Ql]) (h:iH Tryz.prog t x): ∃d:Df,x=d.enc∧d.Ok:=by
 obtain ⟨xs,rfl,hl,hx⟩:=iH.la ha h;rw[he] at hl;obtain ⟨a,b,c,d,rfl⟩:=atx hl;have hu:Tryz.prog.underlying ae=some (.int .i64):=by kernel_rfl
 have hb:Tryz.prog.underlying ax=some .bool:=by kernel_rfl
 have hv:Tryz.prog.underlying ko=some (.slice ax):=by kernel_rfl
 have hw:Tryz.prog.underlying Ql=some (.slice ah):=by kernel_rfl
 obtain ⟨L,rfl,l1,l2⟩:=WT.Vk hu (hx 0 ae a (by rw[he];rfl) rfl);obtain ⟨S,rfl,s1,s2⟩:=WT.Vk hu (hx 1 ae b (by rw[he];rfl) rfl);obtain ⟨fs,rfl,f1,f2⟩:=WT.JS hv (hx 2 ko c (by rw[he];rfl) rfl);obtain ⟨ns,rfl,n1,n2⟩:=WT.JS hw (hx 3 Ql d (by rw[he];rfl) rfl);obtain ⟨F,rfl⟩:=Y5 (f:=V.bool) fun y hy=>WT.kZ hb (iH.one (by kernel_rfl) (f2 y hy));obtain ⟨N,rfl,hN⟩:=JT (f:=lU) fun y hy=>aty (n2 y hy);exact ⟨⟨L,S,F,N⟩,rfl,l1,l2,s1,s2,by simpa using f1,by simpa using n1,hN⟩
def y6 (l:List (List UInt8)):V:= .list cp (l.map V.str)
theorem afi {t:TypeId} {x:V} (hu:Tryz.prog.underlying t=some (.slice cp)) (hn:bZ Tryz.prog t=false) (h:iH Tryz.prog t x): ∃l:List (List UInt8),x=y6 l∧l.length≤maxLen∧∀w∈l,w.length≤maxLen:=by
 have hs:Tryz.prog.underlying cp=some .string:=by kernel_rfl
 obtain ⟨es,rfl,e1,e2⟩:=WT.JS hu (iH.one hn h);obtain ⟨l,rfl,hl⟩:=JT (f:=V.str) (p:=fun w=>w.length≤maxLen) fun y hy=>iH.str hs (e2 y hy);exact ⟨l,rfl,by simpa using e1,hl⟩
noncomputable def HB (C:af) (cS t33:LV) (t34 cF cX:Int) (dL dA:LV) (nF nG iJ iK:Int) (aI bh bq aS:LV) (t35:Int) {β:Type} (kn:Int→Option β) (kr:((Int×Int×Int×LV×LV) ⊕ (Int×Bool))→Option β):Option β:=
 bif decide (t35<t34) then
  (idx t33 t35).bind fun x2=>
  (C Ap [.str x2.toStr,V.int .i64 cF]).bind fun r3=>
  bif !((V.nth r3 0).toBool) then
  kr (.inl (1,0,0,([]:LV),([]:LV)))
  else
  kn (wrap .i64 (t35+1))
 else
  kr (.inr (t35,decide (t35<t34)))
noncomputable def Vl (C:af) (cS t33:LV) (t34 cF cX:Int) (dL dA:LV) (nF nG iJ iK:Int) (aI bh bq aS:LV):=fun t35=>HB C cS t33 t34 cF cX dL dA nF nG iJ iK aI bh bq aS t35 (fun y=>some (Sum.inl y)) (fun r=>some (Sum.inr r))
noncomputable def HC (C:af) (cS:LV) (q t55 t56:Int) (t62:LV) (t63 nF nG iJ iK te tf:Int) (bh bq aS bf bK:LV) (t64:Int) (rows:LV) {β:Type} (kn:(Int×LV)→Option β) (kr:(Int×Bool×LV)→Option β):Option β:=
 bif decide (t64<t63) then
  (idx t62 t64).bind fun nJ=>
  (C J9 [V.int .i64 iJ,V.int .i64 iK,.list ax aS,.list ah bf,V.int .i64 q,.str nJ.toStr]).bind fun mb=>
  ar rows t64 fun uU=>
  kn (wrap .i64 (t64+1),aE rows t64 (V.int .i64 ((V.nth mb 0).toInt)))
 else
  kr (t64,decide (t64<t63),rows)
noncomputable def Vm (C:af) (cS:LV) (q t55 t56:Int) (t62:LV) (t63 nF nG iJ iK te tf:Int) (bh bq aS bf bK:LV):=un fun t64 rows=>HC C cS q t55 t56 t62 t63 nF nG iJ iK te tf bh bq aS bf bK t64 rows (fun y=>some (Sum.inl y)) (fun r=>some (Sum.inr r))
noncomputable def HD (C:af) (cS:LV) (t55 nF nG iJ iK te tf:Int) (aI bh bq aS:LV) (t56:Int) (bf:LV) {β:Type} (kn:(Int×LV)→Option β) (kr:(Int×Bool×LV)→Option β):Option β:=
 bif decide (t56<t55) then
  bif (decide (0≤(cS.length:Int)))&&((decide ((cS.length:Int)≤(cS.length:Int)))&&(Nat.ble (((cS.length:Int).toNat)*8) bm)) then
  (Loop (Vm C cS t56 t55 t56 cS (cS.length:Int) nF nG iJ iK te tf aI bh bq aS bf) (0,List.replicate ((cS.length:Int).toNat) (V.int .i64 0))).bind (un fun sX=>un fun (ada:Bool) (ae5:LV)=>
   bif Nat.ble ((bf.length+([.list ae ae5]:LV).length)*24) bm then
    kn (wrap .i64 (t56+1),bf++([.list ae ae5]:LV))
   else none)
  else none
 else
  kr (t56,decide (t56<t55),bf)
noncomputable def Nn (C:af) (cS:LV) (t55 nF nG iJ iK te tf:Int) (aI bh bq aS:LV):=un fun t56 bf=>HD C cS t55 nF nG iJ iK te tf aI bh bq aS t56 bf (fun y=>some (Sum.inl y)) (fun r=>some (Sum.inr r))
noncomputable def Vn (C:af):cz:=bt 113 QX [EQ,EQ,EQ,H1,EQ,EQ,EQ,EQ,EQ,EQ,EQ,EQ,EQ,EQ,EQ,EQ] [[0,0,0,0,0],[1,2,3,0,0,5,6,7,8,9,10,11,12,13,14,15,16]] (@HB C) (bt 289 QY [EQ,EQ,EQ,EQ,EQ,EQ,H1,EQ,EQ,EQ,EQ,EQ,EQ,H1,EQ,EQ,EQ,EQ,EQ] [[1,2,3,4,5,6,0,0,8,9,10,11,12,13,0,15,16,17,18,19]] (@HC C) (bt 225 QZ [EQ,EQ,H1,EQ,EQ,EQ,EQ,EQ,EQ,EQ,EQ,EQ,EQ,H1] [[1,2,0,0,4,5,6,7,8,9,10,11,12,13,0]] (@HD C) bB))
theorem atz (C:af):bc C (Vn C) 7 (Lp [1,1,1,1,0,1,0,0] 7):=br QX [EQ,EQ,EQ,H1,EQ,EQ,EQ,EQ,EQ,EQ,EQ,EQ,EQ,EQ,EQ,EQ] [[0,0,0,0,0],[1,2,3,0,0,5,6,7,8,9,10,11,12,13,14,15,16]] (@HB C) (aR av)
theorem atA (C:af):bc C (Vn C) 7 (Lp [1,1,1,1,1,1,0,1,0,0,1,1,0,0,1,1,0,1,0,0] 7):=br QY [EQ,EQ,EQ,EQ,EQ,EQ,H1,EQ,EQ,EQ,EQ,EQ,EQ,H1,EQ,EQ,EQ,EQ,EQ] [[1,2,3,4,5,6,0,0,8,9,10,11,12,13,0,15,16,17,18,19]] (@HC C) (aR av)
theorem atB (C:af):bc C (Vn C) 7 (Lp [1,1,1,1,1,1,0,1,0,0] 7):=br QZ [EQ,EQ,H1,EQ,EQ,EQ,EQ,EQ,EQ,EQ,EQ,EQ,EQ,H1] [[1,2,0,0,4,5,6,7,8,9,10,11,12,13,0]] (@HD C) (aR (ba (atA C) av))
noncomputable def ae6 (C:af) (bW cf:Int) (bH b9 cS:LV):Option LV:=
 (C J8 [V.int .i64 bW,V.int .i64 cf,.list ax bH,.list ah b9]).bind fun r1=>
 bif (((V.nth (r1.drop 2) 0).toInt):Int) != 0 then
  some [V.int .i64 0,V.int .i64 0,V.int .i64 ((V.nth (r1.drop 2) 0).toInt),.list ax ([]:LV),.list ah ([]:LV)]
 else
  bif decide ((cS.length:Int)<1) then
  some [V.int .i64 0,V.int .i64 0,V.int .i64 1,.list ax ([]:LV),.list ah ([]:LV)]
  else
  bif decide ((cS.length:Int)>6) then
   some [V.int .i64 0,V.int .i64 0,V.int .i64 1,.list ax ([]:LV),.list ah ([]:LV)]
  else
   (Loop (Vl C cS cS (cS.length:Int) bW cf bH b9 0 0 ((V.nth r1 0).toInt) ((V.nth (r1.drop 1) 0).toInt) ([]:LV) ([]:LV) ((V.nth (r1.drop 3) 0).toList) ((V.nth ((r1.drop 3).drop 1) 0).toList)) 0).bind (cP (un fun gU=>un fun TP=>un fun TQ=>un fun (FD:LV) (wB:LV)=>
    some [V.int .i64 TP,V.int .i64 TQ,V.int .i64 gU,.list ax FD,.list ah wB]) (un fun (mO:Int) (LN:Bool)=>
    (Loop (Nn C cS (((V.nth (r1.drop 3) 0).toList).length:Int) 0 0 ((V.nth r1 0).toInt) ((V.nth (r1.drop 1) 0).toInt) (cS.length:Int) ((V.nth (r1.drop 1) 0).toInt) ([]:LV) ([]:LV) ((V.nth (r1.drop 3) 0).toList) ((V.nth ((r1.drop 3).drop 1) 0).toList)) (0,([]:LV))).bind (un fun Uc=>un fun (ade:Bool) (rp:LV)=>
     (C ux [V.int .i64 (cS.length:Int),V.int .i64 ((V.nth (r1.drop 1) 0).toInt),.list ax ((V.nth (r1.drop 3) 0).toList),.list ah rp]).bind fun jh=>
     some [V.int .i64 ((V.nth jh 0).toInt),V.int .i64 ((V.nth (jh.drop 1) 0).toInt),V.int .i64 0,.list ax ((V.nth (jh.drop 2) 0).toList),.list ah ((V.nth ((jh.drop 2).drop 1) 0).toList)])))
theorem atC {bW cf:Int} {bH b9 cS:LV} {r:Option LV} (h:ae6 CC bW cf bH b9 cS=r):CC J0 [V.int .i64 bW,V.int .i64 cf,.list ax bH,.list ah b9,.list cp cS]=r:=bA (ba (atz CC) (ba (atB CC) av)) h
section
variable {a:Da} (h:a.Ok) {w:List UInt8}
include h
end
section
variable {d:Df} (h:d.Ok) (hv:d.val≠0)
include h hv
end
theorem BW {l:List (List UInt8)} {i:Nat} (h:i<l.length):idx (l.map V.str) (i:Int)=some (.str (l.getD i [])):=EV h
def BX (l:List (List UInt8)) (L:Int):Prop:= ∀i,i<l.length→ku (l.getD i []) L
instance (l:List (List UInt8)) (L:Int):Decidable (BX l L):=by unfold BX;infer_instance
def gH (l:List (List UInt8)) (x:Nat):List Nat:=lets (l.getD x [])
theorem ae7 {m:Da} {l:List (List UInt8)}:(m.pre l.length (gH l)).dM=m.dM∧(m.pre l.length (gH l)).ed=tab m.n fun q=>lV l.length fun x=>m.run q (gH l x):=by
 refine ⟨rfl,?_⟩;unfold Da.ed;rw[Da.asJ];refine cJ fun q hq=> ?_;unfold lV;exact congrArg _ (cJ fun x hx=>by rw[Da.aeL hq (show x<l.length from hx)])
section
variable {a:Da} (h:a.Ok) {l:List (List UInt8)}
include h
theorem atD (hl:l.length≤6) (au:BX l (a.L:Int)) {k1 k2 k3 k4:Int} {l1 l2:List V}:
  Loop (Nn CC (l.map V.str) ((minD a).n:Int) k1 k2 ((minD a).L:Int) ((minD a).st:Int) k3 k4 l1 l2 (minD a).dM (minD a).ed) (0,([]:List V))=some (((minD a).n:Int),false,tab (minD a).n fun q=>lV l.length fun x=>(minD a).run q (gH l x)):=by
 have hm:=qs h;have hn:=hm.je;refine (dW (minD a).n (fun i=>((i:Int),(tab i fun q=>lV l.length fun x=>(minD a).run q (gH l x)))) _ (fun q hq=> ?_) ?_)
 ·simp only[Nn,HD,un];refine bT (cg hq) ?_;rw[cY];refine bT (gh (by omega) (by omega)) ?_;rw[Int.toNat_natCast,mP];refine bs (dW l.length (fun t=>((t:Int),(tab l.length fun x=>if x<t then nV ((minD a).run q (gH l x)) else V.int .i64 0))) ((l.length:Int),false,(tab l.length fun x=>nV ((minD a).run q (gH l x)))) (fun t ht=> ?_) ?_) ?_
  ·have xq:ku (l.getD t []) ((minD a).L:Int):=by rw[qt h];exact au t ht
   have hr:=amB hm hq (l.getD t []);rw[ak xq] at hr;simp only[Vm,HC,un];refine bT (cg ht) ?_;refine bs (BW ht) ?_;refine bs hr ?_;refine (ll (i:=t) ht).trans ?_;rw[cq (by omega)];simp only[aE,Int.toNat_natCast];exact congrArg (fun x=>some (Sum.inl (((t+1:Nat):Int),x))) (asv (f:=fun x=>nV ((minD a).run q (gH l x))) rfl)
  ·simp only[Vm,HC,un];refine bF (aW (az _)) ?_;rw[aW (az _)];exact congrArg (fun x=>some (Sum.inr ((l.length:Int),false,x))) (asw (f:=fun x=>nV ((minD a).run q (gH l x))))
  ·simp only[un];refine bT (cap (by rw[eH];simp;omega) (by omega)) ?_;rw[cq (by omega),EW];rfl
 ·simp only[Nn,HD,un];refine bF (aW (az _)) ?_;rw[aW (az _)]
theorem atE (h1:1≤l.length) (hl:l.length≤6) (au:BX l (a.L:Int)):CC J0 (uK a [y6 l])=some (U4 (minD ((minD a).pre l.length (gH l))) 0):=by
 have hm:=qs h;refine atC ?_;unfold ae6;refine bs (asy h) (bF rfl ?_);rw[cY];refine bF (cR (by omega)) (bF (cR (by omega)) ?_);refine bs (dW l.length (fun i=>(i:Int)) (.inr ((l.length:Int),false)) (fun i hi=> ?_) ?_) ?_
 ·simp only[Vl,HB];refine bT (cg hi) ?_;refine bs (BW hi) ?_;refine bs (SZ _ _) ?_;refine bF (show (!(decide (ku (l.getD i []) (a.L:Int))))=false by rw[cZ (au i hi)];rfl) ?_;rw[cq (by omega)]
 ·simp only[Vl,HB];refine bF (aW (az _)) ?_;rw[aW (az _)]
 ·simp only[cP,un];have e0:((V.nth ((U4 (minD a) 0).drop 3) 0).toList).length=(minD a).n:=by show (minD a).dM.length=_;simp
  rw[e0];refine bs (atD h hl au) ?_;have hM:=Bj (hm.pre (k:=l.length) (g:=gH l) h1 hl fun x hx=>by rw[qt h];exact (au x hx).WL);unfold fE uK at hM;rw[ae7.1,ae7.2] at hM;refine bs hM ?_;rfl
end
noncomputable def atF (C:af) (x:Int):Option LV:=
 some [V.int .i64 3,V.int .i64 x,.list cm ([]:LV)]
theorem atG {x:Int} {r:Option LV} (h:atF CC x=r):CC Ao [V.int .i64 x]=r:=bA (L:=bB) av h
noncomputable def atH (C:af) (op:Int) (kids:LV):Option LV:=
 some [V.int .i64 op,V.int .i64 0,.list cm kids]
theorem ae8 {op:Int} {kids:LV} {r:Option LV} (h:atH CC op kids=r):CC J7 [V.int .i64 op,.list cm kids]=r:=bA (L:=bB) av h
noncomputable def y5 (C:af) (nF nG:Int) (aH aI:LV) (bN bY:Int) (bh bq aS:LV) {β:Type} (kn:(Int×Int×LV×LV×LV)→Option β) (kr:((Int×Int×Int×LV×LV) ⊕ (Bool×Int×Int×LV×LV×LV))→Option β):Option β:=
 (C Qg [V.int .i64 bN,V.int .i64 bY,.list cm bh,.list ah bq,.list cC aS]).bind fun r4=>
 bif !((V.nth r4 0).toBool) then
  (C Ar [V.int .i64 ((V.nth (r4.drop 1) 0).toInt),V.int .i64 ((V.nth ((r4.drop 1).drop 1) 0).toInt),.list cm ((V.nth (((r4.drop 1).drop 2).drop 1) 0).toList),.list ah ((V.nth ((((r4.drop 1).drop 2).drop 1).drop 1) 0).toList),.list cC ((V.nth ((r4.drop 1).drop 2) 0).toList)]).bind fun r5=>
  bif (((V.nth r5 0).toInt):Int) != 0 then
  kr (.inl ((V.nth r5 0).toInt,0,0,([]:LV),([]:LV)))
  else
  kn ((V.nth (r5.drop 1) 0).toInt,(V.nth ((r5.drop 1).drop 1) 0).toInt,(V.nth (((r5.drop 1).drop 2).drop 1) 0).toList,(V.nth ((((r5.drop 1).drop 2).drop 1).drop 1) 0).toList,(V.nth ((r5.drop 1).drop 2) 0).toList)
 else
  kr (.inr (!((V.nth r4 0).toBool),(V.nth (r4.drop 1) 0).toInt,(V.nth ((r4.drop 1).drop 1) 0).toInt,(V.nth (((r4.drop 1).drop 2).drop 1) 0).toList,(V.nth ((((r4.drop 1).drop 2).drop 1).drop 1) 0).toList,(V.nth ((r4.drop 1).drop 2) 0).toList))
noncomputable def uY (C:af) (nF nG:Int) (aH aI:LV):=un fun bN=>un fun bY=>un fun bh=>un fun bq aS=>y5 C nF nG aH aI bN bY bh bq aS (fun y=>some (Sum.inl y)) (fun r=>some (Sum.inr r))
noncomputable def atI (C:af):cz:=bt 81 Re [EQ,EQ,H1,H1,EQ,EQ,H1,H1,H1] [[0,0,0,0,0],[0,1,2,0,0,5,6,0,0,0]] (@y5 C) bB
theorem atJ (C:af):bc C (atI C) 15 (Lp [1,1,1,0,0,0] 15):=br Re [EQ,EQ,H1,H1,EQ,EQ,H1,H1,H1] [[0,0,0,0,0],[0,1,2,0,0,5,6,0,0,0]] (@y5 C) (aR av)
noncomputable def ae9 (C:af) (HE HF:Int) (HG:LV) (dk:Int):Option LV:=
 (C Qd [V.int .i64 HE,V.int .i64 HF,.list cm HG,V.int .i64 dk]).bind fun r1=>
 bif (((V.nth r1 0).toInt):Int) != 0 then
  some [V.int .i64 0,V.int .i64 0,V.int .i64 ((V.nth r1 0).toInt),.list ax ([]:LV),.list ah ([]:LV)]
 else
  (C Qf [V.int .i64 HE,V.int .i64 HF,.list cm HG]).bind fun r2=>
  (C Qe [V.int .i64 ((V.nth r2 0).toInt),V.int .i64 ((V.nth (r2.drop 1) 0).toInt),.list cm ((V.nth ((r2.drop 1).drop 1) 0).toList),V.int .i64 dk]).bind fun r3=>
  (Loop (uY C 0 0 ([]:LV) ([]:LV)) ((V.nth r3 0).toInt,(V.nth (r3.drop 1) 0).toInt,(V.nth (r3.drop 2) 0).toList,(V.nth ((r3.drop 2).drop 1) 0).toList,(V.nth (((r3.drop 2).drop 1).drop 1) 0).toList)).bind (cP (un fun oB=>un fun TR=>un fun atK=>un fun (Bd:LV) (pj:LV)=>
   some [V.int .i64 TR,V.int .i64 atK,V.int .i64 oB,.list ax Bd,.list ah pj]) (un fun (wD:Bool)=>un fun TL=>un fun TM=>un fun (qi:LV)=>un fun (FE:LV) (yz:LV)=>
   (C Qh [V.int .i64 TL,V.int .i64 TM,.list cm qi,.list ah FE,.list cC yz]).bind fun fA=>
   some [V.int .i64 ((V.nth fA 0).toInt),V.int .i64 ((V.nth (fA.drop 1) 0).toInt),V.int .i64 0,.list ax ((V.nth (((fA.drop 2).drop 2).drop 1) 0).toList),.list ah ((V.nth ((((fA.drop 2).drop 2).drop 1).drop 1) 0).toList)]))
theorem atL {HE HF:Int} {HG:LV} {dk:Int} {r:Option LV} (h:ae9 CC HE HF HG dk=r):CC J6 [V.int .i64 HE,V.int .i64 HF,.list cm HG,V.int .i64 dk]=r:=bA (ba (atJ CC) av) h
noncomputable def atM (C:af) (bN bY:Int) (aQ aH aI:LV):Option LV:=
 some [.bool (bY==(aQ.length:Int)),V.int .i64 bN,V.int .i64 bY,.list cC aI,.list cm aQ,.list ah aH]
theorem No {bN bY:Int} {aQ aH aI:LV} {r:Option LV} (h:atM CC bN bY aQ aH aI=r):CC Qg [V.int .i64 bN,V.int .i64 bY,.list cm aQ,.list ah aH,.list cC aI]=r:=bA (L:=bB) av h
noncomputable def uZ (C:af) (t16 t17 bN bY:Int) (aI rows bq aS:LV) {β:Type} (kn:(Int×Int×Int×LV×LV×LV×LV)→Option β) (kr:((Int×Int×Int×LV×LV×LV) ⊕ (Int×Bool×Int×Int×LV×LV×LV×LV))→Option β):Option β:=
 bif decide (t17<t16) then
  ar bq bY fun x1=>
  (C vZ [V.int .i64 ((x1.cell 0).toInt),V.int .i64 ((x1.cell 1).toInt),.list cm ((x1.cell 2).toList),V.int .i64 t17]).bind fun r2=>
  bif (((V.nth (r2.drop 3) 0).toInt):Int) != 0 then
  kr (.inl ((V.nth (r2.drop 3) 0).toInt,bN,bY,aI,bq,aS))
  else
  (C v5 [V.int .i64 ((V.nth r2 0).toInt),V.int .i64 ((V.nth (r2.drop 1) 0).toInt),.list cm ((V.nth ((r2.drop 1).drop 1) 0).toList)]).bind fun r3=>
  bif Nat.ble (((V.nth r3 0).toStr).length) maxLen&&true then
   bif !(fG (.str ((V.nth r3 0).toStr)) aI) then
   bif (bq.length:Int)==512 then
    kr (.inl (3,bN,bY,aI,bq,aS))
   else
    (C Kq [V.int .i64 ((V.nth r2 0).toInt),V.int .i64 ((V.nth (r2.drop 1) 0).toInt),.list cm ((V.nth ((r2.drop 1).drop 1) 0).toList),V.int .i64 bN,V.int .i64 bY,.list cm bq,.list ah aS,.list cC aI]).bind fun r4=>
    ar rows t17 fun x5=>
    kn (wrap .i64 (t17+1),(V.nth (r4.drop 1) 0).toInt,(V.nth ((r4.drop 1).drop 1) 0).toInt,(V.nth ((r4.drop 1).drop 2) 0).toList,aE rows t17 (V.int .i64 ((V.nth r4 0).toInt)),(V.nth (((r4.drop 1).drop 2).drop 1) 0).toList,(V.nth ((((r4.drop 1).drop 2).drop 1).drop 1) 0).toList)
   else
   ar rows t17 fun x6=>
   kn (wrap .i64 (t17+1),bN,bY,aI,aE rows t17 (V.int .i64 ((jn (.str ((V.nth r3 0).toStr)) aI (V.int .i64 0)).toInt)),bq,aS)
  else none
 else
  kr (.inr (t17,decide (t17<t16),bN,bY,aI,rows,bq,aS))
noncomputable def pC (C:af) (t16:Int):=un fun t17=>un fun bN=>un fun bY=>un fun aI=>un fun rows=>un fun bq aS=>uZ C t16 t17 bN bY aI rows bq aS (fun y=>some (Sum.inl y)) (fun r=>some (Sum.inr r))
noncomputable def atN (C:af):cz:=bt 49 Rw [EQ,H1,H1,H1,H1,H1,H1,H1] [[0,0,0,0,0,0],[1,0,0,0,0,0,0,0,0]] (@uZ C) bB
theorem atO (C:af):bc C (atN C) 42 (Lp [1,1,0,1,0,0] 42):=br Rw [EQ,H1,H1,H1,H1,H1,H1,H1] [[0,0,0,0,0,0],[1,0,0,0,0,0,0,0,0]] (@uZ C) (aR av)
noncomputable def Np (C:af) (bN bY:Int) (aQ aH aI:LV):Option LV:=
 bif (decide (0≤bN))&&((decide (bN≤bN))&&(Nat.ble ((bN.toNat)*8) bm)) then
  (Loop (pC C ((List.replicate (bN.toNat) (V.int .i64 0)).length:Int)) (0,bN,bY,aI,List.replicate (bN.toNat) (V.int .i64 0),aQ,aH)).bind (cP (un fun oC=>un fun wB=>un fun Bd=>un fun (pj:LV)=>un fun (yA:LV) (TS:LV)=>
   some [V.int .i64 oC,V.int .i64 wB,V.int .i64 Bd,.list cC pj,.list cm yA,.list ah TS]) (un fun yE=>un fun (sX:Bool)=>un fun Ft=>un fun Fu=>un fun (j7:LV)=>un fun (afa:LV)=>un fun (rp:LV) (sN:LV)=>
   bif Nat.ble ((sN.length+([.list ae afa]:LV).length)*24) bm then
   some [V.int .i64 0,V.int .i64 Ft,V.int .i64 (wrap .i64 (Fu+1)),.list cC j7,.list cm rp,.list ah (sN++([.list ae afa]:LV))]
   else none))
 else none
theorem Vo {bN bY:Int} {aQ aH aI:LV} {r:Option LV} (h:Np CC bN bY aQ aH aI=r):CC Ar [V.int .i64 bN,V.int .i64 bY,.list cm aQ,.list ah aH,.list cC aI]=r:=bA (ba (atO CC) av) h
noncomputable def afb (C:af):Option LV:=
 (C Ao [V.int .i64 0]).bind fun r1=>
 (C Ao [V.int .i64 1]).bind fun r2=>
 (C J7 [V.int .i64 5,.list cm ([.agg [V.int .i64 ((V.nth r1 0).toInt),V.int .i64 ((V.nth (r1.drop 1) 0).toInt),.list cm ((V.nth (r1.drop 2) 0).toList)],.agg [V.int .i64 ((V.nth r2 0).toInt),V.int .i64 ((V.nth (r2.drop 1) 0).toInt),.list cm ((V.nth (r2.drop 2) 0).toList)]]:LV)]).bind fun r3=>
 (C J7 [V.int .i64 7,.list cm ([.agg [V.int .i64 ((V.nth r3 0).toInt),V.int .i64 ((V.nth (r3.drop 1) 0).toInt),.list cm ((V.nth ((r3.drop 1).drop 1) 0).toList)]]:LV)]).bind fun r4=>
 (C J6 [V.int .i64 ((V.nth r4 0).toInt),V.int .i64 ((V.nth (r4.drop 1) 0).toInt),.list cm ((V.nth ((r4.drop 1).drop 1) 0).toList),V.int .i64 2]).bind fun r5=>
 bif (((V.nth (r5.drop 2) 0).toInt):Int)==0 then
  (C ux [V.int .i64 ((V.nth r5 0).toInt),V.int .i64 ((V.nth (r5.drop 1) 0).toInt),.list ax ((V.nth (r5.drop 3) 0).toList),.list ah ((V.nth ((r5.drop 3).drop 1) 0).toList)]).bind fun r6=>
  bif ((((V.nth (r6.drop 2) 0).toList).length:Int):Int)==3 then
  (C Ao [V.int .i64 0]).bind fun r7=>
  (C Qc [V.int .i64 ((V.nth r7 0).toInt),V.int .i64 ((V.nth (r7.drop 1) 0).toInt),.list cm ((V.nth (r7.drop 2) 0).toList),.str [97]]).bind fun r8=>
  some [.bool ((V.nth r8 0).toBool)]
  else
  some [.bool false]
 else
  some [.bool false]
theorem atP {r:Option LV} (h:afb CC=r):CC uw []=r:=bA (L:=bB) av h
def kA:V:= .list cm [.agg [.int .i64 5,.int .i64 0,.list cm [.agg [.int .i64 3,.int .i64 0,.list cm []],.agg [.int .i64 3,.int .i64 1,.list cm []]]]]
def kB:V:= .list cm [.agg [.int .i64 3,.int .i64 1,.list cm []],.agg [.int .i64 7,.int .i64 0,kA]]
def kE:LV:=[.agg [.int .i64 7,.int .i64 0,kA],.agg [.int .i64 5,.int .i64 0,kB],.agg [.int .i64 1,.int .i64 0,.list cm []]]
def kM:LV:=[.aX [.str [40,97,98,41,42],.int .i64 0],.aX [.str [98,40,97,98,41,42],.int .i64 1],.aX [.str [48],.int .i64 2]]
def kF:V:= .list ax [.bool true,.bool false,.bool false]
def kN:V:= .list ah [.list ae [.int .i64 1,.int .i64 2],.list ae [.int .i64 2,.int .i64 0],.list ae [.int .i64 2,.int .i64 2]]
theorem atQ:CC Qd [.int .i64 7,.int .i64 0,kA,.int .i64 2]=some [.int .i64 0]:=j5 (N:=60) (n:=30) (by kernel_rfl)
theorem atS:CC Qf [.int .i64 7,.int .i64 0,kA]=some [.int .i64 7,.int .i64 0,kA]:=j5 (N:=60) (n:=30) (by kernel_rfl)
theorem atT:CC Qe [.int .i64 7,.int .i64 0,kA,.int .i64 2]=some [.int .i64 2,.int .i64 0,.list cm [.agg [.int .i64 7,.int .i64 0,kA]],.list ah [],.list cC [.aX [.str [40,97,98,41,42],.int .i64 0]]]:=j5 (N:=60) (n:=30) (by kernel_rfl)
theorem atU:CC vZ [.int .i64 7,.int .i64 0,kA,.int .i64 0]=some [.int .i64 5,.int .i64 0,kB,.int .i64 0]:=j5 (N:=60) (n:=30) (by kernel_rfl)
theorem atV:CC v5 [.int .i64 5,.int .i64 0,kB]=some [.str [98,40,97,98,41,42]]:=j5 (N:=60) (n:=30) (by kernel_rfl)
theorem atW:CC Kq [.int .i64 5,.int .i64 0,kB,.int .i64 2,.int .i64 0,.list cm [.agg [.int .i64 7,.int .i64 0,kA]],.list ah [],.list cC [.aX [.str [40,97,98,41,42],.int .i64 0]]]=some [.int .i64 1,.int .i64 2,.int .i64 0,.list cC [.aX [.str [40,97,98,41,42],.int .i64 0],.aX [.str [98,40,97,98,41,42],.int .i64 1]],.list cm [.agg [.int .i64 7,.int .i64 0,kA],.agg [.int .i64 5,.int .i64 0,kB]],.list ah []]:=j5 (N:=60) (n:=30) (by kernel_rfl)
theorem atX:CC vZ [.int .i64 7,.int .i64 0,kA,.int .i64 1]=some [.int .i64 1,.int .i64 0,.list cm [],.int .i64 0]:=j5 (N:=60) (n:=30) (by kernel_rfl)
theorem atY:CC v5 [.int .i64 1,.int .i64 0,.list cm []]=some [.str [48]]:=j5 (N:=60) (n:=30) (by kernel_rfl)
theorem atZ:CC Kq [.int .i64 1,.int .i64 0,.list cm [],.int .i64 2,.int .i64 0,.list cm [.agg [.int .i64 7,.int .i64 0,kA],.agg [.int .i64 5,.int .i64 0,kB]],.list ah [],.list cC [.aX [.str [40,97,98,41,42],.int .i64 0],.aX [.str [98,40,97,98,41,42],.int .i64 1]]]=some [.int .i64 2,.int .i64 2,.int .i64 0,.list cC kM,.list cm kE,.list ah []]:=j5 (N:=60) (n:=30) (by kernel_rfl)
theorem at1:CC Ar [.int .i64 2,.int .i64 0,.list cm [.agg [.int .i64 7,.int .i64 0,kA]],.list ah [],.list cC [.aX [.str [40,97,98,41,42],.int .i64 0]]]=some [.int .i64 0,.int .i64 2,.int .i64 1,.list cC kM,.list cm kE,.list ah [.list ae [.int .i64 1,.int .i64 2]]]:=by
 have h1:pC CC 2 (0,2,0,[.aX [.str [40,97,98,41,42],.int .i64 0]],[.int .i64 0,.int .i64 0],[.agg [.int .i64 7,.int .i64 0,kA]],[])=some (.inl (1,2,0,[.aX [.str [40,97,98,41,42],.int .i64 0],.aX [.str [98,40,97,98,41,42],.int .i64 1]],[.int .i64 1,.int .i64 0],[.agg [.int .i64 7,.int .i64 0,kA],.agg [.int .i64 5,.int .i64 0,kB]],[])):=by simp only[pC,uZ,un,ar];exact bT rfl (bT rfl (bs rfl (bs atU (bF rfl (bs atV (bT rfl (bT rfl (bF rfl (bs atW (bT rfl (bs rfl rfl)))))))))))
 have h2:pC CC 2 (1,2,0,[.aX [.str [40,97,98,41,42],.int .i64 0],.aX [.str [98,40,97,98,41,42],.int .i64 1]],[.int .i64 1,.int .i64 0],[.agg [.int .i64 7,.int .i64 0,kA],.agg [.int .i64 5,.int .i64 0,kB]],[])=some (.inl (2,2,0,kM,[.int .i64 1,.int .i64 2],kE,[])):=by simp only[pC,uZ,un,ar];exact bT rfl (bT rfl (bs rfl (bs atX (bF rfl (bs atY (bT rfl (bT rfl (bF rfl (bs atZ (bT rfl (bs rfl rfl)))))))))))
 refine Vo ?_;unfold Np;exact bT rfl (bs ((eJ h1).trans ((eJ h2).trans (cT rfl))) rfl)
theorem at2:CC vZ [.int .i64 5,.int .i64 0,kB,.int .i64 0]=some [.int .i64 1,.int .i64 0,.list cm [],.int .i64 0]:=j5 (N:=60) (n:=30) (by kernel_rfl)
theorem at3:CC v5 [.int .i64 1,.int .i64 0,.list cm []]=some [.str [48]]:=j5 (N:=60) (n:=30) (by kernel_rfl)
theorem at4:CC vZ [.int .i64 5,.int .i64 0,kB,.int .i64 1]=some [.int .i64 7,.int .i64 0,kA,.int .i64 0]:=j5 (N:=60) (n:=30) (by kernel_rfl)
theorem at5:CC v5 [.int .i64 7,.int .i64 0,kA]=some [.str [40,97,98,41,42]]:=j5 (N:=60) (n:=30) (by kernel_rfl)
theorem at6:CC Ar [.int .i64 2,.int .i64 1,.list cm kE,.list ah [.list ae [.int .i64 1,.int .i64 2]],.list cC kM]=some [.int .i64 0,.int .i64 2,.int .i64 2,.list cC kM,.list cm kE,.list ah [.list ae [.int .i64 1,.int .i64 2],.list ae [.int .i64 2,.int .i64 0]]]:=by
 have h1:pC CC 2 (0,2,1,kM,[.int .i64 0,.int .i64 0],kE,[.list ae [.int .i64 1,.int .i64 2]])=some (.inl (1,2,1,kM,[.int .i64 2,.int .i64 0],kE,[.list ae [.int .i64 1,.int .i64 2]])):=by simp only[pC,uZ,un,ar];exact bT rfl (bT rfl (bs rfl (bs at2 (bF rfl (bs at3 (bT rfl (bF rfl (bT rfl (bs rfl rfl)))))))))
 have h2:pC CC 2 (1,2,1,kM,[.int .i64 2,.int .i64 0],kE,[.list ae [.int .i64 1,.int .i64 2]])=some (.inl (2,2,1,kM,[.int .i64 2,.int .i64 0],kE,[.list ae [.int .i64 1,.int .i64 2]])):=by simp only[pC,uZ,un,ar];exact bT rfl (bT rfl (bs rfl (bs at4 (bF rfl (bs at5 (bT rfl (bF rfl (bT rfl (bs rfl rfl)))))))))
 refine Vo ?_;unfold Np;exact bT rfl (bs ((eJ h1).trans ((eJ h2).trans (cT rfl))) rfl)
theorem at7:CC vZ [.int .i64 1,.int .i64 0,.list cm [],.int .i64 0]=some [.int .i64 1,.int .i64 0,.list cm [],.int .i64 0]:=j5 (N:=60) (n:=30) (by kernel_rfl)
theorem aua:CC v5 [.int .i64 1,.int .i64 0,.list cm []]=some [.str [48]]:=j5 (N:=60) (n:=30) (by kernel_rfl)
theorem aub:CC vZ [.int .i64 1,.int .i64 0,.list cm [],.int .i64 1]=some [.int .i64 1,.int .i64 0,.list cm [],.int .i64 0]:=j5 (N:=60) (n:=30) (by kernel_rfl)
theorem auc:CC v5 [.int .i64 1,.int .i64 0,.list cm []]=some [.str [48]]:=j5 (N:=60) (n:=30) (by kernel_rfl)
theorem aud:CC Ar [.int .i64 2,.int .i64 2,.list cm kE,.list ah [.list ae [.int .i64 1,.int .i64 2],.list ae [.int .i64 2,.int .i64 0]],.list cC kM]=some [.int .i64 0,.int .i64 2,.int .i64 3,.list cC kM,.list cm kE,kN]:=by
 have h1:pC CC 2 (0,2,2,kM,[.int .i64 0,.int .i64 0],kE,[.list ae [.int .i64 1,.int .i64 2],.list ae [.int .i64 2,.int .i64 0]])=some (.inl (1,2,2,kM,[.int .i64 2,.int .i64 0],kE,[.list ae [.int .i64 1,.int .i64 2],.list ae [.int .i64 2,.int .i64 0]])):=by simp only[pC,uZ,un,ar];exact bT rfl (bT rfl (bs rfl (bs at7 (bF rfl (bs aua (bT rfl (bF rfl (bT rfl (bs rfl rfl)))))))))
 have h2:pC CC 2 (1,2,2,kM,[.int .i64 2,.int .i64 0],kE,[.list ae [.int .i64 1,.int .i64 2],.list ae [.int .i64 2,.int .i64 0]])=some (.inl (2,2,2,kM,[.int .i64 2,.int .i64 2],kE,[.list ae [.int .i64 1,.int .i64 2],.list ae [.int .i64 2,.int .i64 0]])):=by simp only[pC,uZ,un,ar];exact bT rfl (bT rfl (bs rfl (bs aub (bF rfl (bs auc (bT rfl (bF rfl (bT rfl (bs rfl rfl)))))))))
 refine Vo ?_;unfold Np;exact bT rfl (bs ((eJ h1).trans ((eJ h2).trans (cT rfl))) rfl)
theorem aue:CC Qh [.int .i64 2,.int .i64 3,.list cm kE,kN,.list cC kM]=some [.int .i64 2,.int .i64 0,.int .i64 2,.int .i64 3,.list cC kM,kF,kN,.list cm kE]:=j5 (N:=60) (n:=30) (by kernel_rfl)
theorem auf:CC J6 [.int .i64 7,.int .i64 0,kA,.int .i64 2]=some [.int .i64 2,.int .i64 0,.int .i64 0,kF,kN]:=by
 have b1:uY CC 0 0 [] [] (2,0,[.agg [.int .i64 7,.int .i64 0,kA]],[],[.aX [.str [40,97,98,41,42],.int .i64 0]])=some (.inl (2,1,kE,[.list ae [.int .i64 1,.int .i64 2]],kM)):=by simp only[uY,y5,un];exact bs (No rfl) (bT rfl (bs at1 (bF rfl rfl)))
 have b2:uY CC 0 0 [] [] (2,1,kE,[.list ae [.int .i64 1,.int .i64 2]],kM)=some (.inl (2,2,kE,[.list ae [.int .i64 1,.int .i64 2],.list ae [.int .i64 2,.int .i64 0]],kM)):=by simp only[uY,y5,un];exact bs (No rfl) (bT rfl (bs at6 (bF rfl rfl)))
 have b3:uY CC 0 0 [] [] (2,2,kE,[.list ae [.int .i64 1,.int .i64 2],.list ae [.int .i64 2,.int .i64 0]],kM)=some (.inl (2,3,kE,[.list ae [.int .i64 1,.int .i64 2],.list ae [.int .i64 2,.int .i64 0],.list ae [.int .i64 2,.int .i64 2]],kM)):=by simp only[uY,y5,un];exact bs (No rfl) (bT rfl (bs aud (bF rfl rfl)))
 have b4:uY CC 0 0 [] [] (2,3,kE,[.list ae [.int .i64 1,.int .i64 2],.list ae [.int .i64 2,.int .i64 0],.list ae [.int .i64 2,.int .i64 2]],kM)=some (.inr (.inr (false,2,3,kE,[.list ae [.int .i64 1,.int .i64 2],.list ae [.int .i64 2,.int .i64 0],.list ae [.int .i64 2,.int .i64 2]],kM))):=by simp only[uY,y5,un];exact bs (No rfl) (bF rfl rfl)
 refine atL ?_;unfold ae9;refine bs atQ (bF rfl (bs atS (bs atT (bs ((eJ b1).trans ((eJ b2).trans ((eJ b3).trans (cT b4)))) ?_))));exact bs aue rfl
theorem aug:CC ux [.int .i64 2,.int .i64 0,kF,kN]=some [.int .i64 2,.int .i64 0,kF,kN]:=j5 (N:=60) (n:=30) (by kernel_rfl)
theorem auh:CC Qc [.int .i64 3,.int .i64 0,.list cm [],.str [97]]=some [.bool true]:=j5 (N:=60) (n:=30) (by kernel_rfl)
theorem BY:CC uw []=some [.bool true]:=by
 have hl: ∀x,CC Ao [.int .i64 x]=some [.int .i64 3,.int .i64 x,.list cm []]:=fun x=>atG rfl;refine atP ?_;unfold afb;refine bs (hl 0) (bs (hl 1) (bs (ae8 rfl) (bs (ae8 rfl) (bs auf (bT rfl (bs aug (bT rfl (bs (hl 0) (bs auh rfl)))))))))
noncomputable def Vp (C:af) (bW cf:Int) (bH b9:LV) (je:Int):Option LV:=
 bif decide ((bH.length:Int)≤je) then
  bif decide (bW≤2) then
  (C J5 [V.int .i64 bW,V.int .i64 cf,.list ax bH,.list ah b9]).bind fun r1=>
  some [.bool ((((V.nth r1 0).toInt):Int)==0)]
  else
  some [.bool false]
 else
  some [.bool false]
theorem aui {bW cf:Int} {bH b9:LV} {je:Int} {r:Option LV} (h:Vp CC bW cf bH b9 je=r):CC DV [V.int .i64 bW,V.int .i64 cf,.list ax bH,.list ah b9,V.int .i64 je]=r:=bA (L:=bB) av h
end Go.AM
