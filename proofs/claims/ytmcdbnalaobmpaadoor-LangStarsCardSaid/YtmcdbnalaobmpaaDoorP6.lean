/-
  Functions of wW program, lifted to plain data.
-/
import Derived.Test.YtmcdbnalaobmpaaDoorP5
set_option linter.unusedVariables false
set_option linter.unusedSimpArgs false
set_option maxRecDepth 100000
namespace Go.AM
open Go.Proofs
noncomputable abbrev rI:Code:=cB Tryd.prog (av.aR 134)
noncomputable def tX (C:ae) (x n:Int) (t4:Bool) {β:Type} (kr:(Int × Int)→Option β):Option β:=
 bif t4 then
  kr (Int.fdiv x (2^(min (32:Int).toNat (IntKind.bits .u64))),32)
 else
  kr (x,n)
noncomputable def tY (C:ae) (x n:Int) (t8:Bool) {β:Type} (kr:(Int × Int)→Option β):Option β:=
 bif t8 then
  kr (Int.fdiv x (2^(min (16:Int).toNat (IntKind.bits .u64))),IntKind.wrap .i64 (n+16))
 else
  kr (x,n)
noncomputable def TX (C:ae):ct:=fun β n ds k=>
 bif Nat.beq n 79 then mi Jb [[0,0]] (@tX C) ds k else
 bif Nat.beq n 143 then mi Jc [[0,0]] (@tY C) ds k else
 none
abbrev TY (C:ae) (b:cm):Prop:=cp Tryd.prog av C (TX C) 134 (cI Tryd.prog (av.aR 134)) (av.sin 134).aP.length b
theorem ae4 (C:ae):TY C (.cond 4 (ao [1,0,1,0] rI) (ao [1,0,1,1] rI)):=
 nk Jb [[0,0]] (@tX C) (by kernel_rfl) (aY (bs:=[]) (by kernel_rfl) aw) (aY (bs:=[]) (by kernel_rfl) aw) (fun ds=>by kernel_rfl) (fun i β k=>by kernel_rfl) (fun β ds k=>by kernel_rfl)
theorem ae5 (C:ae):TY C (.cond 8 (ao [1,1,0,1,0] rI) (ao [1,1,0,1,1] rI)):=
 nk Jc [[0,0]] (@tY C) (by kernel_rfl) (aY (bs:=[]) (by kernel_rfl) aw) (aY (bs:=[]) (by kernel_rfl) aw) (fun ds=>by kernel_rfl) (fun i β k=>by kernel_rfl) (fun β ds k=>by kernel_rfl)
noncomputable def ae6 (C:ae) (x:Int):Option (List V):=
 tX C x 0 (decide ((x:Int)≥4294967296)) (un fun (rJ:Int) (eh:Int)=>
  tY C rJ eh (decide ((rJ:Int)≥65536)) (un fun (AZ:Int) (ey:Int)=>
   bif decide ((AZ:Int)≥256) then
    (bif decide (0≤(IntKind.wrap .u8 (Int.fdiv AZ (2^(min (8:Int).toNat (IntKind.bits .u64)))))) then (([0,1,2,2,3,3,3,3,4,4,4,4,4,4,4,4,5,5,5,5,5,5,5,5,5,5,5,5,5,5,5,5,6,6,6,6,6,6,6,6,6,6,6,6,6,6,6,6,6,6,6,6,6,6,6,6,6,6,6,6,6,6,6,6,7,7,7,7,7,7,7,7,7,7,7,7,7,7,7,7,7,7,7,7,7,7,7,7,7,7,7,7,7,7,7,7,7,7,7,7,7,7,7,7,7,7,7,7,7,7,7,7,7,7,7,7,7,7,7,7,7,7,7,7,7,7,7,7,8,8,8,8,8,8,8,8,8,8,8,8,8,8,8,8,8,8,8,8,8,8,8,8,8,8,8,8,8,8,8,8,8,8,8,8,8,8,8,8,8,8,8,8,8,8,8,8,8,8,8,8,8,8,8,8,8,8,8,8,8,8,8,8,8,8,8,8,8,8,8,8,8,8,8,8,8,8,8,8,8,8,8,8,8,8,8,8,8,8,8,8,8,8,8,8,8,8,8,8,8,8,8,8,8,8,8,8,8,8,8,8,8,8,8,8,8,8,8,8,8,8,8,8,8,8,8,8]:List UInt8)[(IntKind.wrap .u8 (Int.fdiv AZ (2^(min (8:Int).toNat (IntKind.bits .u64)))):Int).toNat]?).map fun b=>V.int .u8 b.toNat else none).bind fun x5=>
    some [.int .i64 (IntKind.wrap .i64 ((IntKind.wrap .i64 (ey+8))+(IntKind.wrap .i64 x5.toInt)))]
   else
    (bif decide (0≤(IntKind.wrap .u8 AZ)) then (([0,1,2,2,3,3,3,3,4,4,4,4,4,4,4,4,5,5,5,5,5,5,5,5,5,5,5,5,5,5,5,5,6,6,6,6,6,6,6,6,6,6,6,6,6,6,6,6,6,6,6,6,6,6,6,6,6,6,6,6,6,6,6,6,7,7,7,7,7,7,7,7,7,7,7,7,7,7,7,7,7,7,7,7,7,7,7,7,7,7,7,7,7,7,7,7,7,7,7,7,7,7,7,7,7,7,7,7,7,7,7,7,7,7,7,7,7,7,7,7,7,7,7,7,7,7,7,7,8,8,8,8,8,8,8,8,8,8,8,8,8,8,8,8,8,8,8,8,8,8,8,8,8,8,8,8,8,8,8,8,8,8,8,8,8,8,8,8,8,8,8,8,8,8,8,8,8,8,8,8,8,8,8,8,8,8,8,8,8,8,8,8,8,8,8,8,8,8,8,8,8,8,8,8,8,8,8,8,8,8,8,8,8,8,8,8,8,8,8,8,8,8,8,8,8,8,8,8,8,8,8,8,8,8,8,8,8,8,8,8,8,8,8,8,8,8,8,8,8,8,8,8,8,8,8,8]:List UInt8)[(IntKind.wrap .u8 AZ:Int).toNat]?).map fun b=>V.int .u8 b.toNat else none).bind fun x6=>
    some [.int .i64 (IntKind.wrap .i64 (ey+(IntKind.wrap .i64 x6.toInt)))]))
theorem TZ {x:Int} {r:Option (List V)} (h:ae6 CC x=r):CC DE [.int .u64 x]=r:=
 bp (key:=134) (L:=TX CC) (bs:=[.cond 4 (ao [1,0,1,0] rI) (ao [1,0,1,1] rI),.cond 8 (ao [1,1,0,1,0] rI) (ao [1,1,0,1,1] rI)]) (by kernel_rfl) (bn (ae4 CC) (bn (ae5 CC) aw)) (Eq.trans (by kernel_rfl) h)
noncomputable abbrev kN:Code:=cB Tryd.prog (av.aR 169)
noncomputable def wK (C:ae) (a b' iD:Int) (en eJ:Bool) (length:Int) (t39:Bool) (af:List V) {β:Type} (kr:(Int × (List V))→Option β):Option β:=
 bif t39 then
  (C H9 [.int .i64 a,.int .i64 b',.list an af]).bind fun r3=>
  kr (IntKind.wrap .i64 (iD-1),(V.nth r3 0).toList)
 else
  kr (iD,af)
noncomputable def wL (C:ae) (a b' iD:Int) (en eJ:Bool) (length pivot hint:Int) (t56:Bool) (af:List V) {β:Type} (kr:(Int × Int × (List V))→Option β):Option β:=
 bif t56 then
  (C Ia [.int .i64 a,.int .i64 b',.list an af]).bind fun r7=>
  kr (IntKind.wrap .i64 ((IntKind.wrap .i64 (b'-1))-(IntKind.wrap .i64 (pivot-a))),1,(V.nth r7 0).toList)
 else
  kr (pivot,hint,af)
noncomputable def lI (C:ae) (a b' iD:Int) (en eJ:Bool) (length pivot:Int) (t75:Bool) (af:List V) {β:Type} (kr:((Bool × (List V)) ⊕ (List V))→Option β):Option β:=
 bif t75 then
  (C Ib [.int .i64 a,.int .i64 b',.list an af]).bind fun wM=>
  bif (V.nth wM 0).toBool then
  kr (.inl ((V.nth wM 0).toBool,(V.nth (wM.drop 1) 0).toList))
  else
  kr (.inr ((V.nth (wM.drop 1) 0).toList))
 else
  kr (.inr af)
noncomputable def oM (C:ae) (a b' iD:Int) (en eJ:Bool) (af:List V) {β:Type} (kn:(Int × Int × Int × Bool × Bool × (List V))→Option β) (kr:(List V)→Option β):Option β:=
 bif decide (((IntKind.wrap .i64 (b'-a)):Int)≤12) then
  (C DI [.int .i64 a,.int .i64 b',.list an af]).bind fun r1=>
  kr ((V.nth r1 0).toList)
 else
  bif (iD:Int)==0 then
  (C DJ [.int .i64 a,.int .i64 b',.list an af]).bind fun r2=>
  kr ((V.nth r2 0).toList)
  else
  wK C a b' iD en eJ (IntKind.wrap .i64 (b'-a)) (!en) af (un fun (cl:Int) (A0:List V)=>
   (C DK [.list an A0,.int .i64 a,.int .i64 b']).bind fun r6=>
   wL C a b' cl en eJ (IntKind.wrap .i64 (b'-a)) ((V.nth r6 0).toInt) ((V.nth (r6.drop 1) 0).toInt) ((((V.nth (r6.drop 1) 0).toInt):Int)==2) A0 (un fun (dq:Int)=>un fun (KF:Int) (nz:List V)=>
    bif en then
     bif eJ then
     lI C a b' cl en eJ (IntKind.wrap .i64 (b'-a)) dq ((KF:Int)==1) nz (c8 (un fun (EY:Bool) (Kt:List V)=>
      kr Kt) (fun (tZ:List V)=>
      bif decide ((a:Int)>0) then
       bif (decide (0≤(IntKind.wrap .i64 (a-1))))&&(decide ((IntKind.wrap .i64 (a-1))<(tZ.length:Int))) then
       (tZ[(IntKind.wrap .i64 (a-1):Int).toNat]?).bind fun eE=>
       bif (decide (0≤dq))&&(decide (dq<(tZ.length:Int))) then
        (tZ[(dq:Int).toNat]?).bind fun fW=>
        (C aZ [.int .i64 ((eE.cell 0).toInt),.int .i64 ((eE.cell 1).toInt),.int .i64 ((eE.cell 2).toInt),.int .i64 ((fW.cell 0).toInt),.int .i64 ((fW.cell 1).toInt),.int .i64 ((fW.cell 2).toInt)]).bind fun c6=>
        bif !(decide ((((V.nth c6 0).toInt):Int)<0)) then
        (C vB [.int .i64 a,.int .i64 b',.int .i64 dq,.list an tZ]).bind fun mE=>
        kn ((V.nth mE 0).toInt,b',cl,en,eJ,(V.nth (mE.drop 1) 0).toList)
        else
        (C np [.int .i64 a,.int .i64 b',.int .i64 dq,.list an tZ]).bind fun fC=>
        bif decide (((IntKind.wrap .i64 (((V.nth fC 0).toInt)-a)):Int)<(IntKind.wrap .i64 (b'-((V.nth fC 0).toInt)))) then
         (C gk [.int .i64 a,.int .i64 ((V.nth fC 0).toInt),.int .i64 cl,.list an ((V.nth (fC.drop 2) 0).toList)]).bind fun fX=>
         kn (IntKind.wrap .i64 (((V.nth fC 0).toInt)+1),b',cl,decide (((IntKind.wrap .i64 (((V.nth fC 0).toInt)-a)):Int)≥(IntKind.wrap .i64 (Int.tdiv (IntKind.wrap .i64 (b'-a)) 8))),(V.nth (fC.drop 1) 0).toBool,(V.nth fX 0).toList)
        else
         (C gk [.int .i64 (IntKind.wrap .i64 (((V.nth fC 0).toInt)+1)),.int .i64 b',.int .i64 cl,.list an ((V.nth (fC.drop 2) 0).toList)]).bind fun qm=>
         kn (a,(V.nth fC 0).toInt,cl,decide (((IntKind.wrap .i64 (b'-((V.nth fC 0).toInt))):Int)≥(IntKind.wrap .i64 (Int.tdiv (IntKind.wrap .i64 (b'-a)) 8))),(V.nth (fC.drop 1) 0).toBool,(V.nth qm 0).toList)
       else none
       else none
      else
       (C np [.int .i64 a,.int .i64 b',.int .i64 dq,.list an tZ]).bind fun iC=>
       bif decide (((IntKind.wrap .i64 (((V.nth iC 0).toInt)-a)):Int)<(IntKind.wrap .i64 (b'-((V.nth iC 0).toInt)))) then
       (C gk [.int .i64 a,.int .i64 ((V.nth iC 0).toInt),.int .i64 cl,.list an ((V.nth (iC.drop 2) 0).toList)]).bind fun KG=>
       kn (IntKind.wrap .i64 (((V.nth iC 0).toInt)+1),b',cl,decide (((IntKind.wrap .i64 (((V.nth iC 0).toInt)-a)):Int)≥(IntKind.wrap .i64 (Int.tdiv (IntKind.wrap .i64 (b'-a)) 8))),(V.nth (iC.drop 1) 0).toBool,(V.nth KG 0).toList)
       else
       (C gk [.int .i64 (IntKind.wrap .i64 (((V.nth iC 0).toInt)+1)),.int .i64 b',.int .i64 cl,.list an ((V.nth (iC.drop 2) 0).toList)]).bind fun r24=>
       kn (a,(V.nth iC 0).toInt,cl,decide (((IntKind.wrap .i64 (b'-((V.nth iC 0).toInt))):Int)≥(IntKind.wrap .i64 (Int.tdiv (IntKind.wrap .i64 (b'-a)) 8))),(V.nth (iC.drop 1) 0).toBool,(V.nth r24 0).toList)))
     else
     lI C a b' cl en eJ (IntKind.wrap .i64 (b'-a)) dq false nz (c8 (un fun (ach:Bool) (ae7:List V)=>
      kr ae7) (fun (qh:List V)=>
      bif decide ((a:Int)>0) then
       bif (decide (0≤(IntKind.wrap .i64 (a-1))))&&(decide ((IntKind.wrap .i64 (a-1))<(qh.length:Int))) then
       (qh[(IntKind.wrap .i64 (a-1):Int).toNat]?).bind fun tS=>
       bif (decide (0≤dq))&&(decide (dq<(qh.length:Int))) then
        (qh[(dq:Int).toNat]?).bind fun tT=>
        (C aZ [.int .i64 ((tS.cell 0).toInt),.int .i64 ((tS.cell 1).toInt),.int .i64 ((tS.cell 2).toInt),.int .i64 ((tT.cell 0).toInt),.int .i64 ((tT.cell 1).toInt),.int .i64 ((tT.cell 2).toInt)]).bind fun Fh=>
        bif !(decide ((((V.nth Fh 0).toInt):Int)<0)) then
        (C vB [.int .i64 a,.int .i64 b',.int .i64 dq,.list an qh]).bind fun T2=>
        kn ((V.nth T2 0).toInt,b',cl,en,eJ,(V.nth (T2.drop 1) 0).toList)
        else
        (C np [.int .i64 a,.int .i64 b',.int .i64 dq,.list an qh]).bind fun mF=>
        bif decide (((IntKind.wrap .i64 (((V.nth mF 0).toInt)-a)):Int)<(IntKind.wrap .i64 (b'-((V.nth mF 0).toInt)))) then
         (C gk [.int .i64 a,.int .i64 ((V.nth mF 0).toInt),.int .i64 cl,.list an ((V.nth (mF.drop 2) 0).toList)]).bind fun r33=>
         kn (IntKind.wrap .i64 (((V.nth mF 0).toInt)+1),b',cl,decide (((IntKind.wrap .i64 (((V.nth mF 0).toInt)-a)):Int)≥(IntKind.wrap .i64 (Int.tdiv (IntKind.wrap .i64 (b'-a)) 8))),(V.nth (mF.drop 1) 0).toBool,(V.nth r33 0).toList)
        else
         (C gk [.int .i64 (IntKind.wrap .i64 (((V.nth mF 0).toInt)+1)),.int .i64 b',.int .i64 cl,.list an ((V.nth (mF.drop 2) 0).toList)]).bind fun r34=>
         kn (a,(V.nth mF 0).toInt,cl,decide (((IntKind.wrap .i64 (b'-((V.nth mF 0).toInt))):Int)≥(IntKind.wrap .i64 (Int.tdiv (IntKind.wrap .i64 (b'-a)) 8))),(V.nth (mF.drop 1) 0).toBool,(V.nth r34 0).toList)
       else none
       else none
      else
       (C np [.int .i64 a,.int .i64 b',.int .i64 dq,.list an qh]).bind fun mG=>
       bif decide (((IntKind.wrap .i64 (((V.nth mG 0).toInt)-a)):Int)<(IntKind.wrap .i64 (b'-((V.nth mG 0).toInt)))) then
       (C gk [.int .i64 a,.int .i64 ((V.nth mG 0).toInt),.int .i64 cl,.list an ((V.nth (mG.drop 2) 0).toList)]).bind fun r36=>
       kn (IntKind.wrap .i64 (((V.nth mG 0).toInt)+1),b',cl,decide (((IntKind.wrap .i64 (((V.nth mG 0).toInt)-a)):Int)≥(IntKind.wrap .i64 (Int.tdiv (IntKind.wrap .i64 (b'-a)) 8))),(V.nth (mG.drop 1) 0).toBool,(V.nth r36 0).toList)
       else
       (C gk [.int .i64 (IntKind.wrap .i64 (((V.nth mG 0).toInt)+1)),.int .i64 b',.int .i64 cl,.list an ((V.nth (mG.drop 2) 0).toList)]).bind fun r37=>
       kn (a,(V.nth mG 0).toInt,cl,decide (((IntKind.wrap .i64 (b'-((V.nth mG 0).toInt))):Int)≥(IntKind.wrap .i64 (Int.tdiv (IntKind.wrap .i64 (b'-a)) 8))),(V.nth (mG.drop 1) 0).toBool,(V.nth r37 0).toList)))
    else
     lI C a b' cl en eJ (IntKind.wrap .i64 (b'-a)) dq false nz (c8 (un fun (ahq:Bool) (ae8:List V)=>
      kr ae8) (fun (iZ:List V)=>
      bif decide ((a:Int)>0) then
      bif (decide (0≤(IntKind.wrap .i64 (a-1))))&&(decide ((IntKind.wrap .i64 (a-1))<(iZ.length:Int))) then
       (iZ[(IntKind.wrap .i64 (a-1):Int).toNat]?).bind fun lH=>
       bif (decide (0≤dq))&&(decide (dq<(iZ.length:Int))) then
       (iZ[(dq:Int).toNat]?).bind fun tU=>
       (C aZ [.int .i64 ((lH.cell 0).toInt),.int .i64 ((lH.cell 1).toInt),.int .i64 ((lH.cell 2).toInt),.int .i64 ((tU.cell 0).toInt),.int .i64 ((tU.cell 1).toInt),.int .i64 ((tU.cell 2).toInt)]).bind fun r43=>
       bif !(decide ((((V.nth r43 0).toInt):Int)<0)) then
        (C vB [.int .i64 a,.int .i64 b',.int .i64 dq,.list an iZ]).bind fun T4=>
        kn ((V.nth T4 0).toInt,b',cl,en,eJ,(V.nth (T4.drop 1) 0).toList)
       else
        (C np [.int .i64 a,.int .i64 b',.int .i64 dq,.list an iZ]).bind fun mH=>
        bif decide (((IntKind.wrap .i64 (((V.nth mH 0).toInt)-a)):Int)<(IntKind.wrap .i64 (b'-((V.nth mH 0).toInt)))) then
        (C gk [.int .i64 a,.int .i64 ((V.nth mH 0).toInt),.int .i64 cl,.list an ((V.nth (mH.drop 2) 0).toList)]).bind fun r46=>
        kn (IntKind.wrap .i64 (((V.nth mH 0).toInt)+1),b',cl,decide (((IntKind.wrap .i64 (((V.nth mH 0).toInt)-a)):Int)≥(IntKind.wrap .i64 (Int.tdiv (IntKind.wrap .i64 (b'-a)) 8))),(V.nth (mH.drop 1) 0).toBool,(V.nth r46 0).toList)
        else
        (C gk [.int .i64 (IntKind.wrap .i64 (((V.nth mH 0).toInt)+1)),.int .i64 b',.int .i64 cl,.list an ((V.nth (mH.drop 2) 0).toList)]).bind fun r47=>
        kn (a,(V.nth mH 0).toInt,cl,decide (((IntKind.wrap .i64 (b'-((V.nth mH 0).toInt))):Int)≥(IntKind.wrap .i64 (Int.tdiv (IntKind.wrap .i64 (b'-a)) 8))),(V.nth (mH.drop 1) 0).toBool,(V.nth r47 0).toList)
       else none
      else none
      else
      (C np [.int .i64 a,.int .i64 b',.int .i64 dq,.list an iZ]).bind fun mI=>
      bif decide (((IntKind.wrap .i64 (((V.nth mI 0).toInt)-a)):Int)<(IntKind.wrap .i64 (b'-((V.nth mI 0).toInt)))) then
       (C gk [.int .i64 a,.int .i64 ((V.nth mI 0).toInt),.int .i64 cl,.list an ((V.nth (mI.drop 2) 0).toList)]).bind fun r49=>
       kn (IntKind.wrap .i64 (((V.nth mI 0).toInt)+1),b',cl,decide (((IntKind.wrap .i64 (((V.nth mI 0).toInt)-a)):Int)≥(IntKind.wrap .i64 (Int.tdiv (IntKind.wrap .i64 (b'-a)) 8))),(V.nth (mI.drop 1) 0).toBool,(V.nth r49 0).toList)
      else
       (C gk [.int .i64 (IntKind.wrap .i64 (((V.nth mI 0).toInt)+1)),.int .i64 b',.int .i64 cl,.list an ((V.nth (mI.drop 2) 0).toList)]).bind fun r50=>
       kn (a,(V.nth mI 0).toInt,cl,decide (((IntKind.wrap .i64 (b'-((V.nth mI 0).toInt))):Int)≥(IntKind.wrap .i64 (Int.tdiv (IntKind.wrap .i64 (b'-a)) 8))),(V.nth (mI.drop 1) 0).toBool,(V.nth r50 0).toList)))))
noncomputable def T6 (C:ae):(Int × Int × Int × Bool × Bool × (List V))→Option ((Int × Int × Int × Bool × Bool × (List V)) ⊕ (List V)):=un fun a=>un fun b'=>un fun iD=>un fun en=>un fun eJ af=>oM C a b' iD en eJ af (fun y=>some (.inl y)) (fun r=>some (.inr r))
noncomputable def T7 (C:ae):ct:=fun β n ds k=>
 bif Nat.beq n 639 then mi Je [[1,2,0,4,5,6,0]] (@wK C) ds k else
 bif Nat.beq n 911 then mi Jf [[1,2,3,4,5,6,0,0,0]] (@wL C) ds k else
 bif Nat.beq n 1215 then mi Jg [[1,2,3,4,5,6,7,0,0],[1,2,3,4,5,6,7,0]] (@lI C) ds k else
 bif Nat.beq n 33 then bB Jh [true,true,true,true,true,true] [[0]] (@oM C) ds k else
 none
abbrev Fq (C:ae) (b:cm):Prop:=cp Tryd.prog av C (T7 C) 169 (cI Tryd.prog (av.aR 169)) (av.sin 169).aP.length b
theorem ae9 (C:ae):Fq C (.cond 39 (ao [1,1,0,0,0,1,1,1,0,1,0] kN) (ao [1,1,0,0,0,1,1,1,0,1,1] kN)):=
 nk Je [[1,2,0,4,5,6,0]] (@wK C) (by kernel_rfl) (aY (bs:=[]) (by kernel_rfl) aw) (aY (bs:=[]) (by kernel_rfl) aw) (fun ds=>by kernel_rfl) (fun i β k=>by kernel_rfl) (fun β ds k=>by kernel_rfl)
theorem afa (C:ae):Fq C (.cond 56 (ao [1,1,0,0,0,1,1,1,1,1,0,1,0] kN) (ao [1,1,0,0,0,1,1,1,1,1,0,1,1] kN)):=
 nk Jf [[1,2,3,4,5,6,0,0,0]] (@wL C) (by kernel_rfl) (aY (bs:=[]) (by kernel_rfl) aw) (aY (bs:=[]) (by kernel_rfl) aw) (fun ds=>by kernel_rfl) (fun i β k=>by kernel_rfl) (fun β ds k=>by kernel_rfl)
theorem afb (C:ae):Fq C (.cond 75 (ao [1,1,0,0,0,1,1,1,1,1,1,0,1,0] kN) (ao [1,1,0,0,0,1,1,1,1,1,1,0,1,1] kN)):=
 nk Jg [[1,2,3,4,5,6,7,0,0],[1,2,3,4,5,6,7,0]] (@lI C) (by kernel_rfl) (aY (bs:=[]) (by kernel_rfl) aw) (aY (bs:=[]) (by kernel_rfl) aw) (fun ds=>by kernel_rfl) (fun i β k=>by kernel_rfl) (fun β ds k=>by kernel_rfl)
theorem afc (C:ae):Fq C (.loop (ao [1,1,0,0] kN)):=
 bE Jh [true,true,true,true,true,true] [[0]] (@oM C) (by kernel_rfl) (aY (bs:=[.cond 39 (ao [1,1,0,0,0,1,1,1,0,1,0] kN) (ao [1,1,0,0,0,1,1,1,0,1,1] kN),.cond 56 (ao [1,1,0,0,0,1,1,1,1,1,0,1,0] kN) (ao [1,1,0,0,0,1,1,1,1,1,0,1,1] kN),.cond 75 (ao [1,1,0,0,0,1,1,1,1,1,1,0,1,0] kN) (ao [1,1,0,0,0,1,1,1,1,1,1,0,1,1] kN)]) (by kernel_rfl) (bn (ae9 C) (bn (afa C) (bn (afb C) aw)))) (fun ds=>by kernel_rfl) (fun i x=>by kernel_rfl) (fun i x β k=>by kernel_rfl) (fun β ds k=>by kernel_rfl)
noncomputable def T8 (C:ae) (a b' iD:Int) (af:List V):Option (List V):=
 (Loop (T6 C) (a,b',iD,true,true,af)).bind (fun (afd:List V)=>
  some [.list an afd])
theorem afe {a b' iD:Int} {af:List V} {r:Option (List V)} (h:T8 CC a b' iD af=r):CC gk [.int .i64 a,.int .i64 b',.int .i64 iD,.list an af]=r:=
 bp (key:=169) (L:=T7 CC) (bs:=[.loop (ao [1,1,0,0] kN)]) (by kernel_rfl) (bn (afc CC) aw) (Eq.trans (by kernel_rfl) h)
noncomputable def T9 (C:ae) (xs:List V):Option (List V):=
 (C yK [.int .u64 (IntKind.wrap .u64 (xs.length:Int))]).bind fun r1=>
 (C gk [.int .i64 0,.int .i64 (xs.length:Int),.int .i64 ((V.nth r1 0).toInt),.list an xs]).bind fun r2=>
 some [.list an ((V.nth r2 0).toList)]
theorem aff {xs:List V} {r:Option (List V)} (h:T9 CC xs=r):CC yG [.list an xs]=r:=
 bp (key:=87) (L:=cR) (bs:=[]) (by kernel_rfl) aw (Eq.trans (by kernel_rfl) h)
end Go.AM
set_option maxRecDepth 100000
set_option maxHeartbeats 4000000
namespace Go.AM.SL
open Go.AM Go.Proofs Go.Sort
theorem Ua (a b:Ed):(ar a b=true)=(a.lt b):=by rw[rF,propext (D7 a b)]
theorem Fs (a b:Ed):(ar a b=false)= ¬(a.lt b):=by rw[←Ua];simp
theorem wO:SWO ar where
 irrefl x:=by rw[Fs];unfold Ed.lt;omega
 trans x y z:=by simp only[Ua];unfold Ed.lt;omega
 ntrans x y z:=by simp only[Fs];unfold Ed.lt;omega
def Ft:List UInt8:=([0,1,2,2,3,3,3,3,4,4,4,4,4,4,4,4,5,5,5,5,5,5,5,5,5,5,5,5,5,5,5,5,6,6,6,6,6,6,6,6,6,6,6,6,6,6,6,6,6,6,6,6,6,6,6,6,6,6,6,6,6,6,6,6,7,7,7,7,7,7,7,7,7,7,7,7,7,7,7,7,7,7,7,7,7,7,7,7,7,7,7,7,7,7,7,7,7,7,7,7,7,7,7,7,7,7,7,7,7,7,7,7,7,7,7,7,7,7,7,7,7,7,7,7,7,7,7,7,8,8,8,8,8,8,8,8,8,8,8,8,8,8,8,8,8,8,8,8,8,8,8,8,8,8,8,8,8,8,8,8,8,8,8,8,8,8,8,8,8,8,8,8,8,8,8,8,8,8,8,8,8,8,8,8,8,8,8,8,8,8,8,8,8,8,8,8,8,8,8,8,8,8,8,8,8,8,8,8,8,8,8,8,8,8,8,8,8,8,8,8,8,8,8,8,8,8,8,8,8,8,8,8,8,8,8,8,8,8,8,8,8,8,8,8,8,8,8,8,8,8,8,8,8,8,8,8]:List UInt8)
theorem afg:(List.range 256).all (fun y=>match Ft[y]? with|some b=>decide (b.toNat≤8)&&(Nat.beq y 0||(decide (1≤b.toNat)&&decide (2^(b.toNat-1)≤y)))|none=>false)=true:=by decide+kernel
theorem Ub {y:Nat} (h:y<256): ∃b,Ft[y]? =some b∧b.toNat≤8∧(0<y→1≤b.toNat∧2^(b.toNat-1)≤y):=by
 have:=List.all_eq_true.1 afg y (List.mem_range.2 h)
 cases hb:Ft[y]? with
 | none=>rw[hb] at this;cases this
 | some b=>
  rw[hb] at this
  simp only[Bool.and_eq_true,Bool.or_eq_true,decide_eq_true_eq] at this
  refine ⟨b,rfl,this.1,fun hy=> ?_⟩
  rcases this.2 with h2|h2
  ·have:=Nat.eq_of_beq_eq_true h2;omega
  ·exact h2
theorem KH {y t k:Nat} (h:2^(t-1)≤y/2^k) (ht:1≤t):2^(t+k-1)≤y:=by
 have e:t+k-1=(t-1)+k:=by omega
 rw[e,Nat.pow_add]
 exact Nat.le_trans (Nat.mul_le_mul_right _ h) (Nat.div_mul_le_self _ _)
noncomputable def wP (y n:Int):Option (List V):=
(bif decide ((y:Int)≥256) then
    (bif decide (0≤(IntKind.wrap .u8 (Int.fdiv y (2^(min (8:Int).toNat (IntKind.bits .u64)))))) then (([0,1,2,2,3,3,3,3,4,4,4,4,4,4,4,4,5,5,5,5,5,5,5,5,5,5,5,5,5,5,5,5,6,6,6,6,6,6,6,6,6,6,6,6,6,6,6,6,6,6,6,6,6,6,6,6,6,6,6,6,6,6,6,6,7,7,7,7,7,7,7,7,7,7,7,7,7,7,7,7,7,7,7,7,7,7,7,7,7,7,7,7,7,7,7,7,7,7,7,7,7,7,7,7,7,7,7,7,7,7,7,7,7,7,7,7,7,7,7,7,7,7,7,7,7,7,7,7,8,8,8,8,8,8,8,8,8,8,8,8,8,8,8,8,8,8,8,8,8,8,8,8,8,8,8,8,8,8,8,8,8,8,8,8,8,8,8,8,8,8,8,8,8,8,8,8,8,8,8,8,8,8,8,8,8,8,8,8,8,8,8,8,8,8,8,8,8,8,8,8,8,8,8,8,8,8,8,8,8,8,8,8,8,8,8,8,8,8,8,8,8,8,8,8,8,8,8,8,8,8,8,8,8,8,8,8,8,8,8,8,8,8,8,8,8,8,8,8,8,8,8,8,8,8,8,8]:List UInt8)[(IntKind.wrap .u8 (Int.fdiv y (2^(min (8:Int).toNat (IntKind.bits .u64)))):Int).toNat]?).map fun b=>V.int .u8 b.toNat else none).bind fun x5=>
    some [V.int .i64 (IntKind.wrap .i64 ((IntKind.wrap .i64 (n+8))+(IntKind.wrap .i64 x5.toInt)))]
   else
    (bif decide (0≤(IntKind.wrap .u8 y)) then (([0,1,2,2,3,3,3,3,4,4,4,4,4,4,4,4,5,5,5,5,5,5,5,5,5,5,5,5,5,5,5,5,6,6,6,6,6,6,6,6,6,6,6,6,6,6,6,6,6,6,6,6,6,6,6,6,6,6,6,6,6,6,6,6,7,7,7,7,7,7,7,7,7,7,7,7,7,7,7,7,7,7,7,7,7,7,7,7,7,7,7,7,7,7,7,7,7,7,7,7,7,7,7,7,7,7,7,7,7,7,7,7,7,7,7,7,7,7,7,7,7,7,7,7,7,7,7,7,8,8,8,8,8,8,8,8,8,8,8,8,8,8,8,8,8,8,8,8,8,8,8,8,8,8,8,8,8,8,8,8,8,8,8,8,8,8,8,8,8,8,8,8,8,8,8,8,8,8,8,8,8,8,8,8,8,8,8,8,8,8,8,8,8,8,8,8,8,8,8,8,8,8,8,8,8,8,8,8,8,8,8,8,8,8,8,8,8,8,8,8,8,8,8,8,8,8,8,8,8,8,8,8,8,8,8,8,8,8,8,8,8,8,8,8,8,8,8,8,8,8,8,8,8,8,8,8]:List UInt8)[(IntKind.wrap .u8 y:Int).toNat]?).map fun b=>V.int .u8 b.toNat else none).bind fun x6=>
    some [V.int .i64 (IntKind.wrap .i64 (n+(IntKind.wrap .i64 x6.toInt)))])
theorem afh {x:Nat} (h:x<2^64): ∃L:Nat,CC DE [.int .u64 (x:Int)]=some [.int .i64 (L:Int)]∧L≤64∧(0<x→1≤L∧2^(L-1)≤x):=by
 have last: ∀y n:Nat,y<65536→n≤48→∃t:Nat,
   wP (y:Int) (n:Int)=some [V.int .i64 ((n+t:Nat):Int)]∧t≤16∧(0<y→1≤t∧2^(t-1)≤y):=by
  intro y n hy hn
  unfold wP
  rw[show ([0,1,2,2,3,3,3,3,4,4,4,4,4,4,4,4,5,5,5,5,5,5,5,5,5,5,5,5,5,5,5,5,6,6,6,6,6,6,6,6,6,6,6,6,6,6,6,6,6,6,6,6,6,6,6,6,6,6,6,6,6,6,6,6,7,7,7,7,7,7,7,7,7,7,7,7,7,7,7,7,7,7,7,7,7,7,7,7,7,7,7,7,7,7,7,7,7,7,7,7,7,7,7,7,7,7,7,7,7,7,7,7,7,7,7,7,7,7,7,7,7,7,7,7,7,7,7,7,8,8,8,8,8,8,8,8,8,8,8,8,8,8,8,8,8,8,8,8,8,8,8,8,8,8,8,8,8,8,8,8,8,8,8,8,8,8,8,8,8,8,8,8,8,8,8,8,8,8,8,8,8,8,8,8,8,8,8,8,8,8,8,8,8,8,8,8,8,8,8,8,8,8,8,8,8,8,8,8,8,8,8,8,8,8,8,8,8,8,8,8,8,8,8,8,8,8,8,8,8,8,8,8,8,8,8,8,8,8,8,8,8,8,8,8,8,8,8,8,8,8,8,8,8,8,8,8]:List UInt8)=Ft from rfl]
  by_cases h1:y≥256
  ·have e:Int.fdiv (y:Int) (2^(min (8:Int).toNat (IntKind.bits .u64)))=((y/2^8:Nat):Int):=D4 (m:=8) (by omega)
   obtain ⟨b,hb,b1,b2⟩:=Ub (y:=y/2^8) (by omega)
   refine ⟨b.toNat+8,?_,by omega,fun _=> ?_⟩
   ·rw[e,aE,if_pos (by omega),HO (by omega) (by omega),aE,if_pos (by omega),Int.toNat_natCast,hb]
    simp only[Option.map_some,Option.bind_some,V.toInt_int]
    simp (disch:=omega) only[wrap64]
    congr 3
    omega
   ·obtain ⟨b3,b4⟩:=b2 (by omega)
    exact ⟨by omega,KH b4 b3⟩
  ·obtain ⟨b,hb,b1,b2⟩:=Ub (y:=y) (by omega)
   refine ⟨b.toNat,?_,by omega,b2⟩
   rw[aE,if_neg (by omega),HO (by omega) (by omega),aE,if_pos (by omega),Int.toNat_natCast,hb]
   simp (disch:=omega) only[Option.map_some,Option.bind_some,V.toInt_int,wrap64]
   congr 3
 have mid: ∀y n:Nat,y<4294967296→n≤32→∃t:Nat,∀F:Int→Int→Option (List V),
   (∀y n:Nat,y<65536→n≤48→∃t:Nat,F (y:Int) (n:Int)=some [V.int .i64 ((n+t:Nat):Int)]∧t≤16∧(0<y→1≤t∧2^(t-1)≤y))→
   ∃t:Nat,tY CC (y:Int) (n:Int) (decide (((y:Int):Int)≥65536)) (un F)=some [V.int .i64 ((n+t:Nat):Int)]∧t≤32∧(0<y→1≤t∧2^(t-1)≤y):=by
  intro y n hy hn
  refine ⟨0,fun F hF=> ?_⟩
  unfold tY
  by_cases h1:y≥65536
  ·have e:Int.fdiv (y:Int) (2^(min (16:Int).toNat (IntKind.bits .u64)))=((y/2^16:Nat):Int):=D4 (m:=16) (by omega)
   rw[aE,if_pos (by omega),e,wrap64 (by omega) (by omega)]
   obtain ⟨t,h2,h3,h4⟩:=hF (y/2^16) (n+16) (by omega) (by omega)
   refine ⟨t+16,?_,by omega,fun _=> ?_⟩
   ·rw[show ((n:Int)+16)=((n+16:Nat):Int) by omega]
    simp only[un]
    rw[h2]
    congr 3
    omega
   ·obtain ⟨b3,b4⟩:=h4 (by omega)
    exact ⟨by omega,KH b4 b3⟩
  ·rw[aE,if_neg (by omega)]
   obtain ⟨t,h2,h3,h4⟩:=hF y n (by omega) (by omega)
   exact ⟨t,h2,by omega,h4⟩
 by_cases h1:x≥4294967296
 ·have e:Int.fdiv (x:Int) (2^(min (32:Int).toNat (IntKind.bits .u64)))=((x/2^32:Nat):Int):=D4 (m:=32) (by omega)
  obtain ⟨_,hm⟩:=mid (x/2^32) 32 (by omega) (by omega)
  obtain ⟨t,h2,h3,h4⟩:=hm wP last
  refine ⟨32+t,TZ ?_,by omega,fun _=> ?_⟩
  ·show tX CC (x:Int) 0 (decide (((x:Int):Int)≥4294967296)) (un fun (rJ:Int) (eh:Int)=>tY CC rJ eh (decide ((rJ:Int)≥65536)) (un wP))=_
   unfold tX
   rw[aE,if_pos (by omega),e]
   exact h2
  ·obtain ⟨b3,b4⟩:=h4 (by omega)
   rw[Nat.add_comm 32 t]
   exact ⟨by omega,KH b4 b3⟩
 ·obtain ⟨_,hm⟩:=mid x 0 (by omega) (by omega)
  obtain ⟨t,h2,h3,h4⟩:=hm wP last
  refine ⟨t,TZ ?_,by omega,h4⟩
  show tX CC (x:Int) 0 (decide (((x:Int):Int)≥4294967296)) (un fun (rJ:Int) (eh:Int)=>tY CC rJ eh (decide ((rJ:Int)≥65536)) (un wP))=_
  unfold tX
  rw[aE,if_neg (by omega)]
  rw[Nat.zero_add] at h2
  exact h2
theorem Uc {x:Nat} (h:x<2^64): ∃L:Nat,CC yK [.int .u64 (x:Int)]=some [.int .i64 (L:Int)]∧L≤64∧(0<x→1≤L∧2^(L-1)≤x):=by
 obtain ⟨L,h1,h2⟩:=afh h
 refine ⟨L,ae3 ?_,h2⟩
 unfold TW
 rw[h1]
 rfl
theorem afi {x:Nat} (h0:0<x) (h:x<1152921504606846976): ∃M:Nat,CC DG [.int .i64 (x:Int)]=some [.int .u64 (M:Int)]∧1≤M∧M≤2*x:=by
 obtain ⟨L,h1,h2,h3⟩:=Uc (x:=x) (by omega)
 obtain ⟨h4,h5⟩:=h3 h0
 have e:2^L=2*2^(L-1):=by
  obtain ⟨k,rfl⟩: ∃k,L=k+1:=⟨L-1,by omega⟩
  rw[Nat.pow_succ];simp only[Nat.add_sub_cancel];omega
 have hL:L<64:=by
  by_cases hx:L<64
  ·exact hx
  ·have:2^63≤2^(L-1):=Nat.pow_le_pow_right (by omega) (by omega)
   omega
 refine ⟨2^L,ae2 ?_,Nat.pos_of_ne_zero (by simp),by omega⟩
 unfold TV
 rw[rn (A:=x) (by omega),h1]
 simp only[Option.bind_some,V.ca,V.toInt_int]
 rw[aE,if_pos (by omega),Int.toNat_natCast,D3 hL]
theorem afj (r:Int): ∃R:Nat,CC DH [.int .u64 r]=some [.int .u64 (R:Int),.int .u64 (R:Int)]∧R<2^64:=by
 have h: ∀n:Int,∃R:Nat,IntKind.wrap .u64 n=(R:Int)∧R<2^64:=fun n=>⟨(IntKind.wrap .u64 n).toNat,by rw[wrap_u64];omega,by rw[wrap_u64];omega⟩
 obtain ⟨R,h1,h2⟩:=h _
 exact ⟨R,ae1 (by unfold TU;rw[h1]),h2⟩
theorem Fu {d:Array Ed} {i:Nat} (h:i<d.size):idx (eA d) (i:Int)=some (d[i]!).enc:=by rw[Db,fA h]
theorem KI {d:Array Ed} {a b:Nat} {s:Int} (ha:a<d.size) (hb:b<d.size): ∃(x y:Nat) (s':Int),CC yR [.list an (eA d),.int .i64 (a:Int),.int .i64 (b:Int),.int .i64 s]=some [.int .i64 (x:Int),.int .i64 (y:Int),.int .i64 s']∧(x=a∧y=b∨x=b∧y=a):=by
 by_cases h:bD d[b]! d[a]! <0
 ·refine ⟨b,a,_,TP (by unfold KE;rw[Fu hb,Fu ha];simp only[Option.bind_some,Ed.cX,Ed.cY,Ed.cZ,fV,V.ca,V.toInt_int];rw[aE,if_pos h]),.inr ⟨rfl,rfl⟩⟩
 ·refine ⟨a,b,_,TP (by unfold KE;rw[Fu hb,Fu ha];simp only[Option.bind_some,Ed.cX,Ed.cY,Ed.cZ,fV,V.ca,V.toInt_int];rw[aE,if_neg h]),.inl ⟨rfl,rfl⟩⟩
theorem KJ {d:Array Ed} {a b c:Nat} {s:Int} (ha:a<d.size) (hb:b<d.size) (hc:c<d.size): ∃(m:Nat) (s':Int),CC DL [.list an (eA d),.int .i64 (a:Int),.int .i64 (b:Int),.int .i64 (c:Int),.int .i64 s]=some [.int .i64 (m:Int),.int .i64 s']∧(m=a∨m=b∨m=c):=by
 obtain ⟨x1,y1,s1,e1,o1⟩:=KI (s:=s) ha hb
 obtain ⟨x2,y2,s2,e2,o2⟩:=KI (d:=d) (a:=y1) (b:=c) (s:=s1) (by omega) hc
 obtain ⟨x3,y3,s3,e3,o3⟩:=KI (d:=d) (a:=x1) (b:=x2) (s:=s2) (by omega) (by omega)
 refine ⟨y3,s3,aeW ?_,by omega⟩
 unfold TO
 rw[e1]
 simp only[Option.bind_some,V.ca,V.pF,V.toInt_int,List.drop_succ_cons,List.drop_zero]
 rw[e2]
 simp only[Option.bind_some,V.ca,V.pF,V.toInt_int,List.drop_succ_cons,List.drop_zero]
 rw[e3]
 rfl
theorem KK {d:Array Ed} {a:Nat} {s:Int} (h1:1≤a) (ha:a+1<d.size) (hs:d.size<1152921504606846976): ∃(m:Nat) (s':Int),CC yQ [.list an (eA d),.int .i64 (a:Int),.int .i64 s]=some [.int .i64 (m:Int),.int .i64 s']∧a≤m+1∧m≤a+1:=by
 obtain ⟨m,s',e,o⟩:=KJ (d:=d) (a:=a-1) (b:=a) (c:=a+1) (s:=s) (by omega) (by omega) (by omega)
 refine ⟨m,s',aeX ?_,by omega,by omega⟩
 unfold TQ
 simp (disch:=omega) only[jB,dp,wrap64]
 rw[e]
 rfl
theorem KL (n:Nat):Int.tdiv (n:Int) 4=((n/4:Nat):Int):=by
 have:=divC n 4
 exact this
theorem mulC (k n:Nat):((k:Nat):Int)*(n:Int)=((k*n:Nat):Int):=(Int.natCast_mul k n).symm
theorem afk {d:Array Ed} {a b:Nat} (fo:a+12<b) (hb:b≤d.size) (hs:d.size<1152921504606846976): ∃(p:Nat) (h:Int),CC DK [.list an (eA d),.int .i64 (a:Int),.int .i64 (b:Int)]=some [.int .i64 (p:Int),.int .i64 h]∧a≤p∧p<b:=by
 have fin: ∀(p:Nat) (s:Int),∃h:Int,(bif (s:Int)==0 then some [V.int .i64 (p:Int),V.int .i64 1] else bif (s:Int)==12 then some [V.int .i64 (p:Int),V.int .i64 2] else some [V.int .i64 (p:Int),V.int .i64 0])=some [V.int .i64 (p:Int),V.int .i64 h]:=by
  intro p s
  rw[pG]
  split
  ·exact ⟨1,rfl⟩
  ·rw[pG]
   split
   ·exact ⟨2,rfl⟩
   ·exact ⟨0,rfl⟩
 have e1:IntKind.wrap .i64 ((b:Int)-(a:Int))=((b-a:Nat):Int):=by rw[lE (by omega),wrap64 (by omega) (by omega)]
 have e2:IntKind.wrap .i64 (Int.tdiv ((b-a:Nat):Int) 4)=(((b-a)/4:Nat):Int):=by rw[KL,wrap64 (by omega) (by omega)]
 have e3: ∀k:Nat,k≤3→IntKind.wrap .i64 ((a:Int)+IntKind.wrap .i64 ((k:Int)*(((b-a)/4:Nat):Int)))=((a+k*((b-a)/4):Nat):Int):=by
  intro k hk
  have rf:k*((b-a)/4)≤3*((b-a)/4):=Nat.mul_le_mul_right _ hk
  simp (disch:=omega) only[mulC,wrap64,fB]
 have KM:=e3 1 (by omega)
 have rK:=e3 2 (by omega)
 have KN:=e3 3 (by omega)
 rw[show ((1:Nat):Int)=1 from rfl] at KM
 rw[show ((2:Nat):Int)=2 from rfl] at rK
 rw[show ((3:Nat):Int)=3 from rfl] at KN
 by_cases h50:b-a≥50
 ·obtain ⟨m1,s1,q1,r1⟩:=KK (d:=d) (a:=a+1*((b-a)/4)) (s:=0) (by omega) (by omega) hs
  obtain ⟨m2,s2,q2,r2⟩:=KK (d:=d) (a:=a+2*((b-a)/4)) (s:=s1) (by omega) (by omega) hs
  obtain ⟨m3,s3,q3,r3⟩:=KK (d:=d) (a:=a+3*((b-a)/4)) (s:=s2) (by omega) (by omega) hs
  obtain ⟨m,s,q,r⟩:=KJ (d:=d) (a:=m1) (b:=m2) (c:=m3) (s:=s3) (by omega) (by omega) (by omega)
  obtain ⟨h,hf⟩:=fin m s
  refine ⟨m,h,TN ?_,by omega,by omega⟩
  unfold KC AW AV
  rw[e1,e2,KM,rK,KN,my (by omega),cond_true,my (by omega),cond_true,q1]
  simp only[Option.bind_some,V.ca,V.pF,V.toInt_int,List.drop_succ_cons,List.drop_zero]
  rw[q2]
  simp only[Option.bind_some,V.ca,V.pF,V.toInt_int,List.drop_succ_cons,List.drop_zero]
  rw[q3]
  simp only[Option.bind_some,V.ca,V.pF,V.toInt_int,List.drop_succ_cons,List.drop_zero,un]
  rw[q]
  exact hf
 ·obtain ⟨m,s,q,r⟩:=KJ (d:=d) (a:=a+1*((b-a)/4)) (b:=a+2*((b-a)/4)) (c:=a+3*((b-a)/4)) (s:=0) (by omega) (by omega) (by omega)
  obtain ⟨h,hf⟩:=fin m s
  refine ⟨m,h,TN ?_,by omega,by omega⟩
  unfold KC AW AV
  rw[e1,e2,KM,rK,KN,my (by omega),cond_true,rC (by omega),cond_false]
  simp only[un]
  rw[q]
  exact hf
theorem afl {a b M:Nat} (hM1:1≤M) (hM:M≤2*(b-a)) (h8:8≤b-a) (hB:b<1152921504606846976): ∀(n i:Nat) (d:Array Ed) (r:Int),a+2*((b-a)/4)+2-i=n→a≤i→b≤d.size→d.size<1152921504606846976→
  ∃x y z R,Loop (Fp CC a (b-a:Nat) M) ((i:Int),eA d,r)=some (x,y,eA R,z)∧PermIn a b d R:=by
 have e2:IntKind.wrap .i64 (Int.tdiv ((b-a:Nat):Int) 4)=(((b-a)/4:Nat):Int):=by rw[KL,wrap64 (by omega) (by omega)]
 have rK:IntKind.wrap .i64 ((a:Int)+IntKind.wrap .i64 (2*(((b-a)/4:Nat):Int)))=((a+2*((b-a)/4):Nat):Int):=by
  have:=mulC 2 ((b-a)/4)
  rw[show ((2:Nat):Int)=2 from rfl] at this
  rw[this]
  simp (disch:=omega) only[wrap64,fB]
 intro n
 induction n with
 | zero=>
  intro i d r hn hi hb hs
  refine ⟨(i:Int),false,r,d,bO ?_,permIn_refl _ _ _⟩
  simp only[Fp,AY,un]
  rw[e2,rK,dp,wrap64 (by omega) (by omega),rC (by omega),cond_false]
 | succ n ih=>
  intro i d r hn hi hb hs
  obtain ⟨R1,q1,q2⟩:=afj r
  obtain ⟨o,ho,lU⟩: ∃o:Nat,(o=if R1&&&(M-1)≥b-a then (R1&&&(M-1))-(b-a) else R1&&&(M-1))∧o<b-a:=by
   refine ⟨_,rfl,?_⟩
   have:R1&&&(M-1)≤M-1:=Nat.and_le_right
   split<;>omega
  have hand:R1&&&(M-1)≤M-1:=Nat.and_le_right
  have hP:=swp_permIn (α:=Ed) d a b i (a+o) hi (by omega) (by omega) (by omega) hb
  obtain ⟨x,y,z,R,e,hR⟩:=ih (i+1) (swp d i (a+o)) (R1:Int) (by omega) (by omega) (by rw[size_swp];exact hb) (by rw[size_swp];exact hs)
  refine ⟨x,y,z,R,(dA ?_).trans e,permIn_trans _ _ _ a b hP hR⟩
  simp only[Fp,AY,un]
  rw[e2,rK,dp,wrap64 (x:=((a+2*((b-a)/4)+1:Nat):Int)) (by omega) (by omega),my (by omega),cond_true,q1]
  simp only[Option.bind_some,V.ca,V.pF,V.toInt_int,List.drop_succ_cons,List.drop_zero]
  have e5:IntKind.wrap .u64 ((M:Int)-1)=((M-1:Nat):Int):=by rw[jB hM1,rn (by omega)]
  rw[e5,u64_and q2 (by omega),wrap64 (x:=((R1&&&(M-1):Nat):Int)) (by omega) (by omega)]
  have fin: ∀k:Int,k=(o:Int)→(bif (decide (0≤(IntKind.wrap .i64 ((a:Int)+k))))&&(decide ((IntKind.wrap .i64 ((a:Int)+k))<((eA d).length:Int))) then
   ((eA d)[(IntKind.wrap .i64 ((a:Int)+k):Int).toNat]?).bind fun x4=>
   bif (decide (0≤(i:Int)))&&(decide ((i:Int)<((eA d).length:Int))) then
    ((eA d)[((i:Int):Int).toNat]?).bind fun x5=>
    bif (decide (0≤(i:Int)))&&(decide ((i:Int)<((eA d).length:Int))) then
    ((eA d)[((i:Int):Int).toNat]?).bind fun x6=>
    bif (decide (0≤(IntKind.wrap .i64 ((a:Int)+k))))&&(decide ((IntKind.wrap .i64 ((a:Int)+k))<(((eA d).set (((i:Int):Int).toNat) (.agg [.int .i64 ((x4.cell 0).toInt),.int .i64 ((x4.cell 1).toInt),.int .i64 ((x4.cell 2).toInt)])).length:Int))) then
     (((eA d).set (((i:Int):Int).toNat) (.agg [.int .i64 ((x4.cell 0).toInt),.int .i64 ((x4.cell 1).toInt),.int .i64 ((x4.cell 2).toInt)]))[(IntKind.wrap .i64 ((a:Int)+k):Int).toNat]?).bind fun x7=>
     some (.inl (IntKind.wrap .i64 ((i:Int)+1),((eA d).set (((i:Int):Int).toNat) (.agg [.int .i64 ((x4.cell 0).toInt),.int .i64 ((x4.cell 1).toInt),.int .i64 ((x4.cell 2).toInt)])).set ((IntKind.wrap .i64 ((a:Int)+k):Int).toNat) (.agg [.int .i64 ((x5.cell 0).toInt),.int .i64 ((x5.cell 1).toInt),.int .i64 ((x5.cell 2).toInt)]),(R1:Int)))
    else none
    else none
   else none
   else none:Option ((Int × List V × Int) ⊕ (Int × Bool × List V × Int)))=some (.inl (((i+1:Nat):Int),eA (swp d i (a+o)),(R1:Int))):=by
   intro k hk
   subst hk
   simp (disch:=omega) only[aE,dx,gj,if_pos,if_neg,wrap64,dp,fB,Int.toNat_natCast,Option.bind_some,fx,fA,Ed.cX,Ed.cY,Ed.cZ,Ed.re,fy,gL,Array.size_setIfInBounds,fV,V.ca,V.toInt_int,cond_true,cond_false]
   rfl
  unfold Fo
  by_cases h:R1&&&(M-1)≥b-a
  ·rw[if_pos h] at ho
   rw[my (by omega),cond_true]
   exact fin _ (by rw[lE (by omega),wrap64 (by omega) (by omega)];omega)
  ·rw[if_neg h] at ho
   rw[rC (by omega),cond_false]
   exact fin _ (by omega)
theorem afm {a b:Nat} {d:Array Ed} (fo:a+12<b) (hb:b≤d.size) (hs:d.size<1152921504606846976): ∃R,CC H9 [.int .i64 (a:Int),.int .i64 (b:Int),.list an (eA d)]=some [.list an (eA R)]∧PermIn a b d R:=by
 obtain ⟨M,q1,q2,q3⟩:=afi (x:=b-a) (by omega) (by omega)
 have e1:IntKind.wrap .i64 ((b:Int)-(a:Int))=((b-a:Nat):Int):=by rw[lE (by omega),wrap64 (by omega) (by omega)]
 have e2:IntKind.wrap .i64 (Int.tdiv ((b-a:Nat):Int) 4)=(((b-a)/4:Nat):Int):=by rw[KL,wrap64 (by omega) (by omega)]
 have rK:IntKind.wrap .i64 ((a:Int)+IntKind.wrap .i64 (2*(((b-a)/4:Nat):Int)))=((a+2*((b-a)/4):Nat):Int):=by
  have:=mulC 2 ((b-a)/4)
  rw[show ((2:Nat):Int)=2 from rfl] at this
  rw[this]
  simp (disch:=omega) only[wrap64,fB]
 obtain ⟨x,y,z,R,e,hR⟩:=afl (a:=a) (b:=b) (M:=M) q2 q3 (by omega) (by omega) _ (a+2*((b-a)/4)-1) d (IntKind.wrap .u64 ((b-a:Nat):Int)) rfl (by omega) hb hs
 refine ⟨R,ae0 ?_,hR⟩
 unfold TT
 rw[e1,aE,if_pos (by omega),q1]
 simp only[Option.bind_some,V.ca,V.toInt_int]
 rw[e2,rK,jB (by omega),wrap64 (x:=((a+2*((b-a)/4)-1:Nat):Int)) (by omega) (by omega),e]
 rfl
noncomputable def rL (C:ae) (a b':Int) (en eJ:Bool) (cl dq:Int) (lG:List V) {β:Type} (kn:(Int × Int × Int × Bool × Bool × (List V))→Option β):Option β:=
      bif decide ((a:Int)>0) then
       bif (decide (0≤(IntKind.wrap .i64 (a-1))))&&(decide ((IntKind.wrap .i64 (a-1))<(lG.length:Int))) then
       (lG[(IntKind.wrap .i64 (a-1):Int).toNat]?).bind fun iY=>
       bif (decide (0≤dq))&&(decide (dq<(lG.length:Int))) then
        (lG[(dq:Int).toNat]?).bind fun nA=>
        (C aZ [.int .i64 ((iY.cell 0).toInt),.int .i64 ((iY.cell 1).toInt),.int .i64 ((iY.cell 2).toInt),.int .i64 ((nA.cell 0).toInt),.int .i64 ((nA.cell 1).toInt),.int .i64 ((nA.cell 2).toInt)]).bind fun ej=>
        bif !(decide ((((V.nth ej 0).toInt):Int)<0)) then
        (C vB [.int .i64 a,.int .i64 b',.int .i64 dq,.list an lG]).bind fun fU=>
        kn ((V.nth fU 0).toInt,b',cl,en,eJ,(V.nth (fU.drop 1) 0).toList)
        else
        (C np [.int .i64 a,.int .i64 b',.int .i64 dq,.list an lG]).bind fun c6=>
        bif decide (((IntKind.wrap .i64 (((V.nth c6 0).toInt)-a)):Int)<(IntKind.wrap .i64 (b'-((V.nth c6 0).toInt)))) then
         (C gk [.int .i64 a,.int .i64 ((V.nth c6 0).toInt),.int .i64 cl,.list an ((V.nth (c6.drop 2) 0).toList)]).bind fun mE=>
         kn (IntKind.wrap .i64 (((V.nth c6 0).toInt)+1),b',cl,decide (((IntKind.wrap .i64 (((V.nth c6 0).toInt)-a)):Int)≥(IntKind.wrap .i64 (Int.tdiv (IntKind.wrap .i64 (b'-a)) 8))),(V.nth (c6.drop 1) 0).toBool,(V.nth mE 0).toList)
        else
         (C gk [.int .i64 (IntKind.wrap .i64 (((V.nth c6 0).toInt)+1)),.int .i64 b',.int .i64 cl,.list an ((V.nth (c6.drop 2) 0).toList)]).bind fun fC=>
         kn (a,(V.nth c6 0).toInt,cl,decide (((IntKind.wrap .i64 (b'-((V.nth c6 0).toInt))):Int)≥(IntKind.wrap .i64 (Int.tdiv (IntKind.wrap .i64 (b'-a)) 8))),(V.nth (c6.drop 1) 0).toBool,(V.nth fC 0).toList)
       else none
       else none
      else
       (C np [.int .i64 a,.int .i64 b',.int .i64 dq,.list an lG]).bind fun fX=>
       bif decide (((IntKind.wrap .i64 (((V.nth fX 0).toInt)-a)):Int)<(IntKind.wrap .i64 (b'-((V.nth fX 0).toInt)))) then
       (C gk [.int .i64 a,.int .i64 ((V.nth fX 0).toInt),.int .i64 cl,.list an ((V.nth (fX.drop 2) 0).toList)]).bind fun qm=>
       kn (IntKind.wrap .i64 (((V.nth fX 0).toInt)+1),b',cl,decide (((IntKind.wrap .i64 (((V.nth fX 0).toInt)-a)):Int)≥(IntKind.wrap .i64 (Int.tdiv (IntKind.wrap .i64 (b'-a)) 8))),(V.nth (fX.drop 1) 0).toBool,(V.nth qm 0).toList)
       else
       (C gk [.int .i64 (IntKind.wrap .i64 (((V.nth fX 0).toInt)+1)),.int .i64 b',.int .i64 cl,.list an ((V.nth (fX.drop 2) 0).toList)]).bind fun iC=>
       kn (a,(V.nth fX 0).toInt,cl,decide (((IntKind.wrap .i64 (b'-((V.nth fX 0).toInt))):Int)≥(IntKind.wrap .i64 (Int.tdiv (IntKind.wrap .i64 (b'-a)) 8))),(V.nth (fX.drop 1) 0).toBool,(V.nth iC 0).toList)
theorem Fv (C:ae) (a b' iD:Int) (en eJ:Bool) (af:List V) {β:Type} (kn:(Int × Int × Int × Bool × Bool × (List V))→Option β) (kr:(List V)→Option β):
  oM C a b' iD en eJ af kn kr=
 bif decide (((IntKind.wrap .i64 (b'-a)):Int)≤12) then
  (C DI [.int .i64 a,.int .i64 b',.list an af]).bind fun r1=>
  kr ((V.nth r1 0).toList)
 else
  bif (iD:Int)==0 then
  (C DJ [.int .i64 a,.int .i64 b',.list an af]).bind fun r2=>
  kr ((V.nth r2 0).toList)
  else
  wK C a b' iD en eJ (IntKind.wrap .i64 (b'-a)) (!en) af (un fun (cl:Int) (A0:List V)=>
   (C DK [.list an A0,.int .i64 a,.int .i64 b']).bind fun r6=>
   wL C a b' cl en eJ (IntKind.wrap .i64 (b'-a)) ((V.nth r6 0).toInt) ((V.nth (r6.drop 1) 0).toInt) ((((V.nth (r6.drop 1) 0).toInt):Int)==2) A0 (un fun (dq:Int)=>un fun (KF:Int) (nz:List V)=>
    bif en then
     bif eJ then
     lI C a b' cl en eJ (IntKind.wrap .i64 (b'-a)) dq ((KF:Int)==1) nz (c8 (un fun (Sh:Bool) (KO:List V)=>
      kr KO) (fun (lG:List V)=>rL C a b' en eJ cl dq lG kn))
     else
     lI C a b' cl en eJ (IntKind.wrap .i64 (b'-a)) dq false nz (c8 (un fun (ahr:Bool) (afn:List V)=>
      kr afn) (fun (afo:List V)=>rL C a b' en eJ cl dq afo kn))
    else
     lI C a b' cl en eJ (IntKind.wrap .i64 (b'-a)) dq false nz (c8 (un fun (ahs:Bool) (afp:List V)=>
      kr afp) (fun (afq:List V)=>rL C a b' en eJ cl dq afq kn)))):=rfl
section
variable {a b:Nat} {lim:Int} {wb wp:Bool}
theorem afr {d:Array Ed} (fo:a+12<b) (hb:b≤d.size) (hs:d.size<1152921504606846976) (len:Int) (t:Bool): ∃(l1:Int) (d1:Array Ed),PermIn a b d d1∧∀(β:Type) (kr:(Int × List V)→Option β),wK CC a b lim wb wp len t (eA d) kr=kr (l1,eA d1):=by
 cases t with
 | true=>
  obtain ⟨R,e,hR⟩:=afm fo hb hs
  refine ⟨IntKind.wrap .i64 (lim-1),R,hR,fun β kr=> ?_⟩
  unfold wK
  rw[cond_true,e]
  rfl
 | false=>exact ⟨lim,d,permIn_refl _ _ _,fun β kr=>rfl⟩
theorem afs {d:Array Ed} (fo:a+12<b) (hb:b≤d.size) (hs:d.size<1152921504606846976) (len h:Int) (t:Bool) {p:Nat} (h1:a≤p) (h2:p<b): ∃(p2:Nat) (h2:Int) (d1:Array Ed),a≤p2∧p2<b∧PermIn a b d d1∧∀(β:Type) (kr:(Int × Int × List V)→Option β),wL CC a b lim wb wp len p h t (eA d) kr=kr ((p2:Int),h2,eA d1):=by
 cases t with
 | true=>
  refine ⟨b-1-(p-a),1,reverseRange d a b,by omega,by omega,reverseRange_holds d a b (by omega) hb,fun β kr=> ?_⟩
  unfold wL
  rw[cond_true,aej (by omega) hb hs]
  simp (disch:=omega) only[Option.bind_some,V.ca,V.oh,jB,lE,wrap64]
 | false=>exact ⟨p,h,d,h1,h2,permIn_refl _ _ _,fun β kr=>rfl⟩
theorem aft {d:Array Ed} (fo:a+12<b) (hb:b≤d.size) (hs:d.size<1152921504606846976) (hB:Below ar a b d) (len p:Int) (t:Bool): ∃d1:Array Ed,PermIn a b d d1∧
  ((∀(β:Type) (kr:((Bool × List V) ⊕ List V)→Option β),lI CC a b lim wb wp len p t (eA d) kr=kr (.inr (eA d1)))∨
  (SortedIn ar a b d1∧∀(β:Type) (kr:((Bool × List V) ⊕ List V)→Option β),lI CC a b lim wb wp len p t (eA d) kr=kr (.inl (true,eA d1)))):=by
 cases t with
 | true=>
  have hp:=partialInsertionSort_holds (lt:=ar) wO d a b (by omega) hb hB
  refine ⟨_,hp.1,?_⟩
  cases h:(partialInsertionSort ar d a b).2 with
  | true=>
   refine .inr ⟨hp.2 h,fun β kr=> ?_⟩
   unfold lI
   rw[cond_true,TJ (by omega) hb hs,h]
   rfl
  | false=>
   refine .inl fun β kr=> ?_
   unfold lI
   rw[cond_true,TJ (by omega) hb hs,h]
   rfl
 | false=>exact ⟨d,permIn_refl _ _ _,.inl fun β kr=>rfl⟩
end
def Fw (a b:Nat) (d:Array Ed):Prop:= ∀(lim:Int) (wb wp:Bool),∃R,Loop (T6 CC) ((a:Int),(b:Int),lim,wb,wp,eA d)=some (eA R)∧PermIn a b d R∧SortedIn ar a b R
theorem Fw.call {a b:Nat} {d:Array Ed} (h:Fw a b d) (lim:Int): ∃R,CC gk [.int .i64 (a:Int),.int .i64 (b:Int),.int .i64 lim,.list an (eA d)]=some [.list an (eA R)]∧PermIn a b d R∧SortedIn ar a b R:=by
 obtain ⟨R,e,h1,h2⟩:=h lim true true
 refine ⟨R,afe ?_,h1,h2⟩
 unfold T8
 rw[e]
 rfl
theorem afu {a b p:Nat} {d:Array Ed} (fo:a+12<b) (hb:b≤d.size) (hs:d.size<1152921504606846976) (hB:Below ar a b d) (h1:a≤p) (h2:p<b)
  (ih: ∀(a2 b2:Nat) (d2:Array Ed),b2-a2<b-a→a2≤b2→b2≤d2.size→d2.size<1152921504606846976→Below ar a2 b2 d2→Fw a2 b2 d2) (wb wp:Bool) (lim:Int):
  ∃(a2 b2:Nat) (ua ub:Bool) (d2:Array Ed),b2-a2<b-a∧a2≤b2∧b2≤d2.size∧d2.size<1152921504606846976∧Below ar a2 b2 d2∧
   (∀R,PermIn a2 b2 d2 R→SortedIn ar a2 b2 R→PermIn a b d R∧SortedIn ar a b R)∧
   ∀(β:Type) (kn:(Int × Int × Int × Bool × Bool × (List V))→Option β),rL CC a b wb wp lim p (eA d) kn=kn ((a2:Int),(b2:Int),lim,ua,ub,eA d2):=by
 have part: ∃(a2 b2:Nat) (ua ub:Bool) (d2:Array Ed),b2-a2<b-a∧a2≤b2∧b2≤d2.size∧d2.size<1152921504606846976∧Below ar a2 b2 d2∧
   (∀R,PermIn a2 b2 d2 R→SortedIn ar a2 b2 R→PermIn a b d R∧SortedIn ar a b R)∧
   ∀(β:Type) (kn:(Int × Int × Int × Bool × Bool × (List V))→Option β),
    ((CC np [.int .i64 (a:Int),.int .i64 (b:Int),.int .i64 (p:Int),.list an (eA d)]).bind fun c6=>
        bif decide (((IntKind.wrap .i64 (((V.nth c6 0).toInt)-(a:Int))):Int)<(IntKind.wrap .i64 ((b:Int)-((V.nth c6 0).toInt)))) then
         (CC gk [.int .i64 (a:Int),.int .i64 ((V.nth c6 0).toInt),.int .i64 lim,.list an ((V.nth (c6.drop 2) 0).toList)]).bind fun mE=>
         kn (IntKind.wrap .i64 (((V.nth c6 0).toInt)+1),(b:Int),lim,decide (((IntKind.wrap .i64 (((V.nth c6 0).toInt)-(a:Int))):Int)≥(IntKind.wrap .i64 (Int.tdiv (IntKind.wrap .i64 ((b:Int)-(a:Int))) 8))),(V.nth (c6.drop 1) 0).toBool,(V.nth mE 0).toList)
        else
         (CC gk [.int .i64 (IntKind.wrap .i64 (((V.nth c6 0).toInt)+1)),.int .i64 (b:Int),.int .i64 lim,.list an ((V.nth (c6.drop 2) 0).toList)]).bind fun fC=>
         kn ((a:Int),(V.nth c6 0).toInt,lim,decide (((IntKind.wrap .i64 ((b:Int)-((V.nth c6 0).toInt))):Int)≥(IntKind.wrap .i64 (Int.tdiv (IntKind.wrap .i64 ((b:Int)-(a:Int))) 8))),(V.nth (c6.drop 1) 0).toBool,(V.nth fC 0).toList))=kn ((a2:Int),(b2:Int),lim,ua,ub,eA d2):=by
  obtain ⟨mid,ap,d4,hx⟩: ∃mid ap d4,partition ar d a b p=(mid,ap,d4):=⟨_,_,_,rfl⟩
  obtain ⟨g1,g2,nD,hBa,hBr,afv,afw⟩:=round_part wO (partition_holds ar) h1 h2 hb hB hx
  have hc:=aeL (a:=a) (b:=b) (pivot:=p) (d:=d) h2 (by omega) hb hs
  rw[hx] at hc
  by_cases hl:mid-a<b-mid
  ·obtain ⟨L,e,l1,l2⟩:=(ih a mid d4 (by omega) g1 (by rw[nD];omega) (by rw[nD];exact hs) hBa).call lim
   obtain ⟨KP,jY⟩:=afv _ l1 l2
   refine ⟨mid+1,b,decide (((IntKind.wrap .i64 ((mid:Int)-(a:Int))):Int)≥(IntKind.wrap .i64 (Int.tdiv (IntKind.wrap .i64 ((b:Int)-(a:Int))) 8))),ap,L,by omega,by omega,by rw[l1.1,nD];exact hb,by rw[l1.1,nD];exact hs,KP,jY,fun β kn=> ?_⟩
   ·rw[hc]
    simp only[Option.bind_some,V.ca,V.pF,V.toInt_int,V.pE,V.oh,List.drop_succ_cons,List.drop_zero]
    rw[aE,if_pos (by rw[lE g1,lE (by omega),wrap64 (by omega) (by omega),wrap64 (by omega) (by omega)];omega),e]
    simp only[Option.bind_some,V.ca,V.oh]
    rw[dp,wrap64 (x:=((mid+1:Nat):Int)) (by omega) (by omega)]
  ·obtain ⟨L,e,l1,l2⟩:=(ih (mid+1) b d4 (by omega) (by omega) (by rw[nD];exact hb) (by rw[nD];exact hs) hBr).call lim
   obtain ⟨KP,jY⟩:=afw _ l1 l2
   refine ⟨a,mid,decide (((IntKind.wrap .i64 ((b:Int)-(mid:Int))):Int)≥(IntKind.wrap .i64 (Int.tdiv (IntKind.wrap .i64 ((b:Int)-(a:Int))) 8))),ap,L,by omega,by omega,by rw[l1.1,nD];omega,by rw[l1.1,nD];exact hs,KP,jY,fun β kn=> ?_⟩
   ·rw[hc]
    simp only[Option.bind_some,V.ca,V.pF,V.toInt_int,V.pE,V.oh,List.drop_succ_cons,List.drop_zero]
    rw[aE,if_neg (by rw[lE g1,lE (by omega),wrap64 (by omega) (by omega),wrap64 (by omega) (by omega)];omega),dp,wrap64 (x:=((mid+1:Nat):Int)) (by omega) (by omega),e]
    simp only[Option.bind_some,V.ca,V.oh]
 by_cases ha:0<a
 ·by_cases hc:bD d[a-1]! d[p]! <0
  ·obtain ⟨a2,b2,ua,ub,d2,q1,q2,q3,q4,q5,q6,q7⟩:=part
   refine ⟨a2,b2,ua,ub,d2,q1,q2,q3,q4,q5,q6,fun β kn=> ?_⟩
   rw[←q7 β kn]
   unfold rL
   rw[aE,if_pos (by omega),jB ha,wrap64 (by omega) (by omega),jD (i:=a-1) (by omega),jE (by omega),jD (i:=p) (by omega),jE (by omega)]
   simp only[Ed.cX,Ed.cY,Ed.cZ,fV,Option.bind_some,V.ca,V.toInt_int]
   rw[gj,aE,if_pos hc]
  ·obtain ⟨mid,d4,hx⟩: ∃mid d4,partitionEqual ar d a b p=(mid,d4):=⟨_,_,rfl⟩
   obtain ⟨g1,sq,nD,hB4,jY⟩:=round_eq wO (partitionEqual_holds ar) ha h1 h2 hb hB (by rw[Fs,←propext (D7 _ _)];exact hc) hx
   have he:=aeN (a:=a) (b:=b) (pivot:=p) (d:=d) h2 (by omega) hb hs
   rw[hx] at he
   refine ⟨mid,b,wb,wp,d4,by omega,sq,by rw[nD];exact hb,by rw[nD];exact hs,hB4,jY,fun β kn=> ?_⟩
   unfold rL
   rw[aE,if_pos (by omega),jB ha,wrap64 (by omega) (by omega),jD (i:=a-1) (by omega),jE (by omega),jD (i:=p) (by omega),jE (by omega)]
   simp only[Ed.cX,Ed.cY,Ed.cZ,fV,Option.bind_some,V.ca,V.toInt_int]
   rw[gj,aE,if_neg hc,he]
   rfl
 ·obtain ⟨a2,b2,ua,ub,d2,q1,q2,q3,q4,q5,q6,q7⟩:=part
  refine ⟨a2,b2,ua,ub,d2,q1,q2,q3,q4,q5,q6,fun β kn=> ?_⟩
  rw[←q7 β kn]
  unfold rL
  rw[aE,if_neg (by omega)]
theorem afx: ∀(n a b:Nat) (d:Array Ed),b-a≤n→a≤b→b≤d.size→d.size<1152921504606846976→Below ar a b d→Fw a b d:=by
 intro n
 induction n with
 | zero=>
  intro a b d hn fo hb hs hB lim wb wp
  have hi:=insertionSort_holds (lt:=ar) wO d a b fo hb
  refine ⟨_,bO ?_,hi⟩
  show oM CC a b lim wb wp (eA d) (fun y=>some (Sum.inl y)) (fun r=>some (Sum.inr r))=_
  rw[Fv,aE,if_pos (by rw[lE fo,wrap64 (by omega) (by omega)];omega),Tr hb hs (by omega)]
  rfl
 | succ n ih=>
  intro a b d hn fo hb hs hB lim wb wp
  by_cases h12:b-a≤12
  ·have hi:=insertionSort_holds (lt:=ar) wO d a b fo hb
   refine ⟨_,bO ?_,hi⟩
   show oM CC a b lim wb wp (eA d) (fun y=>some (Sum.inl y)) (fun r=>some (Sum.inr r))=_
   rw[Fv,aE,if_pos (by rw[lE fo,wrap64 (by omega) (by omega)];omega),Tr hb hs (by omega)]
   rfl
  ·have A1:a+12<b:=by omega
   have rb: ¬(((IntKind.wrap .i64 ((b:Int)-(a:Int))):Int)≤12):=by rw[lE fo,wrap64 (by omega) (by omega)];omega
   by_cases h0:lim=0
   ·have hi:=heapSort_holds (lt:=ar) wO d a b fo hb
    refine ⟨_,bO ?_,hi⟩
    show oM CC a b lim wb wp (eA d) (fun y=>some (Sum.inl y)) (fun r=>some (Sum.inr r))=_
    rw[Fv,aE,if_neg rb,pG,if_pos h0,aeh (by omega) hb hs]
    rfl
   ·obtain ⟨l1,d1,s1,k1⟩:=afr (lim:=lim) (wb:=wb) (wp:=wp) A1 hb hs (IntKind.wrap .i64 ((b:Int)-(a:Int))) (!wb)
    have b1:b≤d1.size:=by rw[s1.1];exact hb
    have z1:d1.size<1152921504606846976:=by rw[s1.1];exact hs
    obtain ⟨p,h,c1,p1,p2⟩:=afk A1 b1 z1
    obtain ⟨q,h2,d2,q1,q2,s2,k2⟩:=afs (lim:=l1) (wb:=wb) (wp:=wp) A1 b1 z1 (IntKind.wrap .i64 ((b:Int)-(a:Int))) h (h==2) p1 p2
    have b2:b≤d2.size:=by rw[s2.1];exact b1
    have z2:d2.size<1152921504606846976:=by rw[s2.1];exact z1
    have B2:Below ar a b d2:=(hB.perm hb s1).perm b1 s2
    obtain ⟨t,ht⟩: ∃t:Bool,t=(bif wb then (bif wp then (h2==1) else false) else false):=⟨_,rfl⟩
    obtain ⟨d3,s3,k3⟩:=aft (lim:=l1) (wb:=wb) (wp:=wp) A1 b2 z2 B2 (IntKind.wrap .i64 ((b:Int)-(a:Int))) (q:Int) t
    have b3:b≤d3.size:=by rw[s3.1];exact b2
    have z3:d3.size<1152921504606846976:=by rw[s3.1];exact z2
    have B3:Below ar a b d3:=B2.perm b2 s3
    have P3:PermIn a b d d3:=permIn_trans _ _ _ a b (permIn_trans _ _ _ a b s1 s2) s3
    have step: ∀(β:Type) (kn:(Int × Int × Int × Bool × Bool × (List V))→Option β) (kr:(List V)→Option β),oM CC a b lim wb wp (eA d) kn kr=
      lI CC a b l1 wb wp (IntKind.wrap .i64 ((b:Int)-(a:Int))) (q:Int) t (eA d2) (c8 (un fun (Sh:Bool) (KO:List V)=>kr KO) (fun (lG:List V)=>rL CC a b wb wp l1 q lG kn)):=by
     intro β kn kr
     rw[Fv,aE,if_neg rb,pG,if_neg h0,k1]
     simp only[un]
     rw[c1]
     simp only[Option.bind_some,V.ca,V.pF,V.toInt_int,List.drop_succ_cons,List.drop_zero]
     rw[k2]
     simp only[un]
     rw[ht]
     cases wb
     ·rfl
     ·cases wp
      ·rfl
      ·rfl
    rcases k3 with k3|⟨k3s,k3⟩
    ·obtain ⟨a4,b4,wb4,wp4,d4,r1,r2,r3,r4,r5,r6,r7⟩:=afu A1 b3 z3 B3 q1 q2 (fun a2 b2 d2 aK h1 h2 h3 h4=>ih a2 b2 d2 (by omega) h1 h2 h3 h4) wb wp l1
     obtain ⟨R,e,e1,e2⟩:=ih a4 b4 d4 (by omega) r2 r3 r4 r5 l1 wb4 wp4
     obtain ⟨f1,f2⟩:=r6 R e1 e2
     refine ⟨R,(dA ?_).trans e,permIn_trans _ _ _ a b P3 f1,f2⟩
     show oM CC a b lim wb wp (eA d) (fun y=>some (Sum.inl y)) (fun r=>some (Sum.inr r))=_
     rw[step,k3]
     exact r7 _ (fun y=>some (Sum.inl y))
    ·refine ⟨d3,bO ?_,P3,k3s⟩
     show oM CC a b lim wb wp (eA d) (fun y=>some (Sum.inl y)) (fun r=>some (Sum.inr r))=_
     rw[step,k3]
     rfl
theorem afy (l:List Ed) (hs:l.length<1152921504606846976): ∃R:List Ed,CC yG [.list an (l.map Ed.enc)]=some [.list an (R.map Ed.enc)]∧R.Perm l∧R.Pairwise (fun x y=> ¬y.lt x):=by
 obtain ⟨L,e1,_⟩:=Uc (x:=l.length) (by omega)
 obtain ⟨R,e2,h1,h2⟩:=(afx _ 0 l.toArray.size l.toArray (Nat.le_refl _) (Nat.zero_le _) (Nat.le_refl _) (by simpa using hs) (.inl rfl)).call (L:Int)
 have aO:R.size=l.length:=by rw[h1.1];simp
 refine ⟨R.toList,aff ?_,?_,?_⟩
 ·unfold T9
  rw[List.length_map,rn (A:=l.length) (by omega),e1]
  simp only[Option.bind_some,V.ca,V.toInt_int]
  have e3:eA l.toArray=l.map Ed.enc:=by simp[oJ]
  rw[e3,show ((l.toArray.size:Nat):Int)=(l.length:Int) by simp,show ((0:Nat):Int)=0 from rfl] at e2
  rw[e2]
  rfl
 ·have h3:=h1.2.2
  rw[show l.toArray.size=R.size from h1.1.symm,Array.extract_size,h1.1,Array.extract_size] at h3
  exact h3
 ·rw[List.pairwise_iff_getElem]
  intro i j hi hj sK
  have h3:=h2 i j (Nat.zero_le _) sK (by simpa[←aO] using hj)
  rw[Fs] at h3
  have dv:i<R.size:=by simpa using hi
  have fP:j<R.size:=by simpa using hj
  rw[getElem!_pos R i dv,getElem!_pos R j fP] at h3
  simpa using h3
end Go.AM.SL
set_option maxRecDepth 100000
namespace Go.AM
open Go.Proofs
noncomputable def Ud (C:ae) (dP fu eh fS:Int) (ey:List V):Option (List V):=
 (C yI [.int .i64 dP,.int .i64 fu,.int .u64 eh,.int .u64 fS,.list an ey]).bind fun r1=>
 bif (((V.nth (r1.drop 2) 0).toInt):Int) != 0 then
  some [.int .i64 0,.int .i64 0,.int .i64 ((V.nth (r1.drop 2) 0).toInt),.list ax ([]:List V),.list aB ([]:List V)]
 else
  (C rj [.int .i64 ((V.nth r1 0).toInt),.int .i64 ((V.nth (r1.drop 1) 0).toInt),.list ax ((V.nth (r1.drop 3) 0).toList),.list aB ((V.nth ((r1.drop 3).drop 1) 0).toList)]).bind fun r2=>
  some [.int .i64 ((V.nth r2 0).toInt),.int .i64 ((V.nth (r2.drop 1) 0).toInt),.int .i64 0,.list ax ((V.nth (r2.drop 2) 0).toList),.list aB ((V.nth ((r2.drop 2).drop 1) 0).toList)]
theorem afz {dP fu eh fS:Int} {ey:List V} {r:Option (List V)} (h:Ud CC dP fu eh fS ey=r):CC yF [.int .i64 dP,.int .i64 fu,.int .u64 eh,.int .u64 fS,.list an ey]=r:=
 bp (key:=79) (L:=cR) (bs:=[]) (by kernel_rfl) aw (Eq.trans (by kernel_rfl) h)
noncomputable def KQ (C:ae) (a8 aV ba bc:Int) (bd:List V):Option (List V):=
 (C yG [.list an bd]).bind fun r1=>
 (C Dt [.list an ((V.nth r1 0).toList)]).bind fun r2=>
 bif (V.nth r2 0).toBool then
  (C yF [.int .i64 a8,.int .i64 aV,.int .u64 ba,.int .u64 bc,.list an ((V.nth (r2.drop 1) 0).toList)]).bind fun r3=>
  some [.int .i64 ((V.nth r3 0).toInt),.int .i64 ((V.nth (r3.drop 1) 0).toInt),.int .i64 ((V.nth (r3.drop 2) 0).toInt),.int .i64 a8,.int .i64 aV,.int .u64 ba,.int .u64 bc,.list an ((V.nth (r2.drop 1) 0).toList),.list ax ((V.nth (r3.drop 3) 0).toList),.list aB ((V.nth ((r3.drop 3).drop 1) 0).toList)]
 else
  (C yF [.int .i64 a8,.int .i64 aV,.int .u64 ba,.int .u64 bc,.list an ((V.nth (r2.drop 1) 0).toList)]).bind fun r4=>
  some [.int .i64 ((V.nth r4 0).toInt),.int .i64 ((V.nth (r4.drop 1) 0).toInt),.int .i64 ((V.nth (r4.drop 2) 0).toInt),.int .i64 a8,.int .i64 aV,.int .u64 ba,.int .u64 bc,.list an ((V.nth (r2.drop 1) 0).toList),.list ax ((V.nth (r4.drop 3) 0).toList),.list aB ((V.nth ((r4.drop 3).drop 1) 0).toList)]
theorem Ue {a8 aV ba bc:Int} {bd:List V} {r:Option (List V)} (h:KQ CC a8 aV ba bc bd=r):CC pK [.int .i64 a8,.int .i64 aV,.int .u64 ba,.int .u64 bc,.list an bd]=r:=
 bp (key:=65) (L:=cR) (bs:=[]) (by kernel_rfl) aw (Eq.trans (by kernel_rfl) h)
section
variable {n:Nf} {L S:Nat} (h:Nat6 n L S)
include h
end
instance (n:Nf) (L S:Nat):Decidable (gK n L S):=by unfold gK;infer_instance
noncomputable def fe (n:Nf) (L S:Nat):Da:=if gK n L S then zD else minD (hO n L S)
def mJ (n:Nf) (L S:Nat):Int:=if gK n L S then 3 else 0
section
variable {n:Nf} {L S:Nat} (h:Nat6 n L S)
include h
theorem Uf:CC yF (lr n [])=some (gI (fe n L S) (mJ n L S)):=by
 refine afz ?_
 unfold Ud fe mJ
 by_cases ho:gK n L S
 ·obtain ⟨X,hX⟩:=adm h ho
  rw[if_pos ho,if_pos ho]
  refine bs hX (bT rfl ?_)
  rfl
 ·obtain ⟨X,hX⟩:=adl h ho
  rw[if_neg ho,if_neg ho]
  refine bs hX (bF rfl ?_)
  refine bs (EZ (we h ho)) ?_
  rfl
end
def cq (L S st fin:Nat) (l:List Ed):Nf:=⟨L,S,st,fin,qf l⟩
structure rM (L S st fin:Nat) (l:List Ed):Prop where
 l1:1≤L
 l6:L≤6
 oD:S≤64
 st:st<2^S
 fin:fin<2^S
 E: ∀e∈l,e.In L S
 len:l.length≤1000000
theorem nE {L S st fin:Nat} {l:List Ed} (h:rM L S st fin l):Nat6 (cq L S st fin l) L S where
 hL:=rfl
 hS:=rfl
 ok:=by
  have uH:=h.l1
  have hl6:=h.l6
  have hs:=h.oD
  have bZ:=h.st
  have jY:=h.fin
  have hp:2^S≤2^64:=Nat.pow_le_pow_right (by omega) hs
  have eF: ∀e∈qf l,e.In L S:=fun e he=>h.E e (wi.1 he)
  have hlen:=adO (L:=L) (S:=S) (by omega) (by omega) (Kq l) eF
  refine ⟨by simp only[cq];omega,by simp only[cq];omega,by simp only[cq];omega,by simp only[cq];omega,by simp only[cq];omega,by simp only[cq];omega,by simp only[cq];unfold maxLen;omega,fun e he=> ?_⟩
  have:=eF e he
  unfold Ed.In at this
  unfold Ed.Ok
  omega
 code:=by
  have uH:=h.l1
  have hl6:=h.l6
  have hs:=h.oD
  unfold Nf.code
  rw[if_neg (by simp only[cq];omega),if_neg (by simp only[cq,Int.toNat_natCast];have:=h.st;have:=h.fin;omega),if_pos]
  intro i hi
  have eF: ∀e∈qf l,e.In L S:=fun e he=>h.E e (wi.1 he)
  unfold Nf.oz
  simp only[cq] at*
  refine ⟨by rw[eO hi];exact eF _ (List.getElem_mem hi),fun h0=> ?_⟩
  rw[eO hi,eO (show i-1<_ by omega)]
  exact List.pairwise_iff_getElem.1 (Kq l) (i-1) i (by omega) hi (by omega)
def KR (m:Da) (e:Int) (n:Nf):List V:=[.int .i64 (m.L:Int),.int .i64 (m.st:Int),.int .i64 e,.int .i64 n.L,.int .i64 n.S,.int .u64 (n.st:Int),.int .u64 (n.fin:Int),.list an (n.E.map Ed.enc),.list ax m.cv,.list aB m.cK]
section
variable {L S st fin:Nat} {l:List Ed} (h:rM L S st fin l)
include h
theorem Ug:CC pK [.int .i64 (L:Int),.int .i64 (S:Int),.int .u64 (st:Int),.int .u64 (fin:Int),.list an (l.map Ed.enc)]=some (KR (fe (cq L S st fin l) L S) (mJ (cq L S st fin l) L S) (cq L S st fin l)):=by
 have hl:=h.len
 obtain ⟨R,e1,p1,s1⟩:=SL.afy l (by omega)
 obtain ⟨b,e2⟩:=Tc (l:=R) (by rw[p1.length_eq];exact hl)
 obtain ⟨c1,c2⟩:=adV s1
 have hc:gM R=qf l:=SZ c1 (Kq l) fun x=>by rw[c2,wi,p1.mem_iff]
 rw[hc] at e2
 have e3:=Uf (nE h)
 refine Ue ?_
 unfold KQ
 refine bs e1 ?_
 refine bs e2 ?_
 cases b
 ·refine bF rfl ?_
  refine bs e3 ?_
  rfl
 ·refine bT rfl ?_
  refine bs e3 ?_
  rfl
end
noncomputable abbrev wQ:Code:=cB Tryd.prog (av.aR 41)
noncomputable def A3 (C:ae) (t40 qn qo:Int) (oN mK:List V) (qp qq:Int) (oO nF:List V) (t41:Int) {β:Type} (kn:Int→Option β) (kr:((Bool) ⊕ (Int × Bool))→Option β):Option β:=
 bif decide ((t41:Int)<t40) then
  (idx oN t41).bind fun x1=>
  (idx oO t41).bind fun x2=>
  bif !(x1.toBool==x2.toBool) then
  kr (.inl false)
  else
  kn (IntKind.wrap .i64 (t41+1))
 else
  kr (.inr (t41,decide ((t41:Int)<t40)))
noncomputable def KS (C:ae) (t40 qn qo:Int) (oN mK:List V) (qp qq:Int) (oO nF:List V):(Int)→Option ((Int) ⊕ ((Bool) ⊕ (Int × Bool))):=fun t41=>A3 C t40 qn qo oN mK qp qq oO nF t41 (fun y=>some (.inl y)) (fun r=>some (.inr r))
noncomputable def A4 (C:ae) (q t58 t59 t80 qn qo:Int) (oN mK:List V) (qp qq:Int) (oO nF:List V) (t81:Int) {β:Type} (kn:Int→Option β) (kr:((Bool) ⊕ (Int × Bool))→Option β):Option β:=
 bif decide ((t81:Int)<t80) then
  (idx mK q).bind fun x9=>
  (idx x9.toList t81).bind fun iA=>
  (idx nF q).bind fun fv=>
  (idx fv.toList t81).bind fun oC=>
  bif (iA.toInt:Int) != oC.toInt then
  kr (.inl false)
  else
  kn (IntKind.wrap .i64 (t81+1))
 else
  kr (.inr (t81,decide ((t81:Int)<t80)))
noncomputable def KT (C:ae) (q t58 t59 t80 qn qo:Int) (oN mK:List V) (qp qq:Int) (oO nF:List V):(Int)→Option ((Int) ⊕ ((Bool) ⊕ (Int × Bool))):=fun t81=>A4 C q t58 t59 t80 qn qo oN mK qp qq oO nF t81 (fun y=>some (.inl y)) (fun r=>some (.inr r))
noncomputable def A5 (C:ae) (t58 qn qo:Int) (oN mK:List V) (qp qq:Int) (oO nF:List V) (t59:Int) {β:Type} (kn:Int→Option β) (kr:((Bool) ⊕ (Int × Bool))→Option β):Option β:=
 bif decide ((t59:Int)<t58) then
  (idx mK t59).bind fun x6=>
  (idx nF t59).bind fun x7=>
  bif ((x6.toList.length:Int):Int) != (x7.toList.length:Int) then
  kr (.inl false)
  else
  (idx mK t59).bind fun x8=>
  (Loop (KT C t59 t58 t59 (x8.toList.length:Int) qn qo oN mK qp qq oO nF) 0).bind (c8 (fun (rr:Bool)=>
   kr (.inl rr)) (un fun (Ec:Int) (aht:Bool)=>
   kn (IntKind.wrap .i64 (t59+1))))
 else
  kr (.inr (t59,decide ((t59:Int)<t58)))
noncomputable def KU (C:ae) (t58 qn qo:Int) (oN mK:List V) (qp qq:Int) (oO nF:List V):(Int)→Option ((Int) ⊕ ((Bool) ⊕ (Int × Bool))):=fun t59=>A5 C t58 qn qo oN mK qp qq oO nF t59 (fun y=>some (.inl y)) (fun r=>some (.inr r))
noncomputable def Uh (C:ae):ct:=fun β n ds k=>
 bif Nat.beq n 65 then bB It [false,true,false,false,false,false,false,false,false,false] [[0],[1,0,0,3,4,5,6,7,8,9,10]] (@A3 C) ds k else
 bif Nat.beq n 241 then bB Iu [false,false,false,false,true,false,false,false,false,false,false,false,false] [[0],[1,2,3,4,0,0,6,7,8,9,10,11,12,13]] (@A4 C) ds k else
 bif Nat.beq n 161 then bB Iv [false,true,false,false,false,false,false,false,false,false] [[0],[1,0,0,3,4,5,6,7,8,9,10]] (@A5 C) ds k else
 none
abbrev KV (C:ae) (b:cm):Prop:=cp Tryd.prog av C (Uh C) 41 (cI Tryd.prog (av.aR 41)) (av.sin 41).aP.length b
theorem afA (C:ae):KV C (.loop (ao [1,1,0,1,0,0] wQ)):=
 bE It [false,true,false,false,false,false,false,false,false,false] [[0],[1,0,0,3,4,5,6,7,8,9,10]] (@A3 C) (by kernel_rfl) (aY (bs:=[]) (by kernel_rfl) aw) (fun ds=>by kernel_rfl) (fun i x=>by kernel_rfl) (fun i x β k=>by kernel_rfl) (fun β ds k=>by kernel_rfl)
theorem afB (C:ae):KV C (.loop (ao [1,1,1,0,1,0,0,1,1,0,0,1,1,1,0,0] wQ)):=
 bE Iu [false,false,false,false,true,false,false,false,false,false,false,false,false] [[0],[1,2,3,4,0,0,6,7,8,9,10,11,12,13]] (@A4 C) (by kernel_rfl) (aY (bs:=[]) (by kernel_rfl) aw) (fun ds=>by kernel_rfl) (fun i x=>by kernel_rfl) (fun i x β k=>by kernel_rfl) (fun β ds k=>by kernel_rfl)
theorem afC (C:ae):KV C (.loop (ao [1,1,1,0,1,0,0] wQ)):=
 bE Iv [false,true,false,false,false,false,false,false,false,false] [[0],[1,0,0,3,4,5,6,7,8,9,10]] (@A5 C) (by kernel_rfl) (aY (bs:=[.loop (ao [1,1,1,0,1,0,0,1,1,0,0,1,1,1,0,0] wQ)]) (by kernel_rfl) (bn (afB C) aw)) (fun ds=>by kernel_rfl) (fun i x=>by kernel_rfl) (fun i x β k=>by kernel_rfl) (fun β ds k=>by kernel_rfl)
noncomputable def Ui (C:ae) (ia jb:Int) (iE iF:List V) (iG jc:Int) (jd je:List V):Option (List V):=
 bif (ia:Int) != iG then
  some [.bool false]
 else
  bif (jb:Int) != jc then
  some [.bool false]
  else
  bif ((iE.length:Int):Int) != (jd.length:Int) then
   some [.bool false]
  else
   bif ((iF.length:Int):Int) != (je.length:Int) then
   some [.bool false]
   else
   (Loop (KS C (iE.length:Int) ia jb iE iF iG jc jd je) 0).bind (c8 (fun (jS:Bool)=>
    some [.bool jS]) (un fun (ku:Int) (mn:Bool)=>
    (Loop (KU C (iF.length:Int) ia jb iE iF iG jc jd je) 0).bind (c8 (fun (EA:Bool)=>
     some [.bool EA]) (un fun (ahu:Int) (SR:Bool)=>
     some [.bool true]))))
theorem afD {ia jb:Int} {iE iF:List V} {iG jc:Int} {jd je:List V} {r:Option (List V)} (h:Ui CC ia jb iE iF iG jc jd je=r):CC th [.int .i64 ia,.int .i64 jb,.list ax iE,.list aB iF,.int .i64 iG,.int .i64 jc,.list ax jd,.list aB je]=r:=
 bp (key:=41) (L:=Uh CC) (bs:=[.loop (ao [1,1,0,1,0,0] wQ),.loop (ao [1,1,1,0,1,0,0] wQ)]) (by kernel_rfl) (bn (afA CC) (bn (afC CC) aw)) (Eq.trans (by kernel_rfl) h)
section
variable {a b:Da} (ha:a.Ok) (hb:b.Ok) (hL:a.L=b.L) {op:Nat}
include ha hb hL
end
theorem afE (m:Da) (hn:m.n≤1000000) (hl:m.L≤1000):CC th (lz m (dy m))=some [.bool true]:=by
 refine afD ?_
 unfold Ui
 refine bF (by simp) (bF (by simp) (bF (by simp) (bF (by simp) ?_)))
 rw[Da.kA]
 refine bs (fK m.n (fun i=>(i:Int)) (.inr ((m.n:Int),false)) (fun i hi=> ?_) ?_) ?_
 ·simp only[KS,A3]
  refine bT (eD hi) ?_
  refine bs (Da.tE hi) ?_
  refine bs (Da.tE hi) ?_
  refine bF (by simp) ?_
  rw[dm (by omega)]
 ·simp only[KS,A3]
  refine bF (bN (Nat.le_refl _)) ?_
  rw[bN (Nat.le_refl _)]
 ·simp only[c8,un]
  rw[Da.Rz]
  refine bs (fK m.n (fun i=>(i:Int)) (.inr ((m.n:Int),false)) (fun i hi=> ?_) ?_) ?_
  ·simp only[KU,A5]
   refine bT (eD hi) ?_
   refine bs (Da.p7 hi) ?_
   refine bs (Da.p7 hi) ?_
   refine bF (by simp) ?_
   refine bs (Da.p7 hi) ?_
   rw[ry,eP]
   refine bs (fK m.L (fun x=>(x:Int)) (.inr ((m.L:Int),false)) (fun x hx=> ?_) ?_) ?_
   ·simp only[KT,A4]
    refine bT (eD hx) ?_
    refine bs (Da.p7 hi) ?_
    rw[ry]
    refine bs (tF hx) ?_
    refine bs (Da.p7 hi) ?_
    rw[ry]
    refine bs (tF hx) ?_
    refine bF (by simp) ?_
    rw[dm (by omega)]
   ·simp only[KT,A4]
    refine bF (bN (Nat.le_refl _)) ?_
    rw[bN (Nat.le_refl _)]
   ·simp only[c8,un]
    rw[dm (by omega)]
  ·simp only[KU,A5]
   refine bF (bN (Nat.le_refl _)) ?_
   rw[bN (Nat.le_refl _)]
  ·rfl
theorem Da.Ok.same {m:Da} (h:m.Ok):CC th (lz m (dy m))=some [.bool true]:=afE m (by have:=h.ei;omega) (by have:=h.l6;omega)
end Go.AM
set_option maxRecDepth 100000
namespace Go.AM
open Go.Proofs
namespace Da
def A6 (a:Da) (k q:Nat):Prop:= ∃w,WL a.L w∧w.length≤k∧a.acc q w=true
def Live (a:Da) (q:Nat):Prop:= ∃w,WL a.L w∧a.acc q w=true
open Classical in
noncomputable def F8 (a:Da) (q:Nat):Bool:=decide (a.Live q)
theorem A6.live {a:Da} {k q:Nat} (h:a.A6 k q):a.Live q:=by obtain ⟨w,h1,_,h3⟩:=h;exact ⟨w,h1,h3⟩
theorem A6.mono {a:Da} {k m q:Nat} (h:a.A6 k q) (hk:k≤m):a.A6 m q:=by obtain ⟨w,h1,h2,h3⟩:=h;exact ⟨w,h1,by omega,h3⟩
end Da
def bV (n:Nat) (r:Nat→Bool):List V:=tab n fun q=>V.bool (r q)
def upd (r:Nat→Bool) (p:Nat) (b:Bool) (q:Nat):Bool:=if q=p then b else r q
structure LvI (a:Da) (r0 r:Nat→Bool) (c:Bool):Prop where
 good: ∀q,q<a.n→r q=true→a.Live q
 up: ∀q,q<a.n→r0 q=true→r q=true
 yes:c=true→∃q,q<a.n∧r0 q=false∧r q=true
 no:c=false→∀q,q<a.n→r q=r0 q
section
variable {a:Da} (h:a.Ok)
include h
end
section
variable {a:Da} (h:a.Ok)
include h
end
end Go.AM
set_option maxRecDepth 100000
namespace Go.AM
open Go.Proofs
noncomputable def KW (C:ae) (bI ly:Int):Option (List V):=
 bif decide ((ly:Int)>64) then
  some [V.bool true]
 else
  some [V.bool false,.int .i64 bI,.int .i64 ly,.int .u64 0,.int .u64 0,.list an ([]:List V)]
theorem Uj {bI ly:Int} {r:Option (List V)} (h:KW CC bI ly=r):CC tj [.int .i64 bI,.int .i64 ly]=r:=
 bp (key:=61) (L:=cR) (bs:=[]) (by kernel_rfl) aw (Eq.trans (by kernel_rfl) h)
noncomputable def Uk (C:ae) (A7 letter to a8 aV ba bc:Int) (bd:List V):Option (List V):=
 bif Nat.ble ((bd.length+([.agg [.int .i64 A7,.int .i64 letter,.int .i64 to]]:List V).length)*24) b7 then
  some [.int .i64 a8,.int .i64 aV,.int .u64 ba,.int .u64 bc,.list an (bd++([.agg [.int .i64 A7,.int .i64 letter,.int .i64 to]]:List V))]
 else none
theorem afF {A7 letter to a8 aV ba bc:Int} {bd:List V} {r:Option (List V)} (h:Uk CC A7 letter to a8 aV ba bc bd=r):CC tk [.int .i64 A7,.int .i64 letter,.int .i64 to,.int .i64 a8,.int .i64 aV,.int .u64 ba,.int .u64 bc,.list an bd]=r:=
 bp (key:=62) (L:=cR) (bs:=[]) (by kernel_rfl) aw (Eq.trans (by kernel_rfl) h)
noncomputable def Ul (C:ae) (q a8 aV ba bc:Int) (bd:List V):Option (List V):=
 bif decide (0≤q) then
  some [.int .i64 a8,.int .i64 aV,.int .u64 (IntKind.wrap .u64 ((BitVec.ofInt (IntKind.bits .u64) ba|||BitVec.ofInt (IntKind.bits .u64) (IntKind.wrap .u64 (1*2^(min q.toNat (IntKind.bits .u64))))).toNat)),.int .u64 bc,.list an bd]
 else none
theorem afG {q a8 aV ba bc:Int} {bd:List V} {r:Option (List V)} (h:Ul CC q a8 aV ba bc bd=r):CC tm [.int .i64 q,.int .i64 a8,.int .i64 aV,.int .u64 ba,.int .u64 bc,.list an bd]=r:=
 bp (key:=63) (L:=cR) (bs:=[]) (by kernel_rfl) aw (Eq.trans (by kernel_rfl) h)
noncomputable def Um (C:ae) (q a8 aV ba bc:Int) (bd:List V):Option (List V):=
 bif decide (0≤q) then
  some [.int .i64 a8,.int .i64 aV,.int .u64 ba,.int .u64 (IntKind.wrap .u64 ((BitVec.ofInt (IntKind.bits .u64) bc|||BitVec.ofInt (IntKind.bits .u64) (IntKind.wrap .u64 (1*2^(min q.toNat (IntKind.bits .u64))))).toNat)),.list an bd]
 else none
theorem afH {q a8 aV ba bc:Int} {bd:List V} {r:Option (List V)} (h:Um CC q a8 aV ba bc bd=r):CC yD [.int .i64 q,.int .i64 a8,.int .i64 aV,.int .u64 ba,.int .u64 bc,.list an bd]=r:=
 bp (key:=69) (L:=cR) (bs:=[]) (by kernel_rfl) aw (Eq.trans (by kernel_rfl) h)
noncomputable abbrev Un:Code:=cB Tryd.prog (av.aR 64)
noncomputable def A8 (C:ae) (offset:Int) (t8:List V) (t9 t10 a8 aV ba bc:Int) (cS:List V) {β:Type} (kn:(Int × Int × Int × Int × Int × (List V))→Option β) (kr:(Int × Bool × Int × Int × Int × Int × (List V))→Option β):Option β:=
 bif decide ((t10:Int)<t9) then
  (idx t8 t10).bind fun x1=>
  bif x1.toBool then
  (C yD [.int .i64 (IntKind.wrap .i64 (t10+offset)),.int .i64 a8,.int .i64 aV,.int .u64 ba,.int .u64 bc,.list an cS]).bind fun r2=>
  kn (IntKind.wrap .i64 (t10+1),(V.nth r2 0).toInt,(V.nth (r2.drop 1) 0).toInt,(V.nth ((r2.drop 1).drop 1) 0).toInt,(V.nth (((r2.drop 1).drop 1).drop 1) 0).toInt,(V.nth (r2.drop 4) 0).toList)
  else
  kn (IntKind.wrap .i64 (t10+1),a8,aV,ba,bc,cS)
 else
  kr (t10,decide ((t10:Int)<t9),a8,aV,ba,bc,cS)
noncomputable def KX (C:ae) (offset:Int) (t8:List V) (t9:Int):(Int × Int × Int × Int × Int × (List V))→Option ((Int × Int × Int × Int × Int × (List V)) ⊕ (Int × Bool × Int × Int × Int × Int × (List V))):=un fun t10=>un fun a8=>un fun aV=>un fun ba=>un fun bc cS=>A8 C offset t8 t9 t10 a8 aV ba bc cS (fun y=>some (.inl y)) (fun r=>some (.inr r))
noncomputable def Uo (C:ae):ct:=fun β n ds k=>
 bif Nat.beq n 17 then bB IB [false,false,false,true,true,true,true,true,true] [[1,2,3,0,0,0,0,0,0,0]] (@A8 C) ds k else
 none
abbrev afI (C:ae) (b:cm):Prop:=cp Tryd.prog av C (Uo C) 64 (cI Tryd.prog (av.aR 64)) (av.sin 64).aP.length b
theorem afJ (C:ae):afI C (.loop (ao [1,0,0] Un)):=
 bE IB [false,false,false,true,true,true,true,true,true] [[1,2,3,0,0,0,0,0,0,0]] (@A8 C) (by kernel_rfl) (aY (bs:=[]) (by kernel_rfl) aw) (fun ds=>by kernel_rfl) (fun i x=>by kernel_rfl) (fun i x β k=>by kernel_rfl) (fun β ds k=>by kernel_rfl)
noncomputable def Up (C:ae) (final:List V) (offset a8 aV ba bc:Int) (bd:List V):Option (List V):=
 (Loop (KX C offset final (final.length:Int)) (0,a8,aV,ba,bc,bd)).bind (un fun (jS:Int)=>un fun (ku:Bool)=>un fun (afK:Int)=>un fun (A9:Int)=>un fun (uc:Int)=>un fun (ud:Int) (b_9:List V)=>
  some [.int .i64 afK,.int .i64 A9,.int .u64 uc,.int .u64 ud,.list an b_9])
theorem afL {final:List V} {offset a8 aV ba bc:Int} {bd:List V} {r:Option (List V)} (h:Up CC final offset a8 aV ba bc bd=r):CC tn [.list ax final,.int .i64 offset,.int .i64 a8,.int .i64 aV,.int .u64 ba,.int .u64 bc,.list an bd]=r:=
 bp (key:=64) (L:=Uo CC) (bs:=[.loop (ao [1,0,0] Un)]) (by kernel_rfl) (bn (afJ CC) aw) (Eq.trans (by kernel_rfl) h)
noncomputable abbrev Fx:Code:=cB Tryd.prog (av.aR 73)
noncomputable def Ba (C:ae) (offset p:Int) (t11:List V) (t12 t13:Int) (t18:List V) (t19 t20 a8 aV ba bc:Int) (cS:List V) {β:Type} (kn:(Int × Int × Int × Int × Int × (List V))→Option β) (kr:(Int × Bool × Int × Int × Int × Int × (List V))→Option β):Option β:=
 bif decide ((t20:Int)<t19) then
  (idx t18 t20).bind fun x2=>
  (C tk [.int .i64 (IntKind.wrap .i64 (p+offset)),.int .i64 t20,.int .i64 (IntKind.wrap .i64 (x2.toInt+offset)),.int .i64 a8,.int .i64 aV,.int .u64 ba,.int .u64 bc,.list an cS]).bind fun r3=>
  kn (IntKind.wrap .i64 (t20+1),(V.nth r3 0).toInt,(V.nth (r3.drop 1) 0).toInt,(V.nth ((r3.drop 1).drop 1) 0).toInt,(V.nth (((r3.drop 1).drop 1).drop 1) 0).toInt,(V.nth (r3.drop 4) 0).toList)
 else
  kr (t20,decide ((t20:Int)<t19),a8,aV,ba,bc,cS)
noncomputable def KY (C:ae) (offset p:Int) (t11:List V) (t12 t13:Int) (t18:List V) (t19:Int):(Int × Int × Int × Int × Int × (List V))→Option ((Int × Int × Int × Int × Int × (List V)) ⊕ (Int × Bool × Int × Int × Int × Int × (List V))):=un fun t20=>un fun a8=>un fun aV=>un fun ba=>un fun bc cS=>Ba C offset p t11 t12 t13 t18 t19 t20 a8 aV ba bc cS (fun y=>some (.inl y)) (fun r=>some (.inr r))
noncomputable def Bb (C:ae) (offset:Int) (t11:List V) (t12 t13 a8 aV ba bc:Int) (cS:List V) {β:Type} (kn:(Int × Int × Int × Int × Int × (List V))→Option β) (kr:(Int × Bool × Int × Int × Int × Int × (List V))→Option β):Option β:=
 bif decide ((t13:Int)<t12) then
  (idx t11 t13).bind fun x1=>
  (Loop (KY C offset t13 t11 t12 t13 x1.toList (x1.toList.length:Int)) (0,a8,aV,ba,bc,cS)).bind (un fun (ku:Int)=>un fun (mn:Bool)=>un fun (A9:Int)=>un fun (uc:Int)=>un fun (ud:Int)=>un fun (qs:Int) (v9:List V)=>
   kn (IntKind.wrap .i64 (t13+1),A9,uc,ud,qs,v9))
 else
  kr (t13,decide ((t13:Int)<t12),a8,aV,ba,bc,cS)
noncomputable def KZ (C:ae) (offset:Int) (t11:List V) (t12:Int):(Int × Int × Int × Int × Int × (List V))→Option ((Int × Int × Int × Int × Int × (List V)) ⊕ (Int × Bool × Int × Int × Int × Int × (List V))):=un fun t13=>un fun a8=>un fun aV=>un fun ba=>un fun bc cS=>Bb C offset t11 t12 t13 a8 aV ba bc cS (fun y=>some (.inl y)) (fun r=>some (.inr r))
noncomputable def Uq (C:ae):ct:=fun β n ds k=>
 bif Nat.beq n 81 then bB IC [false,false,false,false,false,false,false,true,true,true,true,true,true] [[1,2,3,4,5,6,7,0,0,0,0,0,0,0]] (@Ba C) ds k else
 bif Nat.beq n 33 then bB ID [false,false,false,true,true,true,true,true,true] [[1,2,3,0,0,0,0,0,0,0]] (@Bb C) ds k else
 none
abbrev Ur (C:ae) (b:cm):Prop:=cp Tryd.prog av C (Uq C) 73 (cI Tryd.prog (av.aR 73)) (av.sin 73).aP.length b
theorem afM (C:ae):Ur C (.loop (ao [1,1,0,0,1,1,0,0,1,1,0,0] Fx)):=
 bE IC [false,false,false,false,false,false,false,true,true,true,true,true,true] [[1,2,3,4,5,6,7,0,0,0,0,0,0,0]] (@Ba C) (by kernel_rfl) (aY (bs:=[]) (by kernel_rfl) aw) (fun ds=>by kernel_rfl) (fun i x=>by kernel_rfl) (fun i x β k=>by kernel_rfl) (fun β ds k=>by kernel_rfl)
theorem afN (C:ae):Ur C (.loop (ao [1,1,0,0] Fx)):=
 bE ID [false,false,false,true,true,true,true,true,true] [[1,2,3,0,0,0,0,0,0,0]] (@Bb C) (by kernel_rfl) (aY (bs:=[.loop (ao [1,1,0,0,1,1,0,0,1,1,0,0] Fx)]) (by kernel_rfl) (bn (afM C) aw)) (fun ds=>by kernel_rfl) (fun i x=>by kernel_rfl) (fun i x β k=>by kernel_rfl) (fun β ds k=>by kernel_rfl)
noncomputable def Us (C:ae) (aT aW:Int) (aL aU:List V) (offset a8 aV ba bc:Int) (bd:List V):Option (List V):=
 (Loop (KZ C offset aU (aU.length:Int)) (0,a8,aV,ba,bc,bd)).bind (un fun (SN:Int)=>un fun (EY:Bool)=>un fun (afO:Int)=>un fun (K0:Int)=>un fun (K1:Int)=>un fun (K3:Int) (zK:List V)=>
  some [.int .i64 afO,.int .i64 K0,.int .u64 K1,.int .u64 K3,.list an zK])
theorem afP {aT aW:Int} {aL aU:List V} {offset a8 aV ba bc:Int} {bd:List V} {r:Option (List V)} (h:Us CC aT aW aL aU offset a8 aV ba bc bd=r):CC tp [.int .i64 aT,.int .i64 aW,.list ax aL,.list aB aU,.int .i64 offset,.int .i64 a8,.int .i64 aV,.int .u64 ba,.int .u64 bc,.list an bd]=r:=
 bp (key:=73) (L:=Uq CC) (bs:=[.loop (ao [1,1,0,0] Fx)]) (by kernel_rfl) (bn (afN CC) aw) (Eq.trans (by kernel_rfl) h)
noncomputable abbrev Ut:Code:=cB Tryd.prog (av.aR 74)
noncomputable def Bc (C:ae) (final:List V) (to t14:Int) (Fy:List V) (t15 a8 aV ba bc:Int) (oP:List V) {β:Type} (kn:(Int × Int × Int × Int × Int × (List V))→Option β) (kr:(Int × Bool × Int × Int × Int × Int × (List V))→Option β):Option β:=
 bif decide ((t15:Int)<t14) then
  bif (decide (0≤t15))&&(decide (t15<(Fy.length:Int))) then
  (Fy[(t15:Int).toNat]?).bind fun x1=>
  bif decide ((((x1.cell 2).toInt):Int)<(final.length:Int)) then
   (idx final ((x1.cell 2).toInt)).bind fun x2=>
   bif x2.toBool then
   (C tk [.int .i64 ((x1.cell 0).toInt),.int .i64 ((x1.cell 1).toInt),.int .i64 to,.int .i64 a8,.int .i64 aV,.int .u64 ba,.int .u64 bc,.list an oP]).bind fun r3=>
   kn (IntKind.wrap .i64 (t15+1),(V.nth r3 0).toInt,(V.nth (r3.drop 1) 0).toInt,(V.nth ((r3.drop 1).drop 1) 0).toInt,(V.nth (((r3.drop 1).drop 1).drop 1) 0).toInt,(V.nth (r3.drop 4) 0).toList)
   else
   kn (IntKind.wrap .i64 (t15+1),a8,aV,ba,bc,oP)
  else
   kn (IntKind.wrap .i64 (t15+1),a8,aV,ba,bc,oP)
  else none
 else
  kr (t15,decide ((t15:Int)<t14),a8,aV,ba,bc,oP)
noncomputable def K4 (C:ae) (final:List V) (to t14:Int) (Fy:List V):(Int × Int × Int × Int × Int × (List V))→Option ((Int × Int × Int × Int × Int × (List V)) ⊕ (Int × Bool × Int × Int × Int × Int × (List V))):=un fun t15=>un fun a8=>un fun aV=>un fun ba=>un fun bc oP=>Bc C final to t14 Fy t15 a8 aV ba bc oP (fun y=>some (.inl y)) (fun r=>some (.inr r))
noncomputable def Uu (C:ae):ct:=fun β n ds k=>
 bif Nat.beq n 17 then bB IE [false,false,false,true,true,true,true,true,false,true] [[1,2,3,0,0,0,0,0,0,9,0]] (@Bc C) ds k else
 none
abbrev afQ (C:ae) (b:cm):Prop:=cp Tryd.prog av C (Uu C) 74 (cI Tryd.prog (av.aR 74)) (av.sin 74).aP.length b
theorem afR (C:ae):afQ C (.loop (ao [1,0,0] Ut)):=
 bE IE [false,false,false,true,true,true,true,true,false,true] [[1,2,3,0,0,0,0,0,0,9,0]] (@Bc C) (by kernel_rfl) (aY (bs:=[]) (by kernel_rfl) aw) (fun ds=>by kernel_rfl) (fun i x=>by kernel_rfl) (fun i x β k=>by kernel_rfl) (fun β ds k=>by kernel_rfl)
noncomputable def Uv (C:ae) (final:List V) (to a8 aV ba bc:Int) (bd:List V):Option (List V):=
 bif Nat.ble (bd.length*24) b7 then
  (Loop (K4 C final to (bd.length:Int) bd) (0,a8,aV,ba,bc,bd)).bind (un fun (ku:Int)=>un fun (mn:Bool)=>un fun (A9:Int)=>un fun (uc:Int)=>un fun (ud:Int)=>un fun (qs:Int) (v9:List V)=>
   some [.int .i64 A9,.int .i64 uc,.int .u64 ud,.int .u64 qs,.list an v9])
 else none
theorem afS {final:List V} {to a8 aV ba bc:Int} {bd:List V} {r:Option (List V)} (h:Uv CC final to a8 aV ba bc bd=r):CC yE [.list ax final,.int .i64 to,.int .i64 a8,.int .i64 aV,.int .u64 ba,.int .u64 bc,.list an bd]=r:=
 bp (key:=74) (L:=Uu CC) (bs:=[.loop (ao [1,0,0] Ut)]) (by kernel_rfl) (bn (afR CC) aw) (Eq.trans (by kernel_rfl) h)
def db (p x q:Nat):Ed:=⟨(p:Int),(x:Int),(q:Int)⟩
def aN (L S:Nat) (st fin:Nat) (l:List Ed):List V:=[.int .i64 (L:Int),.int .i64 (S:Int),.int .u64 (st:Int),.int .u64 (fin:Int),.list an (l.map Ed.enc)]
def fm (n:Nat) (g:Nat→List Ed):List Ed:=(List.range n).flatMap g
theorem afT {g:Nat→List Ed}:fm 0 g=[]:=rfl
theorem K5 {n:Nat} {g:Nat→List Ed}:fm (n+1) g=fm n g++g n:=by simp[fm,List.range_succ]
theorem Uw {n:Nat} {g:Nat→List Ed} {e:Ed}:e∈fm n g↔∃i,i<n∧e∈g i:=by simp[fm]
theorem K6 {n k:Nat} {g:Nat→List Ed} (h: ∀i,i<n→(g i).length≤k):(fm n g).length≤n*k:=by
 induction n with
 | zero=>simp[fm]
 | succ n ih=>
  rw[K5,List.length_append,Nat.succ_mul]
  have:=ih fun i hi=>h i (by omega)
  have:=h n (by omega)
  omega
theorem wR {X R:Type} {step:X→Option (X ⊕ R)} (n:Nat) (s:Nat→X) (r:R) {x:X} (hx:x=s 0) (h: ∀i,i<n→step (s i)=some (.inl (s (i+1)))) (he:step (s n)=some (.inr r)):Loop step x=some r:=by rw[hx];exact fK n s r h he
theorem ue {a b:Nat} (h:a+b≤1000000000):IntKind.wrap .i64 ((a:Int)+(b:Int))=((a+b:Nat):Int):=by rw[wrap64 (by omega) (by omega)];omega
theorem afU {l:List Ed} {p x q:Nat}:l.map Ed.enc++[V.agg [.int .i64 (p:Int),.int .i64 (x:Int),.int .i64 (q:Int)]]=(l++[db p x q]).map Ed.enc:=by simp[db,Ed.enc]
section
variable {L S st fin:Nat} {l:List Ed}
theorem Fz {p x q:Nat} (h:l.length≤1000000):CC tk [.int .i64 (p:Int),.int .i64 (x:Int),.int .i64 (q:Int),.int .i64 (L:Int),.int .i64 (S:Int),.int .u64 (st:Int),.int .u64 (fin:Int),.list an (l.map Ed.enc)]=some (aN L S st fin (l++[db p x q])):=by
 refine afF ?_
 unfold Uk
 refine bT (cap (by simp;omega) (by omega)) ?_
 rw[afU];rfl
theorem FA {q:Nat} (hq:q<64) (hs:st<2^64):CC tm [.int .i64 (q:Int),.int .i64 (L:Int),.int .i64 (S:Int),.int .u64 (st:Int),.int .u64 (fin:Int),.list an (l.map Ed.enc)]=some (aN L S (st|||2^q) fin l):=by
 refine afG ?_
 unfold Ul
 refine bT (decide_eq_true (by omega)) ?_
 rw[Int.toNat_natCast,D3 hq,u64_or hs (Nat.pow_lt_pow_right (by omega) hq)];rfl
theorem Ux {q:Nat} (hq:q<64) (hs:fin<2^64):CC yD [.int .i64 (q:Int),.int .i64 (L:Int),.int .i64 (S:Int),.int .u64 (st:Int),.int .u64 (fin:Int),.list an (l.map Ed.enc)]=some (aN L S st (fin|||2^q) l):=by
 refine afH ?_
 unfold Um
 refine bT (decide_eq_true (by omega)) ?_
 rw[Int.toNat_natCast,D3 hq,u64_or hs (Nat.pow_lt_pow_right (by omega) hq)];rfl
theorem K7 (h:S≤64):CC tj [.int .i64 (L:Int),.int .i64 (S:Int)]=some (.bool false::aN L S 0 0 []):=by
 refine Uj ?_
 unfold KW
 exact bF (decide_eq_false (by omega)) rfl
theorem Uy (h:64<S):CC tj [.int .i64 (L:Int),.int .i64 (S:Int)]=some [.bool true]:=by
 refine Uj ?_
 unfold KW
 exact bT (decide_eq_true (by omega)) rfl
def fY (fin:Nat) (f:Nat→Bool) (off:Nat):Nat→Nat
 | 0=>fin
 | i+1=>if f i=true then fY fin f off i|||2^(i+off) else fY fin f off i
theorem FB {f:Nat→Bool} {off:Nat}: ∀{n j:Nat},(fY fin f off n).testBit j=(fin.testBit j||(decide (off≤j∧j<n+off)&&f (j-off)))
 | 0,j=>by
  rw[decide_eq_false (by omega)];simp[fY]
 | n+1,j=>by
  unfold fY
  by_cases hf:f n=true
  ·rw[if_pos hf,Nat.testBit_or,FB,Nat.testBit_two_pow]
   by_cases hj:j=n+off
   ·subst hj
    rw[decide_eq_true (p:=n+off=n+off) rfl,decide_eq_true (p:=off≤n+off∧n+off<n+1+off) (by omega),show n+off-off=n by omega,hf];simp
   ·rw[decide_eq_false (p:=n+off=j) (by omega)]
    have:(off≤j∧j<n+off)↔(off≤j∧j<n+1+off):=by omega
    simp only[this,Bool.or_false]
  ·rw[if_neg hf,FB]
   by_cases hj:j=n+off
   ·subst hj
    rw[show n+off-off=n by omega,Bool.eq_false_iff.2 hf];simp
   ·have:(off≤j∧j<n+off)↔(off≤j∧j<n+1+off):=by omega
    simp only[this]
theorem Bd {f:Nat→Bool} {off k:Nat} (hf:fin<2^k): ∀{n:Nat},n+off≤k→fY fin f off n<2^k
 | 0,_=>hf
 | n+1,h=>by
  unfold fY
  have ih:=Bd (f:=f) (off:=off) hf (n:=n) (by omega)
  split
  ·exact Nat.or_lt_two_pow ih (Nat.pow_lt_pow_right (by omega) (by omega))
  ·exact ih
theorem K8 {n off:Nat} {f:Nat→Bool} (ho:n+off≤64) (hs:fin<2^64):CC tn [.list ax (bV n f),.int .i64 (off:Int),.int .i64 (L:Int),.int .i64 (S:Int),.int .u64 (st:Int),.int .u64 (fin:Int),.list an (l.map Ed.enc)]=some (aN L S st (fY fin f off n) l):=by
 refine afL ?_
 unfold Up
 rw[show (bV n f).length=n from eP]
 refine bs (fK n (fun i=>((i:Int),(L:Int),(S:Int),(st:Int),(fY fin f off i:Int),l.map Ed.enc)) ((n:Int),false,(L:Int),(S:Int),(st:Int),(fY fin f off n:Int),l.map Ed.enc) (fun i hi=> ?_) ?_) ?_
 ·simp only[KX,A8,un]
  refine bT (eD hi) ?_
  refine bs (p6 hi) ?_
  have aK:=Bd (f:=f) (off:=off) hs (n:=i) (by omega)
  cases hf:f i with
  | true=>
   refine bT rfl ?_
   rw[ue (by omega)]
   refine bs (Ux (by omega) aK) ?_
   rw[dm (by omega),show fY fin f off (i+1)=fY fin f off i|||2^(i+off) from if_pos hf]
   rfl
  | false=>
   refine bF rfl ?_
   rw[dm (by omega),show fY fin f off (i+1)=fY fin f off i from if_neg (by rw[hf];simp)]
 ·simp only[KX,A8,un]
  refine bF (bN (Nat.le_refl _)) ?_
  rw[bN (Nat.le_refl _)]
 ·rfl
def rN (a:Da) (off p:Nat):List Ed:=tab a.L fun x=>db (p+off) x (a.nx p x+off)
def dH (a:Da) (off:Nat):List Ed:=fm a.n (rN a off)
theorem uf {a:Da} {off:Nat} {e:Ed}:e∈dH a off↔∃p x,p<a.n∧x<a.L∧e=db (p+off) x (a.nx p x+off):=by
 unfold dH rN
 rw[Uw]
 constructor
 ·rintro ⟨p,hp,he⟩
  obtain ⟨x,hx,rfl⟩:=vQ.1 he
  exact ⟨p,x,hp,hx,rfl⟩
 ·rintro ⟨p,x,hp,hx,rfl⟩
  exact ⟨p,hp,vQ.2 ⟨x,hx,rfl⟩⟩
theorem qt {a:Da} (h:a.Ok) {off:Nat} {n:Nat}:(fm n (rN a off)).length≤n*6:=K6 fun p _=>by unfold rN;rw[eP];exact h.l6
theorem FC {a:Da} (h:a.Ok) {off:Nat} (ho:off≤1000) (hl:l.length≤100000):CC tp (lz a [.int .i64 (off:Int),.int .i64 (L:Int),.int .i64 (S:Int),.int .u64 (st:Int),.int .u64 (fin:Int),.list an (l.map Ed.enc)])=some (aN L S st fin (l++dH a off)):=by
 have hn:=h.ei
 have h6:=h.l6
 refine afP ?_
 unfold Us
 rw[show a.cK.length=a.n from eP]
 refine bs (wR a.n (fun i=>((i:Int),(L:Int),(S:Int),(st:Int),(fin:Int),(l++fm i (rN a off)).map Ed.enc)) ((a.n:Int),false,(L:Int),(S:Int),(st:Int),(fin:Int),(l++dH a off).map Ed.enc) (by rw[afT,List.append_nil];rfl) (fun p hp=> ?_) ?_) ?_
 ·have hlen:=qt h (off:=off) (n:=p)
  simp only[KZ,Bb,un]
  refine bT (eD hp) ?_
  refine bs (p6 hp) ?_
  rw[show (jA a.L (a.nx p)).toList=tab a.L fun x=>nV (a.nx p x) from rfl,eP]
  refine bs (wR a.L (fun i=>((i:Int),(L:Int),(S:Int),(st:Int),(fin:Int),((l++fm p (rN a off))++tab i fun x=>db (p+off) x (a.nx p x+off)).map Ed.enc)) ((a.L:Int),false,(L:Int),(S:Int),(st:Int),(fin:Int),((l++fm p (rN a off))++rN a off p).map Ed.enc) (by rw[JX,List.append_nil];rfl) (fun x hx=> ?_) ?_) ?_
  ·have hq:=h.dQ hp hx
   simp only[KY,Ba,un]
   refine bT (eD hx) ?_
   refine bs (p6 hx) ?_
   rw[show (nV (a.nx p x)).toInt=((a.nx p x:Nat):Int) from rfl,ue (by omega),ue (by omega)]
   refine bs (Fz (by rw[List.length_append,List.length_append,eP];omega)) ?_
   rw[dm (by omega),rv,←List.append_assoc]
   rfl
  ·simp only[KY,Ba,un]
   refine bF (bN (Nat.le_refl _)) ?_
   rw[bN (Nat.le_refl _)]
   rfl
  ·simp only[un]
   rw[dm (by omega),K5,←List.append_assoc]
 ·simp only[KZ,Bb,un]
  refine bF (bN (Nat.le_refl _)) ?_
  rw[bN (Nat.le_refl _)]
  rfl
 ·rfl
def kO (n:Nat) (f:Nat→Bool) (to:Nat) (l:List Ed):List Ed:=l.flatMap fun e=>if e.t.toNat<n∧f e.t.toNat=true then [⟨e.f,e.l,(to:Int)⟩] else []
theorem FD {n to:Nat} {f:Nat→Bool} {e:Ed}:e∈kO n f to l↔∃e'∈l,e'.t.toNat<n∧f e'.t.toNat=true∧e=⟨e'.f,e'.l,(to:Int)⟩:=by
 unfold kO
 rw[List.mem_flatMap]
 constructor
 ·rintro ⟨a,ha,h⟩
  split at h
  ·next c=>exact ⟨a,ha,c.1,c.2,by simpa using h⟩
  ·cases h
 ·rintro ⟨a,ha,h1,h2,h3⟩
  exact ⟨a,ha,by rw[if_pos ⟨h1,h2⟩];simpa using h3⟩
theorem FE {n to:Nat} {f:Nat→Bool}: ∀{l:List Ed},(kO n f to l).length≤l.length
 | []=>by simp[kO]
 | e::l=>by
  have ih:=FE (n:=n) (to:=to) (f:=f) (l:=l)
  unfold kO at*
  rw[List.flatMap_cons,List.length_append,List.length_cons]
  split
  ·rw[List.length_singleton];omega
  ·rw[List.length_nil];omega
theorem afV {n to i:Nat} {f:Nat→Bool} (hi:i<l.length):kO n f to (l.take (i+1))=kO n f to (l.take i)++(if l[i].t.toNat<n∧f l[i].t.toNat=true then [⟨l[i].f,l[i].l,(to:Int)⟩] else []):=by
 unfold kO
 rw[List.take_succ_eq_append_getElem hi,List.flatMap_append]
 simp
theorem Uz {n to:Nat} {f:Nat→Bool} (hE: ∀e∈l,0≤e.f∧0≤e.l∧0≤e.t) (hl:l.length≤100000) (hn:n≤1000):CC yE [.list ax (bV n f),.int .i64 (to:Int),.int .i64 (L:Int),.int .i64 (S:Int),.int .u64 (st:Int),.int .u64 (fin:Int),.list an (l.map Ed.enc)]=some (aN L S st fin (l++kO n f to l)):=by
 refine afS ?_
 unfold Uv
 refine bT (by rw[Nat.ble_eq,vG,List.length_map];omega) ?_
 rw[List.length_map]
 refine bs (wR l.length (fun i=>((i:Int),(L:Int),(S:Int),(st:Int),(fin:Int),(l++kO n f to (l.take i)).map Ed.enc)) ((l.length:Int),false,(L:Int),(S:Int),(st:Int),(fin:Int),(l++kO n f to l).map Ed.enc) (by rw[List.take_zero,show kO n f to []=[] from rfl,List.append_nil];rfl) (fun i hi=> ?_) ?_) ?_
 ·simp only[K4,Bc,un]
  refine bT (eD hi) ?_
  refine (Es (i:=i) (v:=l[i].enc) (by simp[hi])).trans ?_
  obtain ⟨e1,e2,e3⟩:=hE l[i] (List.getElem_mem hi)
  have hlen:=FE (n:=n) (to:=to) (f:=f) (l:=l.take i)
  have MI:=List.length_take_le i l
  rw[Ed.cX,Ed.cY,Ed.cZ,afV hi,show (bV n f).length=n from eP]
  obtain ⟨t,ht⟩:=Int.eq_ofNat_of_zero_le e3
  obtain ⟨p,hp⟩:=Int.eq_ofNat_of_zero_le e1
  obtain ⟨x,hx⟩:=Int.eq_ofNat_of_zero_le e2
  rw[ht,hp,hx,Int.toNat_natCast]
  by_cases c:t<n
  ·refine bT (eD c) ?_
   refine bs (p6 c) ?_
   cases hf:f t with
   | true=>
    refine bT rfl ?_
    refine bs (Fz (by rw[List.length_append];omega)) ?_
    rw[dm (by omega),if_pos ⟨c,rfl⟩,←List.append_assoc]
    rfl
   | false=>
    refine bF rfl ?_
    rw[dm (by omega),if_neg (by simp),List.append_nil]
  ·refine bF (bN (by omega)) ?_
   rw[dm (by omega),if_neg (fun h=>c h.1),List.append_nil]
 ·simp only[K4,Bc,un]
  refine bF (bN (Nat.le_refl _)) ?_
  rw[bN (Nat.le_refl _),List.take_length]
 ·rfl
end
noncomputable def UA (C:ae) (aT aW:Int) (aL aU:List V):Option (List V):=
 (C nn [.int .i64 aT,.int .i64 aW,.list ax aL,.list aB aU]).bind fun r1=>
 bif (((V.nth r1 0).toInt):Int) != 0 then
  some [.int .i64 0,.int .i64 0,.int .i64 ((V.nth r1 0).toInt),.list ax ([]:List V),.list aB ([]:List V)]
 else
  (C rj [.int .i64 aT,.int .i64 aW,.list ax aL,.list aB aU]).bind fun r2=>
  some [.int .i64 ((V.nth r2 0).toInt),.int .i64 ((V.nth (r2.drop 1) 0).toInt),.int .i64 0,.list ax ((V.nth (r2.drop 2) 0).toList),.list aB ((V.nth ((r2.drop 2).drop 1) 0).toList)]
theorem afW {aT aW:Int} {aL aU:List V} {r:Option (List V)} (h:UA CC aT aW aL aU=r):CC yC [.int .i64 aT,.int .i64 aW,.list ax aL,.list aB aU]=r:=
 bp (key:=56) (L:=cR) (bs:=[]) (by kernel_rfl) aw (Eq.trans (by kernel_rfl) h)
noncomputable def UB (C:ae) (ia jb:Int) (iE iF:List V) (iG jc:Int) (jd je:List V):Option (List V):=
 (C nn [.int .i64 ia,.int .i64 jb,.list ax iE,.list aB iF]).bind fun r1=>
 bif (((V.nth r1 0).toInt):Int) != 0 then
  some [.int .i64 0,.int .i64 0,.int .i64 0,.int .i64 0,.int .i64 ((V.nth r1 0).toInt),.list ax ([]:List V),.list aB ([]:List V),.list ax ([]:List V),.list aB ([]:List V)]
 else
  (C nn [.int .i64 iG,.int .i64 jc,.list ax jd,.list aB je]).bind fun r2=>
  bif (((V.nth r2 0).toInt):Int) != 0 then
  some [.int .i64 0,.int .i64 0,.int .i64 0,.int .i64 0,.int .i64 ((V.nth r2 0).toInt),.list ax ([]:List V),.list aB ([]:List V),.list ax ([]:List V),.list aB ([]:List V)]
  else
  bif (ia:Int) != iG then
   some [.int .i64 0,.int .i64 0,.int .i64 0,.int .i64 0,.int .i64 1,.list ax ([]:List V),.list aB ([]:List V),.list ax ([]:List V),.list aB ([]:List V)]
  else
   (C rj [.int .i64 ia,.int .i64 jb,.list ax iE,.list aB iF]).bind fun r3=>
   (C rj [.int .i64 iG,.int .i64 jc,.list ax jd,.list aB je]).bind fun r4=>
   some [.int .i64 ((V.nth r3 0).toInt),.int .i64 ((V.nth (r3.drop 1) 0).toInt),.int .i64 ((V.nth r4 0).toInt),.int .i64 ((V.nth (r4.drop 1) 0).toInt),.int .i64 0,.list ax ((V.nth (r3.drop 2) 0).toList),.list aB ((V.nth ((r3.drop 2).drop 1) 0).toList),.list ax ((V.nth (r4.drop 2) 0).toList),.list aB ((V.nth ((r4.drop 2).drop 1) 0).toList)]
theorem afX {ia jb:Int} {iE iF:List V} {iG jc:Int} {jd je:List V} {r:Option (List V)} (h:UB CC ia jb iE iF iG jc jd je=r):CC Dq [.int .i64 ia,.int .i64 jb,.list ax iE,.list aB iF,.int .i64 iG,.int .i64 jc,.list ax jd,.list aB je]=r:=
 bp (key:=68) (L:=cR) (bs:=[]) (by kernel_rfl) aw (Eq.trans (by kernel_rfl) h)
noncomputable def UC (C:ae) (aT aW:Int) (aL aU:List V) (ei:Int):Option (List V):=
 bif decide (((aL.length:Int):Int)≤ei) then
  (C oq [.int .i64 aT,.int .i64 aW,.list ax aL,.list aB aU]).bind fun r1=>
  some [.bool ((((V.nth r1 0).toInt):Int)==0)]
 else
  some [.bool false]
theorem afY {aT aW:Int} {aL aU:List V} {ei:Int} {r:Option (List V)} (h:UC CC aT aW aL aU ei=r):CC Dj [.int .i64 aT,.int .i64 aW,.list ax aL,.list aB aU,.int .i64 ei]=r:=
 bp (key:=45) (L:=cR) (bs:=[]) (by kernel_rfl) aw (Eq.trans (by kernel_rfl) h)
theorem mL {a:Da} (h:a.Ok):(minD a).Ok:=(v8 h).ok
theorem oQ {a:Da} (h:a.Ok):(minD a).L=a.L:=(v8 h).hL
theorem afZ {a:Da} (h:a.Ok):(minD a).st=0:=(v8 h).st
theorem ug {a:Da} (h:a.Ok) {w:List Nat} (hw:WL a.L w):(minD a).acc (minD a).st w=a.acc a.st w:=by
 rw[afZ h];exact (v8 h).gG w hw
theorem UD {a:Da} (h:a.Ok):(minD a).n≤a.n:=by
 obtain ⟨p,_,c2,_⟩:=adL h
 rw[←Ag h (Da.R5 h c2)]
 have h1:=(Da.J8 h c2).oE (a.quo p).n
 have h2:(a.quo p).trim.n=(ak (a.quo p).L (a.quo p).nx (a.quo p).st (a.quo p).n).length:=lx
 rw[h2]
 refine Nat.le_trans h1 ?_
 rw[Da.qb]
 exact Sk p a.n
theorem UE {a b:Da} (ha:a.Ok) (hb:b.Ok) (hL:a.L=b.L) (hl: ∀w,WL a.L w→a.acc a.st w=b.acc b.st w):minD a=minD b:=
 Ag hb (hL▸Canon.congr (v8 ha) hl)
theorem af0 {a:Da} (ha:a.Ok):minD (minD a)=minD a:=
 UE (mL ha) ha (oQ ha) fun w hw=>ug ha (by rwa [oQ ha] at hw)
theorem K9 {a:Da} (h:a.Ok):CC yC (dy a)=some (gI (minD a) 0):=by
 refine afW ?_
 unfold UA
 refine bs (tG h) (bF rfl ?_)
 refine bs (EZ h) ?_
 rfl
def uh (a b:Da) (e:Int):List V:=[.int .i64 (a.L:Int),.int .i64 (a.st:Int),.int .i64 (b.L:Int),.int .i64 (b.st:Int),.int .i64 e,.list ax a.cv,.list aB a.cK,.list ax b.cv,.list aB b.cK]
theorem UF {a b:Da} (ha:a.Ok) (hb:b.Ok) (hL:a.L=b.L):CC Dq (lz a (dy b))=some (uh (minD a) (minD b) 0):=by
 refine afX ?_
 unfold UB
 refine bs (tG ha) (bF rfl ?_)
 refine bs (tG hb) (bF rfl ?_)
 refine bF (by rw[hL];simp) ?_
 refine bs (EZ ha) ?_
 refine bs (EZ hb) ?_
 rfl
theorem af1 {d:Df} (h:d.Ok) (m:Int):CC Dj (qx d [.int .i64 m])=some [.bool (decide ((d.F.length:Int)≤m∧d.val=0))]:=by
 refine afY ?_
 unfold UC
 rw[List.length_map]
 by_cases h1:(d.F.length:Int)≤m
 ·refine bT (decide_eq_true h1) ?_
  refine bs (Rk h) ?_
  refine congrArg (fun x=>some [V.bool x]) ?_
  rw[Bool.eq_iff_iff]
  simp[h1]
 ·refine bF (decide_eq_false h1) ?_
  rw[decide_eq_false fun h=>h1 h.1]
def eU (E:List Ed):Nat→List Nat→Nat→Prop
 | i,[],k=>i=k
 | i,x::w,k=> ∃j,db i x j∈E∧eU E j w k
theorem eU.ext {A B:List Ed} (h: ∀e,e∈A→e∈B): ∀{w:List Nat} {i k:Nat},eU A i w k→eU B i w k
 | [],_,_,p=>p
 | _::_,_,_,⟨j,h1,h2⟩=>⟨j,h _ h1,eU.ext h h2⟩
theorem eU.app {E:List Ed}: ∀{v w:List Nat} {i k:Nat},eU E i (v++w) k↔∃j,eU E i v j∧eU E j w k
 | [],w,i,k=>by simp[eU]
 | x::v,w,i,k=>by
  simp only[List.cons_append,eU]
  constructor
  ·rintro ⟨j,h1,h2⟩
   obtain ⟨m,h3,h4⟩:=eU.app.1 h2
   exact ⟨m,⟨j,h1,h3⟩,h4⟩
  ·rintro ⟨m,⟨j,h1,h3⟩,h4⟩
   exact ⟨j,h1,eU.app.2 ⟨m,h3,h4⟩⟩
theorem wS {p x q p' x' q':Nat}:db p x q=db p' x' q'↔p=p'∧x=x'∧q=q':=by
 unfold db
 simp only[Ed.mk.injEq]
 omega
theorem af2 {e:Ed} (h1:0≤e.f) (h2:0≤e.l) (h3:0≤e.t):e=db e.f.toNat e.l.toNat e.t.toNat:=by
 unfold db
 cases e
 simp only[Ed.mk.injEq] at*
 omega
theorem La {E:List Ed} (hE: ∀e∈E,0≤e.f∧0≤e.l∧0≤e.t): ∀(w:List Nat) (s k:Nat),(w.foldl (sn E) s).testBit k=true↔∃i,s.testBit i=true∧eU E i w k
 | [],s,k=>by simp[eU]
 | x::w,s,k=>by
  rw[List.foldl_cons,La hE w]
  constructor
  ·rintro ⟨j,h1,h2⟩
   unfold sn at h1
   rw[ze,List.any_eq_true] at h1
   obtain ⟨e,he,h3⟩:=h1
   simp only[Bool.and_eq_true,decide_eq_true_eq] at h3
   obtain ⟨c1,c2,c3⟩:=hE e he
   refine ⟨e.f.toNat,h3.2.1,j,?_,h2⟩
   have:e=db e.f.toNat x j:=by
    rw[af2 c1 c2 c3]
    rw[wS]
    simp only[db,Int.toNat_natCast]
    exact ⟨trivial,by omega,h3.2.2⟩
   exact this▸he
  ·rintro ⟨i,h1,j,h2,h3⟩
   refine ⟨j,?_,h3⟩
   unfold sn
   rw[ze,List.any_eq_true]
   refine ⟨_,h2,?_⟩
   simp only[Bool.and_eq_true,decide_eq_true_eq,db,Int.toNat_natCast]
   exact ⟨trivial,h1,trivial⟩
theorem af3 {fin s:Nat}:sf fin s=true↔∃k,s.testBit k=true∧fin.testBit k=true:=by
 unfold sf
 rw[Bool.not_eq_true',beq_eq_false_iff_ne]
 constructor
 ·intro h
  obtain ⟨k,hk⟩:=Nat.exists_testBit_of_ne_zero h
  rw[Nat.testBit_and,Bool.and_eq_true] at hk
  exact ⟨k,hk⟩
 ·rintro ⟨k,h1,h2⟩ h0
  have:(s&&&fin).testBit k=true:=by rw[Nat.testBit_and,h1,h2];rfl
  rw[h0,Nat.zero_testBit] at this
  cases this
def qu (st fin:Nat) (l:List Ed) (w:List Nat):Prop:= ∃i k,st.testBit i=true∧fin.testBit k=true∧eU l i w k
section
variable {L S st fin:Nat} {l:List Ed} (h:rM L S st fin l)
include h
theorem af4 (hn: ¬gK (cq L S st fin l) L S):(fe (cq L S st fin l) L S).Ok:=by
 unfold fe
 rw[if_neg hn]
 exact mL (we (nE h) hn)
theorem af5 (hn: ¬gK (cq L S st fin l) L S):(fe (cq L S st fin l) L S).L=L:=by
 unfold fe
 rw[if_neg hn]
 exact oQ (we (nE h) hn)
theorem af6 (hn: ¬gK (cq L S st fin l) L S) {w:List Nat} (hw:WL L w):(fe (cq L S st fin l) L S).acc (fe (cq L S st fin l) L S).st w=true↔qu st fin l w:=by
 have aq:=we (nE h) hn
 unfold fe
 rw[if_neg hn,ug aq hw,show (hO (cq L S st fin l) L S).st=0 from rfl,adn (nE h) hw]
 show sf fin (w.foldl (sn (qf l)) st)=true↔_
 have hE: ∀e∈qf l,0≤e.f∧0≤e.l∧0≤e.t:=fun e he=>by
  have:=h.E e (wi.1 he)
  unfold Ed.In at this
  exact ⟨this.1,this.2.2.2.2.1,this.2.2.1⟩
 rw[af3]
 unfold qu
 constructor
 ·rintro ⟨k,h1,h2⟩
  obtain ⟨i,h3,h4⟩:=(La hE w st k).1 h1
  exact ⟨i,k,h3,h2,h4.ext fun e he=>wi.1 he⟩
 ·rintro ⟨i,k,h1,h2,h3⟩
  exact ⟨k,(La hE w st k).2 ⟨i,h1,h3.ext fun e he=>wi.2 he⟩,h2⟩
theorem af7 (hS:S≤9): ¬gK (cq L S st fin l) L S:=fun ho=>by
 have h1:=wc (nE h) (2^S)
 have h2:2^S≤2^9:=Nat.pow_le_pow_right (by omega) hS
 have h3:(512:Nat)<(ak L (sn (cq L S st fin l).E) (cq L S st fin l).st (2^S)).length:=ho
 have h4:(2:Nat)^9=512:=by decide
 omega
end
noncomputable abbrev FF:Code:=cB Tryd.prog (av.aR 51)
noncomputable def Be (C:ae) (q t36 t37 t41 bh bw:Int) (bJ bH:List V) (dR dS mu mw:Int) (gH eG cH cb:List V) (t42 a8 aV ba bc:Int) (cD:List V) {β:Type} (kn:(Int × Int × Int × Int × Int × (List V))→Option β) (kr:(Int × Bool × Int × Int × Int × Int × (List V))→Option β):Option β:=
 bif decide ((t42:Int)<t41) then
  (C tk [.int .i64 q,.int .i64 t42,.int .i64 q,.int .i64 a8,.int .i64 aV,.int .u64 ba,.int .u64 bc,.list an cD]).bind fun r4=>
  kn (IntKind.wrap .i64 (t42+1),(V.nth r4 0).toInt,(V.nth (r4.drop 1) 0).toInt,(V.nth ((r4.drop 1).drop 1) 0).toInt,(V.nth (((r4.drop 1).drop 1).drop 1) 0).toInt,(V.nth (r4.drop 4) 0).toList)
 else
  kr (t42,decide ((t42:Int)<t41),a8,aV,ba,bc,cD)
noncomputable def Lb (C:ae) (q t36 t37 t41 bh bw:Int) (bJ bH:List V) (dR dS mu mw:Int) (gH eG cH cb:List V):(Int × Int × Int × Int × Int × (List V))→Option ((Int × Int × Int × Int × Int × (List V)) ⊕ (Int × Bool × Int × Int × Int × Int × (List V))):=un fun t42=>un fun a8=>un fun aV=>un fun ba=>un fun bc cD=>Be C q t36 t37 t41 bh bw bJ bH dR dS mu mw gH eG cH cb t42 a8 aV ba bc cD (fun y=>some (.inl y)) (fun r=>some (.inr r))
noncomputable def Bf (C:ae) (t36 bh bw:Int) (bJ bH:List V) (dR dS mu mw:Int) (gH eG cH cb:List V) (t37 a8 aV ba bc:Int) (cD:List V) {β:Type} (kn:(Int × Int × Int × Int × Int × (List V))→Option β) (kr:(Int × Bool × Int × Int × Int × Int × (List V))→Option β):Option β:=
 bif decide ((t37:Int)<t36) then
  (Loop (Lb C t37 t36 t37 bh bh bw bJ bH dR dS mu mw gH eG cH cb) (0,a8,aV,ba,bc,cD)).bind (un fun (mn:Int)=>un fun (rp:Bool)=>un fun (uc:Int)=>un fun (ud:Int)=>un fun (qs:Int)=>un fun (Bg:Int) (Kc:List V)=>
   kn (IntKind.wrap .i64 (t37+1),uc,ud,qs,Bg,Kc))
 else
  kr (t37,decide ((t37:Int)<t36),a8,aV,ba,bc,cD)
noncomputable def Lc (C:ae) (t36 bh bw:Int) (bJ bH:List V) (dR dS mu mw:Int) (gH eG cH cb:List V):(Int × Int × Int × Int × Int × (List V))→Option ((Int × Int × Int × Int × Int × (List V)) ⊕ (Int × Bool × Int × Int × Int × Int × (List V))):=un fun t37=>un fun a8=>un fun aV=>un fun ba=>un fun bc cD=>Bf C t36 bh bw bJ bH dR dS mu mw gH eG cH cb t37 a8 aV ba bc cD (fun y=>some (.inl y)) (fun r=>some (.inr r))
noncomputable def UG (C:ae):ct:=fun β n ds k=>
 bif Nat.beq n 193 then bB Ix [false,false,false,false,true,false,false,false,false,false,false,false,false,true,true,true,true,false,false,false,false,true] [[1,2,3,4,0,0,6,7,8,9,10,11,12,13,0,0,0,0,18,19,20,21,0]] (@Be C) ds k else
 bif Nat.beq n 145 then bB Iy [false,true,false,false,false,false,false,false,false,false,true,true,true,true,false,false,false,false,true] [[1,0,0,3,4,5,6,7,8,9,10,0,0,0,0,15,16,17,18,0]] (@Bf C) ds k else
 none
abbrev UH (C:ae) (b:cm):Prop:=cp Tryd.prog av C (UG C) 51 (cI Tryd.prog (av.aR 51)) (av.sin 51).aP.length b
theorem af8 (C:ae):UH C (.loop (ao [1,1,1,1,1,1,0,1,0,0,1,1,0,0,1,1,0,0] FF)):=
 bE Ix [false,false,false,false,true,false,false,false,false,false,false,false,false,true,true,true,true,false,false,false,false,true] [[1,2,3,4,0,0,6,7,8,9,10,11,12,13,0,0,0,0,18,19,20,21,0]] (@Be C) (by kernel_rfl) (aY (bs:=[]) (by kernel_rfl) aw) (fun ds=>by kernel_rfl) (fun i x=>by kernel_rfl) (fun i x β k=>by kernel_rfl) (fun β ds k=>by kernel_rfl)
theorem af9 (C:ae):UH C (.loop (ao [1,1,1,1,1,1,0,1,0,0] FF)):=
 bE Iy [false,true,false,false,false,false,false,false,false,false,true,true,true,true,false,false,false,false,true] [[1,0,0,3,4,5,6,7,8,9,10,0,0,0,0,15,16,17,18,0]] (@Bf C) (by kernel_rfl) (aY (bs:=[.loop (ao [1,1,1,1,1,1,0,1,0,0,1,1,0,0,1,1,0,0] FF)]) (by kernel_rfl) (bn (af8 C) aw)) (fun ds=>by kernel_rfl) (fun i x=>by kernel_rfl) (fun i x β k=>by kernel_rfl) (fun β ds k=>by kernel_rfl)
noncomputable def UI (C:ae) (aT aW:Int) (aL aU:List V):Option (List V):=
 (C yC [.int .i64 aT,.int .i64 aW,.list ax aL,.list aB aU]).bind fun r1=>
 bif (((V.nth (r1.drop 2) 0).toInt):Int) != 0 then
  some [.int .i64 0,.int .i64 0,.int .i64 ((V.nth (r1.drop 2) 0).toInt),.list ax ([]:List V),.list aB ([]:List V)]
 else
  (C tj [.int .i64 aT,.int .i64 (((V.nth (r1.drop 3) 0).toList).length:Int)]).bind fun r2=>
  bif (V.nth r2 0).toBool then
  some [.int .i64 0,.int .i64 0,.int .i64 3,.list ax ([]:List V),.list aB ([]:List V)]
  else
  (C tp [.int .i64 ((V.nth r1 0).toInt),.int .i64 ((V.nth (r1.drop 1) 0).toInt),.list ax ((V.nth (r1.drop 3) 0).toList),.list aB ((V.nth ((r1.drop 3).drop 1) 0).toList),.int .i64 0,.int .i64 ((V.nth (r2.drop 1) 0).toInt),.int .i64 ((V.nth ((r2.drop 1).drop 1) 0).toInt),.int .u64 ((V.nth (((r2.drop 1).drop 1).drop 1) 0).toInt),.int .u64 ((V.nth ((((r2.drop 1).drop 1).drop 1).drop 1) 0).toInt),.list an ((V.nth ((r2.drop 1).drop 4) 0).toList)]).bind fun r3=>
  (Loop (Lc C (((V.nth (r1.drop 3) 0).toList).length:Int) aT aW aL aU 0 0 ((V.nth r1 0).toInt) ((V.nth (r1.drop 1) 0).toInt) ([]:List V) ([]:List V) ((V.nth (r1.drop 3) 0).toList) ((V.nth ((r1.drop 3).drop 1) 0).toList)) (0,(V.nth r3 0).toInt,(V.nth (r3.drop 1) 0).toInt,(V.nth ((r3.drop 1).drop 1) 0).toInt,(V.nth (((r3.drop 1).drop 1).drop 1) 0).toInt,(V.nth (r3.drop 4) 0).toList)).bind (un fun (EY:Int)=>un fun (rr:Bool)=>un fun (K0:Int)=>un fun (K1:Int)=>un fun (K3:Int)=>un fun (aga:Int) (zL:List V)=>
   (C tm [.int .i64 ((V.nth (r1.drop 1) 0).toInt),.int .i64 K0,.int .i64 K1,.int .u64 K3,.int .u64 aga,.list an zL]).bind fun fC=>
   (C tn [.list ax ((V.nth (r1.drop 3) 0).toList),.int .i64 0,.int .i64 ((V.nth fC 0).toInt),.int .i64 ((V.nth (fC.drop 1) 0).toInt),.int .u64 ((V.nth ((fC.drop 1).drop 1) 0).toInt),.int .u64 ((V.nth (((fC.drop 1).drop 1).drop 1) 0).toInt),.list an ((V.nth (fC.drop 4) 0).toList)]).bind fun fX=>
   (C pK [.int .i64 ((V.nth fX 0).toInt),.int .i64 ((V.nth (fX.drop 1) 0).toInt),.int .u64 ((V.nth ((fX.drop 1).drop 1) 0).toInt),.int .u64 ((V.nth (((fX.drop 1).drop 1).drop 1) 0).toInt),.list an ((V.nth (fX.drop 4) 0).toList)]).bind fun qm=>
   some [.int .i64 ((V.nth qm 0).toInt),.int .i64 ((V.nth (qm.drop 1) 0).toInt),.int .i64 ((V.nth (qm.drop 2) 0).toInt),.list ax ((V.nth ((qm.drop 3).drop 5) 0).toList),.list aB ((V.nth (((qm.drop 3).drop 5).drop 1) 0).toList)])
theorem agb {aT aW:Int} {aL aU:List V} {r:Option (List V)} (h:UI CC aT aW aL aU=r):CC Dk [.int .i64 aT,.int .i64 aW,.list ax aL,.list aB aU]=r:=
 bp (key:=51) (L:=UG CC) (bs:=[.loop (ao [1,1,1,1,1,1,0,1,0,0] FF)]) (by kernel_rfl) (bn (af9 CC) aw) (Eq.trans (by kernel_rfl) h)
theorem Ld {p x q L S:Nat} (hp:p<S) (hx:x<L) (hq:q<S):(db p x q).In (L:Int) (S:Int):=by unfold Ed.In db;simp only;omega
theorem Lf {a:Da} (h:a.Ok) {off S:Nat} (hs:a.n+off≤S) {e:Ed} (he:e∈dH a off):e.In (a.L:Int) (S:Int):=by
 obtain ⟨p,x,hp,hx,rfl⟩:=uf.1 he
 have:=h.dQ hp hx
 exact Ld (by omega) hx (by omega)
def jf (L n:Nat):List Ed:=fm n fun q=>tab L fun x=>db q x q
theorem agc {L n:Nat} {e:Ed}:e∈jf L n↔∃q x,q<n∧x<L∧e=db q x q:=by
 unfold jf
 rw[Uw]
 constructor
 ·rintro ⟨p,hp,he⟩
  obtain ⟨x,hx,rfl⟩:=vQ.1 he
  exact ⟨p,x,hp,hx,rfl⟩
 ·rintro ⟨p,x,hp,hx,rfl⟩
  exact ⟨p,hp,vQ.2 ⟨x,hx,rfl⟩⟩
def wU (m:Da):Nf:=cq m.L m.n (2^m.st) (fY 0 m.fin 0 m.n) (dH m 0++jf m.L m.n)
theorem UJ {m:Da} (h:m.Ok) (hs:m.n≤64):rM m.L m.n (2^m.st) (fY 0 m.fin 0 m.n) (dH m 0++jf m.L m.n) where
 l1:=h.l1
 l6:=h.l6
 oD:=hs
 st:=Nat.pow_lt_pow_right (by omega) h.s
 fin:=Bd (Nat.two_pow_pos _) (by omega)
 E:=fun e he=>by
  rcases List.mem_append.1 he with he|he
  ·exact Lf h (by omega) he
  ·obtain ⟨p,x,hp,hx,rfl⟩:=agc.1 he
   exact Ld (by omega) hx (by omega)
 len:=by
  have h1:=qt h (off:=0) (n:=m.n)
  have h2:(jf m.L m.n).length≤m.n*6:=K6 fun p _=>by rw[eP];exact h.l6
  rw[List.length_append]
  unfold dH
  omega
section
variable {a:Da} (h:a.Ok)
include h
theorem agd (hs:(minD a).n≤64) {X:Da} {e:Int} {n:Nf} (hr:CC pK (aN (minD a).L (minD a).n (2^(minD a).st) (fY 0 (minD a).fin 0 (minD a).n) (dH (minD a) 0++jf (minD a).L (minD a).n))=some (KR X e n)):CC Dk (dy a)=some (gI X e):=by
 have hm:=mL h
 have h6:=hm.l6
 have hL:=oQ h
 have bZ:=hm.s
 refine agb ?_
 unfold UI
 refine bs (K9 h) (bF rfl ?_)
 have e0:(V.nth ((gI (minD a) 0).drop 3) 0).toList=(minD a).cv:=rfl
 rw[e0,Da.kA]
 refine bs (K7 hs) (bF rfl ?_)
 refine bs (FC (l:=[]) hm (off:=0) (by omega) (by simp)) ?_
 rw[List.nil_append]
 have hlen:=qt hm (off:=0) (n:=(minD a).n)
 refine bs (wR (minD a).n (fun i=>((i:Int),(a.L:Int),((minD a).n:Int),((0:Nat):Int),((0:Nat):Int),(dH (minD a) 0++jf (minD a).L i).map Ed.enc)) (((minD a).n:Int),false,(a.L:Int),((minD a).n:Int),((0:Nat):Int),((0:Nat):Int),(dH (minD a) 0++jf (minD a).L (minD a).n).map Ed.enc) (by rw[show jf (minD a).L 0=[] from rfl,List.append_nil];rfl) (fun q hq=> ?_) ?_) ?_
 ·have rQ:(jf (minD a).L q).length≤q*6:=K6 fun p _=>by rw[eP];exact h6
  simp only[Lc,Bf,un]
  refine bT (eD hq) ?_
  refine bs (wR a.L (fun i=>((i:Int),(a.L:Int),((minD a).n:Int),((0:Nat):Int),((0:Nat):Int),((dH (minD a) 0++jf (minD a).L q)++tab i fun x=>db q x q).map Ed.enc)) ((a.L:Int),false,(a.L:Int),((minD a).n:Int),((0:Nat):Int),((0:Nat):Int),((dH (minD a) 0++jf (minD a).L q)++tab (minD a).L fun x=>db q x q).map Ed.enc) (by rw[JX,List.append_nil];rfl) (fun x hx=> ?_) ?_) ?_
  ·simp only[Lb,Be,un]
   refine bT (eD hx) ?_
   refine bs (Fz (by rw[List.length_append,List.length_append,eP];unfold dH;omega)) ?_
   rw[dm (by omega),rv,←List.append_assoc]
   rfl
  ·simp only[Lb,Be,un]
   refine bF (bN (Nat.le_refl _)) ?_
   rw[bN (Nat.le_refl _),hL]
  ·simp only[un]
   rw[dm (by omega),show jf (minD a).L (q+1)=jf (minD a).L q++tab (minD a).L fun x=>db q x q from K5,←List.append_assoc]
 ·simp only[Lc,Bf,un]
  refine bF (bN (Nat.le_refl _)) ?_
  rw[bN (Nat.le_refl _)]
 ·simp only[un]
  refine bs (FA (q:=(minD a).st) (by omega) (by omega)) ?_
  refine bs (K8 (n:=(minD a).n) (f:=(minD a).fin) (off:=0) (by omega) (by omega)) ?_
  rw[Nat.zero_or]
  rw[hL] at hr
  rw[hL]
  refine bs hr ?_
  rfl
end
noncomputable abbrev FG:Code:=cB Tryd.prog (av.aR 30)
noncomputable def FH (C:ae) (offset:Int) (t66:Bool) (ahv ahw ahx age a8 aV ba bc:Int) (oP gH eG cH cb:List V) {β:Type} (kr:(Int × Int × Int × Int × (List V))→Option β):Option β:=
 bif t66 then
  (C tm [.int .i64 (IntKind.wrap .i64 (offset+age)),.int .i64 a8,.int .i64 aV,.int .u64 ba,.int .u64 bc,.list an cb]).bind fun r8=>
  kr ((V.nth r8 0).toInt,(V.nth (r8.drop 1) 0).toInt,(V.nth ((r8.drop 1).drop 1) 0).toInt,(V.nth (((r8.drop 1).drop 1).drop 1) 0).toInt,(V.nth (r8.drop 4) 0).toList)
 else
  kr (a8,aV,ba,bc,cb)
noncomputable def UK (C:ae):ct:=fun β n ds k=>
 bif Nat.beq n 1071 then mi Iq [[1,3,4,5,6,0,0,0,0,11,12,13,14,0]] (@FH C) ds k else
 none
abbrev agf (C:ae) (b:cm):Prop:=cp Tryd.prog av C (UK C) 30 (cI Tryd.prog (av.aR 30)) (av.sin 30).aP.length b
theorem agh (C:ae):agf C (.cond 66 (ao [1,1,1,1,1,1,1,1,1,1,0,1,0] FG) (ao [1,1,1,1,1,1,1,1,1,1,0,1,1] FG)):=
 nk Iq [[1,3,4,5,6,0,0,0,0,11,12,13,14,0]] (@FH C) (by kernel_rfl) (aY (bs:=[]) (by kernel_rfl) aw) (aY (bs:=[]) (by kernel_rfl) aw) (fun ds=>by kernel_rfl) (fun i β k=>by kernel_rfl) (fun β ds k=>by kernel_rfl)
noncomputable def Lg (C:ae) (ia jb:Int) (iE iF:List V) (iG jc:Int) (jd je:List V):Option (List V):=
 (C Dq [.int .i64 ia,.int .i64 jb,.list ax iE,.list aB iF,.int .i64 iG,.int .i64 jc,.list ax jd,.list aB je]).bind fun r1=>
 bif (((V.nth ((r1.drop 2).drop 2) 0).toInt):Int) != 0 then
  some [.int .i64 0,.int .i64 0,.int .i64 ((V.nth ((r1.drop 2).drop 2) 0).toInt),.list ax ([]:List V),.list aB ([]:List V)]
 else
  (C tj [.int .i64 ia,.int .i64 (IntKind.wrap .i64 ((((V.nth (r1.drop 5) 0).toList).length:Int)+(((V.nth (((r1.drop 5).drop 1).drop 1) 0).toList).length:Int)))]).bind fun r2=>
  bif (V.nth r2 0).toBool then
  some [.int .i64 0,.int .i64 0,.int .i64 3,.list ax ([]:List V),.list aB ([]:List V)]
  else
  (C tp [.int .i64 ((V.nth r1 0).toInt),.int .i64 ((V.nth (r1.drop 1) 0).toInt),.list ax ((V.nth (r1.drop 5) 0).toList),.list aB ((V.nth ((r1.drop 5).drop 1) 0).toList),.int .i64 0,.int .i64 ((V.nth (r2.drop 1) 0).toInt),.int .i64 ((V.nth ((r2.drop 1).drop 1) 0).toInt),.int .u64 ((V.nth (((r2.drop 1).drop 1).drop 1) 0).toInt),.int .u64 ((V.nth ((((r2.drop 1).drop 1).drop 1).drop 1) 0).toInt),.list an ((V.nth ((r2.drop 1).drop 4) 0).toList)]).bind fun r3=>
  (C tp [.int .i64 ((V.nth (r1.drop 2) 0).toInt),.int .i64 ((V.nth ((r1.drop 2).drop 1) 0).toInt),.list ax ((V.nth (((r1.drop 5).drop 1).drop 1) 0).toList),.list aB ((V.nth ((((r1.drop 5).drop 1).drop 1).drop 1) 0).toList),.int .i64 (((V.nth (r1.drop 5) 0).toList).length:Int),.int .i64 ((V.nth r3 0).toInt),.int .i64 ((V.nth (r3.drop 1) 0).toInt),.int .u64 ((V.nth ((r3.drop 1).drop 1) 0).toInt),.int .u64 ((V.nth (((r3.drop 1).drop 1).drop 1) 0).toInt),.list an ((V.nth (r3.drop 4) 0).toList)]).bind fun r4=>
  (C yE [.list ax ((V.nth (r1.drop 5) 0).toList),.int .i64 (IntKind.wrap .i64 ((((V.nth (r1.drop 5) 0).toList).length:Int)+((V.nth ((r1.drop 2).drop 1) 0).toInt))),.int .i64 ((V.nth r4 0).toInt),.int .i64 ((V.nth (r4.drop 1) 0).toInt),.int .u64 ((V.nth ((r4.drop 1).drop 1) 0).toInt),.int .u64 ((V.nth (((r4.drop 1).drop 1).drop 1) 0).toInt),.list an ((V.nth (r4.drop 4) 0).toList)]).bind fun r5=>
  (C tm [.int .i64 ((V.nth (r1.drop 1) 0).toInt),.int .i64 ((V.nth r5 0).toInt),.int .i64 ((V.nth (r5.drop 1) 0).toInt),.int .u64 ((V.nth ((r5.drop 1).drop 1) 0).toInt),.int .u64 ((V.nth (((r5.drop 1).drop 1).drop 1) 0).toInt),.list an ((V.nth (r5.drop 4) 0).toList)]).bind fun r6=>
  bif (decide (0≤((V.nth (r1.drop 1) 0).toInt)))&&(decide (((V.nth (r1.drop 1) 0).toInt)<(((V.nth (r1.drop 5) 0).toList).length:Int))) then
   (((V.nth (r1.drop 5) 0).toList)[((V.nth (r1.drop 1) 0).toInt:Int).toNat]?).bind fun x7=>
   FH C (((V.nth (r1.drop 5) 0).toList).length:Int) x7.toBool 0 0 ((V.nth (r1.drop 2) 0).toInt) ((V.nth ((r1.drop 2).drop 1) 0).toInt) ((V.nth r6 0).toInt) ((V.nth (r6.drop 1) 0).toInt) ((V.nth ((r6.drop 1).drop 1) 0).toInt) ((V.nth (((r6.drop 1).drop 1).drop 1) 0).toInt) ([]:List V) ([]:List V) ((V.nth (((r1.drop 5).drop 1).drop 1) 0).toList) ((V.nth ((((r1.drop 5).drop 1).drop 1).drop 1) 0).toList) ((V.nth (r6.drop 4) 0).toList) (un fun (qs:Int)=>un fun (Bg:Int)=>un fun (Lh:Int)=>un fun (Li:Int) (vT:List V)=>
    (C tn [.list ax ((V.nth (((r1.drop 5).drop 1).drop 1) 0).toList),.int .i64 (((V.nth (r1.drop 5) 0).toList).length:Int),.int .i64 qs,.int .i64 Bg,.int .u64 Lh,.int .u64 Li,.list an vT]).bind fun dV=>
    (C pK [.int .i64 ((V.nth dV 0).toInt),.int .i64 ((V.nth (dV.drop 1) 0).toInt),.int .u64 ((V.nth ((dV.drop 1).drop 1) 0).toInt),.int .u64 ((V.nth (((dV.drop 1).drop 1).drop 1) 0).toInt),.list an ((V.nth (dV.drop 4) 0).toList)]).bind fun ej=>
    some [.int .i64 ((V.nth ej 0).toInt),.int .i64 ((V.nth (ej.drop 1) 0).toInt),.int .i64 ((V.nth (ej.drop 2) 0).toInt),.list ax ((V.nth ((ej.drop 3).drop 5) 0).toList),.list aB ((V.nth (((ej.drop 3).drop 5).drop 1) 0).toList)])
  else none
theorem UL {ia jb:Int} {iE iF:List V} {iG jc:Int} {jd je:List V} {r:Option (List V)} (h:Lg CC ia jb iE iF iG jc jd je=r):CC vz [.int .i64 ia,.int .i64 jb,.list ax iE,.list aB iF,.int .i64 iG,.int .i64 jc,.list ax jd,.list aB je]=r:=
 bp (key:=30) (L:=UK CC) (bs:=[.cond 66 (ao [1,1,1,1,1,1,1,1,1,1,0,1,0] FG) (ao [1,1,1,1,1,1,1,1,1,1,0,1,1] FG)]) (by kernel_rfl) (bn (agh CC) aw) (Eq.trans (by kernel_rfl) h)
def oR (m k:Da):List Ed:=(dH m 0++dH k m.n)++kO m.n m.fin (m.n+k.st) (dH m 0++dH k m.n)
def ui (m k:Da):Nat:=if m.fin m.st=true then 2^m.st|||2^(m.n+k.st) else 2^m.st
def FI (m k:Da):Nat:=fY 0 k.fin m.n k.n
def Bh (m k:Da):Nf:=cq m.L (m.n+k.n) (ui m k) (FI m k) (oR m k)
theorem UM {L S:Nat} {e:Ed} (h:e.In (L:Int) (S:Int)):0≤e.f∧0≤e.l∧0≤e.t:=by unfold Ed.In at h;omega
section
variable {m k:Da} (hm:m.Ok) (hk:k.Ok) (hL:m.L=k.L)
include hm hk hL
theorem Lj {e:Ed} (he:e∈dH m 0++dH k m.n):e.In (m.L:Int) ((m.n+k.n:Nat):Int):=by
 rcases List.mem_append.1 he with he|he
 ·exact Lf hm (by omega) he
 ·rw[hL];exact Lf hk (by omega) he
theorem agi {e:Ed} (he:e∈oR m k):e.In (m.L:Int) ((m.n+k.n:Nat):Int):=by
 rcases List.mem_append.1 he with he|he
 ·exact Lj hm hk hL he
 ·obtain ⟨e',h1,h2,h3,rfl⟩:=FD.1 he
  have:=Lj hm hk hL h1
  have:=hk.s
  unfold Ed.In at*
  simp only
  omega
theorem UN (hs:m.n+k.n≤64):rM m.L (m.n+k.n) (ui m k) (FI m k) (oR m k) where
 l1:=hm.l1
 l6:=hm.l6
 oD:=hs
 st:=by
  have h1:=hm.s
  have h2:=hk.s
  unfold ui
  split
  ·exact Nat.or_lt_two_pow (Nat.pow_lt_pow_right (by omega) (by omega)) (Nat.pow_lt_pow_right (by omega) (by omega))
  ·exact Nat.pow_lt_pow_right (by omega) (by omega)
 fin:=Bd (Nat.two_pow_pos _) (by omega)
 E:=fun e he=>agi hm hk hL he
 len:=by
  have h1:=qt hm (off:=0) (n:=m.n)
  have h2:=qt hk (off:=m.n) (n:=k.n)
  have h3:=FE (l:=dH m 0++dH k m.n) (n:=m.n) (to:=m.n+k.st) (f:=m.fin)
  unfold oR
  rw[List.length_append]
  rw[List.length_append] at*
  unfold dH at*
  omega
end
section
variable {a b:Da} (ha:a.Ok) (hb:b.Ok) (hL:a.L=b.L)
include ha hb hL
theorem agj (hs:(minD a).n+(minD b).n≤64):CC vz (lz a (dy b))=some (gI (fe (Bh (minD a) (minD b)) a.L ((minD a).n+(minD b).n)) (mJ (Bh (minD a) (minD b)) a.L ((minD a).n+(minD b).n))):=by
 have hm:=mL ha
 have hk:=mL hb
 have uj:=oQ ha
 have Lk:=oQ hb
 have Bi:(minD a).L=(minD b).L:=by rw[uj,Lk,hL]
 have bZ:=hm.s
 have hsk:=hk.s
 have hr:=Ug (UN hm hk Bi hs)
 have l1:=qt hm (off:=0) (n:=(minD a).n)
 have l2:=qt hk (off:=(minD a).n) (n:=(minD b).n)
 refine UL ?_
 unfold Lg
 refine bs (UF ha hb hL) (bF rfl ?_)
 have e0:(V.nth ((uh (minD a) (minD b) 0).drop 5) 0).toList=(minD a).cv:=rfl
 have e1:(V.nth ((((uh (minD a) (minD b) 0).drop 5).drop 1).drop 1) 0).toList=(minD b).cv:=rfl
 have e2:(V.nth (((uh (minD a) (minD b) 0).drop 2).drop 1) 0).toInt=((minD b).st:Int):=rfl
 have e3:(V.nth ((uh (minD a) (minD b) 0).drop 1) 0).toInt=((minD a).st:Int):=rfl
 rw[e0,e1,e2,e3,Da.kA,Da.kA,ue (by omega),ue (by omega)]
 refine bs (K7 hs) (bF rfl ?_)
 refine bs (FC (l:=[]) hm (off:=0) (by omega) (by simp)) ?_
 rw[List.nil_append]
 refine bs (FC hk (off:=(minD a).n) (by omega) (by unfold dH;omega)) ?_
 refine bs (Uz (n:=(minD a).n) (f:=(minD a).fin) (fun e he=>UM (Lj hm hk Bi he)) (by rw[List.length_append];unfold dH;omega) (by omega)) ?_
 refine bs (FA (q:=(minD a).st) (by omega) (by omega)) ?_
 refine bT (Rn bZ) ?_
 rw[Int.toNat_natCast]
 refine bs (Er bZ) ?_
 rw[uj] at hr
 have fin: ∀(s:Nat),s=ui (minD a) (minD b)→s<2^64→((CC tn [.list ax (minD b).cv,.int .i64 ((minD a).n:Int),.int .i64 (a.L:Int),.int .i64 (((minD a).n+(minD b).n:Nat):Int),.int .u64 (s:Int),.int .u64 ((0:Nat):Int),.list an ((oR (minD a) (minD b)).map Ed.enc)]).bind fun dV=>
    (CC pK [.int .i64 ((V.nth dV 0).toInt),.int .i64 ((V.nth (dV.drop 1) 0).toInt),.int .u64 ((V.nth ((dV.drop 1).drop 1) 0).toInt),.int .u64 ((V.nth (((dV.drop 1).drop 1).drop 1) 0).toInt),.list an ((V.nth (dV.drop 4) 0).toList)]).bind fun ej=>
    some [.int .i64 ((V.nth ej 0).toInt),.int .i64 ((V.nth (ej.drop 1) 0).toInt),.int .i64 ((V.nth (ej.drop 2) 0).toInt),.list ax ((V.nth ((ej.drop 3).drop 5) 0).toList),.list aB ((V.nth (((ej.drop 3).drop 5).drop 1) 0).toList)])=some (gI (fe (Bh (minD a) (minD b)) a.L ((minD a).n+(minD b).n)) (mJ (Bh (minD a) (minD b)) a.L ((minD a).n+(minD b).n))):=by
  rintro s rfl lh
  refine bs (K8 (n:=(minD b).n) (f:=(minD b).fin) (off:=(minD a).n) (by omega) (by omega)) ?_
  refine bs hr ?_
  show _=some (gI (fe (cq (minD a).L _ _ _ _) a.L _) (mJ (cq (minD a).L _ _ _ _) a.L _))
  rw[uj]
  rfl
 have p1:(2:Nat)^(minD a).st<2^64:=Nat.pow_lt_pow_right (by omega) (by omega)
 have p2:(2:Nat)^((minD a).n+(minD b).st)<2^64:=Nat.pow_lt_pow_right (by omega) (by omega)
 unfold FH
 rw[Nat.zero_or]
 cases hf:(minD a).fin (minD a).st with
 | true=>
  refine bT rfl ?_
  rw[ue (by omega)]
  refine bs (FA (q:=(minD a).n+(minD b).st) (by omega) p1) ?_
  exact fin _ (if_pos hf).symm (Nat.or_lt_two_pow p1 p2)
 | false=>
  refine bF rfl ?_
  exact fin _ (if_neg (by rw[hf];simp)).symm p1
theorem agk (hs:64<(minD a).n+(minD b).n):CC vz (lz a (dy b))=some (gI zD 3):=by
 have h1:=(mL ha).ei
 have h2:=(mL hb).ei
 refine UL ?_
 unfold Lg
 refine bs (UF ha hb hL) (bF rfl ?_)
 have e0:(V.nth ((uh (minD a) (minD b) 0).drop 5) 0).toList=(minD a).cv:=rfl
 have e1:(V.nth ((((uh (minD a) (minD b) 0).drop 5).drop 1).drop 1) 0).toList=(minD b).cv:=rfl
 rw[e0,e1,Da.kA,Da.kA,ue (by omega)]
 refine bs (Uy hs) (bT rfl ?_)
 rfl
end
theorem uk {q i:Nat}:(2^q).testBit i=true↔i=q:=by rw[Nat.testBit_two_pow,decide_eq_true_eq];exact eq_comm
theorem agl {f:Nat→Bool} {off n j:Nat}:(fY 0 f off n).testBit j=true↔off≤j∧j<n+off∧f (j-off)=true:=by
 rw[FB,Nat.zero_testBit,Bool.false_or,Bool.and_eq_true,decide_eq_true_eq,and_assoc]
theorem wV {m k:Da} (hm:m.Ok) (hL:m.L=k.L) {p x q:Nat}:db p x q∈oR m k↔(p<m.n∧x<m.L∧(q=m.nx p x∨m.fin (m.nx p x)=true∧q=m.n+k.st))∨∃p',p=p'+m.n∧p'<k.n∧x<m.L∧q=k.nx p' x+m.n:=by
 unfold oR
 rw[List.mem_append,List.mem_append,uf,uf,FD]
 constructor
 ·rintro ((⟨p',x',h1,h2,h3⟩|⟨p',x',h1,h2,h3⟩)|⟨e',h1,h2,h3,h4⟩)
  ·obtain ⟨rfl,rfl,rfl⟩:=wS.1 h3
   exact .inl ⟨h1,h2,.inl rfl⟩
  ·obtain ⟨rfl,rfl,rfl⟩:=wS.1 h3
   exact .inr ⟨p',rfl,h1,hL▸h2,rfl⟩
  ·rcases List.mem_append.1 h1 with h1|h1
   ·obtain ⟨p',x',g1,g2,rfl⟩:=uf.1 h1
    have e:db p x q=db (p'+0) x' (m.n+k.st):=h4
    obtain ⟨rfl,rfl,rfl⟩:=wS.1 e
    exact .inl ⟨g1,g2,.inr ⟨h3,rfl⟩⟩
   ·obtain ⟨p',x',g1,g2,rfl⟩:=uf.1 h1
    have:(db (p'+m.n) x' (k.nx p' x'+m.n)).t.toNat=k.nx p' x'+m.n:=rfl
    omega
 ·rintro (⟨h1,h2,rfl|⟨h3,rfl⟩⟩|⟨p',rfl,h1,h2,rfl⟩)
  ·exact .inl (.inl ⟨p,x,h1,h2,rfl⟩)
  ·exact .inr ⟨db p x (m.nx p x),List.mem_append_left _ (uf.2 ⟨p,x,h1,h2,rfl⟩),hm.dQ h1 h2,h3,rfl⟩
  ·exact .inl (.inr ⟨p',x,h1,hL▸h2,rfl⟩)
section
variable {m k:Da} (hm:m.Ok) (hk:k.Ok) (hL:m.L=k.L)
include hm hk hL
theorem FJ: ∀{w:List Nat} {j t:Nat},j<k.n→WL m.L w→(eU (oR m k) (j+m.n) w t↔t=k.run j w+m.n)
 | [],j,t,_,_=>by
  show j+m.n=t↔_
  exact eq_comm
 | x::w,j,t,hj,hw=>by
  rw[Da.zl]
  have ih:=fun t=>FJ (w:=w) (j:=k.nx j x) (t:=t) (hk.dQ hj (hL▸hw.head)) hw.tail
  constructor
  ·rintro ⟨q,h1,h2⟩
   rcases (wV hm hL).1 h1 with ⟨h3,_⟩|⟨p',h3,h4,h5,rfl⟩
   ·omega
   ·obtain rfl:j=p':=by omega
    exact (ih t).1 h2
  ·intro h
   exact ⟨_,(wV hm hL).2 (.inr ⟨j,rfl,hj,hw.head,rfl⟩),(ih t).2 h⟩
theorem Ll: ∀{w:List Nat} {i t:Nat},i<m.n→WL m.L w→(eU (oR m k) i w t↔t=m.run i w∨∃u v,w=u++v∧u≠[]∧m.fin (m.run i u)=true∧t=k.run k.st v+m.n)
 | [],i,t,_,_=>by
  show i=t↔_
  constructor
  ·intro h;exact .inl h.symm
  ·rintro (h|⟨u,v,h1,h2,_⟩)
   ·exact h.symm
   ·exact absurd (List.append_eq_nil_iff.1 h1.symm).1 h2
 | x::w,i,t,hi,hw=>by
  rw[Da.zl]
  have hn:=hm.dQ hi hw.head
  have ih:=Ll (w:=w) (i:=m.nx i x) (t:=t) hn hw.tail
  have h2:=FJ hm hk hL (w:=w) (j:=k.st) (t:=t) hk.s hw.tail
  constructor
  ·rintro ⟨q,h3,h4⟩
   rcases (wV hm hL).1 h3 with ⟨_,_,rfl|⟨h5,rfl⟩⟩|⟨p',h5,h6,_⟩
   ·rcases ih.1 h4 with h5|⟨u,v,rfl,h5,h6,h7⟩
    ·exact .inl h5
    ·exact .inr ⟨x::u,v,rfl,by simp,h6,h7⟩
   ·rw[Nat.add_comm] at h4
    exact .inr ⟨[x],w,rfl,by simp,h5,h2.1 h4⟩
   ·omega
  ·rintro (h|⟨u,v,h3,h4,h5,h6⟩)
   ·exact ⟨_,(wV hm hL).2 (.inl ⟨hi,hw.head,.inl rfl⟩),ih.2 (.inl h)⟩
   ·cases u with
    | nil=>exact absurd rfl h4
    | cons y u=>
     simp only[List.cons_append,List.cons.injEq] at h3
     obtain ⟨rfl,rfl⟩:=h3
     rw[Da.zl] at h5
     by_cases hu:u=[]
     ·subst hu
      refine ⟨m.n+k.st,(wV hm hL).2 (.inl ⟨hi,hw.head,.inr ⟨h5,rfl⟩⟩),?_⟩
      rw[Nat.add_comm]
      exact h2.2 h6
     ·exact ⟨_,(wV hm hL).2 (.inl ⟨hi,hw.head,.inl rfl⟩),ih.2 (.inr ⟨u,v,rfl,hu,h5,h6⟩)⟩
theorem agm {w:List Nat} (hw:WL m.L w):qu (ui m k) (FI m k) (oR m k) w↔∃u v,w=u++v∧m.acc m.st u=true∧k.acc k.st v=true:=by
 have hs:=hm.s
 have sY:=hk.s
 have hS: ∀i,(ui m k).testBit i=true↔i=m.st∨m.fin m.st=true∧i=m.n+k.st:=by
  intro i
  unfold ui
  split
  ·next h=>rw[Nat.testBit_or,Bool.or_eq_true,uk,uk];simp[h]
  ·next h=>rw[uk];simp[h]
 have hF: ∀t,(FI m k).testBit t=true↔m.n≤t∧t<k.n+m.n∧k.fin (t-m.n)=true:=fun t=>agl
 unfold qu
 constructor
 ·rintro ⟨i,t,h1,h2,h3⟩
  obtain ⟨h4,h5,h6⟩:=(hF t).1 h2
  rcases (hS i).1 h1 with rfl|⟨h7,rfl⟩
  ·rcases (Ll hm hk hL hs hw).1 h3 with h8|⟨u,v,rfl,h8,h9,rfl⟩
   ·have:=hm.zk w hs hw
    omega
   ·refine ⟨u,v,rfl,h9,?_⟩
    rw[Nat.add_sub_cancel] at h6
    exact h6
  ·rw[Nat.add_comm] at h3
   have h8:=(FJ hm hk hL sY hw).1 h3
   refine ⟨[],w,rfl,h7,?_⟩
   rw[h8,Nat.add_sub_cancel] at h6
   exact h6
 ·rintro ⟨u,v,rfl,h1,h2⟩
  have hv:WL m.L v:=(WL.app.1 hw).2
  have hr:=hk.zk v sY (hL▸hv)
  by_cases hu:u=[]
  ·subst hu
   refine ⟨m.n+k.st,k.run k.st v+m.n,(hS _).2 (.inr ⟨h1,rfl⟩),(hF _).2 ⟨by omega,by omega,?_⟩,?_⟩
   ·rw[Nat.add_sub_cancel];exact h2
   ·rw[Nat.add_comm m.n]
    exact (FJ hm hk hL sY hv).2 rfl
  ·refine ⟨m.st,k.run k.st v+m.n,(hS _).2 (.inl rfl),(hF _).2 ⟨by omega,by omega,?_⟩,?_⟩
   ·rw[Nat.add_sub_cancel];exact h2
   ·exact (Ll hm hk hL hs hw).2 (.inr ⟨u,v,rfl,hu,h1,rfl⟩)
end
inductive dW (K:List Nat→Prop):List Nat→Prop
 | nil:dW K []
 | app {u v:List Nat}:u≠[]→K u→dW K v→dW K (u++v)
section
variable {K:List Nat→Prop}
theorem dW.iff {w:List Nat}:dW K w↔w=[]∨∃u v,w=u++v∧u≠[]∧K u∧dW K v:=by
 constructor
 ·intro h
  cases h with
  | nil=>exact .inl rfl
  | app h1 h2 h3=>exact .inr ⟨_,_,rfl,h1,h2,h3⟩
 ·rintro (rfl|⟨u,v,rfl,h1,h2,h3⟩)
  ·exact .nil
  ·exact .app h1 h2 h3
theorem dW.one {w:List Nat} (h:K w):dW K w:=by
 by_cases hw:w=[]
 ·rw[hw];exact .nil
 ·have:=dW.app hw h .nil
  rwa [List.append_nil] at this
theorem dW.two {u v:List Nat} (h1:dW K u) (h2:dW K v):dW K (u++v):=by
 induction h1 with
 | nil=>exact h2
 | app g1 g2 _ ih=>rw[List.append_assoc];exact .app g1 g2 ih
theorem dW.idem {w:List Nat}:dW (dW K) w↔dW K w:=by
 constructor
 ·intro h
  induction h with
  | nil=>exact .nil
  | app _ g2 _ ih=>exact g2.two ih
 ·exact dW.one
theorem dW.ext {K2:List Nat→Prop} {L:Nat} (h: ∀u,WL L u→(K u↔K2 u)) {w:List Nat} (hw:WL L w):dW K w↔dW K2 w:=by
 constructor
 ·intro hr
  induction hr with
  | nil=>exact .nil
  | app g1 g2 _ ih=>exact .app g1 ((h _ (WL.app.1 hw).1).1 g2) (ih (WL.app.1 hw).2)
 ·intro hr
  induction hr with
  | nil=>exact .nil
  | app g1 g2 _ ih=>exact .app g1 ((h _ (WL.app.1 hw).1).2 g2) (ih (WL.app.1 hw).2)
end
def qv (m:Da):List Ed:=dH m 0++tab m.L fun x=>db m.n x (m.nx m.st x)
def jg (m:Da):List Ed:=qv m++kO m.n m.fin m.st (qv m)
def Bj (m:Da):Nat:=fY (2^m.n) m.fin 0 m.n
def Lm (m:Da):Nf:=cq m.L (m.n+1) (2^m.n) (Bj m) (jg m)
def j4 (m:Da) (p:Nat):Nat:=if p=m.n then m.st else p
section
variable {m:Da} (hm:m.Ok)
include hm
theorem Ln {p:Nat} (hp:p≤m.n):j4 m p<m.n:=by
 have:=hm.s
 unfold j4;split<;>omega
theorem FK {e:Ed}:e∈qv m↔∃p x,p≤m.n∧x<m.L∧e=db p x (m.nx (j4 m p) x):=by
 have hs:=hm.s
 unfold qv
 rw[List.mem_append,uf,vQ]
 constructor
 ·rintro (⟨p,x,hp,hx,rfl⟩|⟨x,hx,rfl⟩)
  ·refine ⟨p,x,by omega,hx,?_⟩
   unfold j4;rw[if_neg (by omega)];rfl
  ·refine ⟨m.n,x,Nat.le_refl _,hx,?_⟩
   unfold j4;rw[if_pos rfl]
 ·rintro ⟨p,x,hp,hx,rfl⟩
  by_cases h:p=m.n
  ·exact .inr ⟨x,hx,by unfold j4;rw[if_pos h,h]⟩
  ·exact .inl ⟨p,x,by omega,hx,by unfold j4;rw[if_neg h];rfl⟩
theorem um {p x q:Nat}:db p x q∈jg m↔p≤m.n∧x<m.L∧(q=m.nx (j4 m p) x∨m.fin (m.nx (j4 m p) x)=true∧q=m.st):=by
 unfold jg
 rw[List.mem_append,FK hm,FD]
 constructor
 ·rintro (⟨p',x',h1,h2,h3⟩|⟨e',h1,h2,h3,h4⟩)
  ·obtain ⟨rfl,rfl,rfl⟩:=wS.1 h3
   exact ⟨h1,h2,.inl rfl⟩
  ·obtain ⟨p',x',g1,g2,rfl⟩:=(FK hm).1 h1
   have e:db p x q=db p' x' m.st:=h4
   obtain ⟨rfl,rfl,rfl⟩:=wS.1 e
   exact ⟨g1,g2,.inr ⟨h3,rfl⟩⟩
 ·rintro ⟨h1,h2,rfl|⟨h3,rfl⟩⟩
  ·exact .inl ⟨p,x,h1,h2,rfl⟩
  ·exact .inr ⟨db p x (m.nx (j4 m p) x),(FK hm).2 ⟨p,x,h1,h2,rfl⟩,hm.dQ (Ln hm h1) h2,h3,rfl⟩
theorem Lo {e:Ed} (he:e∈qv m):e.In (m.L:Int) ((m.n+1:Nat):Int):=by
 obtain ⟨p,x,hp,hx,rfl⟩:=(FK hm).1 he
 have:=hm.dQ (Ln hm hp) hx
 exact Ld (by omega) hx (by omega)
theorem agn {e:Ed} (he:e∈jg m):e.In (m.L:Int) ((m.n+1:Nat):Int):=by
 rcases List.mem_append.1 he with he|he
 ·exact Lo hm he
 ·obtain ⟨e',h1,h2,h3,rfl⟩:=FD.1 he
  have:=Lo hm h1
  have:=hm.s
  unfold Ed.In at*
  simp only
  omega
theorem UO:(qv m).length≤(m.n+1)*6:=by
 have h1:=qt hm (off:=0) (n:=m.n)
 have h6:=hm.l6
 unfold qv
 rw[List.length_append,eP]
 unfold dH
 omega
theorem UP (hs:m.n+1≤64):rM m.L (m.n+1) (2^m.n) (Bj m) (jg m) where
 l1:=hm.l1
 l6:=hm.l6
 oD:=hs
 st:=Nat.pow_lt_pow_right (by omega) (by omega)
 fin:=Bd (Nat.pow_lt_pow_right (by omega) (by omega)) (by omega)
 E:=fun e he=>agn hm he
 len:=by
  have h1:=UO hm
  have h3:=FE (l:=qv m) (n:=m.n) (to:=m.st) (f:=m.fin)
  unfold jg
  rw[List.length_append]
  omega
theorem Lp: ∀{w:List Nat} {i t:Nat},i<m.n→eU (jg m) i w t→t<m.n
 | [],i,t,hi,h=>by
  have:i=t:=h
  omega
 | x::w,i,t,hi,h=>by
  obtain ⟨q,h1,h2⟩:=h
  obtain ⟨g1,g2,g3⟩:=(um hm).1 h1
  refine Lp (w:=w) ?_ h2
  rcases g3 with rfl|⟨_,rfl⟩
  ·exact hm.dQ (Ln hm g1) g2
  ·exact hm.s
theorem FL: ∀{w:List Nat} {i t:Nat},i<m.n→WL m.L w→(eU (jg m) i w t↔t=m.run i w∨∃u v,w=u++v∧u≠[]∧m.fin (m.run i u)=true∧eU (jg m) m.st v t)
 | [],i,t,_,_=>by
  show i=t↔_
  constructor
  ·intro h;exact .inl h.symm
  ·rintro (h|⟨u,v,h1,h2,_⟩)
   ·exact h.symm
   ·exact absurd (List.append_eq_nil_iff.1 h1.symm).1 h2
 | x::w,i,t,hi,hw=>by
  rw[Da.zl]
  have hn:=hm.dQ hi hw.head
  have FM:j4 m i=i:=by unfold j4;rw[if_neg (by omega)]
  have ih:=FL (w:=w) (i:=m.nx i x) (t:=t) hn hw.tail
  constructor
  ·rintro ⟨q,h3,h4⟩
   obtain ⟨_,_,h5⟩:=(um hm).1 h3
   rw[FM] at h5
   rcases h5 with rfl|⟨h5,rfl⟩
   ·rcases ih.1 h4 with h5|⟨u,v,rfl,h5,h6,h7⟩
    ·exact .inl h5
    ·exact .inr ⟨x::u,v,rfl,by simp,h6,h7⟩
   ·exact .inr ⟨[x],w,rfl,by simp,h5,h4⟩
  ·rintro (h|⟨u,v,h3,h4,h5,h6⟩)
   ·exact ⟨_,(um hm).2 ⟨by omega,hw.head,.inl (by rw[FM])⟩,ih.2 (.inl h)⟩
   ·cases u with
    | nil=>exact absurd rfl h4
    | cons y u=>
     simp only[List.cons_append,List.cons.injEq] at h3
     obtain ⟨rfl,rfl⟩:=h3
     rw[Da.zl] at h5
     by_cases hu:u=[]
     ·subst hu
      exact ⟨m.st,(um hm).2 ⟨by omega,hw.head,.inr ⟨by rw[FM];exact h5,rfl⟩⟩,h6⟩
     ·exact ⟨_,(um hm).2 ⟨by omega,hw.head,.inl (by rw[FM])⟩,ih.2 (.inr ⟨u,v,rfl,hu,h5,h6⟩)⟩
theorem UQ {w:List Nat} {t:Nat} (hw:w≠[]):eU (jg m) m.n w t↔eU (jg m) m.st w t:=by
 have hs:=hm.s
 cases w with
 | nil=>exact absurd rfl hw
 | cons x w=>
  have e: ∀q,db m.n x q∈jg m↔db m.st x q∈jg m:=fun q=>by
   have e1:j4 m m.n=m.st:=if_pos rfl
   have e2:j4 m m.st=m.st:=by unfold j4;rw[if_neg (by omega)]
   rw[um hm,um hm,e1,e2]
   constructor
   ·rintro ⟨_,h2,h3⟩;exact ⟨by omega,h2,h3⟩
   ·rintro ⟨_,h2,h3⟩;exact ⟨by omega,h2,h3⟩
  constructor
  ·rintro ⟨q,h1,h2⟩;exact ⟨q,(e q).1 h1,h2⟩
  ·rintro ⟨q,h1,h2⟩;exact ⟨q,(e q).2 h1,h2⟩
theorem ago {w:List Nat} (hw:WL m.L w):(∃t,m.fin t=true∧eU (jg m) m.st w t)↔m.acc m.st w=true∨∃u v,w=u++v∧u≠[]∧m.acc m.st u=true∧∃t,m.fin t=true∧eU (jg m) m.st v t:=by
 constructor
 ·rintro ⟨t,h1,h2⟩
  rcases (FL hm hm.s hw).1 h2 with rfl|⟨u,v,rfl,h3,h4,h5⟩
  ·exact .inl h1
  ·exact .inr ⟨u,v,rfl,h3,h4,t,h1,h5⟩
 ·rintro (h|⟨u,v,rfl,h3,h4,t,h5,h6⟩)
  ·exact ⟨_,h,(FL hm hm.s hw).2 (.inl rfl)⟩
  ·exact ⟨t,h5,(FL hm hm.s hw).2 (.inr ⟨u,v,rfl,h3,h4,h6⟩)⟩
theorem Lq: ∀(k:Nat) {w:List Nat},w.length≤k→WL m.L w→w≠[]→((∃t,m.fin t=true∧eU (jg m) m.st w t)↔dW (fun u=>m.acc m.st u=true) w)
 | 0,w,hk,_,h0=>absurd (List.length_eq_zero_iff.1 (by omega)) h0
 | k+1,w,hk,hw,h0=>by
  rw[ago hm hw]
  have len: ∀{u v:List Nat},w=u++v→u≠[]→v.length≤k:=fun {u v} e hu=>by
   have:=List.length_pos_iff.2 hu
   rw[e,List.length_append] at hk
   omega
  constructor
  ·rintro (h|⟨u,v,e,h1,h2,h3⟩)
   ·exact .one h
   ·by_cases hv:v=[]
    ·rw[e,hv];exact .app h1 h2 .nil
    ·rw[e]
     exact .app h1 h2 ((Lq k (len e h1) (WL.app.1 (e▸hw)).2 hv).1 h3)
  ·intro h
   rcases dW.iff.1 h with h|⟨u,v,e,h1,h2,h3⟩
   ·exact absurd h h0
   ·by_cases hv:v=[]
    ·rw[hv,List.append_nil] at e
     exact .inl (e▸h2)
    ·exact .inr ⟨u,v,e,h1,h2,(Lq k (len e h1) (WL.app.1 (e▸hw)).2 hv).2 h3⟩
theorem agp {w:List Nat} (hw:WL m.L w):qu (2^m.n) (Bj m) (jg m) w↔dW (fun u=>m.acc m.st u=true) w:=by
 have hs:=hm.s
 have hF: ∀t,(Bj m).testBit t=true↔t=m.n∨t<m.n∧m.fin t=true:=by
  intro t
  unfold Bj
  rw[FB,Bool.or_eq_true,uk,Bool.and_eq_true,decide_eq_true_eq,Nat.sub_zero]
  constructor
  ·rintro (h|⟨h1,h2⟩)
   ·exact .inl h
   ·exact .inr ⟨by omega,h2⟩
  ·rintro (h|⟨h1,h2⟩)
   ·exact .inl h
   ·exact .inr ⟨by omega,h2⟩
 unfold qu
 by_cases h0:w=[]
 ·subst h0
  exact ⟨fun _=> .nil,fun _=>⟨m.n,m.n,uk.2 rfl,(hF _).2 (.inl rfl),rfl⟩⟩
 ·rw[←Lq hm w.length (Nat.le_refl _) hw h0]
  constructor
  ·rintro ⟨i,t,h1,h2,h3⟩
   rw[uk.1 h1,UQ hm h0] at h3
   have ht:=Lp hm hs h3
   rcases (hF t).1 h2 with h4|⟨_,h4⟩
   ·omega
   ·exact ⟨t,h4,h3⟩
  ·rintro ⟨t,h1,h2⟩
   have ht:=Lp hm hs h2
   exact ⟨m.n,t,uk.2 rfl,(hF t).2 (.inr ⟨ht,h1⟩),(UQ hm h0).2 h2⟩
end
section
variable {m:Da} (hm:m.Ok)
include hm
end
def Ed.rev (e:Ed):Ed:=⟨e.t,e.l,e.f⟩
@[simp] theorem Ed.rev_rev (e:Ed):e.rev.rev=e:=rfl
theorem WL.rev {L:Nat} {w:List Nat} (h:WL L w):WL L w.reverse:=fun x hx=>h x (List.mem_reverse.1 hx)
section
variable {m:Da} (hm:m.Ok)
include hm
end
section
variable {m:Da} (hm:m.Ok)
include hm
end
end Go.AM
set_option maxRecDepth 100000
namespace Go.AM
open Go.Proofs
namespace Da
end Da
structure kP (X:Da) (L:Nat) (K:List Nat→Prop):Prop where
 ok:X.Ok
 hL:X.L=L
 min:minD X=X
 gG: ∀w,WL L w→(X.acc X.st w=true↔K w)
theorem kP.eq {X Y:Da} {L:Nat} {K K':List Nat→Prop} (h:kP X L K) (h':kP Y L K') (e: ∀w,WL L w→(K w↔K' w)):X=Y:=by
 rw[←h.min,←h'.min]
 refine UE h.ok h'.ok (h.hL.trans h'.hL.symm) fun w hw=> ?_
 have xS:WL L w:=h.hL▸hw
 rw[Bool.eq_iff_iff,h.gG w xS,h'.gG w xS,e w xS]
theorem kP.ext {X:Da} {L:Nat} {K K':List Nat→Prop} (h:kP X L K) (e: ∀w,WL L w→(K w↔K' w)):kP X L K':=⟨h.ok,h.hL,h.min,fun w hw=>(h.gG w hw).trans (e w hw)⟩
theorem kP.acc {X:Da} {L:Nat} {K:List Nat→Prop} (h:kP X L K) {w:List Nat} (hw:WL L w) {b:Bool} (e:K w↔b=true):X.acc X.st w=b:=by
 rw[Bool.eq_iff_iff,h.gG w hw,e]
section
variable {L S st fin:Nat} {l:List Ed} (h:rM L S st fin l)
include h
theorem agq (hn: ¬gK (cq L S st fin l) L S):kP (fe (cq L S st fin l) L S) L (qu st fin l) where
 ok:=af4 h hn
 hL:=af5 h hn
 min:=by
  unfold fe
  rw[if_neg hn]
  exact af0 (we (nE h) hn)
 gG:=fun _ hw=>af6 h hn hw
theorem agr (hn: ¬gK (cq L S st fin l) L S):(fe (cq L S st fin l) L S).n≤2^S:=by
 have h1:=UD (we (nE h) hn)
 have h2:=wc (nE h) (2^S)
 have h3:(hO (cq L S st fin l) L S).n=(gJ (cq L S st fin l) L S).length:=lx
 unfold fe
 rw[if_neg hn]
 unfold gJ at h3
 omega
theorem ags:(mJ (cq L S st fin l) L S=0∧kP (fe (cq L S st fin l) L S) L (qu st fin l)∧(fe (cq L S st fin l) L S).n≤2^S)∨(mJ (cq L S st fin l) L S=3∧fe (cq L S st fin l) L S=zD∧9<S):=by
 by_cases hn:gK (cq L S st fin l) L S
 ·refine .inr ⟨if_pos hn,if_pos hn,?_⟩
  rcases Nat.lt_or_ge 9 S with c|c
  ·exact c
  ·exact absurd hn (af7 h c)
 ·exact .inl ⟨if_neg hn,agq h hn,agr h hn⟩
end
def rO (r:Option (List V)) (L S:Nat) (K:List Nat→Prop):Prop:=(∃X,r=some (gI X 0)∧kP X L K∧X.n≤2^S)∨(r=some (gI zD 3)∧9<S)
theorem rO.of {L S st fin:Nat} {l:List Ed} (h:rM L S st fin l) {r:Option (List V)} (e:r=some (gI (fe (cq L S st fin l) L S) (mJ (cq L S st fin l) L S))) {K:List Nat→Prop} (hK: ∀w,WL L w→(qu st fin l w↔K w)):rO r L S K:=by
 rcases ags h with ⟨h1,h2,h3⟩|⟨h1,h2,h3⟩
 ·exact .inl ⟨_,by rw[e,h1],h2.ext hK,h3⟩
 ·exact .inr ⟨by rw[e,h1,h2],h3⟩
theorem rO.small {r:Option (List V)} {L S:Nat} {K:List Nat→Prop} (h:rO r L S K) (hS:S≤9): ∃X,r=some (gI X 0)∧kP X L K∧X.n≤2^S:=by
 rcases h with h|⟨_,h⟩
 ·exact h
 ·omega
end Go.AM
set_option maxRecDepth 100000
namespace Go.AM
open Go.Proofs
noncomputable abbrev UR:Code:=cB Tryd.prog (av.aR 43)
noncomputable def Bk (C:ae) (s:Int) (t42:List V) (t43 dR dS mu mw:Int) (oP gH eG cH:List V) (t44 a8 aV ba bc:Int) (cb:List V) {β:Type} (kn:(Int × Int × Int × Int × Int × (List V))→Option β) (kr:(Int × Bool × Int × Int × Int × Int × (List V))→Option β):Option β:=
 bif decide ((t44:Int)<t43) then
  (idx t42 t44).bind fun x5=>
  (C tk [.int .i64 s,.int .i64 t44,.int .i64 x5.toInt,.int .i64 a8,.int .i64 aV,.int .u64 ba,.int .u64 bc,.list an cb]).bind fun r6=>
  kn (IntKind.wrap .i64 (t44+1),(V.nth r6 0).toInt,(V.nth (r6.drop 1) 0).toInt,(V.nth ((r6.drop 1).drop 1) 0).toInt,(V.nth (((r6.drop 1).drop 1).drop 1) 0).toInt,(V.nth (r6.drop 4) 0).toList)
 else
  kr (t44,decide ((t44:Int)<t43),a8,aV,ba,bc,cb)
noncomputable def Lr (C:ae) (s:Int) (t42:List V) (t43 dR dS mu mw:Int) (oP gH eG cH:List V):(Int × Int × Int × Int × Int × (List V))→Option ((Int × Int × Int × Int × Int × (List V)) ⊕ (Int × Bool × Int × Int × Int × Int × (List V))):=un fun t44=>un fun a8=>un fun aV=>un fun ba=>un fun bc cb=>Bk C s t42 t43 dR dS mu mw oP gH eG cH t44 a8 aV ba bc cb (fun y=>some (.inl y)) (fun r=>some (.inr r))
noncomputable def US (C:ae):ct:=fun β n ds k=>
 bif Nat.beq n 161 then bB Iw [false,false,false,true,false,false,false,false,true,true,true,true,false,false,false,false,true] [[1,2,3,0,0,5,6,7,8,0,0,0,0,13,14,15,16,0]] (@Bk C) ds k else
 none
abbrev agt (C:ae) (b:cm):Prop:=cp Tryd.prog av C (US C) 43 (cI Tryd.prog (av.aR 43)) (av.sin 43).aP.length b
theorem agu (C:ae):agt C (.loop (ao [1,1,1,1,1,1,1,0,1,0,0] UR)):=
 bE Iw [false,false,false,true,false,false,false,false,true,true,true,true,false,false,false,false,true] [[1,2,3,0,0,5,6,7,8,0,0,0,0,13,14,15,16,0]] (@Bk C) (by kernel_rfl) (aY (bs:=[]) (by kernel_rfl) aw) (fun ds=>by kernel_rfl) (fun i x=>by kernel_rfl) (fun i x β k=>by kernel_rfl) (fun β ds k=>by kernel_rfl)
noncomputable def Ls (C:ae) (aT aW:Int) (aL aU:List V):Option (List V):=
 (C yC [.int .i64 aT,.int .i64 aW,.list ax aL,.list aB aU]).bind fun r1=>
 bif (((V.nth (r1.drop 2) 0).toInt):Int) != 0 then
  some [.int .i64 0,.int .i64 0,.int .i64 ((V.nth (r1.drop 2) 0).toInt),.list ax ([]:List V),.list aB ([]:List V)]
 else
  (C tj [.int .i64 aT,.int .i64 (IntKind.wrap .i64 ((((V.nth (r1.drop 3) 0).toList).length:Int)+1))]).bind fun r2=>
  bif (V.nth r2 0).toBool then
  some [.int .i64 0,.int .i64 0,.int .i64 3,.list ax ([]:List V),.list aB ([]:List V)]
  else
  (C tp [.int .i64 ((V.nth r1 0).toInt),.int .i64 ((V.nth (r1.drop 1) 0).toInt),.list ax ((V.nth (r1.drop 3) 0).toList),.list aB ((V.nth ((r1.drop 3).drop 1) 0).toList),.int .i64 0,.int .i64 ((V.nth (r2.drop 1) 0).toInt),.int .i64 ((V.nth ((r2.drop 1).drop 1) 0).toInt),.int .u64 ((V.nth (((r2.drop 1).drop 1).drop 1) 0).toInt),.int .u64 ((V.nth ((((r2.drop 1).drop 1).drop 1).drop 1) 0).toInt),.list an ((V.nth ((r2.drop 1).drop 4) 0).toList)]).bind fun r3=>
  bif (decide (0≤((V.nth (r1.drop 1) 0).toInt)))&&(decide (((V.nth (r1.drop 1) 0).toInt)<(((V.nth ((r1.drop 3).drop 1) 0).toList).length:Int))) then
   (((V.nth ((r1.drop 3).drop 1) 0).toList)[((V.nth (r1.drop 1) 0).toInt:Int).toNat]?).bind fun x4=>
   (Loop (Lr C (((V.nth (r1.drop 3) 0).toList).length:Int) x4.toList (x4.toList.length:Int) 0 0 ((V.nth r1 0).toInt) ((V.nth (r1.drop 1) 0).toInt) ([]:List V) ([]:List V) ((V.nth (r1.drop 3) 0).toList) ((V.nth ((r1.drop 3).drop 1) 0).toList)) (0,(V.nth r3 0).toInt,(V.nth (r3.drop 1) 0).toInt,(V.nth ((r3.drop 1).drop 1) 0).toInt,(V.nth (((r3.drop 1).drop 1).drop 1) 0).toInt,(V.nth (r3.drop 4) 0).toList)).bind (un fun (oA:Int)=>un fun (vH:Bool)=>un fun (qs:Int)=>un fun (Bg:Int)=>un fun (Lh:Int)=>un fun (Li:Int) (vT:List V)=>
    (C yE [.list ax ((V.nth (r1.drop 3) 0).toList),.int .i64 ((V.nth (r1.drop 1) 0).toInt),.int .i64 qs,.int .i64 Bg,.int .u64 Lh,.int .u64 Li,.list an vT]).bind fun dV=>
    (C tm [.int .i64 (((V.nth (r1.drop 3) 0).toList).length:Int),.int .i64 ((V.nth dV 0).toInt),.int .i64 ((V.nth (dV.drop 1) 0).toInt),.int .u64 ((V.nth ((dV.drop 1).drop 1) 0).toInt),.int .u64 ((V.nth (((dV.drop 1).drop 1).drop 1) 0).toInt),.list an ((V.nth (dV.drop 4) 0).toList)]).bind fun ej=>
    (C yD [.int .i64 (((V.nth (r1.drop 3) 0).toList).length:Int),.int .i64 ((V.nth ej 0).toInt),.int .i64 ((V.nth (ej.drop 1) 0).toInt),.int .u64 ((V.nth ((ej.drop 1).drop 1) 0).toInt),.int .u64 ((V.nth (((ej.drop 1).drop 1).drop 1) 0).toInt),.list an ((V.nth (ej.drop 4) 0).toList)]).bind fun fU=>
    (C tn [.list ax ((V.nth (r1.drop 3) 0).toList),.int .i64 0,.int .i64 ((V.nth fU 0).toInt),.int .i64 ((V.nth (fU.drop 1) 0).toInt),.int .u64 ((V.nth ((fU.drop 1).drop 1) 0).toInt),.int .u64 ((V.nth (((fU.drop 1).drop 1).drop 1) 0).toInt),.list an ((V.nth (fU.drop 4) 0).toList)]).bind fun c6=>
    (C pK [.int .i64 ((V.nth c6 0).toInt),.int .i64 ((V.nth (c6.drop 1) 0).toInt),.int .u64 ((V.nth ((c6.drop 1).drop 1) 0).toInt),.int .u64 ((V.nth (((c6.drop 1).drop 1).drop 1) 0).toInt),.list an ((V.nth (c6.drop 4) 0).toList)]).bind fun mE=>
    some [.int .i64 ((V.nth mE 0).toInt),.int .i64 ((V.nth (mE.drop 1) 0).toInt),.int .i64 ((V.nth (mE.drop 2) 0).toInt),.list ax ((V.nth ((mE.drop 3).drop 5) 0).toList),.list aB ((V.nth (((mE.drop 3).drop 5).drop 1) 0).toList)])
  else none
theorem UT {aT aW:Int} {aL aU:List V} {r:Option (List V)} (h:Ls CC aT aW aL aU=r):CC ti [.int .i64 aT,.int .i64 aW,.list ax aL,.list aB aU]=r:=
 bp (key:=43) (L:=US CC) (bs:=[.loop (ao [1,1,1,1,1,1,1,0,1,0,0] UR)]) (by kernel_rfl) (bn (agu CC) aw) (Eq.trans (by kernel_rfl) h)
section
variable {a:Da} (h:a.Ok)
include h
theorem agv (hs:(minD a).n+1≤64):CC ti (dy a)=some (gI (fe (Lm (minD a)) a.L ((minD a).n+1)) (mJ (Lm (minD a)) a.L ((minD a).n+1))):=by
 have hm:=mL h
 have h6:=hm.l6
 have hL:=oQ h
 have bZ:=hm.s
 have hr:=Ug (UP hm hs)
 refine UT ?_
 unfold Ls
 refine bs (K9 h) (bF rfl ?_)
 have e0:(V.nth ((gI (minD a) 0).drop 3) 0).toList=(minD a).cv:=rfl
 have e1:(V.nth (((gI (minD a) 0).drop 3).drop 1) 0).toList=(minD a).cK:=rfl
 have e2:(V.nth ((gI (minD a) 0).drop 1) 0).toInt=((minD a).st:Int):=rfl
 rw[e0,e1,e2,Da.kA,dm (by omega)]
 refine bs (K7 hs) (bF rfl ?_)
 refine bs (FC (l:=[]) hm (off:=0) (by omega) (by simp)) ?_
 rw[List.nil_append]
 refine (fJ (i:=(minD a).st) bZ).trans ?_
 rw[show (jA (minD a).L ((minD a).nx (minD a).st)).toList=tab (minD a).L fun x=>nV ((minD a).nx (minD a).st x) from rfl,eP]
 have hlen:=qt hm (off:=0) (n:=(minD a).n)
 refine bs (wR (minD a).L (fun i=>((i:Int),(a.L:Int),(((minD a).n+1:Nat):Int),((0:Nat):Int),((0:Nat):Int),(dH (minD a) 0++tab i fun x=>db (minD a).n x ((minD a).nx (minD a).st x)).map Ed.enc)) (((minD a).L:Int),false,(a.L:Int),(((minD a).n+1:Nat):Int),((0:Nat):Int),((0:Nat):Int),(qv (minD a)).map Ed.enc) (by rw[JX,List.append_nil];rfl) (fun x hx=> ?_) ?_) ?_
 ·simp only[Lr,Bk,un]
  refine bT (eD hx) ?_
  refine bs (p6 hx) ?_
  rw[show (nV ((minD a).nx (minD a).st x)).toInt=(((minD a).nx (minD a).st x:Nat):Int) from rfl]
  refine bs (Fz (by rw[List.length_append,eP];unfold dH;omega)) ?_
  rw[dm (by omega),rv,←List.append_assoc]
  rfl
 ·simp only[Lr,Bk,un]
  refine bF (bN (Nat.le_refl _)) ?_
  rw[bN (Nat.le_refl _)]
  rfl
 ·simp only[un]
  have p1:(2:Nat)^(minD a).n<2^64:=Nat.pow_lt_pow_right (by omega) (by omega)
  have l1:=UO hm
  refine bs (Uz (n:=(minD a).n) (f:=(minD a).fin) (fun e he=>UM (Lo hm he)) (by omega) (by omega)) ?_
  refine bs (FA (q:=(minD a).n) (by omega) (by omega)) ?_
  refine bs (Ux (q:=(minD a).n) (by omega) (by omega)) ?_
  rw[Nat.zero_or]
  refine bs (K8 (n:=(minD a).n) (f:=(minD a).fin) (off:=0) (by omega) p1) ?_
  rw[hL] at hr
  refine bs hr ?_
  show _=some (gI (fe (cq (minD a).L _ _ _ _) a.L _) (mJ (cq (minD a).L _ _ _ _) a.L _))
  rw[hL]
  rfl
theorem agw (hs:64<(minD a).n+1):CC ti (dy a)=some (gI zD 3):=by
 have h1:=(mL h).ei
 refine UT ?_
 unfold Ls
 refine bs (K9 h) (bF rfl ?_)
 have e0:(V.nth ((gI (minD a) 0).drop 3) 0).toList=(minD a).cv:=rfl
 rw[e0,Da.kA,dm (by omega)]
 refine bs (Uy hs) (bT rfl ?_)
 rfl
theorem UU:rO (CC ti (dy a)) a.L ((minD a).n+1) (dW fun u=>a.acc a.st u=true):=by
 have hm:=mL h
 have hL:=oQ h
 by_cases hs:(minD a).n+1≤64
 ·have hr:=UP hm hs
  have he:=agv h hs
  unfold Lm at he
  rw[←hL] at he⊢
  refine rO.of hr he fun w hw=> ?_
  rw[agp hm hw]
  refine dW.ext (fun u hu=> ?_) hw
  rw[ug h (hL▸hu)]
 ·exact .inr ⟨agw h (by omega),by omega⟩
end
theorem Bl {w:List UInt8} {L:Int}:eR w L↔1≤L∧L≤6∧w.length≤2048∧∀b∈w,0≤(b.toNat:Int)-97∧(b.toNat:Int)-97<L:=by
 unfold eR
 refine and_congr Iff.rfl (and_congr Iff.rfl (and_congr Iff.rfl ⟨fun h b hb=> ?_,fun h i hi=> ?_⟩))
 ·obtain ⟨i,hi,rfl⟩:=List.mem_iff_getElem.1 hb
  have:=h i hi
  unfold fT at this
  rwa [eO hi] at this
 ·unfold fT
  rw[eO hi]
  exact h _ (List.getElem_mem hi)
theorem eR.part {w v:List UInt8} {L:Int} (h:eR w L) (hl:v.length≤w.length) (hm: ∀b∈v,b∈w):eR v L:=by
 obtain ⟨h1,h2,h3,h4⟩:=Bl.1 h
 exact Bl.2 ⟨h1,h2,by omega,fun b hb=>h4 b (hm b hb)⟩
theorem eR.left {u v:List UInt8} {L:Int} (h:eR (u++v) L):eR u L:=h.part (by simp) fun b hb=>List.mem_append_left _ hb
theorem eR.right {u v:List UInt8} {L:Int} (h:eR (u++v) L):eR v L:=h.part (by simp) fun b hb=>List.mem_append_right _ hb
theorem eR.app {u v:List UInt8} {L:Int} (h1:eR u L) (h2:eR v L) (hl:u.length+v.length≤2048):eR (u++v) L:=by
 obtain ⟨a1,a2,_,a4⟩:=Bl.1 h1
 obtain ⟨_,_,_,b4⟩:=Bl.1 h2
 refine Bl.2 ⟨a1,a2,by rw[List.length_append];exact hl,fun b hb=> ?_⟩
 rcases List.mem_append.1 hb with hb|hb
 ·exact a4 b hb
 ·exact b4 b hb
section
variable {a b:Da} (ha:a.Ok) (hb:b.Ok) (hL:a.L=b.L)
include ha hb hL
theorem agx:rO (CC vz (lz a (dy b))) a.L ((minD a).n+(minD b).n) fun w=> ∃u v,w=u++v∧a.acc a.st u=true∧b.acc b.st v=true:=by
 have hm:=mL ha
 have hk:=mL hb
 have uj:=oQ ha
 have Lk:=oQ hb
 have Bi:(minD a).L=(minD b).L:=by rw[uj,Lk,hL]
 by_cases hs:(minD a).n+(minD b).n≤64
 ·have hr:=UN hm hk Bi hs
  have he:=agj ha hb hL hs
  unfold Bh at he
  rw[uj] at hr he
  refine rO.of hr he fun w hw=> ?_
  rw[agm hm hk Bi (by rw[uj];exact hw)]
  constructor
  ·rintro ⟨u,v,rfl,h1,h2⟩
   obtain ⟨w1,w2⟩:=WL.app.1 hw
   exact ⟨u,v,rfl,by rw[←ug ha w1];exact h1,by rw[←ug hb (hL▸w2)];exact h2⟩
  ·rintro ⟨u,v,rfl,h1,h2⟩
   obtain ⟨w1,w2⟩:=WL.app.1 hw
   exact ⟨u,v,rfl,by rw[ug ha w1];exact h1,by rw[ug hb (hL▸w2)];exact h2⟩
 ·exact .inr ⟨agk ha hb hL (by omega),by omega⟩
end
def dX:Da:=⟨2,0,[false,true],[[1,0],[0,1]]⟩
def lJ:Da:=⟨2,0,[false,true],[[1,0],[1,1]]⟩
theorem Bm:dX.Ok:=⟨by decide,by decide,by decide,by decide,by decide,by decide⟩
theorem FN:lJ.Ok:=⟨by decide,by decide,by decide,by decide,by decide,by decide⟩
theorem agy:dX.Canon dX.L (dX.acc dX.st) where
 ok:=Bm
 hL:=rfl
 st:=rfl
 num:=⟨by decide,by decide,by decide⟩
 red:=fun p q hp hq h=>by
  have h0:=h [] WL.nil
  have hp':p<2:=hp
  have bM:q<2:=hq
  have: ∀p,p<2→∀q,q<2→dX.acc p []=dX.acc q []→p=q:=by decide
  exact this p hp' q bM h0
 gG:=fun _ _=>rfl
theorem agz:lJ.Canon lJ.L (lJ.acc lJ.st) where
 ok:=FN
 hL:=rfl
 st:=rfl
 num:=⟨by decide,by decide,by decide⟩
 red:=fun p q hp hq h=>by
  have h0:=h [] WL.nil
  have hp':p<2:=hp
  have bM:q<2:=hq
  have: ∀p,p<2→∀q,q<2→lJ.acc p []=lJ.acc q []→p=q:=by decide
  exact this p hp' q bM h0
 gG:=fun _ _=>rfl
theorem UW:minD dX=dX:=(Ag Bm agy).symm
theorem agA:hO (wU dX) 2 2=lJ:=by kernel_rfl
theorem UX: ¬gK (wU dX) 2 2:=by
 have:=wc (nE (UJ Bm (by decide))) (2^2)
 exact fun h=>absurd (Nat.lt_of_lt_of_le h this) (by decide)
theorem agB:fe (wU dX) 2 2=lJ:=by
 unfold fe
 rw[if_neg UX,agA]
 exact (Ag FN agz).symm
noncomputable def UY (C:ae):Option (List V):=
 (C Dp []).bind fun r1=>
 (C Dk [.int .i64 ((V.nth r1 0).toInt),.int .i64 ((V.nth (r1.drop 1) 0).toInt),.list ax ((V.nth (r1.drop 2) 0).toList),.list aB ((V.nth ((r1.drop 2).drop 1) 0).toList)]).bind fun r2=>
 bif (((V.nth (r2.drop 2) 0).toInt):Int)==0 then
  bif ((((V.nth (r2.drop 3) 0).toList).length:Int):Int)==2 then
  (C yB [.int .i64 ((V.nth r2 0).toInt),.int .i64 ((V.nth (r2.drop 1) 0).toInt),.list ax ((V.nth (r2.drop 3) 0).toList),.list aB ((V.nth ((r2.drop 3).drop 1) 0).toList),.str [98,97,97]]).bind fun r3=>
  bif (V.nth r3 0).toBool then
   (C yB [.int .i64 ((V.nth r2 0).toInt),.int .i64 ((V.nth (r2.drop 1) 0).toInt),.list ax ((V.nth (r2.drop 3) 0).toList),.list aB ((V.nth ((r2.drop 3).drop 1) 0).toList),.str [98,98]]).bind fun r4=>
   some [.bool (!((V.nth r4 0).toBool))]
  else
   some [.bool false]
  else
  some [.bool false]
 else
  some [.bool false]
theorem agC {r:Option (List V)} (h:UY CC=r):CC lp []=r:=
 bp (key:=19) (L:=cR) (bs:=[]) (by kernel_rfl) aw (Eq.trans (by kernel_rfl) h)
noncomputable def agD (C:ae):Option (List V):=
 some [.int .i64 2,.int .i64 0,.list ax ([.bool false,.bool true]:List V),.list aB ([.list bf ([.int .i64 1,.int .i64 0]:List V),.list bf ([.int .i64 0,.int .i64 1]:List V)]:List V)]
theorem agE {r:Option (List V)} (h:agD CC=r):CC Dp []=r:=
 bp (key:=59) (L:=cR) (bs:=[]) (by kernel_rfl) aw (Eq.trans (by kernel_rfl) h)
def UZ:List Ed:=[⟨0,0,1⟩,⟨0,1,0⟩,⟨1,0,0⟩,⟨1,1,1⟩,⟨0,0,0⟩,⟨0,1,0⟩,⟨1,0,1⟩,⟨1,1,1⟩]
def Lt:List Ed:=[⟨0,0,0⟩,⟨0,0,1⟩,⟨0,1,0⟩,⟨0,1,0⟩,⟨1,0,0⟩,⟨1,0,1⟩,⟨1,1,1⟩,⟨1,1,1⟩]
def FO:List Ed:=[⟨0,0,0⟩,⟨0,0,1⟩,⟨0,1,0⟩,⟨1,0,0⟩,⟨1,0,1⟩,⟨1,1,1⟩]
theorem agF:dH dX 0++jf 2 2=UZ:=by decide
theorem agG:CC yG [.list an (UZ.map Ed.enc)]=some [.list an (Lt.map Ed.enc)]:=YW (N:=40) (n:=40) (by kernel_rfl)
theorem agH:wU dX=⟨2,2,1,2,FO⟩:=by kernel_rfl
theorem agI:CC pK (aN 2 2 (2^dX.st) (fY 0 dX.fin 0 2) (dH dX 0++jf 2 2))=some (KR lJ 0 ⟨2,2,1,2,FO⟩):=by
 obtain ⟨b,e2⟩:=Tc (l:=Lt) (by decide)
 have hc:gM Lt=FO:=by decide
 rw[hc] at e2
 have e3:=Uf (nE (UJ Bm (by decide)))
 rw[show cq dX.L dX.n (2^dX.st) (fY 0 dX.fin 0 dX.n) (dH dX 0++jf dX.L dX.n)=wU dX from rfl,show dX.L=2 from rfl,show dX.n=2 from rfl,agB,show mJ (wU dX) 2 2=0 from if_neg UX,agH] at e3
 rw[agF]
 refine Ue ?_
 unfold KQ
 refine bs agG ?_
 refine bs e2 ?_
 cases b
 ·refine bF rfl ?_
  refine bs e3 ?_
  rfl
 ·refine bT rfl ?_
  refine bs e3 ?_
  rfl
theorem Lu:CC lp []=some [.bool true]:=by
 have h1:CC Dp []=some (dy dX):=agE rfl
 have h2:=agd Bm (X:=lJ) (e:=0) (n:=⟨2,2,1,2,FO⟩) (by rw[UW];decide) (by rw[UW];exact agI)
 refine agC ?_
 unfold UY
 refine bs h1 ?_
 refine bs h2 ?_
 refine bT rfl (bT (by decide) ?_)
 refine bs (RB FN (w:=[98,97,97]) (by decide)) ?_
 refine bT (by decide) ?_
 refine bs (RB FN (w:=[98,98]) (by decide)) ?_
 rw[show lJ.acc lJ.st (lets [98,98])=false by decide]
 rfl
noncomputable def Lv (C:ae) (aT aW:Int) (aL aU:List V):Option (List V):=
 (C Dj [.int .i64 aT,.int .i64 aW,.list ax aL,.list aB aU,.int .i64 4]).bind fun r1=>
 bif !((V.nth r1 0).toBool) then
  (C lp []).bind fun r2=>
  some [.bool ((V.nth r2 0).toBool)]
 else
  (C ti [.int .i64 aT,.int .i64 aW,.list ax aL,.list aB aU]).bind fun r3=>
  bif (((V.nth (r3.drop 2) 0).toInt):Int) != 0 then
  bif (((V.nth (r3.drop 2) 0).toInt):Int)==0 then
   (C oq [.int .i64 ((V.nth r3 0).toInt),.int .i64 ((V.nth (r3.drop 1) 0).toInt),.list ax ((V.nth (r3.drop 3) 0).toList),.list aB ((V.nth ((r3.drop 3).drop 1) 0).toList)]).bind fun r4=>
   bif (((V.nth r4 0).toInt):Int)==0 then
   (C lp []).bind fun r5=>
   some [.bool ((V.nth r5 0).toBool)]
   else
   some [.bool false]
  else
   some [.bool false]
  else
  (C oq [.int .i64 ((V.nth r3 0).toInt),.int .i64 ((V.nth (r3.drop 1) 0).toInt),.list ax ((V.nth (r3.drop 3) 0).toList),.list aB ((V.nth ((r3.drop 3).drop 1) 0).toList)]).bind fun r6=>
  bif (((V.nth r6 0).toInt):Int) != 0 then
   bif (((V.nth (r3.drop 2) 0).toInt):Int)==0 then
   (C oq [.int .i64 ((V.nth r3 0).toInt),.int .i64 ((V.nth (r3.drop 1) 0).toInt),.list ax ((V.nth (r3.drop 3) 0).toList),.list aB ((V.nth ((r3.drop 3).drop 1) 0).toList)]).bind fun r7=>
   bif (((V.nth r7 0).toInt):Int)==0 then
    (C lp []).bind fun r8=>
    some [.bool ((V.nth r8 0).toBool)]
   else
    some [.bool false]
   else
   some [.bool false]
  else
   bif decide (((((V.nth (r3.drop 3) 0).toList).length:Int):Int)>12) then
   bif (((V.nth (r3.drop 2) 0).toInt):Int)==0 then
    (C oq [.int .i64 ((V.nth r3 0).toInt),.int .i64 ((V.nth (r3.drop 1) 0).toInt),.list ax ((V.nth (r3.drop 3) 0).toList),.list aB ((V.nth ((r3.drop 3).drop 1) 0).toList)]).bind fun r9=>
    bif (((V.nth r9 0).toInt):Int)==0 then
    (C lp []).bind fun r10=>
    some [.bool ((V.nth r10 0).toBool)]
    else
    some [.bool false]
   else
    some [.bool false]
   else
   bif ((((V.nth (r3.drop 3) 0).toList).length:Int):Int)==0 then
    bif (((V.nth (r3.drop 2) 0).toInt):Int)==0 then
    (C oq [.int .i64 ((V.nth r3 0).toInt),.int .i64 ((V.nth (r3.drop 1) 0).toInt),.list ax ((V.nth (r3.drop 3) 0).toList),.list aB ((V.nth ((r3.drop 3).drop 1) 0).toList)]).bind fun wM=>
    bif (((V.nth wM 0).toInt):Int)==0 then
     (C lp []).bind fun iW=>
     some [.bool ((V.nth iW 0).toBool)]
    else
     some [.bool false]
    else
    some [.bool false]
   else
    (C ti [.int .i64 ((V.nth r3 0).toInt),.int .i64 ((V.nth (r3.drop 1) 0).toInt),.list ax ((V.nth (r3.drop 3) 0).toList),.list aB ((V.nth ((r3.drop 3).drop 1) 0).toList)]).bind fun rB=>
    (C vz [.int .i64 ((V.nth r3 0).toInt),.int .i64 ((V.nth (r3.drop 1) 0).toInt),.list ax ((V.nth (r3.drop 3) 0).toList),.list aB ((V.nth ((r3.drop 3).drop 1) 0).toList),.int .i64 ((V.nth r3 0).toInt),.int .i64 ((V.nth (r3.drop 1) 0).toInt),.list ax ((V.nth (r3.drop 3) 0).toList),.list aB ((V.nth ((r3.drop 3).drop 1) 0).toList)]).bind fun dV=>
    bif (((V.nth (rB.drop 2) 0).toInt):Int)==3 then
    bif (((V.nth (dV.drop 2) 0).toInt):Int)==3 then
     (idx ((V.nth (r3.drop 3) 0).toList) ((V.nth (r3.drop 1) 0).toInt)).bind fun eE=>
     bif eE.toBool then
     (C lp []).bind fun fU=>
     some [.bool ((V.nth fU 0).toBool)]
     else
     some [.bool false]
    else
     bif (((V.nth (dV.drop 2) 0).toInt):Int)==0 then
     (C th [.int .i64 ((V.nth dV 0).toInt),.int .i64 ((V.nth (dV.drop 1) 0).toInt),.list ax ((V.nth (dV.drop 3) 0).toList),.list aB ((V.nth ((dV.drop 3).drop 1) 0).toList),.int .i64 ((V.nth r3 0).toInt),.int .i64 ((V.nth (r3.drop 1) 0).toInt),.list ax ((V.nth (r3.drop 3) 0).toList),.list aB ((V.nth ((r3.drop 3).drop 1) 0).toList)]).bind fun c6=>
     bif (V.nth c6 0).toBool then
      (idx ((V.nth (r3.drop 3) 0).toList) ((V.nth (r3.drop 1) 0).toInt)).bind fun Af=>
      bif Af.toBool then
      (C lp []).bind fun fC=>
      some [.bool ((V.nth fC 0).toBool)]
      else
      some [.bool false]
     else
      some [.bool false]
     else
     some [.bool false]
    else
    bif (((V.nth (rB.drop 2) 0).toInt):Int)==0 then
     (C th [.int .i64 ((V.nth rB 0).toInt),.int .i64 ((V.nth (rB.drop 1) 0).toInt),.list ax ((V.nth (rB.drop 3) 0).toList),.list aB ((V.nth ((rB.drop 3).drop 1) 0).toList),.int .i64 ((V.nth r3 0).toInt),.int .i64 ((V.nth (r3.drop 1) 0).toInt),.list ax ((V.nth (r3.drop 3) 0).toList),.list aB ((V.nth ((r3.drop 3).drop 1) 0).toList)]).bind fun fX=>
     bif (V.nth fX 0).toBool then
     bif (((V.nth (dV.drop 2) 0).toInt):Int)==3 then
      (idx ((V.nth (r3.drop 3) 0).toList) ((V.nth (r3.drop 1) 0).toInt)).bind fun tM=>
      bif tM.toBool then
      (C lp []).bind fun iC=>
      some [.bool ((V.nth iC 0).toBool)]
      else
      some [.bool false]
     else
      bif (((V.nth (dV.drop 2) 0).toInt):Int)==0 then
      (C th [.int .i64 ((V.nth dV 0).toInt),.int .i64 ((V.nth (dV.drop 1) 0).toInt),.list ax ((V.nth (dV.drop 3) 0).toList),.list aB ((V.nth ((dV.drop 3).drop 1) 0).toList),.int .i64 ((V.nth r3 0).toInt),.int .i64 ((V.nth (r3.drop 1) 0).toInt),.list ax ((V.nth (r3.drop 3) 0).toList),.list aB ((V.nth ((r3.drop 3).drop 1) 0).toList)]).bind fun KG=>
      bif (V.nth KG 0).toBool then
       (idx ((V.nth (r3.drop 3) 0).toList) ((V.nth (r3.drop 1) 0).toInt)).bind fun qj=>
       bif qj.toBool then
       (C lp []).bind fun Fg=>
       some [.bool ((V.nth Fg 0).toBool)]
       else
       some [.bool false]
      else
       some [.bool false]
      else
      some [.bool false]
     else
     some [.bool false]
    else
     some [.bool false]
theorem U0 {aT aW:Int} {aL aU:List V} {r:Option (List V)} (h:Lv CC aT aW aL aU=r):CC H4 [.int .i64 aT,.int .i64 aW,.list ax aL,.list aB aU]=r:=
 bp (key:=11) (L:=cR) (bs:=[]) (by kernel_rfl) aw (Eq.trans (by kernel_rfl) h)
theorem U7 (d:Df) (hd:d.Ok):CC H4 (qx d [])=some [.bool true]:=by
 have hB:=af1 hd 4
 by_cases h4:(d.F.length:Int)≤4∧d.val=0
 case neg=>
  rw[decide_eq_false h4] at hB
  refine U0 ?_
  unfold Lv
  refine bs hB (bT rfl ?_)
  exact bs Lu rfl
 rw[decide_eq_true h4] at hB
 obtain ⟨a,ha,rfl⟩:=abl h4.2
 have n1:(a.n:Int)≤4:=h4.1
 have n3:=UD ha
 rw[ha.leaves] at*
 obtain ⟨s,hs,rs,_⟩:=(UU ha).small (by omega)
 have Ee:=rs.ok.s
 have hV:=abB rs.ok
 have e1:(V.nth ((gI s 0).drop 3) 0).toList=s.cv:=rfl
 refine U0 ?_
 unfold Lv
 refine bs hB (bF rfl ?_)
 refine bs hs (bF rfl ?_)
 refine bs hV (bF rfl ?_)
 rw[e1,Da.kA]
 by_cases h12:12<s.n
 ·refine bT (decide_eq_true (by omega)) ?_
  refine bT rfl ?_
  refine bs hV (bT rfl ?_)
  exact bs Lu rfl
 refine bF (decide_eq_false (by omega)) ?_
 refine bF (by rw[beq_eq_false_iff_ne];omega) ?_
 have jY:s.fin s.st=true:=(rs.gG [] WL.nil).2 .nil
 have hT:=UU rs.ok
 have hC:=agx rs.ok rs.ok rfl
 have tail:((idx s.cv (s.st:Int)).bind fun eE=>bif eE.toBool then (CC lp []).bind fun fU=>some [V.bool ((V.nth fU 0).toBool)] else some [V.bool false])=some [.bool true]:=by
  refine bs (Da.tE Ee) (bT (by rw[V.pE];exact jY) ?_)
  exact bs Lu rfl
 have key: ∀w,WL s.L w→(s.acc s.st w=true↔dW (fun u=>a.acc a.st u=true) w):=fun w hw=>rs.gG w (rs.hL▸hw)
 have eT: ∀{X:Da},kP X s.L (dW fun u=>s.acc s.st u=true)→X=s:=fun {X} hX=>by
  rw[rs.hL] at hX
  refine hX.eq rs fun w hw=> ?_
  exact (dW.ext (fun u hu=>rs.gG u hu) hw).trans dW.idem
 have eC: ∀{X:Da},kP X s.L (fun w=> ∃u v,w=u++v∧s.acc s.st u=true∧s.acc s.st v=true)→X=s:=fun {X} hX=>by
  rw[rs.hL] at hX
  refine hX.eq rs fun w hw=> ?_
  constructor
  ·rintro ⟨u,v,rfl,h1,h2⟩
   obtain ⟨w1,w2⟩:=WL.app.1 hw
   exact ((rs.gG u w1).1 h1).two ((rs.gG v w2).1 h2)
  ·intro h
   exact ⟨[],w,rfl,jY,(rs.gG w hw).2 h⟩
 rcases hT with ⟨X,hX,rX,_⟩|⟨hX,_⟩
 ·obtain rfl:=eT rX
  rcases hC with ⟨Y,hY,rY,_⟩|⟨hY,_⟩
  ·obtain rfl:=eC rY
   refine bs hX ?_
   refine bs hY ?_
   refine bF rfl (bT rfl ?_)
   refine bs rs.ok.same (bT rfl ?_)
   refine bF rfl (bT rfl ?_)
   refine bs rs.ok.same (bT rfl ?_)
   exact tail
  ·refine bs hX ?_
   refine bs hY ?_
   refine bF rfl (bT rfl ?_)
   refine bs rs.ok.same (bT rfl ?_)
   exact bT rfl tail
 ·rcases hC with ⟨Y,hY,rY,_⟩|⟨hY,_⟩
  ·obtain rfl:=eC rY
   refine bs hX ?_
   refine bs hY ?_
   refine bT rfl (bF rfl (bT rfl ?_))
   refine bs rs.ok.same (bT rfl ?_)
   exact tail
  ·refine bs hX ?_
   refine bs hY ?_
   exact bT rfl (bT rfl tail)
theorem WT.Lw {P:Program} {t:TypeId} {x:V} (hu:P.underlying t=some (.int .i64)) (h:WT P t x): ∃n:Int,x= .int .i64 n∧ -9223372036854775808≤n∧n≤9223372036854775807:=by
 obtain ⟨n,rfl,h1,h2⟩:=h.dK hu
 have e1:IntKind.min .i64= -9223372036854775808:=by decide
 have e2:IntKind.max .i64=9223372036854775807:=by decide
 rw[e1] at h1
 rw[e2] at h2
 exact ⟨n,rfl,h1,h2⟩
theorem agJ {α:Type} {l:List α} (h:l.length=4): ∃a b c d,l=[a,b,c,d]:=by
 match l,h with
 | [a,b,c,d],_=>exact ⟨a,b,c,d,rfl⟩
theorem agK {x:V} (h:gD Tryd.prog aB x): ∃r:List Int,x=jT r∧(r.length≤maxLen∧∀q∈r,-9223372036854775808≤q∧q≤9223372036854775807):=by
 have hu:Tryd.prog.underlying aB=some (.slice bf):=by kernel_rfl
 have hi:Tryd.prog.underlying bf=some (.int .i64):=by kernel_rfl
 obtain ⟨es,rfl,e1,e2⟩:=WT.HR hu (gD.one (by kernel_rfl) h)
 obtain ⟨r,rfl,hr⟩:=HS (f:=iV) (p:=fun q=> -9223372036854775808≤q∧q≤9223372036854775807) fun y hy=>WT.Lw hi (gD.one (by kernel_rfl) (e2 y hy))
 exact ⟨r,rfl,by simpa using e1,hr⟩
def Df.enc (d:Df):V:= .agg (qx d [])
theorem U6 {t:TypeId} {x:V} (ha:bt Tryd.prog t=true) (he:aM Tryd.prog t=[bf,bf,H6,H7]) (h:gD Tryd.prog t x): ∃d:Df,x=d.enc∧d.Ok:=by
 obtain ⟨xs,rfl,hl,hx⟩:=gD.jL ha h
 rw[he] at hl
 obtain ⟨a,b,c,d,rfl⟩:=agJ hl
 have hu:Tryd.prog.underlying bf=some (.int .i64):=by kernel_rfl
 have hb:Tryd.prog.underlying ax=some .bool:=by kernel_rfl
 have hv:Tryd.prog.underlying H6=some (.slice ax):=by kernel_rfl
 have hw:Tryd.prog.underlying H7=some (.slice aB):=by kernel_rfl
 obtain ⟨L,rfl,l1,l2⟩:=WT.Lw hu (hx 0 bf a (by rw[he];rfl) rfl)
 obtain ⟨S,rfl,s1,s2⟩:=WT.Lw hu (hx 1 bf b (by rw[he];rfl) rfl)
 obtain ⟨fs,rfl,f1,f2⟩:=WT.HR hv (hx 2 H6 c (by rw[he];rfl) rfl)
 obtain ⟨ns,rfl,n1,n2⟩:=WT.HR hw (hx 3 H7 d (by rw[he];rfl) rfl)
 obtain ⟨F,rfl⟩:=O1 (f:=V.bool) fun y hy=>WT.iN hb (gD.one (by kernel_rfl) (f2 y hy))
 obtain ⟨N,rfl,hN⟩:=HS (f:=jT) fun y hy=>agK (n2 y hy)
 exact ⟨⟨L,S,F,N⟩,rfl,l1,l2,s1,s2,by simpa using f1,by simpa using n1,hN⟩
end Go.AM
