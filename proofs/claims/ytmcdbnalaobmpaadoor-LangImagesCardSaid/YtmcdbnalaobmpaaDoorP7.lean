/-
  Functions of the program, lifted to plain data.
-/
import Derived.Test.YtmcdbnalaobmpaaDoorP6
set_option linter.unusedVariables false
set_option linter.unusedSimpArgs false
set_option maxRecDepth 100000
namespace Go.AM
open Go.Proofs
noncomputable abbrev u4:Code:=cJ Tryd.prog (au.bc 22)
noncomputable def xp (C:ae) (aY:Int) (bU t46:List V) (t47 fw fx ia ib:Int) (dy eH bY bO:List V) (inner t48:Int) {β:Type} (kn:(Int × Int)→Option β) (kr:((Int × Int × Int × (List V) × (List V)) ⊕ (Int × Int × Bool))→Option β):Option β:=
 bif decide ((t48:Int)<t47) then
  (idx t46 t48).bind fun x2=>
  bif x2.toStr==[] then
  kr (.inl (1,0,0,([]:List V),([]:List V)))
  else
  (C B6 [.str x2.toStr,.int .i64 aY]).bind fun r3=>
  bif !((V.nth r3 0).toBool) then
   kr (.inl (1,0,0,([]:List V),([]:List V)))
  else
   kn (IntKind.wrap .i64 (inner+(IntKind.wrap .i64 ((x2.toStr.length:Int)-1))),IntKind.wrap .i64 (t48+1))
 else
  kr (.inr (inner,t48,decide ((t48:Int)<t47)))
noncomputable def Ae (C:ae) (aY:Int) (bU t46:List V) (t47 fw fx ia ib:Int) (dy eH bY bO:List V):(Int × Int)→Option ((Int × Int) ⊕ ((Int × Int × Int × (List V) × (List V)) ⊕ (Int × Int × Bool))):=un fun inner t48=>xp C aY bU t46 t47 fw fx ia ib dy eH bY bO inner t48 (fun y=>some (.inl y)) (fun r=>some (.inr r))
noncomputable def E6 (C:ae) (bU:List V) (p to:Int) (w:List UInt8) (t86 t87:Int) (t92:List V) (t93 t94 t106 fw fx ia ib:Int) (pz bY bO bw:List V) (next' rJ t107 aR aJ aX aS:Int) (bh:List V) {β:Type} (kn:(Int × Int × Int × Int × Int × Int × Int × (List V))→Option β) (kr:(Int × Int × Int × Bool × Int × Int × Int × Int × (List V))→Option β):Option β:=
 bif decide ((t107:Int)<t106) then
  (bif decide (0≤t107) then (w[(t107:Int).toNat]?).map fun b=>V.int .u8 b.toNat else none).bind fun gU=>
  (C wu [.int .i64 rJ,.int .i64 (IntKind.wrap .i64 (IntKind.wrap .u8 (gU.toInt-97))),.int .i64 next',.int .i64 aR,.int .i64 aJ,.int .u64 aX,.int .u64 aS,.list av bh]).bind fun cG=>
  kn (IntKind.wrap .i64 (next'+1),next',IntKind.wrap .i64 (t107+1),(V.nth cG 0).toInt,(V.nth (cG.drop 1) 0).toInt,(V.nth ((cG.drop 1).drop 1) 0).toInt,(V.nth (((cG.drop 1).drop 1).drop 1) 0).toInt,(V.nth (cG.drop 4) 0).toList)
 else
  kr (next',rJ,t107,decide ((t107:Int)<t106),aR,aJ,aX,aS,bh)
noncomputable def QN (C:ae) (bU:List V) (p to:Int) (w:List UInt8) (t86 t87:Int) (t92:List V) (t93 t94 t106 fw fx ia ib:Int) (pz bY bO bw:List V):(Int × Int × Int × Int × Int × Int × Int × (List V))→Option ((Int × Int × Int × Int × Int × Int × Int × (List V)) ⊕ (Int × Int × Int × Bool × Int × Int × Int × Int × (List V))):=un fun next'=>un fun rJ=>un fun t107=>un fun aR=>un fun aJ=>un fun aX=>un fun aS bh=>E6 C bU p to w t86 t87 t92 t93 t94 t106 fw fx ia ib pz bY bO bw next' rJ t107 aR aJ aX aS bh (fun y=>some (.inl y)) (fun r=>some (.inr r))
noncomputable def E7 (C:ae) (bU:List V) (p t86 t87:Int) (t92:List V) (t93 fw fx ia ib:Int) (pz bY bO bw:List V) (next' t94 aR aJ aX aS:Int) (bh:List V) {β:Type} (kn:(Int × Int × Int × Int × Int × Int × (List V))→Option β) (kr:(Int × Int × Bool × Int × Int × Int × Int × (List V))→Option β):Option β:=
 bif decide ((t94:Int)<t93) then
  (idx t92 t94).bind fun kQ=>
  (idx bU t94).bind fun fh=>
  (Loop (QN C bU p kQ.toInt fh.toStr t86 t87 t92 t93 t94 (IntKind.wrap .i64 ((fh.toStr.length:Int)-1)) fw fx ia ib pz bY bO bw) (next',p,0,aR,aJ,aX,aS,bh)).bind (un fun (ana:Int)=>un fun (anb:Int)=>un fun (YS:Int)=>un fun (akJ:Bool)=>un fun (anc:Int)=>un fun (ane:Int)=>un fun (E8:Int)=>un fun (anf:Int) (ang:List V)=>
   (bif decide (0≤(IntKind.wrap .i64 ((fh.toStr.length:Int)-1))) then (fh.toStr[(IntKind.wrap .i64 ((fh.toStr.length:Int)-1):Int).toNat]?).map fun b=>V.int .u8 b.toNat else none).bind fun x27=>
   (C wu [.int .i64 anb,.int .i64 (IntKind.wrap .i64 (IntKind.wrap .u8 (x27.toInt-97))),.int .i64 kQ.toInt,.int .i64 anc,.int .i64 ane,.int .u64 E8,.int .u64 anf,.list av ang]).bind fun xq=>
   kn (ana,IntKind.wrap .i64 (t94+1),(V.nth xq 0).toInt,(V.nth (xq.drop 1) 0).toInt,(V.nth ((xq.drop 1).drop 1) 0).toInt,(V.nth (((xq.drop 1).drop 1).drop 1) 0).toInt,(V.nth (xq.drop 4) 0).toList))
 else
  kr (next',t94,decide ((t94:Int)<t93),aR,aJ,aX,aS,bh)
noncomputable def QO (C:ae) (bU:List V) (p t86 t87:Int) (t92:List V) (t93 fw fx ia ib:Int) (pz bY bO bw:List V):(Int × Int × Int × Int × Int × Int × (List V))→Option ((Int × Int × Int × Int × Int × Int × (List V)) ⊕ (Int × Int × Bool × Int × Int × Int × Int × (List V))):=un fun next'=>un fun t94=>un fun aR=>un fun aJ=>un fun aX=>un fun aS bh=>E7 C bU p t86 t87 t92 t93 fw fx ia ib pz bY bO bw next' t94 aR aJ aX aS bh (fun y=>some (.inl y)) (fun r=>some (.inr r))
noncomputable def E9 (C:ae) (bU:List V) (t86 fw fx ia ib:Int) (pz bY bO bw:List V) (next' t87 aR aJ aX aS:Int) (bh:List V) {β:Type} (kn:(Int × Int × Int × Int × Int × Int × (List V))→Option β) (kr:(Int × Int × Bool × Int × Int × Int × Int × (List V))→Option β):Option β:=
 bif decide ((t87:Int)<t86) then
  bif (decide (0≤t87))&&(decide (t87<(pz.length:Int))) then
  (pz[(t87:Int).toNat]?).bind fun gO=>
  (Loop (QO C bU t87 t86 t87 gO.toList (gO.toList.length:Int) fw fx ia ib pz bY bO bw) (next',0,aR,aJ,aX,aS,bh)).bind (un fun (anh:Int)=>un fun (aoI:Int)=>un fun (aoJ:Bool)=>un fun (ani:Int)=>un fun (anj:Int)=>un fun (ank:Int)=>un fun (anl:Int) (DN:List V)=>
   kn (anh,IntKind.wrap .i64 (t87+1),ani,anj,ank,anl,DN))
  else none
 else
  kr (next',t87,decide ((t87:Int)<t86),aR,aJ,aX,aS,bh)
noncomputable def Kb (C:ae) (bU:List V) (t86 fw fx ia ib:Int) (pz bY bO bw:List V):(Int × Int × Int × Int × Int × Int × (List V))→Option ((Int × Int × Int × Int × Int × Int × (List V)) ⊕ (Int × Int × Bool × Int × Int × Int × Int × (List V))):=un fun next'=>un fun t87=>un fun aR=>un fun aJ=>un fun aX=>un fun aS bh=>E9 C bU t86 fw fx ia ib pz bY bO bw next' t87 aR aJ aX aS bh (fun y=>some (.inl y)) (fun r=>some (.inr r))
noncomputable def aa7 (C:ae):cD:=fun β n ds k=>
 bif Nat.beq n 129 then bz M4 [false,false,true,false,false,true,false,false,false,false,false,false,false,false] [[0,0,0,0,0],[1,2,0,4,5,0,0,7,8,9,10,11,12,13,14]] (@xp C) ds k else
 bif Nat.beq n 433 then bz M5 [false,true,false,false,false,true,false,false,false,false,false,false,true,false,false,false,false,true,true,true,true,false,false,false,false,true] [[1,0,3,4,5,0,7,8,9,10,11,12,0,0,14,15,16,17,0,0,0,0,22,23,24,25,0]] (@E6 C) ds k else
 bif Nat.beq n 369 then bz M6 [false,true,false,false,false,false,false,true,false,false,false,false,true,true,true,true,false,false,false,false,true] [[1,0,3,4,5,6,7,0,0,9,10,11,12,0,0,0,0,17,18,19,20,0]] (@E7 C) ds k else
 bif Nat.beq n 321 then bz M7 [false,true,false,true,false,false,false,false,true,true,true,true,false,false,false,false,true] [[1,0,3,0,0,5,6,7,8,0,0,0,0,13,14,15,16,0]] (@E9 C) ds k else
 none
abbrev Kc (C:ae) (b:cB):Prop:=cC Tryd.prog au C (aa7 C) 22 (cQ Tryd.prog (au.bc 22)) (au.sin 22).bj.length b
theorem anm (C:ae):Kc C (.loop (ao [1,1,1,1,1,0,1,0,0] u4)):=
 bC M4 [false,false,true,false,false,true,false,false,false,false,false,false,false,false] [[0,0,0,0,0],[1,2,0,4,5,0,0,7,8,9,10,11,12,13,14]] (@xp C) (by kernel_rfl) (aW (bs:=[]) (by kernel_rfl) ar) (fun ds=>by kernel_rfl) (fun i x=>by kernel_rfl) (fun i x β k=>by kernel_rfl) (fun β ds k=>by kernel_rfl)
theorem ano (C:ae):Kc C (.loop (ao [1,1,1,1,1,1,1,1,1,1,0,1,0,0,1,1,0,0,1,1,0,0,1,1,0,0,1,1,0,1,0,0] u4)):=
 bC M5 [false,true,false,false,false,true,false,false,false,false,false,false,true,false,false,false,false,true,true,true,true,false,false,false,false,true] [[1,0,3,4,5,0,7,8,9,10,11,12,0,0,14,15,16,17,0,0,0,0,22,23,24,25,0]] (@E6 C) (by kernel_rfl) (aW (bs:=[]) (by kernel_rfl) ar) (fun ds=>by kernel_rfl) (fun i x=>by kernel_rfl) (fun i x β k=>by kernel_rfl) (fun β ds k=>by kernel_rfl)
theorem anp (C:ae):Kc C (.loop (ao [1,1,1,1,1,1,1,1,1,1,0,1,0,0,1,1,0,0,1,1,0,0] u4)):=
 bC M6 [false,true,false,false,false,false,false,true,false,false,false,false,true,true,true,true,false,false,false,false,true] [[1,0,3,4,5,6,7,0,0,9,10,11,12,0,0,0,0,17,18,19,20,0]] (@E7 C) (by kernel_rfl) (aW (bs:=[.loop (ao [1,1,1,1,1,1,1,1,1,1,0,1,0,0,1,1,0,0,1,1,0,0,1,1,0,0,1,1,0,1,0,0] u4)]) (by kernel_rfl) (bm (ano C) ar)) (fun ds=>by kernel_rfl) (fun i x=>by kernel_rfl) (fun i x β k=>by kernel_rfl) (fun β ds k=>by kernel_rfl)
theorem anq (C:ae):Kc C (.loop (ao [1,1,1,1,1,1,1,1,1,1,0,1,0,0] u4)):=
 bC M7 [false,true,false,true,false,false,false,false,true,true,true,true,false,false,false,false,true] [[1,0,3,0,0,5,6,7,8,0,0,0,0,13,14,15,16,0]] (@E9 C) (by kernel_rfl) (aW (bs:=[.loop (ao [1,1,1,1,1,1,1,1,1,1,0,1,0,0,1,1,0,0,1,1,0,0] u4)]) (by kernel_rfl) (bm (anp C) ar)) (fun ds=>by kernel_rfl) (fun i x=>by kernel_rfl) (fun i x β k=>by kernel_rfl) (fun β ds k=>by kernel_rfl)
noncomputable def Kd (C:ae) (aK aO:Int) (aD aT:List V) (aY:Int) (bU:List V):Option (List V):=
 (C uz [.int .i64 aK,.int .i64 aO,.list aC aD,.list aG aT]).bind fun r1=>
 bif (((V.nth (r1.drop 2) 0).toInt):Int) != 0 then
  some [.int .i64 0,.int .i64 0,.int .i64 ((V.nth (r1.drop 2) 0).toInt),.list aC ([]:List V),.list aG ([]:List V)]
 else
  bif decide ((aY:Int)<1) then
  some [.int .i64 0,.int .i64 0,.int .i64 1,.list aC ([]:List V),.list aG ([]:List V)]
  else
  bif decide ((aY:Int)>6) then
   some [.int .i64 0,.int .i64 0,.int .i64 1,.list aC ([]:List V),.list aG ([]:List V)]
  else
   bif ((bU.length:Int):Int) != aK then
   some [.int .i64 0,.int .i64 0,.int .i64 1,.list aC ([]:List V),.list aG ([]:List V)]
   else
   (Loop (Ae C aY bU bU (bU.length:Int) 0 0 ((V.nth r1 0).toInt) ((V.nth (r1.drop 1) 0).toInt) ([]:List V) ([]:List V) ((V.nth (r1.drop 3) 0).toList) ((V.nth ((r1.drop 3).drop 1) 0).toList)) (0,0)).bind (cL (un fun (jr:Int)=>un fun (anr:Int)=>un fun (ans:Int)=>un fun (Ql:List V) (Qm:List V)=>
    some [.int .i64 anr,.int .i64 ans,.int .i64 jr,.list aC Ql,.list aG Qm]) (un fun (ant:Int)=>un fun (Pk:Int) (zE:Bool)=>
    (C wq [.int .i64 aY,.int .i64 (IntKind.wrap .i64 ((IntKind.wrap .i64 (1+ant))*(((V.nth (r1.drop 3) 0).toList).length:Int)))]).bind fun iw=>
    bif (V.nth iw 0).toBool then
     some [.int .i64 0,.int .i64 0,.int .i64 3,.list aC ([]:List V),.list aG ([]:List V)]
    else
     (Loop (Kb C bU (((V.nth ((r1.drop 3).drop 1) 0).toList).length:Int) 0 0 ((V.nth r1 0).toInt) ((V.nth (r1.drop 1) 0).toInt) ((V.nth ((r1.drop 3).drop 1) 0).toList) ([]:List V) ([]:List V) ((V.nth (r1.drop 3) 0).toList)) ((((V.nth (r1.drop 3) 0).toList).length:Int),0,(V.nth (iw.drop 1) 0).toInt,(V.nth ((iw.drop 1).drop 1) 0).toInt,(V.nth (((iw.drop 1).drop 1).drop 1) 0).toInt,(V.nth ((((iw.drop 1).drop 1).drop 1).drop 1) 0).toInt,(V.nth ((iw.drop 1).drop 4) 0).toList)).bind (un fun (anu:Int)=>un fun (aaj:Int)=>un fun (ZQ:Bool)=>un fun (QP:Int)=>un fun (QQ:Int)=>un fun (QR:Int)=>un fun (QS:Int) (QT:List V)=>
      (C yS [.int .i64 ((V.nth (r1.drop 1) 0).toInt),.int .i64 QP,.int .i64 QQ,.int .u64 QR,.int .u64 QS,.list av QT]).bind fun gW=>
      (C yT [.list aC ((V.nth (r1.drop 3) 0).toList),.int .i64 0,.int .i64 ((V.nth gW 0).toInt),.int .i64 ((V.nth (gW.drop 1) 0).toInt),.int .u64 ((V.nth ((gW.drop 1).drop 1) 0).toInt),.int .u64 ((V.nth (((gW.drop 1).drop 1).drop 1) 0).toInt),.list av ((V.nth (gW.drop 4) 0).toList)]).bind fun oh=>
      (C uA [.int .i64 ((V.nth oh 0).toInt),.int .i64 ((V.nth (oh.drop 1) 0).toInt),.int .u64 ((V.nth ((oh.drop 1).drop 1) 0).toInt),.int .u64 ((V.nth (((oh.drop 1).drop 1).drop 1) 0).toInt),.list av ((V.nth (oh.drop 4) 0).toList)]).bind fun oj=>
      some [.int .i64 ((V.nth oj 0).toInt),.int .i64 ((V.nth (oj.drop 1) 0).toInt),.int .i64 ((V.nth (oj.drop 2) 0).toInt),.list aC ((V.nth ((oj.drop 3).drop 5) 0).toList),.list aG ((V.nth (((oj.drop 3).drop 5).drop 1) 0).toList)])))
theorem QU {aK aO:Int} {aD aT:List V} {aY:Int} {bU:List V} {r:Option (List V)} (h:Kd CC aK aO aD aT aY bU=r):CC rj [.int .i64 aK,.int .i64 aO,.list aC aD,.list aG aT,.int .i64 aY,.list jM bU]=r:=
 bD (key:=22) (L:=aa7 CC) (bs:=[.loop (ao [1,1,1,1,1,0,1,0,0] u4),.loop (ao [1,1,1,1,1,1,1,1,1,1,0,1,0,0] u4)]) (by kernel_rfl) (bm (anm CC) (bm (anq CC) ar)) (bB (by kernel_rfl) h)
noncomputable abbrev pA:Code:=cJ Tryd.prog (au.bc 23)
noncomputable def Fa (C:ae) (bU t26:List V) (t27 fw fx eI eJ aR aJ aX aS:Int) (eH bY bO bw bh:List V) (Ke t28:Int) {β:Type} (kn:(Int × Int)→Option β) (kr:(Int × Int × Bool)→Option β):Option β:=
 bif decide ((t28:Int)<t27) then
  (idx t26 t28).bind fun x3=>
  kn (IntKind.wrap .i64 ((IntKind.wrap .i64 (Ke+(x3.toStr.length:Int)))-1),IntKind.wrap .i64 (t28+1))
 else
  kr (Ke,t28,decide ((t28:Int)<t27))
noncomputable def QV (C:ae) (bU t26:List V) (t27 fw fx eI eJ aR aJ aX aS:Int) (eH bY bO bw bh:List V):(Int × Int)→Option ((Int × Int) ⊕ (Int × Int × Bool)):=un fun Ke t28=>Fa C bU t26 t27 fw fx eI eJ aR aJ aX aS eH bY bO bw bh Ke t28 (fun y=>some (.inl y)) (fun r=>some (.inr r))
noncomputable def Kf (C:ae) (bU:List V) (p x:Int) (w:List UInt8) (at' i to t49 t50:Int) (t53:List V) (t54 t55:Int) (t79:Bool) (fw fx eI eJ aR aJ aX aS:Int) (eH bY bO bw bh:List V) {β:Type} (kr:(Int × Int)→Option β):Option β:=
 bif t79 then
  kr (aJ,IntKind.wrap .i64 (aJ+1))
 else
  kr (to,aJ)
noncomputable def Fb (C:ae) (bU:List V) (p x:Int) (w:List UInt8) (t49 t50:Int) (t53:List V) (t54 t55 fw fx eI eJ aR aX aS:Int) (eH bY bO bw:List V) (at' i aJ:Int) (bh:List V) {β:Type} (kn:(Int × Int × Int × (List V))→Option β) (kr:(Int × Int × Bool × Int × (List V))→Option β):Option β:=
 bif decide ((i:Int)<(w.length:Int)) then
  bif (decide (0≤p))&&(decide (p<(bw.length:Int))) then
  (bw[(p:Int).toNat]?).bind fun x8=>
  (idx x8.toList x).bind fun x9=>
  Kf C bU p x w at' i x9.toInt t49 t50 t53 t54 t55 (decide ((i:Int)<(IntKind.wrap .i64 ((w.length:Int)-1)))) fw fx eI eJ aR aJ aX aS eH bY bO bw bh (un fun (QW:Int) (anv:Int)=>
   (bif decide (0≤i) then (w[(i:Int).toNat]?).map fun b=>V.int .u8 b.toNat else none).bind fun lG=>
   bif Nat.ble ((bh.length+([.agg [.int .i64 at',.int .i64 (IntKind.wrap .i64 (IntKind.wrap .u8 (lG.toInt-97))),.int .i64 QW]]:List V).length)*24) bP then
    kn (QW,IntKind.wrap .i64 (i+1),anv,bh++([.agg [.int .i64 at',.int .i64 (IntKind.wrap .i64 (IntKind.wrap .u8 (lG.toInt-97))),.int .i64 QW]]:List V))
   else none)
  else none
 else
  kr (at',i,decide ((i:Int)<(w.length:Int)),aJ,bh)
noncomputable def QX (C:ae) (bU:List V) (p x:Int) (w:List UInt8) (t49 t50:Int) (t53:List V) (t54 t55 fw fx eI eJ aR aX aS:Int) (eH bY bO bw:List V):(Int × Int × Int × (List V))→Option ((Int × Int × Int × (List V)) ⊕ (Int × Int × Bool × Int × (List V))):=un fun at'=>un fun i=>un fun aJ bh=>Fb C bU p x w t49 t50 t53 t54 t55 fw fx eI eJ aR aX aS eH bY bO bw at' i aJ bh (fun y=>some (.inl y)) (fun r=>some (.inr r))
noncomputable def Fc (C:ae) (bU:List V) (p t49 t50:Int) (t53:List V) (t54 fw fx eI eJ aR aX aS:Int) (eH bY bO bw:List V) (t55 aJ:Int) (bh:List V) {β:Type} (kn:(Int × Int × (List V))→Option β) (kr:(Int × Bool × Int × (List V))→Option β):Option β:=
 bif decide ((t55:Int)<t54) then
  (idx t53 t55).bind fun x7=>
  (Loop (QX C bU p t55 x7.toStr t49 t50 t53 t54 t55 fw fx eI eJ aR aX aS eH bY bO bw) (p,0,aJ,bh)).bind (un fun (aoK:Int)=>un fun (aoL:Int)=>un fun (YN:Bool)=>un fun (EX:Int) (tf:List V)=>
   kn (IntKind.wrap .i64 (t55+1),EX,tf))
 else
  kr (t55,decide ((t55:Int)<t54),aJ,bh)
noncomputable def QY (C:ae) (bU:List V) (p t49 t50:Int) (t53:List V) (t54 fw fx eI eJ aR aX aS:Int) (eH bY bO bw:List V):(Int × Int × (List V))→Option ((Int × Int × (List V)) ⊕ (Int × Bool × Int × (List V))):=un fun t55=>un fun aJ bh=>Fc C bU p t49 t50 t53 t54 fw fx eI eJ aR aX aS eH bY bO bw t55 aJ bh (fun y=>some (.inl y)) (fun r=>some (.inr r))
noncomputable def Fe (C:ae) (bU:List V) (t49 fw fx eI eJ aR aX aS:Int) (eH bY bO bw:List V) (t50 aJ:Int) (bh:List V) {β:Type} (kn:(Int × Int × (List V))→Option β) (kr:(Int × Bool × Int × (List V))→Option β):Option β:=
 bif decide ((t50:Int)<t49) then
  (Loop (QY C bU t50 t49 t50 bU (bU.length:Int) fw fx eI eJ aR aX aS eH bY bO bw) (0,aJ,bh)).bind (un fun (PL:Int)=>un fun (ajl:Bool)=>un fun (anw:Int) (PE:List V)=>
   kn (IntKind.wrap .i64 (t50+1),anw,PE))
 else
  kr (t50,decide ((t50:Int)<t49),aJ,bh)
noncomputable def Kg (C:ae) (bU:List V) (t49 fw fx eI eJ aR aX aS:Int) (eH bY bO bw:List V):(Int × Int × (List V))→Option ((Int × Int × (List V)) ⊕ (Int × Bool × Int × (List V))):=un fun t50=>un fun aJ bh=>Fe C bU t49 fw fx eI eJ aR aX aS eH bY bO bw t50 aJ bh (fun y=>some (.inl y)) (fun r=>some (.inr r))
noncomputable def aa8 (C:ae):cD:=fun β n ds k=>
 bif Nat.beq n 97 then bz M8 [false,true,false,false,true,false,false,false,false,false,false,false,false,false,false,false,false,false] [[1,0,3,4,0,0,6,7,8,9,10,11,12,13,14,15,16,17,18]] (@Fa C) ds k else
 bif Nat.beq n 1279 then mM M9 [[1,2,3,4,5,6,0,8,9,10,11,12,14,15,16,17,18,0,20,21,22,23,24,25,26]] (@Kf C) ds k else
 bif Nat.beq n 321 then bz Na [false,false,false,false,true,true,false,false,false,false,false,false,false,false,false,false,true,false,false,false,false,false,false,true] [[1,2,3,4,0,0,7,8,9,10,11,0,12,13,14,15,16,0,18,19,20,21,22,23,0]] (@Fb C) ds k else
 bif Nat.beq n 257 then bz Nb [false,false,false,false,false,false,true,false,false,false,false,false,true,false,false,false,false,false,false,true] [[1,2,3,4,5,6,0,0,8,9,10,11,12,0,14,15,16,17,18,19,0]] (@Fc C) ds k else
 bif Nat.beq n 209 then bz Nc [false,false,true,false,false,false,false,false,true,false,false,false,false,false,false,true] [[1,2,0,0,4,5,6,7,8,0,10,11,12,13,14,15,0]] (@Fe C) ds k else
 none
abbrev Ff (C:ae) (b:cB):Prop:=cC Tryd.prog au C (aa8 C) 23 (cQ Tryd.prog (au.bc 23)) (au.sin 23).bj.length b
theorem anx (C:ae):Ff C (.loop (ao [1,1,1,1,1,0,1,0,0] pA)):=
 bC M8 [false,true,false,false,true,false,false,false,false,false,false,false,false,false,false,false,false,false] [[1,0,3,4,0,0,6,7,8,9,10,11,12,13,14,15,16,17,18]] (@Fa C) (by kernel_rfl) (aW (bs:=[]) (by kernel_rfl) ar) (fun ds=>by kernel_rfl) (fun i x=>by kernel_rfl) (fun i x β k=>by kernel_rfl) (fun β ds k=>by kernel_rfl)
theorem anz (C:ae):Ff C (.cond 79 (ao [1,1,1,1,1,1,1,0,1,0,0,1,1,0,0,1,1,0,0,1,1,0,0,1,1,1,0,0,1,0,0,1,0,1,0] pA) (ao [1,1,1,1,1,1,1,0,1,0,0,1,1,0,0,1,1,0,0,1,1,0,0,1,1,1,0,0,1,0,0,1,0,1,1] pA)):=
 nL M9 [[1,2,3,4,5,6,0,8,9,10,11,12,14,15,16,17,18,0,20,21,22,23,24,25,26]] (@Kf C) (by kernel_rfl) (aW (bs:=[]) (by kernel_rfl) ar) (aW (bs:=[]) (by kernel_rfl) ar) (fun ds=>by kernel_rfl) (fun i β k=>by kernel_rfl) (fun β ds k=>by kernel_rfl)
theorem anA (C:ae):Ff C (.loop (ao [1,1,1,1,1,1,1,0,1,0,0,1,1,0,0,1,1,0,0,1,1,0,0,1,1,1,0,0] pA)):=
 bC Na [false,false,false,false,true,true,false,false,false,false,false,false,false,false,false,false,true,false,false,false,false,false,false,true] [[1,2,3,4,0,0,7,8,9,10,11,0,12,13,14,15,16,0,18,19,20,21,22,23,0]] (@Fb C) (by kernel_rfl) (aW (bs:=[.cond 79 (ao [1,1,1,1,1,1,1,0,1,0,0,1,1,0,0,1,1,0,0,1,1,0,0,1,1,1,0,0,1,0,0,1,0,1,0] pA) (ao [1,1,1,1,1,1,1,0,1,0,0,1,1,0,0,1,1,0,0,1,1,0,0,1,1,1,0,0,1,0,0,1,0,1,1] pA)]) (by kernel_rfl) (bm (anz C) ar)) (fun ds=>by kernel_rfl) (fun i x=>by kernel_rfl) (fun i x β k=>by kernel_rfl) (fun β ds k=>by kernel_rfl)
theorem anB (C:ae):Ff C (.loop (ao [1,1,1,1,1,1,1,0,1,0,0,1,1,0,0,1,1,0,0] pA)):=
 bC Nb [false,false,false,false,false,false,true,false,false,false,false,false,true,false,false,false,false,false,false,true] [[1,2,3,4,5,6,0,0,8,9,10,11,12,0,14,15,16,17,18,19,0]] (@Fc C) (by kernel_rfl) (aW (bs:=[.loop (ao [1,1,1,1,1,1,1,0,1,0,0,1,1,0,0,1,1,0,0,1,1,0,0,1,1,1,0,0] pA)]) (by kernel_rfl) (bm (anA C) ar)) (fun ds=>by kernel_rfl) (fun i x=>by kernel_rfl) (fun i x β k=>by kernel_rfl) (fun β ds k=>by kernel_rfl)
theorem anC (C:ae):Ff C (.loop (ao [1,1,1,1,1,1,1,0,1,0,0] pA)):=
 bC Nc [false,false,true,false,false,false,false,false,true,false,false,false,false,false,false,true] [[1,2,0,0,4,5,6,7,8,0,10,11,12,13,14,15,0]] (@Fe C) (by kernel_rfl) (aW (bs:=[.loop (ao [1,1,1,1,1,1,1,0,1,0,0,1,1,0,0,1,1,0,0] pA)]) (by kernel_rfl) (bm (anB C) ar)) (fun ds=>by kernel_rfl) (fun i x=>by kernel_rfl) (fun i x β k=>by kernel_rfl) (fun β ds k=>by kernel_rfl)
noncomputable def aa9 (C:ae) (aK aO:Int) (aD aT:List V) (aY:Int) (bU:List V):Option (List V):=
 (C yQ [.int .i64 aK,.int .i64 aO,.list aC aD,.list aG aT]).bind fun r1=>
 (C Hs [.int .i64 ((V.nth r1 0).toInt),.int .i64 ((V.nth (r1.drop 1) 0).toInt),.list aC ((V.nth (r1.drop 2) 0).toList),.list aG ((V.nth ((r1.drop 2).drop 1) 0).toList)]).bind fun r2=>
 (Loop (QV C bU bU (bU.length:Int) 0 0 ((V.nth r1 0).toInt) ((V.nth (r1.drop 1) 0).toInt) aY ((V.nth (r2.drop 1) 0).toInt) ((V.nth ((r2.drop 1).drop 1) 0).toInt) ((V.nth (((r2.drop 1).drop 1).drop 1) 0).toInt) ([]:List V) ([]:List V) ((V.nth (r1.drop 2) 0).toList) ((V.nth ((r1.drop 2).drop 1) 0).toList) ([]:List V)) (0,0)).bind (un fun (anD:Int)=>un fun (lD:Int) (mN:Bool)=>
  bif decide (((IntKind.wrap .i64 (((V.nth (r2.drop 1) 0).toInt)+(IntKind.wrap .i64 (anD*((V.nth (r2.drop 1) 0).toInt))))):Int)>64) then
   some [.int .i64 0,.int .i64 0,.int .i64 3,.list aC ([]:List V),.list aG ([]:List V)]
  else
   (Loop (Kg C bU (((V.nth (r1.drop 2) 0).toList).length:Int) 0 0 ((V.nth r1 0).toInt) ((V.nth (r1.drop 1) 0).toInt) aY ((V.nth ((r2.drop 1).drop 1) 0).toInt) ((V.nth (((r2.drop 1).drop 1).drop 1) 0).toInt) ([]:List V) ([]:List V) ((V.nth (r1.drop 2) 0).toList) ((V.nth ((r1.drop 2).drop 1) 0).toList)) (0,(V.nth (r2.drop 1) 0).toInt,([]:List V))).bind (un fun (Pu:Int)=>un fun (zw:Bool)=>un fun (E8:Int) (QZ:List V)=>
    (C B7 [.int .i64 aY,.int .i64 E8,.int .u64 ((V.nth ((r2.drop 1).drop 1) 0).toInt),.int .u64 ((V.nth (((r2.drop 1).drop 1).drop 1) 0).toInt),.list av QZ]).bind fun kV=>
    some [.int .i64 ((V.nth kV 0).toInt),.int .i64 ((V.nth (kV.drop 1) 0).toInt),.int .i64 ((V.nth (kV.drop 2) 0).toInt),.list aC ((V.nth (kV.drop 3) 0).toList),.list aG ((V.nth ((kV.drop 3).drop 1) 0).toList)]))
theorem anE {aK aO:Int} {aD aT:List V} {aY:Int} {bU:List V} {r:Option (List V)} (h:aa9 CC aK aO aD aT aY bU=r):CC ux [.int .i64 aK,.int .i64 aO,.list aC aD,.list aG aT,.int .i64 aY,.list jM bU]=r:=
 bD (key:=23) (L:=aa8 CC) (bs:=[.loop (ao [1,1,1,1,1,0,1,0,0] pA),.loop (ao [1,1,1,1,1,1,1,0,1,0,0] pA)]) (by kernel_rfl) (bm (anx CC) (bm (anC CC) ar)) (bB (by kernel_rfl) h)
theorem Kh {W:List UInt8} {L:Int} (hW:eG W L) {i:Nat} (hi:i<W.length):IntKind.wrap .i64 (IntKind.wrap .u8 ((V.int .u8 ((W.getD i 0).toNat:Int)).toInt-97))=(((lets W).getD i 0:Nat):Int):=by
 have h1:=hW.2.2.2 i hi
 have h3:=Pe hi h1.1
 rw[V.toInt_int,ID h1.1,wrap64 (by omega) (by have:= @Pd W i;omega),h3]
def qy (p nx i:Nat):Nat:=if i=0 then p else nx+(i-1)
theorem aba {p nx i:Nat}:qy p nx (i+1)=nx+i:=by simp[qy]
def kp (p nx:Nat) (w:List Nat) (i:Nat):List Ed:=tab i fun j=>fU (qy p nx j) (w.getD j 0) (nx+j)
def tB (p nx to:Nat) (w:List Nat):List Ed:=kp p nx w (w.length-1)++[fU (qy p nx (w.length-1)) (w.getD (w.length-1) 0) to]
def bZ (l:List (List UInt8)) (b:Nat):Nat→Nat
 | 0=>b
 | x+1=>bZ l b x+((l.getD x []).length-1)
theorem abb {l:List (List UInt8)} {b:Nat}: ∀x,bZ l b x=b+bZ l 0 x
 | 0=>rfl
 | x+1=>by
  have:=abb (l:=l) (b:=b) x
  show bZ l b x+_=b+(bZ l 0 x+_)
  omega
theorem Af {l:List (List UInt8)} {b x y:Nat} (h:x≤y):bZ l b x≤bZ l b y:=by
 induction y with
 | zero=>rw[tJ.1 h];exact ax _
 | succ y ih=>
  rcases eg x (y+1) with c|c
  ·have:=ih (by omega)
   show _≤bZ l b y+_
   omega
  ·rw[show x=y+1 by omega];exact ax _
def jy (m:Da) (l:List (List UInt8)) (p b n:Nat):List Ed:=fm n fun x=>tB p (bZ l b x) (m.nx p x) (fi l x)
def br (m:Da) (l:List (List UInt8)) (p:Nat):Nat:=m.n+p*bZ l 0 m.L
def kq (m:Da) (l:List (List UInt8)) (n:Nat):List Ed:=fm n fun p=>jy m l p (br m l p) m.L
def Ki (m:Da) (l:List (List UInt8)) (L:Nat):Nf:=di L (br m l m.n) (2^m.st) (fV 0 m.fin 0 m.n) (kq m l m.n)
structure Kj (m:Da) (l:List (List UInt8)) (L:Nat):Prop where
 l1:1≤L
 l6:L≤6
 len:l.length=m.L
 w: ∀i,i<l.length→eG (l.getD i []) (L:Int)
 ne: ∀i,i<l.length→l.getD i []≠[]
section
variable {m:Da} {l:List (List UInt8)}
theorem Fg {p:Nat}:br m l (p+1)=bZ l (br m l p) m.L:=by
 rw[abb]
 unfold br
 rw[Ai]
 omega
theorem Q0 {p q:Nat} (h:p≤q):br m l p≤br m l q:=by
 unfold br
 have:=dQ (bZ l 0 m.L) h
 omega
theorem anF:(1+bZ l 0 m.L)*m.n=br m l m.n:=by
 unfold br
 rw[ee,Nat.one_mul,ic]
theorem abc {p nx to:Nat} {w:List Nat}:(tB p nx to w).length=w.length-1+1:=by
 unfold tB kp
 rw[dd,dI];rfl
variable {L:Nat} (hm:m.Ok) (ho:Kj m l L)
include hm ho
omit hm in
theorem u5 {x:Nat} (hx:x<m.L):1≤(l.getD x []).length∧(l.getD x []).length≤2048:=by
 have h1:=ho.ne x (by rw[ho.len];exact hx)
 have h2:=(ho.w x (by rw[ho.len];exact hx)).2.2.1
 have:=List.length_pos_iff.2 h1
 omega
theorem anG {p b:Nat}:(jy m l p b m.L).length≤12288:=by
 have h6:=hm.l6
 have:(jy m l p b m.L).length≤m.L*2048:=Ac fun x hx=>by
  have:=u5 ho hx
  rw[abc]
  unfold fi
  rw[ql]
  omega
 omega
theorem abd {p b n:Nat} (hn:n≤m.L):(jy m l p b n).length≤12288:=by
 have h6:=hm.l6
 have:(jy m l p b n).length≤n*2048:=Ac fun x hx=>by
  have:=u5 ho (show x<m.L by omega)
  rw[abc]
  unfold fi
  rw[ql]
  omega
 omega
theorem Q1 {n:Nat}:(kq m l n).length≤n*12288:=Ac fun p _=>anG hm ho
theorem abe:bZ l 0 m.L≤12288:=by
 have h6:=hm.l6
 have key: ∀x,x≤m.L→bZ l 0 x≤x*2048:=by
  intro x
  induction x with
  | zero=>intro _;exact ax _
  | succ x ih=>
   intro hx
   have:=ih (by omega)
   have:=u5 ho (show x<m.L by omega)
   show bZ l 0 x+_≤_
   omega
 have:=key m.L (ax _)
 omega
omit hm ho in
theorem Fh {p:Nat}:m.n≤br m l p:=by unfold br;omega
theorem Q2 (hs:br m l m.n≤64):xn L (br m l m.n) (2^m.st) (fV 0 m.fin 0 m.n) (kq m l m.n) where
 l1:=ho.l1
 l6:=ho.l6
 rv:=hs
 st:=oy (by omega) (gy hm.s Fh)
 fin:=gy (E0 (Nat.two_pow_pos _) (show m.n+0≤m.n by omega)) (ox (by omega) Fh)
 E:=fun e he=>by
  obtain ⟨p,hp,he⟩:=J1.1 he
  obtain ⟨x,hx,he⟩:=J1.1 he
  have h1:=u5 ho hx
  have h2:=hm.fP hp hx
  have h3:=(ho.w x (by rw[ho.len];exact hx)).WL
  have h4:(fi l x).length=(l.getD x []).length:=ql
  have h5:bZ l (br m l p) (x+1)≤bZ l (br m l p) m.L:=Af (by omega)
  have h6:br m l (p+1)≤br m l m.n:=Q0 (by omega)
  have h7:bZ l (br m l p) (x+1)=bZ l (br m l p) x+((l.getD x []).length-1):=rfl
  have h8:m.n≤br m l m.n:=Fh
  rw[Fg] at h6
  have hl: ∀j,j<(fi l x).length→(fi l x).getD j 0<L:=fun j hj=>h3 _ (by rw[show (fi l x).getD j 0=(fi l x)[j] from gu hj];exact eQ _)
  have hf: ∀j,j≤(fi l x).length-1→qy p (bZ l (br m l p) x) j<br m l m.n:=fun j hj=>by
   unfold qy
   split<;>omega
  rcases eP.1 he with he|he
  ·obtain ⟨j,hj,rfl⟩:=uG.1 he
   exact Ka (hf j (by omega)) (hl j (by omega)) (by omega)
  ·rw[gX] at he
   subst he
   exact Ka (hf _ (ax _)) (hl _ (by omega)) (by omega)
 len:=by
  have h1:=Q1 hm ho (n:=m.n)
  have h2:m.n≤br m l m.n:=Fh
  omega
end
section
variable {a m:Da} {l:List (List UInt8)} {L:Nat} (hm:m.Ok) (hL:m.L=a.L) (ho:Kj m l L) (mI:CC uz (dK a)=some (fR m 0))
include hm hL ho mI
theorem abf {r:List V} (hr:(CC wq [.int .i64 (L:Int),.int .i64 (br m l m.n:Int)])=some r) {z:Option (List V)}
  (hz:(bif (V.nth r 0).toBool then some (fR zD 3) else
    (Loop (Kb CC (l.map V.str) (m.n:Int) 0 0 (m.L:Int) (m.st:Int) m.cS ([]:List V) ([]:List V) m.cZ) ((m.n:Int),0,(V.nth (r.drop 1) 0).toInt,(V.nth ((r.drop 1).drop 1) 0).toInt,(V.nth (((r.drop 1).drop 1).drop 1) 0).toInt,(V.nth ((((r.drop 1).drop 1).drop 1).drop 1) 0).toInt,(V.nth ((r.drop 1).drop 4) 0).toList)).bind (un fun (anu:Int)=>un fun (aaj:Int)=>un fun (ZQ:Bool)=>un fun (QP:Int)=>un fun (QQ:Int)=>un fun (QR:Int)=>un fun (QS:Int) (QT:List V)=>
      (CC yS [.int .i64 (m.st:Int),.int .i64 QP,.int .i64 QQ,.int .u64 QR,.int .u64 QS,.list av QT]).bind fun gW=>
      (CC yT [.list aC m.cZ,.int .i64 0,.int .i64 ((V.nth gW 0).toInt),.int .i64 ((V.nth (gW.drop 1) 0).toInt),.int .u64 ((V.nth ((gW.drop 1).drop 1) 0).toInt),.int .u64 ((V.nth (((gW.drop 1).drop 1).drop 1) 0).toInt),.list av ((V.nth (gW.drop 4) 0).toList)]).bind fun oh=>
      (CC uA [.int .i64 ((V.nth oh 0).toInt),.int .i64 ((V.nth (oh.drop 1) 0).toInt),.int .u64 ((V.nth ((oh.drop 1).drop 1) 0).toInt),.int .u64 ((V.nth (((oh.drop 1).drop 1).drop 1) 0).toInt),.list av ((V.nth (oh.drop 4) 0).toList)]).bind fun oj=>
      some [.int .i64 ((V.nth oj 0).toInt),.int .i64 ((V.nth (oj.drop 1) 0).toInt),.int .i64 ((V.nth (oj.drop 2) 0).toInt),.list aC ((V.nth ((oj.drop 3).drop 5) 0).toList),.list aG ((V.nth (((oj.drop 3).drop 5).drop 1) 0).toList)]))=z):
  CC rj (gd a [.int .i64 (L:Int),mr l])=z:=by
 have h1:=ho.l1
 have h6:=ho.l6
 have hlen:=ho.len
 have hi:=abe hm ho
 have anH:=hm.fO
 have JW:=hm.l6
 refine QU ?_
 unfold Kd
 refine bs mI (bF rfl ?_)
 refine bF (db (by omega)) (bF (db (by omega)) ?_)
 rw[cb]
 refine bF (by rw[bne_eq_false_iff_eq];omega) ?_
 refine bs (om l.length (fun i=>((bZ l 0 i:Int),(i:Int))) (.inr ((bZ l 0 m.L:Int),(l.length:Int),false)) rfl (fun i hi=> ?_) ?_) ?_
 ·have hw:=u5 ho (show i<m.L by omega)
  have hn:bZ l 0 i≤bZ l 0 m.L:=Af (by omega)
  simp only[Ae,xp,un]
  refine bT (cU hi) ?_
  refine bs (u3 hi) ?_
  rw[V.uv]
  refine bF (by rw[u9];exact ho.ne i hi) ?_
  refine bs (IE _ _) (bF (show (!(decide (eG (l.getD i []) (L:Int))))=false by rw[bN (ho.w i hi)];rfl) ?_)
  have e:IntKind.wrap .i64 ((bZ l 0 i:Int)+(IntKind.wrap .i64 (((l.getD i []).length:Int)-1)))=((bZ l 0 (i+1):Nat):Int):=by
   show _=((bZ l 0 i+((l.getD i []).length-1):Nat):Int)
   rw[wrap64 (x:=((l.getD i []).length:Int)-1) (by omega) (by omega),wrap64 (by omega) (by omega)]
   omega
  rw[e,cy (by omega)]
 ·simp only[Ae,xp,un]
  refine bF (bq (ax _)) ?_
  rw[bq (ax _),hlen]
 ·simp only[cL,un]
  simp only[fR,V.cd,nn,kX,V.toInt_int,V.oT,Da.pb]
  have e1:IntKind.wrap .i64 ((IntKind.wrap .i64 (1+(bZ l 0 m.L:Int)))*(m.n:Int))=(br m l m.n:Int):=by
   rw[←anF]
   have hb:(1+bZ l 0 m.L)*m.n≤12289*512:=AF (by omega) anH
   rw[wrap64 (x:=1+(bZ l 0 m.L:Int)) (by omega) (by omega),show (1+(bZ l 0 m.L:Int))=((1+bZ l 0 m.L:Nat):Int) by omega,wrM (by omega)]
  rw[e1,show m.cS.length=m.n from dI]
  refine bs hr ?_
  exact hz
theorem anI (hs:br m l m.n≤64):CC rj (gd a [.int .i64 (L:Int),mr l])=some (fR (gg (Ki m l L) L (br m l m.n)) (qv (Ki m l L) L (br m l m.n))):=by
 have h6:=hm.l6
 have b6:=hm.s
 have hmS:m.n≤br m l m.n:=Fh
 have Q3:=amh (Q2 hm ho hs)
 refine abf hm hL ho mI (aaQ hs) (bF rfl ?_)
 refine bs (om m.n (fun i=>((br m l i:Int),(i:Int),(L:Int),((br m l m.n:Nat):Int),((0:Nat):Int),((0:Nat):Int),(kq m l i).map Ed.enc)) ((br m l m.n:Int),(m.n:Int),false,(L:Int),((br m l m.n:Nat):Int),((0:Nat):Int),((0:Nat):Int),(kq m l m.n).map Ed.enc) (by rw[show br m l 0=m.n by unfold br;omega];rfl) (fun p hp=> ?_) ?_) ?_
 ·have l1:=Q1 hm ho (n:=p)
  simp only[Kb,E9,un]
  refine bT (cU hp) ?_
  refine (e9 (i:=p) hp).trans ?_
  rw[show (gb m.L (m.nx p)).toList=tab m.L fun x=>nV (m.nx p x) from rfl,dI]
  refine bs (om m.L (fun i=>((bZ l (br m l p) i:Int),(i:Int),(L:Int),((br m l m.n:Nat):Int),((0:Nat):Int),((0:Nat):Int),(kq m l p++jy m l p (br m l p) i).map Ed.enc)) ((bZ l (br m l p) m.L:Int),(m.L:Int),false,(L:Int),((br m l m.n:Nat):Int),((0:Nat):Int),((0:Nat):Int),(kq m l p++jy m l p (br m l p) m.L).map Ed.enc) (by rw[show jy m l p (br m l p) 0=[] from rfl,iD];rfl) (fun x hx=> ?_) ?_) ?_
  ·have iu:x<l.length:=by rw[ho.len];exact hx
   have hw:=u5 ho hx
   have hW:=ho.w x iu
   have l2:=abd hm ho (p:=p) (b:=br m l p) (n:=x) (by omega)
   have b1:bZ l (br m l p) x≤bZ l (br m l p) m.L:=Af (by omega)
   have b2:br m l (p+1)≤br m l m.n:=Q0 (by omega)
   rw[Fg] at b2
   have e0:(fi l x).length=(l.getD x []).length:=ql
   simp only[QO,E7,un]
   refine bT (cU hx) ?_
   refine bs (o9 hx) ?_
   refine bs (u3 iu) ?_
   rw[V.uv,show (nV (m.nx p x)).toInt=((m.nx p x:Nat):Int) from rfl]
   have ew:IntKind.wrap .i64 (((l.getD x []).length:Int)-1)=(((l.getD x []).length-1:Nat):Int):=by rw[wrap64 (by omega) (by omega)];omega
   rw[ew]
   refine bs (om ((l.getD x []).length-1) (fun i=>(((bZ l (br m l p) x+i:Nat):Int),(qy p (bZ l (br m l p) x) i:Int),(i:Int),(L:Int),((br m l m.n:Nat):Int),((0:Nat):Int),((0:Nat):Int),((kq m l p++jy m l p (br m l p) x)++kp p (bZ l (br m l p) x) (fi l x) i).map Ed.enc)) (((bZ l (br m l p) x+((l.getD x []).length-1):Nat):Int),(qy p (bZ l (br m l p) x) ((l.getD x []).length-1):Int),(((l.getD x []).length-1:Nat):Int),false,(L:Int),((br m l m.n:Nat):Int),((0:Nat):Int),((0:Nat):Int),((kq m l p++jy m l p (br m l p) x)++kp p (bZ l (br m l p) x) (fi l x) ((l.getD x []).length-1)).map Ed.enc) (by rw[show kp p (bZ l (br m l p) x) (fi l x) 0=[] from rfl,iD];rfl) (fun i hi=> ?_) ?_) ?_
   ·simp only[QN,E6,un]
    refine bT (cU hi) ?_
    refine bs (wQ (show i<(l.getD x []).length by omega)) ?_
    rw[Kh hW (show i<(l.getD x []).length by omega)]
    refine bs (J4 (by rw[dd,dd];unfold kp;rw[dI];omega)) ?_
    rw[cy (by omega),cy (by omega),aba]
    unfold kp
    rw[ki,←dk]
    rfl
   ·simp only[QN,E6,un]
    refine bF (bq (ax _)) ?_
    rw[bq (ax _)]
   ·simp only[un]
    refine bs (wQ (show (l.getD x []).length-1<(l.getD x []).length by omega)) ?_
    rw[Kh hW (show (l.getD x []).length-1<(l.getD x []).length by omega)]
    refine bs (J4 (by rw[dd,dd];unfold kp;rw[dI];omega)) ?_
    have e1:jy m l p (br m l p) (x+1)=jy m l p (br m l p) x++tB p (bZ l (br m l p) x) (m.nx p x) (fi l x):=u0
    rw[cy (by omega),e1]
    unfold tB
    rw[e0,←dk,←dk]
    rfl
  ·simp only[QO,E7,un]
   refine bF (bq (ax _)) ?_
   rw[bq (ax _)]
  ·simp only[un]
   rw[cy (by omega),Fg,show kq m l (p+1)=kq m l p++jy m l p (br m l p) m.L from u0]
 ·simp only[Kb,E9,un]
  refine bF (bq (ax _)) ?_
  rw[bq (ax _)]
 ·simp only[un]
  refine bs (aaP (q:=m.st) (by omega) (by omega)) ?_
  refine bs (aaR (n:=m.n) (f:=m.fin) (off:=0) (by omega) (by omega)) ?_
  rw[Nat.zero_or]
  refine bs Q3 ?_
  rfl
theorem anJ (hs:64<br m l m.n):CC rj (gd a [.int .i64 (L:Int),mr l])=some (fR zD 3):=
 abf hm hL ho mI (amF hs) (bT rfl rfl)
end
theorem anK {a m:Da} {l:List (List UInt8)} {L:Int} (hm:m.Ok) (hL:m.L=a.L) (hl:l.length≤maxLen) (mI:CC uz (dK a)=some (fR m 0)) (ho: ¬(1≤L∧L≤6∧l.length=m.L∧∀i,i<l.length→eG (l.getD i []) L∧l.getD i []≠[])):CC rj (gd a [.int .i64 L,mr l])=some (fR zD 1):=by
 have JW:=hm.l6
 refine QU ?_
 unfold Kd
 refine bs mI (bF rfl ?_)
 by_cases h1:L<1
 ·exact bT (bN h1) rfl
 refine bF (db h1) ?_
 by_cases h6:L>6
 ·exact bT (bN h6) rfl
 refine bF (db h6) ?_
 rw[cb]
 by_cases h3:l.length=a.L
 case neg=>exact bT (by rw[bne_iff_ne];omega) rfl
 refine bF (by rw[bne_eq_false_iff_eq];omega) ?_
 have nG: ¬∀i,i<l.length→eG (l.getD i []) L∧l.getD i []≠[]:=fun h=>ho ⟨by omega,by omega,by omega,h⟩
 have key: ∃r,Loop (Ae CC L (l.map V.str) (l.map V.str) (l.length:Int) 0 0 ((V.nth (fR m 0) 0).toInt) ((V.nth ((fR m 0).drop 1) 0).toInt) ([]:List V) ([]:List V) ((V.nth ((fR m 0).drop 3) 0).toList) ((V.nth (((fR m 0).drop 3).drop 1) 0).toList)) (0,0)=some r∧r= .inl (1,0,0,[],[]):=by
  have a9: ∃i,i<l.length∧¬(eG (l.getD i []) L∧l.getD i []≠[])∧∀j,j<i→eG (l.getD j []) L∧l.getD j []≠[]:=by
   have:=Classical.not_forall.1 nG
   obtain ⟨i,hi⟩:=this
   have iM:=Classical.not_imp.1 hi
   have: ∀k i,i≤k→i<l.length→¬(eG (l.getD i []) L∧l.getD i []≠[])→∃i,i<l.length∧¬(eG (l.getD i []) L∧l.getD i []≠[])∧∀j,j<i→eG (l.getD j []) L∧l.getD j []≠[]:=by
    intro k
    induction k with
    | zero=>intro i hk hi hb;exact ⟨i,hi,hb,fun j hj=>by omega⟩
    | succ k ih=>
     intro i hk hi hb
     by_cases hj: ∃j,j<i∧¬(eG (l.getD j []) L∧l.getD j []≠[])
     ·obtain ⟨j,h1,h2⟩:=hj
      exact ih j (by omega) (by omega) h2
     ·exact ⟨i,hi,hb,fun j cp=>Aw.1 fun hG=>hj ⟨j,cp,hG⟩⟩
   exact this i i (ax _) iM.1 iM.2
  obtain ⟨n,hn,hb,hg⟩:=a9
  refine ze (fun i st=>st=((bZ l 0 i:Int),(i:Int))∧bZ l 0 i≤i*2048) (fun (r:(Int × Int × Int × List V × List V) ⊕ (Int × Int × Bool))=>r= .inl (1,0,0,[],[])) n 0 _ (fun i _ hi st b6=> ?_) (fun st b6=> ?_) ⟨rfl,ax _⟩
  ·obtain ⟨rfl,hG⟩:=b6
   have eB:i<n:=by omega
   obtain ⟨g1,g2⟩:=hg i eB
   have g3:=g1.2.2.1
   have g4:=List.length_pos_iff.2 g2
   refine ⟨((bZ l 0 (i+1):Int),((i+1:Nat):Int)),?_,rfl,?_⟩
   ·simp only[Ae,xp,un]
    refine bT (cU (by omega)) ?_
    refine bs (u3 (by omega)) ?_
    rw[V.uv]
    refine bF (by rw[u9];exact g2) ?_
    refine bs (IE _ _) (bF (show (!(decide (eG (l.getD i []) L)))=false by rw[bN g1];rfl) ?_)
    have e:IntKind.wrap .i64 ((bZ l 0 i:Int)+(IntKind.wrap .i64 (((l.getD i []).length:Int)-1)))=((bZ l 0 (i+1):Nat):Int):=by
     show _=((bZ l 0 i+((l.getD i []).length-1):Nat):Int)
     rw[wrap64 (x:=((l.getD i []).length:Int)-1) (by omega) (by omega),wrap64 (by omega) (by omega)]
     omega
    rw[e,cy (by omega)]
   ·show bZ l 0 i+_≤_
    omega
  ·rw[eh] at b6
   obtain ⟨rfl,hG⟩:=b6
   refine ⟨_,?_,rfl⟩
   simp only[Ae,xp,un]
   refine bT (cU hn) ?_
   refine bs (u3 hn) ?_
   rw[V.uv]
   by_cases he:l.getD n []=[]
   ·exact bT (by rw[beq_iff_eq];exact he) rfl
   ·refine bF (by rw[u9];exact he) ?_
    refine bs (IE _ _) (bT (show (!(decide (eG (l.getD n []) L)))=true by rw[db fun h=>hb ⟨h,he⟩];rfl) ?_)
    rfl
 obtain ⟨r,hr,rfl⟩:=key
 refine bs hr ?_
 rfl
theorem anL {d:Df} (h:d.Ok) (hv:d.val≠0) (L:Int) (l:List (List UInt8)):CC rj (rK d [.int .i64 L,mr l])=some (fR zD d.val):=by
 refine QU ?_
 unfold Kd
 refine bs (amM h hv) (bT (by simpa[fR] using hv) ?_)
 rfl
def xr (p nx to:Nat) (w:List Nat) (i:Nat):List Ed:=if i<w.length then kp p nx w i else tB p nx to w
section
variable {a m:Da} {l:List (List UInt8)} {L:Nat} (hm:m.Ok) (ho:Kj m l L) (mI:CC yQ (dK a)=some (dK m)) (Fi:m.n≤64)
include hm ho mI Fi
theorem abg {z:Option (List V)}
  (hz:(bif decide ((br m l m.n:Int)>64) then some (fR zD 3) else
   (Loop (Kg CC (l.map V.str) (m.n:Int) 0 0 (m.L:Int) (m.st:Int) (L:Int) ((2^m.st:Nat):Int) (fV 0 m.fin 0 m.n:Int) ([]:List V) ([]:List V) m.cZ m.cS) (0,(m.n:Int),([]:List V))).bind (un fun (Pu:Int)=>un fun (zw:Bool)=>un fun (E8:Int) (QZ:List V)=>
    (CC B7 [.int .i64 (L:Int),.int .i64 E8,.int .u64 ((2^m.st:Nat):Int),.int .u64 (fV 0 m.fin 0 m.n:Int),.list av QZ]).bind fun kV=>
    some [.int .i64 ((V.nth kV 0).toInt),.int .i64 ((V.nth (kV.drop 1) 0).toInt),.int .i64 ((V.nth (kV.drop 2) 0).toInt),.list aC ((V.nth (kV.drop 3) 0).toList),.list aG ((V.nth ((kV.drop 3).drop 1) 0).toList)]))=z):
  CC ux (gd a [.int .i64 (L:Int),mr l])=z:=by
 have h6:=ho.l6
 have hlen:=ho.len
 have hi:=abe hm ho
 have JW:=hm.l6
 refine anE ?_
 unfold aa9
 refine bs mI ?_
 refine bs (amI hm Fi) ?_
 simp only[aN,dK,gd,V.cd,nn,kX,V.toInt_int,V.oT,Da.pb,cb]
 refine bs (om l.length (fun i=>((bZ l 0 i:Int),(i:Int))) ((bZ l 0 m.L:Int),(l.length:Int),false) rfl (fun i hi=> ?_) ?_) ?_
 ·have hw:=u5 ho (show i<m.L by omega)
  have hn:bZ l 0 i≤bZ l 0 m.L:=Af (by omega)
  simp only[QV,Fa,un]
  refine bT (cU hi) ?_
  refine bs (u3 hi) ?_
  rw[V.uv]
  have e:IntKind.wrap .i64 ((IntKind.wrap .i64 ((bZ l 0 i:Int)+((l.getD i []).length:Int)))-1)=((bZ l 0 (i+1):Nat):Int):=by
   show _=((bZ l 0 i+((l.getD i []).length-1):Nat):Int)
   rw[wrap64 (x:=(bZ l 0 i:Int)+((l.getD i []).length:Int)) (by omega) (by omega),wrap64 (by omega) (by omega)]
   omega
  rw[e,cy (by omega)]
 ·simp only[QV,Fa,un]
  refine bF (bq (ax _)) ?_
  rw[bq (ax _),hlen]
 ·simp only[un]
  have e1:IntKind.wrap .i64 ((m.n:Int)+(IntKind.wrap .i64 ((bZ l 0 m.L:Int)*(m.n:Int))))=(br m l m.n:Int):=by
   have hb:bZ l 0 m.L*m.n≤12288*64:=AF (by omega) Fi
   rw[wrM (by omega),J2 (by omega)]
   unfold br
   rw[ic]
  rw[e1]
  exact hz
theorem anM (hs:br m l m.n≤64):CC ux (gd a [.int .i64 (L:Int),mr l])=some (fR (gg (Ki m l L) L (br m l m.n)) (qv (Ki m l L) L (br m l m.n))):=by
 have h6:=hm.l6
 have b6:=hm.s
 have hlen:=ho.len
 have Q3:=ami (Q2 hm ho hs)
 refine abg hm ho mI Fi (bF (db (by omega)) ?_)
 refine bs (om m.n (fun i=>((i:Int),(br m l i:Int),(kq m l i).map Ed.enc)) ((m.n:Int),false,(br m l m.n:Int),(kq m l m.n).map Ed.enc) (by rw[show br m l 0=m.n by unfold br;omega];rfl) (fun p hp=> ?_) ?_) ?_
 ·have l1:=Q1 hm ho (n:=p)
  have b2:br m l (p+1)≤br m l m.n:=Q0 (by omega)
  rw[Fg] at b2
  simp only[Kg,Fe,un]
  refine bT (cU hp) ?_
  rw[cb,hlen]
  refine bs (om m.L (fun i=>((i:Int),(bZ l (br m l p) i:Int),(kq m l p++jy m l p (br m l p) i).map Ed.enc)) ((m.L:Int),false,(bZ l (br m l p) m.L:Int),(kq m l p++jy m l p (br m l p) m.L).map Ed.enc) (by rw[show jy m l p (br m l p) 0=[] from rfl,iD];rfl) (fun x hx=> ?_) ?_) ?_
  ·have iu:x<l.length:=by rw[ho.len];exact hx
   have hw:=u5 ho hx
   have hW:=ho.w x iu
   have l2:=abd hm ho (p:=p) (b:=br m l p) (n:=x) (by omega)
   have b1:bZ l (br m l p) x≤bZ l (br m l p) m.L:=Af (by omega)
   have b3:bZ l (br m l p) (x+1)≤bZ l (br m l p) m.L:=Af (by omega)
   have b4:bZ l (br m l p) (x+1)=bZ l (br m l p) x+((l.getD x []).length-1):=rfl
   have e0:(fi l x).length=(l.getD x []).length:=ql
   have e1:jy m l p (br m l p) (x+1)=jy m l p (br m l p) x++tB p (bZ l (br m l p) x) (m.nx p x) (fi l x):=u0
   simp only[QY,Fc,un]
   refine bT (cU hx) ?_
   refine bs (u3 iu) ?_
   rw[V.uv]
   generalize hE:kq m l p++jy m l p (br m l p) x=E at*
   have lE:E.length≤1000000:=by rw[←hE,dd];omega
   generalize hN:bZ l (br m l p) x=N at*
   refine bs (om (l.getD x []).length (fun i=>((if i<(l.getD x []).length then (qy p N i:Int) else (m.nx p x:Int)),(i:Int),(if i<(l.getD x []).length then ((N+i:Nat):Int) else ((N+((l.getD x []).length-1):Nat):Int)),(E++xr p N (m.nx p x) (fi l x) i).map Ed.enc)) ((m.nx p x:Int),((l.getD x []).length:Int),false,((N+((l.getD x []).length-1):Nat):Int),(E++tB p N (m.nx p x) (fi l x)).map Ed.enc) ?_ (fun i hi=> ?_) ?_) ?_
   ·rw[af (by omega),af (by omega)]
    unfold xr
    rw[af (by omega),show kp p N (fi l x) 0=[] from rfl,iD]
    rfl
   ·simp only[QX,Fb,un]
    refine bT (cU hi) ?_
    refine (e9 (i:=p) hp).trans ?_
    refine bs (o9 hx) ?_
    rw[show (iV (m.nx p x)).toInt=((m.nx p x:Nat):Int) from rfl]
    unfold Kf
    have ew:IntKind.wrap .i64 (((l.getD x []).length:Int)-1)=(((l.getD x []).length-1:Nat):Int):=by rw[wrap64 (by omega) (by omega)];omega
    rw[ew,af hi,af hi]
    have hrE:xr p N (m.nx p x) (fi l x) i=kp p N (fi l x) i:=af (by omega)
    have lI:(kp p N (fi l x) i).length=i:=by unfold kp;rw[dI]
    rw[hrE]
    by_cases anN:i<(l.getD x []).length-1
    ·refine bT (cU anN) ?_
     simp only[un]
     refine bs (wQ hi) ?_
     rw[Kh hW hi]
     refine bT (cap (by rw[cb,dd,lI];simp;omega) (by omega)) ?_
     have iO:xr p N (m.nx p x) (fi l x) (i+1)=kp p N (fi l x) (i+1):=af (by omega)
     have hs3:kp p N (fi l x) (i+1)=kp p N (fi l x) i++[fU (qy p N i) ((fi l x).getD i 0) (N+i)]:=by unfold kp;rw[ki]
     rw[af (by omega),af (by omega),iO,hs3,cy (by omega),cy (by omega),aba,←dk,←J3]
     rfl
    ·have oN:i=(l.getD x []).length-1:=by omega
     refine bF (db (by omega)) ?_
     simp only[un]
     refine bs (wQ hi) ?_
     rw[Kh hW hi]
     refine bT (cap (by rw[cb,dd,lI];simp;omega) (by omega)) ?_
     have iO:xr p N (m.nx p x) (fi l x) (i+1)=kp p N (fi l x) i++[fU (qy p N i) ((fi l x).getD i 0) (m.nx p x)]:=by
      unfold xr
      rw[ag (by omega)]
      unfold tB
      rw[e0,←oN]
     rw[ag (by omega),ag (by omega),iO,cy (by omega),←dk,←J3,oN]
     rfl
   ·simp only[QX,Fb,un]
    refine bF (bq (ax _)) ?_
    rw[bq (ax _),ag (by omega),ag (by omega)]
    unfold xr
    rw[ag (by omega)]
   ·simp only[un]
    rw[cy (by omega),e1,←dk,hE,b4]
  ·simp only[QY,Fc,un]
   refine bF (bq (ax _)) ?_
   rw[bq (ax _)]
  ·simp only[un]
   rw[cy (by omega),Fg,show kq m l (p+1)=kq m l p++jy m l p (br m l p) m.L from u0]
 ·simp only[Kg,Fe,un]
  refine bF (bq (ax _)) ?_
  rw[bq (ax _)]
 ·simp only[un]
  refine bs Q3 ?_
  rfl
theorem anO (hs:64<br m l m.n):CC ux (gd a [.int .i64 (L:Int),mr l])=some (fR zD 3):=
 abg hm ho mI Fi (bT (bN (by omega)) rfl)
end
theorem anP {l:List (List UInt8)} (hl:l.length≤maxLen) {L:Int} {M:Nat} (hM:1≤M∧M≤6):CC B4 [mr l,.int .i64 (M:Int),.int .i64 L,.bool false]=some [.bool (decide (1≤L∧L≤6∧l.length=M∧∀i,i<l.length→eG (l.getD i []) L∧l.getD i []≠[]))]:=by
 refine am9 ?_
 unfold aa5
 refine bs (Cw L) ?_
 by_cases h1:1≤L∧L≤6
 case neg=>
  refine bT (by simp[h1]) ?_
  rw[db fun h=>h1 ⟨h.1,h.2.1⟩]
 refine bF (by simp[h1]) ?_
 rw[cb]
 by_cases h2:l.length=M
 case neg=>
  refine bT (by rw[bne_iff_ne];omega) ?_
  rw[db fun h=>h2 h.2.2.1]
 refine bF (by rw[bne_eq_false_iff_eq];omega) ?_
 refine bs (Cw _) ?_
 refine bF (by simp;omega) ?_
 refine bs (ru (fun i=>eG (l.getD i []) L∧l.getD i []≠[]) l.length (fun i=>(i:Int)) (.inl false:Bool ⊕ (Int × Bool)) (.inr ((l.length:Int),false)) (fun i hi=> ?_) ?_) ?_
 ·simp only[QM,E5]
  refine bT (cU hi) ?_
  refine bs (u3 hi) ?_
  refine bs (ahr _ L) ?_
  by_cases h3:eG (l.getD i []) L
  ·refine bF (show (!(decide (eG (l.getD i []) L)))=false by rw[bN h3];rfl) ?_
   refine bT rfl ?_
   rw[V.uv]
   by_cases h4:l.getD i []=[]
   ·rw[ag fun h=>h.2 h4]
    exact bT (by rw[beq_iff_eq];exact h4) rfl
   ·rw[af ⟨h3,h4⟩]
    refine bF (by rw[u9];exact h4) ?_
    rw[cy (by omega)]
  ·refine bT (show (!(decide (eG (l.getD i []) L)))=true by rw[db h3];rfl) ?_
   rw[ag fun h=>h3 h.1]
 ·simp only[QM,E5]
  refine bF (bq (ax _)) ?_
  rw[bq (ax _)]
 ·by_cases h3: ∀i,i<l.length→eG (l.getD i []) L∧l.getD i []≠[]
  ·rw[af h3,bN ⟨h1.1,h1.2,h2,h3⟩];rfl
  ·rw[ag h3,db fun h=>h3 h.2.2.2];rfl
def fj:Da:=⟨2,0,[false,true],[[1,0],[0,1]]⟩
def oo:Da:=⟨2,0,[false,true],[[1,0],[1,1]]⟩
theorem Fj:fj.Ok:=⟨by decide,by decide,by decide,by decide,by decide,by decide⟩
theorem Kk:oo.Ok:=⟨by decide,by decide,by decide,by decide,by decide,by decide⟩
theorem anQ:fj.Canon fj.L (fj.acc fj.st) where
 ok:=Fj
 hL:=rfl
 st:=rfl
 num:=⟨by decide,by decide,by decide⟩
 red:=fun p q hp hq h=>by
  have h0:=h [] WL.nil
  have hp':p<2:=hp
  have cx:q<2:=hq
  have: ∀p,p<2→∀q,q<2→fj.acc p []=fj.acc q []→p=q:=by decide
  exact this p hp' q cx h0
 mU:=fun _ _=>rfl
theorem anR:oo.Canon oo.L (oo.acc oo.st) where
 ok:=Kk
 hL:=rfl
 st:=rfl
 num:=⟨by decide,by decide,by decide⟩
 red:=fun p q hp hq h=>by
  have h0:=h [] WL.nil
  have hp':p<2:=hp
  have cx:q<2:=hq
  have: ∀p,p<2→∀q,q<2→oo.acc p []=oo.acc q []→p=q:=by decide
  exact this p hp' q cx h0
 mU:=fun _ _=>rfl
theorem abh:minD fj=fj:=(zy Fj anQ).symm
theorem anS:fg (Ad fj) 2 2=oo:=by kernel_rfl
theorem abi: ¬gN (Ad fj) 2 2:=by
 have:=w5 (pw (aa0 Fj (by decide))) (2^2)
 exact fun h=>absurd (gy h this) (by decide)
theorem anT:gg (Ad fj) 2 2=oo:=by
 unfold gg
 rw[ag abi,anS]
 exact (zy Kk anR).symm
noncomputable def abj (C:ae):Option (List V):=
 (C Hr []).bind fun r1=>
 (C Hp [.int .i64 ((V.nth r1 0).toInt),.int .i64 ((V.nth (r1.drop 1) 0).toInt),.list aC ((V.nth (r1.drop 2) 0).toList),.list aG ((V.nth ((r1.drop 2).drop 1) 0).toList)]).bind fun r2=>
 bif (((V.nth (r2.drop 2) 0).toInt):Int)==0 then
  bif ((((V.nth (r2.drop 3) 0).toList).length:Int):Int)==2 then
  (C B5 [.int .i64 ((V.nth r2 0).toInt),.int .i64 ((V.nth (r2.drop 1) 0).toInt),.list aC ((V.nth (r2.drop 3) 0).toList),.list aG ((V.nth ((r2.drop 3).drop 1) 0).toList),.str [98,97,97]]).bind fun r3=>
  bif (V.nth r3 0).toBool then
   (C B5 [.int .i64 ((V.nth r2 0).toInt),.int .i64 ((V.nth (r2.drop 1) 0).toInt),.list aC ((V.nth (r2.drop 3) 0).toList),.list aG ((V.nth ((r2.drop 3).drop 1) 0).toList),.str [98,98]]).bind fun r4=>
   some [.bool (!((V.nth r4 0).toBool))]
  else
   some [.bool false]
  else
  some [.bool false]
 else
  some [.bool false]
theorem anU {r:Option (List V)} (h:abj CC=r):CC p9 []=r:=
 bD (key:=19) (L:=dJ) (bs:=[]) (by kernel_rfl) ar (bB (by kernel_rfl) h)
noncomputable def anV (C:ae):Option (List V):=
 some [.int .i64 2,.int .i64 0,.list aC ([.bool false,.bool true]:List V),.list aG ([.list bt ([.int .i64 1,.int .i64 0]:List V),.list bt ([.int .i64 0,.int .i64 1]:List V)]:List V)]
theorem anW {r:Option (List V)} (h:anV CC=r):CC Hr []=r:=
 bD (key:=59) (L:=dJ) (bs:=[]) (by kernel_rfl) ar (bB (by kernel_rfl) h)
def abk:List Ed:=[⟨0,0,1⟩,⟨0,1,0⟩,⟨1,0,0⟩,⟨1,1,1⟩,⟨0,0,0⟩,⟨0,1,0⟩,⟨1,0,1⟩,⟨1,1,1⟩]
def Q4:List Ed:=[⟨0,0,0⟩,⟨0,0,1⟩,⟨0,1,0⟩,⟨0,1,0⟩,⟨1,0,0⟩,⟨1,0,1⟩,⟨1,1,1⟩,⟨1,1,1⟩]
def Kl:List Ed:=[⟨0,0,0⟩,⟨0,0,1⟩,⟨0,1,0⟩,⟨1,0,0⟩,⟨1,0,1⟩,⟨1,1,1⟩]
theorem anX:jS fj 0++kU 2 2=abk:=by decide
theorem anY:CC B9 [.list av (abk.map Ed.enc)]=some [.list av (Q4.map Ed.enc)]:=aex (N:=40) (n:=40) (by kernel_rfl)
theorem anZ:Ad fj=⟨2,2,1,2,Kl⟩:=by kernel_rfl
theorem an0:CC uA (aN 2 2 (2^fj.st) (fV 0 fj.fin 0 2) (jS fj 0++kU 2 2))=some (Qs oo 0 ⟨2,2,1,2,Kl⟩):=by
 obtain ⟨b,e2⟩:=Zu (l:=Q4) (by decide)
 have hc:jv Q4=Kl:=by decide
 rw[hc] at e2
 have e3:=aaz (pw (aa0 Fj (by decide)))
 rw[show di fj.L fj.n (2^fj.st) (fV 0 fj.fin 0 fj.n) (jS fj 0++kU fj.L fj.n)=Ad fj from rfl,show fj.L=2 from rfl,show fj.n=2 from rfl,anT,show qv (Ad fj) 2 2=0 from ag abi,anZ] at e3
 rw[anX]
 refine aax ?_
 unfold Qq
 refine bs anY ?_
 refine bs e2 ?_
 cases b
 ·refine bF rfl ?_
  refine bs e3 ?_
  rfl
 ·refine bT rfl ?_
  refine bs e3 ?_
  rfl
theorem Fk:CC p9 []=some [.bool true]:=by
 have h1:CC Hr []=some (dK fj):=anW rfl
 have h2:=am1 Fj (X:=oo) (e:=0) (n:=⟨2,2,1,2,Kl⟩) (by rw[abh];decide) (by rw[abh];exact an0)
 refine anU ?_
 unfold abj
 refine bs h1 ?_
 refine bs h2 ?_
 refine bT rfl (bT (by decide) ?_)
 refine bs (XR Kk (w:=[98,97,97]) (by decide)) ?_
 refine bT (by decide) ?_
 refine bs (XR Kk (w:=[98,98]) (by decide)) ?_
 rw[show oo.acc oo.st (lets [98,98])=false by decide]
 rfl
noncomputable abbrev abl:Code:=cJ Tryd.prog (au.bc 4)
noncomputable def Fl (C:ae) (aY:Int) (bU:List V) (f:Int) (t57:List V) (t58 aZ bp:Int) (bA bu:List V) (abm abn:Int) (dy eH:List V) (t59:Int) {β:Type} (kn:Int→Option β) (kr:((Bool) ⊕ (Int × Bool))→Option β):Option β:=
 bif decide ((t59:Int)<t58) then
  (idx t57 t59).bind fun x9=>
  bif decide (((x9.toStr.length:Int):Int)>3) then
  bif decide (((x9.toStr.length:Int):Int)<100) then
   (C p9 []).bind fun r10=>
   kr (.inl ((V.nth r10 0).toBool))
  else
   kn (IntKind.wrap .i64 (t59+1))
  else
  kn (IntKind.wrap .i64 (t59+1))
 else
  kr (.inr (t59,decide ((t59:Int)<t58)))
noncomputable def xt (C:ae) (aY:Int) (bU:List V) (f:Int) (t57:List V) (t58 aZ bp:Int) (bA bu:List V) (abm abn:Int) (dy eH:List V):(Int)→Option ((Int) ⊕ ((Bool) ⊕ (Int × Bool))):=fun t59=>Fl C aY bU f t57 t58 aZ bp bA bu abm abn dy eH t59 (fun y=>some (.inl y)) (fun r=>some (.inr r))
noncomputable def abo (C:ae):cD:=fun β n ds k=>
 bif Nat.beq n 161 then bz MZ [false,false,false,false,false,true,false,false,false,false,false,false,false,false] [[0],[1,2,3,4,5,0,0,7,8,9,10,11,12,13,14]] (@Fl C) ds k else
 none
abbrev an1 (C:ae) (b:cB):Prop:=cC Tryd.prog au C (abo C) 4 (cQ Tryd.prog (au.bc 4)) (au.sin 4).bj.length b
theorem an2 (C:ae):an1 C (.loop (ao [1,1,1,1,1,0,1,0,0] abl)):=
 bC MZ [false,false,false,false,false,true,false,false,false,false,false,false,false,false] [[0],[1,2,3,4,5,0,0,7,8,9,10,11,12,13,14]] (@Fl C) (by kernel_rfl) (aW (bs:=[]) (by kernel_rfl) ar) (fun ds=>by kernel_rfl) (fun i x=>by kernel_rfl) (fun i x β k=>by kernel_rfl) (fun β ds k=>by kernel_rfl)
noncomputable def Q5 (C:ae) (aK aO:Int) (aD aT:List V) (aY:Int) (bU:List V):Option (List V):=
 (C Hn [.int .i64 aK,.int .i64 aO,.list aC aD,.list aG aT]).bind fun r1=>
 bif (((V.nth r1 0).toInt):Int)==0 then
  bif decide (((aD.length:Int):Int)>3) then
  (C p9 []).bind fun r2=>
  some [.bool ((V.nth r2 0).toBool)]
  else
  (C rj [.int .i64 aK,.int .i64 aO,.list aC aD,.list aG aT,.int .i64 aY,.list jM bU]).bind fun r3=>
  bif (((V.nth r1 0).toInt):Int) != 0 then
   (C sM [.int .i64 ((V.nth r3 0).toInt),.int .i64 ((V.nth (r3.drop 1) 0).toInt),.list aC ((V.nth (r3.drop 3) 0).toList),.list aG ((V.nth ((r3.drop 3).drop 1) 0).toList),.int .i64 ((V.nth (r3.drop 2) 0).toInt),.int .i64 0,.int .i64 0,.list aC ([]:List V),.list aG ([]:List V),.int .i64 ((V.nth r1 0).toInt)]).bind fun r4=>
   bif (V.nth r4 0).toBool then
   (C p9 []).bind fun r5=>
   some [.bool ((V.nth r5 0).toBool)]
   else
   some [.bool false]
  else
   (C B4 [.list jM bU,.int .i64 aK,.int .i64 aY,.bool false]).bind fun r6=>
   bif !((V.nth r6 0).toBool) then
   (C sM [.int .i64 ((V.nth r3 0).toInt),.int .i64 ((V.nth (r3.drop 1) 0).toInt),.list aC ((V.nth (r3.drop 3) 0).toList),.list aG ((V.nth ((r3.drop 3).drop 1) 0).toList),.int .i64 ((V.nth (r3.drop 2) 0).toInt),.int .i64 0,.int .i64 0,.list aC ([]:List V),.list aG ([]:List V),.int .i64 1]).bind fun r7=>
   bif (V.nth r7 0).toBool then
    (C p9 []).bind fun r8=>
    some [.bool ((V.nth r8 0).toBool)]
   else
    some [.bool false]
   else
   (Loop (xt C aY bU ((V.nth (r3.drop 2) 0).toInt) bU (bU.length:Int) aK aO aD aT ((V.nth r3 0).toInt) ((V.nth (r3.drop 1) 0).toInt) ((V.nth (r3.drop 3) 0).toList) ((V.nth ((r3.drop 3).drop 1) 0).toList)) 0).bind (cL (fun (zE:Bool)=>
    some [.bool zE]) (un fun (zu:Int) (o4:Bool)=>
    (C ux [.int .i64 aK,.int .i64 aO,.list aC aD,.list aG aT,.int .i64 aY,.list jM bU]).bind fun Fm=>
    (C sM [.int .i64 ((V.nth r3 0).toInt),.int .i64 ((V.nth (r3.drop 1) 0).toInt),.list aC ((V.nth (r3.drop 3) 0).toList),.list aG ((V.nth ((r3.drop 3).drop 1) 0).toList),.int .i64 ((V.nth (r3.drop 2) 0).toInt),.int .i64 ((V.nth Fm 0).toInt),.int .i64 ((V.nth (Fm.drop 1) 0).toInt),.list aC ((V.nth (Fm.drop 3) 0).toList),.list aG ((V.nth ((Fm.drop 3).drop 1) 0).toList),.int .i64 ((V.nth (Fm.drop 2) 0).toInt)]).bind fun n0=>
    bif (V.nth n0 0).toBool then
     (C p9 []).bind fun jQ=>
     some [.bool ((V.nth jQ 0).toBool)]
    else
     some [.bool false]))
 else
  (C rj [.int .i64 aK,.int .i64 aO,.list aC aD,.list aG aT,.int .i64 aY,.list jM bU]).bind fun cG=>
  bif (((V.nth r1 0).toInt):Int) != 0 then
  (C sM [.int .i64 ((V.nth cG 0).toInt),.int .i64 ((V.nth (cG.drop 1) 0).toInt),.list aC ((V.nth (cG.drop 3) 0).toList),.list aG ((V.nth ((cG.drop 3).drop 1) 0).toList),.int .i64 ((V.nth (cG.drop 2) 0).toInt),.int .i64 0,.int .i64 0,.list aC ([]:List V),.list aG ([]:List V),.int .i64 ((V.nth r1 0).toInt)]).bind fun uU=>
  bif (V.nth uU 0).toBool then
   (C p9 []).bind fun gV=>
   some [.bool ((V.nth gV 0).toBool)]
  else
   some [.bool false]
  else
  (C B4 [.list jM bU,.int .i64 aK,.int .i64 aY,.bool false]).bind fun iB=>
  bif !((V.nth iB 0).toBool) then
   (C sM [.int .i64 ((V.nth cG 0).toInt),.int .i64 ((V.nth (cG.drop 1) 0).toInt),.list aC ((V.nth (cG.drop 3) 0).toList),.list aG ((V.nth ((cG.drop 3).drop 1) 0).toList),.int .i64 ((V.nth (cG.drop 2) 0).toInt),.int .i64 0,.int .i64 0,.list aC ([]:List V),.list aG ([]:List V),.int .i64 1]).bind fun qt=>
   bif (V.nth qt 0).toBool then
   (C p9 []).bind fun km=>
   some [.bool ((V.nth km 0).toBool)]
   else
   some [.bool false]
  else
   (Loop (xt C aY bU ((V.nth (cG.drop 2) 0).toInt) bU (bU.length:Int) aK aO aD aT ((V.nth cG 0).toInt) ((V.nth (cG.drop 1) 0).toInt) ((V.nth (cG.drop 3) 0).toList) ((V.nth ((cG.drop 3).drop 1) 0).toList)) 0).bind (cL (fun (zw:Bool)=>
    some [.bool zw]) (un fun (ah9:Int) (I8:Bool)=>
    (C ux [.int .i64 aK,.int .i64 aO,.list aC aD,.list aG aT,.int .i64 aY,.list jM bU]).bind fun kV=>
    (C sM [.int .i64 ((V.nth cG 0).toInt),.int .i64 ((V.nth (cG.drop 1) 0).toInt),.list aC ((V.nth (cG.drop 3) 0).toList),.list aG ((V.nth ((cG.drop 3).drop 1) 0).toList),.int .i64 ((V.nth (cG.drop 2) 0).toInt),.int .i64 ((V.nth kV 0).toInt),.int .i64 ((V.nth (kV.drop 1) 0).toInt),.list aC ((V.nth (kV.drop 3) 0).toList),.list aG ((V.nth ((kV.drop 3).drop 1) 0).toList),.int .i64 ((V.nth (kV.drop 2) 0).toInt)]).bind fun r27=>
    bif (V.nth r27 0).toBool then
    (C p9 []).bind fun xq=>
    some [.bool ((V.nth xq 0).toBool)]
    else
    some [.bool false]))
theorem abp {aK aO:Int} {aD aT:List V} {aY:Int} {bU:List V} {r:Option (List V)} (h:Q5 CC aK aO aD aT aY bU=r):CC MF [.int .i64 aK,.int .i64 aO,.list aC aD,.list aG aT,.int .i64 aY,.list jM bU]=r:=
 bD (key:=4) (L:=abo CC) (bs:=[.loop (ao [1,1,1,1,1,0,1,0,0] abl)]) (by kernel_rfl) (bm (an2 CC) ar) (bB (by kernel_rfl) h)
theorem an3 {l:List (List UInt8)} (hl:l.length≤1000) {c0 c1 c2 c3 c4 c5:Int} {l1 l2 l3 l4 l5:List V}:Loop (xt CC c0 l1 c1 (l.map V.str) (l.length:Int) c2 c3 l2 l3 c4 c5 l4 l5) 0=some (.inl true)∨Loop (xt CC c0 l1 c1 (l.map V.str) (l.length:Int) c2 c3 l2 l3 c4 c5 l4 l5) 0=some (.inr ((l.length:Int),false)):=by
 have key:=ahi (fun i=>decide ((l.getD i []).length>3∧(l.getD i []).length<100)) l.length (fun i=>(i:Int)) (fun _=>(.inl true:Bool ⊕ (Int × Bool))) (.inr ((l.length:Int),false)) (step:=xt CC c0 l1 c1 (l.map V.str) (l.length:Int) c2 c3 l2 l3 c4 c5 l4 l5) (fun i hi=>by
  simp only[xt,Fl]
  refine bT (cU hi) ?_
  refine bs (u3 hi) ?_
  rw[V.uv]
  by_cases h3:(l.getD i []).length>3
  ·refine bT (bN (by omega)) ?_
   by_cases h4:(l.getD i []).length<100
   ·refine bT (bN (by omega)) ?_
    rw[af (bN ⟨h3,h4⟩)]
    exact bs Fk rfl
   ·refine bF (db (by omega)) ?_
    rw[ag (fun h=>h4 (of_decide_eq_true h).2),cy (by omega)]
  ·refine bF (db (by omega)) ?_
   rw[ag (fun h=>h3 (of_decide_eq_true h).1),cy (by omega)]) (by
  simp only[xt,Fl]
  refine bF (bq (ax _)) ?_
  rw[bq (ax _)])
 rcases key with ⟨i,_,_,_,h⟩|⟨_,h⟩
 ·exact .inl h
 ·exact .inr h
theorem abv (d:Df) (hd:d.Ok) (L:Int) (l:List (List UInt8)) (hl:l.length≤maxLen):CC MF (rK d [.int .i64 L,mr l])=some [.bool true]:=by
 by_cases hv:d.val=0
 case neg=>
  refine abp ?_
  unfold Q5
  refine bs (XC hd) ?_
  refine bF (by simpa using hv) ?_
  refine bs (anL hd hv L l) ?_
  refine bT (by simpa using hv) ?_
  refine bs (QI JX d.val) (bT rfl ?_)
  exact bs Fk rfl
 obtain ⟨a,ha,rfl⟩:=ahd hv
 have hV:=XC ha.XE
 rw[hv] at hV
 rw[ha.leaves] at*
 have hm:=J7 ha
 have xo:=E1 ha
 have h1:=ha.l1
 have h6:=ha.l6
 have e1:a.cZ.length=a.n:=Da.pb
 refine abp ?_
 unfold Q5
 refine bs hV (bT rfl ?_)
 by_cases hn:a.n≤3
 case neg=>
  refine bT (bN (by omega)) ?_
  exact bs Fk rfl
 refine bF (db (by omega)) ?_
 have hmn:=aaV ha
 have hMI:=anP hl (L:=L) ⟨h1,h6⟩
 by_cases ho:1≤L∧L≤6∧l.length=a.L∧∀i,i<l.length→eG (l.getD i []) L∧l.getD i []≠[]
 case neg=>
  refine bs (anK hm xo hl (J8 ha) (by rw[xo];exact ho)) ?_
  refine bF rfl ?_
  refine bs hMI (bT (by rw[V.cd,V.me,db ho];rfl) ?_)
  refine bs (QI JX 1) (bT rfl ?_)
  exact bs Fk rfl
 obtain ⟨M,rfl⟩:=Int.eq_ofNat_of_zero_le (show 0≤L by omega)
 have hI:Kj (minD a) l M:=⟨by omega,by omega,by rw[xo];exact ho.2.2.1,fun i hi=>(ho.2.2.2 i hi).1,fun i hi=>(ho.2.2.2 i hi).2⟩
 obtain ⟨r,f,q1,q2,q3⟩: ∃r f,CC rj (gd a [.int .i64 (M:Int),mr l])=some (fR r f)∧CC ux (gd a [.int .i64 (M:Int),mr l])=some (fR r f)∧CC sO (gd r (dK r))=some [.bool true]:=by
  by_cases hs:br (minD a) l (minD a).n≤64
  ·exact ⟨_,_,anI hm xo hI (J8 ha) hs,anM hm hI (PN ha) (by omega) hs,am4 (Q2 hm hI hs)⟩
  ·exact ⟨_,_,anJ hm xo hI (J8 ha) (by omega),anO hm hI (PN ha) (by omega) (by omega),JX⟩
 refine bs q1 ?_
 refine bF rfl ?_
 refine bs hMI (bF (by rw[V.cd,V.me,bN ho];rfl) ?_)
 rw[cb]
 rcases an3 (l:=l) (by omega) with hh|hh
 ·refine bs hh ?_
  rfl
 ·refine bs hh ?_
  simp only[cL,un]
  refine bs q2 ?_
  refine bs (QI q3 f) (bT rfl ?_)
  exact bs Fk rfl
end Go.AM
