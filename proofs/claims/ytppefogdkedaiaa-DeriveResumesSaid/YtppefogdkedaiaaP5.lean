/-
  Functions of the program, lifted to plain data.
-/
import Derived.Test.YtppefogdkedaiaaP4
set_option linter.unusedVariables false
set_option linter.unusedSimpArgs false
set_option maxRecDepth 100000
namespace Go.AM
open Go.Proofs
noncomputable abbrev Fj:Code:=cJ Try.prog (ax.aV 111)
noncomputable def xA (C:ag) (a b' i j:Int) (ak:List V) {β:Type} (kn:(Int × (List V))→Option β) (kr:(Int × Bool × (List V))→Option β):Option β:=
 bif decide ((j:Int)>a) then
  bif (decide (0≤j))&&(decide (j<(ak.length:Int))) then
  (ak[(j:Int).toNat]?).bind fun x1=>
  bif (decide (0≤(IntKind.wrap .i64 (j-1))))&&(decide ((IntKind.wrap .i64 (j-1))<(ak.length:Int))) then
   (ak[(IntKind.wrap .i64 (j-1):Int).toNat]?).bind fun x2=>
   (C ba [.int .i64 ((x1.cell 0).toInt),.int .i64 ((x1.cell 1).toInt),.list aa ((x1.cell 2).toList),.int .i64 ((x2.cell 0).toInt),.int .i64 ((x2.cell 1).toInt),.list aa ((x2.cell 2).toList)]).bind fun r3=>
   bif decide ((((V.nth r3 0).toInt):Int)<0) then
   bif (decide (0≤(IntKind.wrap .i64 (j-1))))&&(decide ((IntKind.wrap .i64 (j-1))<(ak.length:Int))) then
    (ak[(IntKind.wrap .i64 (j-1):Int).toNat]?).bind fun x4=>
    bif (decide (0≤j))&&(decide (j<(ak.length:Int))) then
    (ak[(j:Int).toNat]?).bind fun x5=>
    bif (decide (0≤j))&&(decide (j<(ak.length:Int))) then
     (ak[(j:Int).toNat]?).bind fun x6=>
     bif (decide (0≤(IntKind.wrap .i64 (j-1))))&&(decide ((IntKind.wrap .i64 (j-1))<((ak.set ((j:Int).toNat) (.agg [.int .i64 ((x4.cell 0).toInt),.int .i64 ((x4.cell 1).toInt),.list aa ((x4.cell 2).toList)])).length:Int))) then
     ((ak.set ((j:Int).toNat) (.agg [.int .i64 ((x4.cell 0).toInt),.int .i64 ((x4.cell 1).toInt),.list aa ((x4.cell 2).toList)]))[(IntKind.wrap .i64 (j-1):Int).toNat]?).bind fun x7=>
     kn (IntKind.wrap .i64 (j-1),(ak.set ((j:Int).toNat) (.agg [.int .i64 ((x4.cell 0).toInt),.int .i64 ((x4.cell 1).toInt),.list aa ((x4.cell 2).toList)])).set ((IntKind.wrap .i64 (j-1):Int).toNat) (.agg [.int .i64 ((x5.cell 0).toInt),.int .i64 ((x5.cell 1).toInt),.list aa ((x5.cell 2).toList)]))
     else none
    else none
    else none
   else none
   else
   kr (j,decide ((((V.nth r3 0).toInt):Int)<0),ak)
  else none
  else none
 else
  kr (j,false,ak)
noncomputable def xB (C:ag) (a b' i:Int):(Int × (List V))→Option ((Int × (List V)) ⊕ (Int × Bool × (List V))):=un fun j ak=>xA C a b' i j ak (fun y=>some (.inl y)) (fun r=>some (.inr r))
noncomputable def AR (C:ag) (a b' i:Int) (ak:List V) {β:Type} (kn:(Int × (List V))→Option β) (kr:(Int × Bool × (List V))→Option β):Option β:=
 bif decide ((i:Int)<b') then
  (Loop (xB C a b' i) (i,ak)).bind (un fun (j_8:Int)=>un fun (sh:Bool) (oF:List V)=>
   kn (IntKind.wrap .i64 (i+1),oF))
 else
  kr (i,decide ((i:Int)<b'),ak)
noncomputable def Fk (C:ag) (a b':Int):(Int × (List V))→Option ((Int × (List V)) ⊕ (Int × Bool × (List V))):=un fun i ak=>AR C a b' i ak (fun y=>some (.inl y)) (fun r=>some (.inr r))
noncomputable def RI (C:ag):cz:=fun β n ds k=>
 bif Nat.beq n 65 then cf JJ [false,false,false,true,true] [[1,2,3,0,0,0]] (@xA C) ds k else
 bif Nat.beq n 17 then cf JK [false,false,true,true] [[1,2,0,0,0]] (@AR C) ds k else
 none
abbrev RJ (C:ag) (b:cv):Prop:=cw Try.prog ax C (RI C) 111 (cM Try.prog (ax.aV 111)) (ax.sin 111).a8.length b
theorem acV (C:ag):RJ C (.loop (aw [1,0,0,1,0,0,1,0,0] Fj)):=
 cm JJ [false,false,false,true,true] [[1,2,3,0,0,0]] (@xA C) (by kernel_rfl) (bf (bs:=[]) (by kernel_rfl) av) (fun ds=>by kernel_rfl) (fun i x=>by kernel_rfl) (fun i x β k=>by kernel_rfl) (fun β ds k=>by kernel_rfl)
theorem acW (C:ag):RJ C (.loop (aw [1,0,0] Fj)):=
 cm JK [false,false,true,true] [[1,2,0,0,0]] (@AR C) (by kernel_rfl) (bf (bs:=[.loop (aw [1,0,0,1,0,0,1,0,0] Fj)]) (by kernel_rfl) (bD (acV C) av)) (fun ds=>by kernel_rfl) (fun i x=>by kernel_rfl) (fun i x β k=>by kernel_rfl) (fun β ds k=>by kernel_rfl)
noncomputable def RK (C:ag) (a b':Int) (ak:List V):Option (List V):=
 (Loop (Fk C a b') (IntKind.wrap .i64 (a+1),ak)).bind (un fun (aiI:Int)=>un fun (Kf:Bool) (KP:List V)=>
  some [.list aa KP])
theorem acX {a b':Int} {ak:List V} {r:Option (List V)} (h:RK CC a b' ak=r):CC Ab [.int .i64 a,.int .i64 b',.list aa ak]=r:=
 aY (key:=111) (L:=RI CC) (bs:=[.loop (aw [1,0,0] Fj)]) (by kernel_rfl) (bD (acW CC) av) (aW (by kernel_rfl) h)
noncomputable abbrev xC:Code:=cJ Try.prog (ax.aV 121)
noncomputable def uJ (C:ag) (hi first root child:Int) (t40:Bool) (ak:List V) {β:Type} (kr:(Int)→Option β):Option β:=
 bif t40 then
  kr (IntKind.wrap .i64 (child+1))
 else
  kr child
noncomputable def sq (C:ag) (hi first root:Int) (ak:List V) {β:Type} (kn:(Int × (List V))→Option β) (kr:((Int × Int × Bool × (List V)) ⊕ (Int × Int × Bool × (List V)))→Option β):Option β:=
 bif decide (((IntKind.wrap .i64 ((IntKind.wrap .i64 (root*2))+1)):Int)≥hi) then
  kr (.inl (root,IntKind.wrap .i64 ((IntKind.wrap .i64 (root*2))+1),decide (((IntKind.wrap .i64 ((IntKind.wrap .i64 (root*2))+1)):Int)≥hi),ak))
 else
  bif decide (((IntKind.wrap .i64 ((IntKind.wrap .i64 ((IntKind.wrap .i64 (root*2))+1))+1)):Int)<hi) then
  bif (decide (0≤(IntKind.wrap .i64 (first+(IntKind.wrap .i64 ((IntKind.wrap .i64 (root*2))+1))))))&&(decide ((IntKind.wrap .i64 (first+(IntKind.wrap .i64 ((IntKind.wrap .i64 (root*2))+1))))<(ak.length:Int))) then
   (ak[(IntKind.wrap .i64 (first+(IntKind.wrap .i64 ((IntKind.wrap .i64 (root*2))+1))):Int).toNat]?).bind fun x1=>
   bif (decide (0≤(IntKind.wrap .i64 ((IntKind.wrap .i64 (first+(IntKind.wrap .i64 ((IntKind.wrap .i64 (root*2))+1))))+1))))&&(decide ((IntKind.wrap .i64 ((IntKind.wrap .i64 (first+(IntKind.wrap .i64 ((IntKind.wrap .i64 (root*2))+1))))+1))<(ak.length:Int))) then
   (ak[(IntKind.wrap .i64 ((IntKind.wrap .i64 (first+(IntKind.wrap .i64 ((IntKind.wrap .i64 (root*2))+1))))+1):Int).toNat]?).bind fun x2=>
   (C ba [.int .i64 ((x1.cell 0).toInt),.int .i64 ((x1.cell 1).toInt),.list aa ((x1.cell 2).toList),.int .i64 ((x2.cell 0).toInt),.int .i64 ((x2.cell 1).toInt),.list aa ((x2.cell 2).toList)]).bind fun r3=>
   uJ C hi first root (IntKind.wrap .i64 ((IntKind.wrap .i64 (root*2))+1)) (decide ((((V.nth r3 0).toInt):Int)<0)) ak (fun (nw:Int)=>
    bif (decide (0≤(IntKind.wrap .i64 (first+root))))&&(decide ((IntKind.wrap .i64 (first+root))<(ak.length:Int))) then
     (ak[(IntKind.wrap .i64 (first+root):Int).toNat]?).bind fun x5=>
     bif (decide (0≤(IntKind.wrap .i64 (first+nw))))&&(decide ((IntKind.wrap .i64 (first+nw))<(ak.length:Int))) then
     (ak[(IntKind.wrap .i64 (first+nw):Int).toNat]?).bind fun x6=>
     (C ba [.int .i64 ((x5.cell 0).toInt),.int .i64 ((x5.cell 1).toInt),.list aa ((x5.cell 2).toList),.int .i64 ((x6.cell 0).toInt),.int .i64 ((x6.cell 1).toInt),.list aa ((x6.cell 2).toList)]).bind fun r7=>
     bif !(decide ((((V.nth r7 0).toInt):Int)<0)) then
      kr (.inr (root,nw,!(decide ((((V.nth r7 0).toInt):Int)<0)),ak))
     else
      bif (decide (0≤(IntKind.wrap .i64 (first+nw))))&&(decide ((IntKind.wrap .i64 (first+nw))<(ak.length:Int))) then
      (ak[(IntKind.wrap .i64 (first+nw):Int).toNat]?).bind fun x8=>
      bif (decide (0≤(IntKind.wrap .i64 (first+root))))&&(decide ((IntKind.wrap .i64 (first+root))<(ak.length:Int))) then
       (ak[(IntKind.wrap .i64 (first+root):Int).toNat]?).bind fun x9=>
       bif (decide (0≤(IntKind.wrap .i64 (first+root))))&&(decide ((IntKind.wrap .i64 (first+root))<(ak.length:Int))) then
       (ak[(IntKind.wrap .i64 (first+root):Int).toNat]?).bind fun lE=>
       bif (decide (0≤(IntKind.wrap .i64 (first+nw))))&&(decide ((IntKind.wrap .i64 (first+nw))<((ak.set ((IntKind.wrap .i64 (first+root):Int).toNat) (.agg [.int .i64 ((x8.cell 0).toInt),.int .i64 ((x8.cell 1).toInt),.list aa ((x8.cell 2).toList)])).length:Int))) then
        ((ak.set ((IntKind.wrap .i64 (first+root):Int).toNat) (.agg [.int .i64 ((x8.cell 0).toInt),.int .i64 ((x8.cell 1).toInt),.list aa ((x8.cell 2).toList)]))[(IntKind.wrap .i64 (first+nw):Int).toNat]?).bind fun eC=>
        kn (nw,(ak.set ((IntKind.wrap .i64 (first+root):Int).toNat) (.agg [.int .i64 ((x8.cell 0).toInt),.int .i64 ((x8.cell 1).toInt),.list aa ((x8.cell 2).toList)])).set ((IntKind.wrap .i64 (first+nw):Int).toNat) (.agg [.int .i64 ((x9.cell 0).toInt),.int .i64 ((x9.cell 1).toInt),.list aa ((x9.cell 2).toList)]))
       else none
       else none
      else none
      else none
     else none
    else none)
   else none
  else none
  else
  uJ C hi first root (IntKind.wrap .i64 ((IntKind.wrap .i64 (root*2))+1)) false ak (fun (ny:Int)=>
   bif (decide (0≤(IntKind.wrap .i64 (first+root))))&&(decide ((IntKind.wrap .i64 (first+root))<(ak.length:Int))) then
    (ak[(IntKind.wrap .i64 (first+root):Int).toNat]?).bind fun iP=>
    bif (decide (0≤(IntKind.wrap .i64 (first+ny))))&&(decide ((IntKind.wrap .i64 (first+ny))<(ak.length:Int))) then
    (ak[(IntKind.wrap .i64 (first+ny):Int).toNat]?).bind fun nz=>
    (C ba [.int .i64 ((iP.cell 0).toInt),.int .i64 ((iP.cell 1).toInt),.list aa ((iP.cell 2).toList),.int .i64 ((nz.cell 0).toInt),.int .i64 ((nz.cell 1).toInt),.list aa ((nz.cell 2).toList)]).bind fun lF=>
    bif !(decide ((((V.nth lF 0).toInt):Int)<0)) then
     kr (.inr (root,ny,!(decide ((((V.nth lF 0).toInt):Int)<0)),ak))
    else
     bif (decide (0≤(IntKind.wrap .i64 (first+ny))))&&(decide ((IntKind.wrap .i64 (first+ny))<(ak.length:Int))) then
     (ak[(IntKind.wrap .i64 (first+ny):Int).toNat]?).bind fun gv=>
     bif (decide (0≤(IntKind.wrap .i64 (first+root))))&&(decide ((IntKind.wrap .i64 (first+root))<(ak.length:Int))) then
      (ak[(IntKind.wrap .i64 (first+root):Int).toNat]?).bind fun qO=>
      bif (decide (0≤(IntKind.wrap .i64 (first+root))))&&(decide ((IntKind.wrap .i64 (first+root))<(ak.length:Int))) then
      (ak[(IntKind.wrap .i64 (first+root):Int).toNat]?).bind fun xl=>
      bif (decide (0≤(IntKind.wrap .i64 (first+ny))))&&(decide ((IntKind.wrap .i64 (first+ny))<((ak.set ((IntKind.wrap .i64 (first+root):Int).toNat) (.agg [.int .i64 ((gv.cell 0).toInt),.int .i64 ((gv.cell 1).toInt),.list aa ((gv.cell 2).toList)])).length:Int))) then
       ((ak.set ((IntKind.wrap .i64 (first+root):Int).toNat) (.agg [.int .i64 ((gv.cell 0).toInt),.int .i64 ((gv.cell 1).toInt),.list aa ((gv.cell 2).toList)]))[(IntKind.wrap .i64 (first+ny):Int).toNat]?).bind fun pz=>
       kn (ny,(ak.set ((IntKind.wrap .i64 (first+root):Int).toNat) (.agg [.int .i64 ((gv.cell 0).toInt),.int .i64 ((gv.cell 1).toInt),.list aa ((gv.cell 2).toList)])).set ((IntKind.wrap .i64 (first+ny):Int).toNat) (.agg [.int .i64 ((qO.cell 0).toInt),.int .i64 ((qO.cell 1).toInt),.list aa ((qO.cell 2).toList)]))
      else none
      else none
     else none
     else none
    else none
   else none)
noncomputable def oG (C:ag) (hi first:Int):(Int × (List V))→Option ((Int × (List V)) ⊕ ((Int × Int × Bool × (List V)) ⊕ (Int × Int × Bool × (List V)))):=un fun root ak=>sq C hi first root ak (fun y=>some (.inl y)) (fun r=>some (.inr r))
noncomputable def RL (C:ag):cz:=fun β n ds k=>
 bif Nat.beq n 655 then iK J7 [[1,2,3,0,6]] (@uJ C) ds k else
 bif Nat.beq n 17 then cf J8 [false,false,true,true] [[1,2,0,0,0,0],[1,2,0,0,0,0]] (@sq C) ds k else
 none
abbrev RM (C:ag) (b:cv):Prop:=cw Try.prog ax C (RL C) 121 (cM Try.prog (ax.aV 121)) (ax.sin 121).a8.length b
theorem acY (C:ag):RM C (.cond 40 (aw [1,0,0,0,1,1,0,1,0] xC) (aw [1,0,0,0,1,1,0,1,1] xC)):=
 jf J7 [[1,2,3,0,6]] (@uJ C) (by kernel_rfl) (bf (bs:=[]) (by kernel_rfl) av) (bf (bs:=[]) (by kernel_rfl) av) (fun ds=>by kernel_rfl) (fun i β k=>by kernel_rfl) (fun β ds k=>by kernel_rfl)
theorem acZ (C:ag):RM C (.loop (aw [1,0,0] xC)):=
 cm J8 [false,false,true,true] [[1,2,0,0,0,0],[1,2,0,0,0,0]] (@sq C) (by kernel_rfl) (bf (bs:=[.cond 40 (aw [1,0,0,0,1,1,0,1,0] xC) (aw [1,0,0,0,1,1,0,1,1] xC)]) (by kernel_rfl) (bD (acY C) av)) (fun ds=>by kernel_rfl) (fun i x=>by kernel_rfl) (fun i x β k=>by kernel_rfl) (fun β ds k=>by kernel_rfl)
noncomputable def RN (C:ag) (lo hi first:Int) (ak:List V):Option (List V):=
 (Loop (oG C hi first) (lo,ak)).bind (bR (un fun (aiJ:Int)=>un fun (aiK:Int)=>un fun (Kk:Bool) (ac0:List V)=>
  some [.list aa ac0]) (un fun (aiL:Int)=>un fun (aiM:Int)=>un fun (Ql:Bool) (qP:List V)=>
  some [.list aa qP]))
theorem ac1 {lo hi first:Int} {ak:List V} {r:Option (List V)} (h:RN CC lo hi first ak=r):CC Ae [.int .i64 lo,.int .i64 hi,.int .i64 first,.list aa ak]=r:=
 aY (key:=121) (L:=RL CC) (bs:=[.loop (aw [1,0,0] xC)]) (by kernel_rfl) (bD (acZ CC) av) (aW (by kernel_rfl) h)
noncomputable abbrev Fl:Code:=cJ Try.prog (ax.aV 112)
noncomputable def AS (C:ag) (first lo hi i:Int) (ak:List V) {β:Type} (kn:(Int × (List V))→Option β) (kr:(Int × Bool × (List V))→Option β):Option β:=
 bif decide ((i:Int)≥0) then
  (C Ae [.int .i64 i,.int .i64 hi,.int .i64 first,.list aa ak]).bind fun r1=>
  kn (IntKind.wrap .i64 (i-1),(V.nth r1 0).toList)
 else
  kr (i,decide ((i:Int)≥0),ak)
noncomputable def Fm (C:ag) (first lo hi:Int):(Int × (List V))→Option ((Int × (List V)) ⊕ (Int × Bool × (List V))):=un fun i ak=>AS C first lo hi i ak (fun y=>some (.inl y)) (fun r=>some (.inr r))
noncomputable def AT (C:ag) (first lo i:Int) (ak:List V) {β:Type} (kn:(Int × (List V))→Option β) (kr:(Int × Bool × (List V))→Option β):Option β:=
 bif decide ((i:Int)≥0) then
  bif (decide (0≤(IntKind.wrap .i64 (first+i))))&&(decide ((IntKind.wrap .i64 (first+i))<(ak.length:Int))) then
  (ak[(IntKind.wrap .i64 (first+i):Int).toNat]?).bind fun x5=>
  bif (decide (0≤first))&&(decide (first<(ak.length:Int))) then
   (ak[(first:Int).toNat]?).bind fun x6=>
   bif (decide (0≤first))&&(decide (first<(ak.length:Int))) then
   (ak[(first:Int).toNat]?).bind fun x7=>
   bif (decide (0≤(IntKind.wrap .i64 (first+i))))&&(decide ((IntKind.wrap .i64 (first+i))<((ak.set ((first:Int).toNat) (.agg [.int .i64 ((x5.cell 0).toInt),.int .i64 ((x5.cell 1).toInt),.list aa ((x5.cell 2).toList)])).length:Int))) then
    ((ak.set ((first:Int).toNat) (.agg [.int .i64 ((x5.cell 0).toInt),.int .i64 ((x5.cell 1).toInt),.list aa ((x5.cell 2).toList)]))[(IntKind.wrap .i64 (first+i):Int).toNat]?).bind fun x8=>
    (C Ae [.int .i64 lo,.int .i64 i,.int .i64 first,.list aa ((ak.set ((first:Int).toNat) (.agg [.int .i64 ((x5.cell 0).toInt),.int .i64 ((x5.cell 1).toInt),.list aa ((x5.cell 2).toList)])).set ((IntKind.wrap .i64 (first+i):Int).toNat) (.agg [.int .i64 ((x6.cell 0).toInt),.int .i64 ((x6.cell 1).toInt),.list aa ((x6.cell 2).toList)]))]).bind fun r9=>
    kn (IntKind.wrap .i64 (i-1),(V.nth r9 0).toList)
   else none
   else none
  else none
  else none
 else
  kr (i,decide ((i:Int)≥0),ak)
noncomputable def Fo (C:ag) (first lo:Int):(Int × (List V))→Option ((Int × (List V)) ⊕ (Int × Bool × (List V))):=un fun i ak=>AT C first lo i ak (fun y=>some (.inl y)) (fun r=>some (.inr r))
noncomputable def RO (C:ag):cz:=fun β n ds k=>
 bif Nat.beq n 65 then cf JL [false,false,false,true,true] [[1,2,3,0,0,0]] (@AS C) ds k else
 bif Nat.beq n 129 then cf JM [false,false,true,true] [[1,2,0,0,0]] (@AT C) ds k else
 none
abbrev RP (C:ag) (b:cv):Prop:=cw Try.prog ax C (RO C) 112 (cM Try.prog (ax.aV 112)) (ax.sin 112).a8.length b
theorem ac2 (C:ag):RP C (.loop (aw [1,1,1,0,1,0,0] Fl)):=
 cm JL [false,false,false,true,true] [[1,2,3,0,0,0]] (@AS C) (by kernel_rfl) (bf (bs:=[]) (by kernel_rfl) av) (fun ds=>by kernel_rfl) (fun i x=>by kernel_rfl) (fun i x β k=>by kernel_rfl) (fun β ds k=>by kernel_rfl)
theorem ac3 (C:ag):RP C (.loop (aw [1,1,1,1,1,0,0] Fl)):=
 cm JM [false,false,true,true] [[1,2,0,0,0]] (@AT C) (by kernel_rfl) (bf (bs:=[]) (by kernel_rfl) av) (fun ds=>by kernel_rfl) (fun i x=>by kernel_rfl) (fun i x β k=>by kernel_rfl) (fun β ds k=>by kernel_rfl)
noncomputable def RQ (C:ag) (a b':Int) (ak:List V):Option (List V):=
 (Loop (Fm C a 0 (IntKind.wrap .i64 (b'-a))) (IntKind.wrap .i64 (Int.tdiv (IntKind.wrap .i64 ((IntKind.wrap .i64 (b'-a))-1)) 2),ak)).bind (un fun (i_2:Int)=>un fun (kf:Bool) (ac4:List V)=>
  (Loop (Fo C a 0) (IntKind.wrap .i64 ((IntKind.wrap .i64 (b'-a))-1),ac4)).bind (un fun (aiN:Int)=>un fun (E1:Bool) (mA:List V)=>
   some [.list aa mA]))
theorem ac5 {a b':Int} {ak:List V} {r:Option (List V)} (h:RQ CC a b' ak=r):CC Ac [.int .i64 a,.int .i64 b',.list aa ak]=r:=
 aY (key:=112) (L:=RO CC) (bs:=[.loop (aw [1,1,1,0,1,0,0] Fl),.loop (aw [1,1,1,1,1,0,0] Fl)]) (by kernel_rfl) (bD (ac2 CC) (bD (ac3 CC) av)) (aW (by kernel_rfl) h)
noncomputable abbrev RR:Code:=cJ Try.prog (ax.aV 115)
noncomputable def xD (C:ag) (i j:Int) (ak:List V) {β:Type} (kn:(Int × Int × (List V))→Option β) (kr:(Int × Int × Bool × (List V))→Option β):Option β:=
 bif decide ((i:Int)<j) then
  bif (decide (0≤j))&&(decide (j<(ak.length:Int))) then
  (ak[(j:Int).toNat]?).bind fun x1=>
  bif (decide (0≤i))&&(decide (i<(ak.length:Int))) then
   (ak[(i:Int).toNat]?).bind fun x2=>
   bif (decide (0≤i))&&(decide (i<(ak.length:Int))) then
   (ak[(i:Int).toNat]?).bind fun x3=>
   bif (decide (0≤j))&&(decide (j<((ak.set ((i:Int).toNat) (.agg [.int .i64 ((x1.cell 0).toInt),.int .i64 ((x1.cell 1).toInt),.list aa ((x1.cell 2).toList)])).length:Int))) then
    ((ak.set ((i:Int).toNat) (.agg [.int .i64 ((x1.cell 0).toInt),.int .i64 ((x1.cell 1).toInt),.list aa ((x1.cell 2).toList)]))[(j:Int).toNat]?).bind fun x4=>
    kn (IntKind.wrap .i64 (i+1),IntKind.wrap .i64 (j-1),(ak.set ((i:Int).toNat) (.agg [.int .i64 ((x1.cell 0).toInt),.int .i64 ((x1.cell 1).toInt),.list aa ((x1.cell 2).toList)])).set ((j:Int).toNat) (.agg [.int .i64 ((x2.cell 0).toInt),.int .i64 ((x2.cell 1).toInt),.list aa ((x2.cell 2).toList)]))
   else none
   else none
  else none
  else none
 else
  kr (i,j,decide ((i:Int)<j),ak)
noncomputable def AU (C:ag):(Int × Int × (List V))→Option ((Int × Int × (List V)) ⊕ (Int × Int × Bool × (List V))):=un fun i=>un fun j ak=>xD C i j ak (fun y=>some (.inl y)) (fun r=>some (.inr r))
noncomputable def RS (C:ag):cz:=fun β n ds k=>
 bif Nat.beq n 33 then cf JR [true,true,true] [[0,0,0,0]] (@xD C) ds k else
 none
abbrev ac6 (C:ag) (b:cv):Prop:=cw Try.prog ax C (RS C) 115 (cM Try.prog (ax.aV 115)) (ax.sin 115).a8.length b
theorem ac7 (C:ag):ac6 C (.loop (aw [1,1,0,0] RR)):=
 cm JR [true,true,true] [[0,0,0,0]] (@xD C) (by kernel_rfl) (bf (bs:=[]) (by kernel_rfl) av) (fun ds=>by kernel_rfl) (fun i x=>by kernel_rfl) (fun i x β k=>by kernel_rfl) (fun β ds k=>by kernel_rfl)
noncomputable def RT (C:ag) (a b':Int) (ak:List V):Option (List V):=
 (Loop (AU C) (a,IntKind.wrap .i64 (b'-1),ak)).bind (un fun (cT:Int)=>un fun (KI:Int)=>un fun (pr:Bool) (ac8:List V)=>
  some [.list aa ac8])
theorem ac9 {a b':Int} {ak:List V} {r:Option (List V)} (h:RT CC a b' ak=r):CC EC [.int .i64 a,.int .i64 b',.list aa ak]=r:=
 aY (key:=115) (L:=RS CC) (bs:=[.loop (aw [1,1,0,0] RR)]) (by kernel_rfl) (bD (ac7 CC) av) (aW (by kernel_rfl) h)
end Go.AM
set_option maxRecDepth 100000
set_option maxHeartbeats 4000000
namespace Go.AM.SX
open Go.Proofs Go.Sort
def ay (a b:XE):Bool:=decide (bO a b<0)
theorem sr (a b:XE):(ay a b=true)=(bO a b<0):=by unfold ay;rw[dH]
theorem qQ (a b:XE):((!ay a b)=true)= ¬(bO a b<0):=by unfold ay;simp
abbrev eA (d:Array XE):List V:=py XE.enc d
theorem ada (a j:Nat) (d:Array XE):insInner ay a (j+1) d=if j+1>a then (if bO d[j+1]! d[j]! <0 then insInner ay a j (swp d (j+1) j) else d) else d:=by
 rw[RH]
 by_cases h1:j+1>a
 ·rw[aj h1];simp only[h1,rn,mL,sr]
 ·rw[ah h1,ah (by simp[h1])]
theorem KQ (hi first root:Nat) (d:Array XE):siftDown ay hi first root d=
  if 2*root+1≥hi then d else
   if 2*root+2<hi then
    (if bO d[first+(2*root+1)]! d[first+(2*root+2)]! <0 then
     (if bO d[first+root]! d[first+(2*root+2)]! <0 then siftDown ay hi first (2*root+2) (swp d (first+root) (first+(2*root+2))) else d)
    else (if bO d[first+root]! d[first+(2*root+1)]! <0 then siftDown ay hi first (2*root+1) (swp d (first+root) (first+(2*root+1))) else d))
   else (if bO d[first+root]! d[first+(2*root+1)]! <0 then siftDown ay hi first (2*root+1) (swp d (first+root) (first+(2*root+1))) else d):=by
 rw[siftDown]
 by_cases h1:2*root+1≥hi
 ·rw[rj h1,aj h1]
 rw[dif_neg h1,ah h1]
 by_cases U:2*root+2<hi
 ·rw[aj U]
  by_cases h3:bO d[first+(2*root+1)]! d[first+(2*root+2)]! <0
  ·rw[aj h3,aj (by simp only[aK,dH,sr];exact ⟨U,h3⟩)]
   simp only[qQ]
   by_cases h4:bO d[first+root]! d[first+(2*root+2)]! <0
   ·rw[ah (pQ h4),rj U,aj h4]
   ·rw[aj h4,ah h4]
  ·rw[ah h3,ah (by simp only[aK,dH,sr];exact fun h=>h3 h.2)]
   simp only[qQ]
   by_cases h4:bO d[first+root]! d[first+(2*root+1)]! <0
   ·rw[ah (pQ h4),aj h4]
   ·rw[aj h4,ah h4]
 ·rw[ah U,ah (by simp only[aK,dH,sr];exact fun h=>U h.1)]
  simp only[qQ]
  by_cases h4:bO d[first+root]! d[first+(2*root+1)]! <0
  ·rw[ah (pQ h4),aj h4]
  ·rw[aj h4,ah h4]
theorem RU {a b i:Nat}: ∀(j:Nat) (d:Array XE),j<d.size→d.size<1152921504606846976→
  ∃j' t,Loop (xB CC a b i) ((j:Int),eA d)=some (j',t,eA (insInner ay a j d))
 | 0,d,hj,hs=>⟨(0:Nat),false,bc (by
   simp (disch:=omega) only[xB,xA,un,aA,ah]
   rfl)⟩
 | j+1,d,hj,hs=>by
  obtain ⟨j',t,ih⟩:=RU (a:=a) (b:=b) (i:=i) j (swp d (j+1) j) (by rw[size_swp];omega) (by rw[size_swp];omega)
  rw[ada]
  by_cases h1:j+1>a
  ·rw[aj h1]
   have e:xB CC a b i (((j+1:Nat):Int),eA d)=if bO d[j+1]! d[j]! <0 then some (.inl ((j:Int),eA (swp d (j+1) j))) else some (.inr (((j+1:Nat):Int),decide (bO d[j+1]! d[j]! <0),eA d)):=by
    simp (disch:=omega) only[xB,xA,un,aA,dq,hY,aj,ah,wrap64,dD,fJ,Int.toNat_natCast,Option.bind_some,fG,fI,XE.bh,XE.bj,XE.bm,XE.re,fH,ic,gC,gr,V.aQ,V.toInt_int,cond_true,cond_false,uI]
    rfl
   by_cases U:bO d[j+1]! d[j]! <0
   ·rw[aj U] at e⊢
    exact ⟨j',t,(bV e).trans ih⟩
   ·rw[ah U] at e⊢
    exact ⟨_,_,bc e⟩
  ·rw[ah h1]
   exact ⟨((j+1:Nat):Int),false,bc (by
    simp (disch:=omega) only[xB,xA,un,aA,ah])⟩
theorem adb {a b:Nat}: ∀(n i:Nat) (d:Array XE),b-i=n→b≤d.size→d.size<1152921504606846976→
  ∃j' t,Loop (Fk CC a b) ((i:Int),eA d)=some (j',t,eA (insOuter ay a b i d)):=by
 intro n
 induction n with
 | zero=>
  intro i d hn hb hs
  rw[insOuter,ah (by omega)]
  exact ⟨(i:Int),false,bc (by
   simp (disch:=omega) only[Fk,AR,un,sn,cond_false])⟩
 | succ n ih=>
  intro i d hn hb hs
  obtain ⟨j1,t1,h1⟩:=RU (a:=a) (b:=b) (i:=i) i d (by omega) hs
  obtain ⟨j',t,U⟩:=ih (i+1) (insInner ay a i d) (by omega) (by rw[KN];omega) (by rw[KN];omega)
  rw[insOuter,aj (by omega)]
  refine ⟨j',t,(bV ?_).trans U⟩
  simp (disch:=omega) only[Fk,AR,un,aA,aj,h1,Option.bind_some,dD,wrap64]
theorem RV {a b:Nat} {d:Array XE} (hb:b≤d.size) (hs:d.size<1152921504606846976) (ha:a<1152921504606846976):
  CC Ab [.int .i64 (a:Int),.int .i64 (b:Int),.list aa (eA d)]=some [.list aa (eA (insertionSort ay d a b))]:=by
 refine acX ?_
 unfold RK
 obtain ⟨j',t,h⟩:=adb (a:=a) (b:=b) _ (a+1) d rfl hb hs
 simp (disch:=omega) only[dD,wrap64]
 rw[h]
 rfl
theorem ade (hi first:Nat): ∀(n root:Nat) (d:Array XE),hi-root≤n→root<1152921504606846976→first+hi≤d.size→d.size<1152921504606846976→
  (∃x y z,Loop (oG CC hi first) ((root:Int),eA d)=some (.inl (x,y,z,eA (siftDown ay hi first root d))))∨
  (∃x y z,Loop (oG CC hi first) ((root:Int),eA d)=some (.inr (x,y,z,eA (siftDown ay hi first root d)))):=by
 intro n
 induction n with
 | zero=>
  intro root d hn hr hb hs
  rw[KQ,aj (by omega)]
  exact .inl ⟨(root:Int),((root*2+1:Nat):Int),true,bc (by
   simp (disch:=omega) only[oG,sq,un,AP,dD,wrap64];rw[nu (by omega)];rfl)⟩
 | succ n ih=>
  intro root d hn hr hb hs
  by_cases h1:2*root+1≥hi
  ·rw[KQ,aj h1]
   exact .inl ⟨(root:Int),((root*2+1:Nat):Int),true,bc (by
    simp (disch:=omega) only[oG,sq,un,AP,dD,wrap64];rw[nu (by omega)];rfl)⟩
  ·have go: ∀c:Nat,c<hi→root<c→(oG CC hi first ((root:Int),eA d)=
      if bO d[first+root]! d[first+c]! <0 then some (.inl ((c:Int),eA (swp d (first+root) (first+c)))) else some (.inr (.inr ((root:Int),(c:Int),true,eA d))))→
     siftDown ay hi first root d=(if bO d[first+root]! d[first+c]! <0 then siftDown ay hi first c (swp d (first+root) (first+c)) else d)→
     ((∃x y z,Loop (oG CC hi first) ((root:Int),eA d)=some (.inl (x,y,z,eA (siftDown ay hi first root d))))∨
     (∃x y z,Loop (oG CC hi first) ((root:Int),eA d)=some (.inr (x,y,z,eA (siftDown ay hi first root d))))):=by
    intro c hc hrc e1 e2
    rw[e2]
    by_cases h3:bO d[first+root]! d[first+c]! <0
    ·rw[aj h3] at e1
     rw[aj h3,bV e1]
     exact ih c _ (by omega) (by omega) (by rw[size_swp];omega) (by rw[size_swp];omega)
    ·rw[ah h3] at e1
     rw[ah h3,bc e1]
     exact .inr ⟨_,_,_,rfl⟩
   have e0:=KQ hi first root d
   rw[ah h1] at e0
   by_cases U:2*root+2<hi
   ·rw[aj U] at e0
    by_cases h3:bO d[first+(2*root+1)]! d[first+(2*root+2)]! <0
    ·rw[aj h3] at e0
     refine go (2*root+2) (by omega) (by omega) ?_ e0
     rw[nQ 2 root] at h3
     simp (disch:=omega) only[oG,sq,un,AP,dD,fJ,wrap64]
     rw[aA,ah (by omega),aA,aj (by omega)]
     simp (disch:=omega) only[uJ,aA,dq,hY,aj,ah,wrap64,dD,fJ,Int.toNat_natCast,Option.bind_some,fG,fI,XE.bh,XE.bj,XE.bm,XE.re,fH,ic,gC,gr,V.aQ,V.toInt_int,cond_true,cond_false,nQ 2 root,nu]
     by_cases h4:bO d[first+root]! d[first+(root*2+2)]! <0
     ·simp only[h4,dj];rfl
     ·simp only[h4,gb];rfl
    ·rw[ah h3] at e0
     refine go (2*root+1) (by omega) (by omega) ?_ e0
     rw[nQ 2 root] at h3
     simp (disch:=omega) only[oG,sq,un,AP,dD,fJ,wrap64]
     rw[aA,ah (by omega),aA,aj (by omega)]
     simp (disch:=omega) only[uJ,aA,dq,hY,aj,ah,wrap64,dD,fJ,Int.toNat_natCast,Option.bind_some,fG,fI,XE.bh,XE.bj,XE.bm,XE.re,fH,ic,gC,gr,V.aQ,V.toInt_int,cond_true,cond_false,nQ 2 root,sn]
     by_cases h4:bO d[first+root]! d[first+(root*2+1)]! <0
     ·simp only[h4,dj];rfl
     ·simp only[h4,gb];rfl
   ·rw[ah U] at e0
    refine go (2*root+1) (by omega) (by omega) ?_ e0
    simp (disch:=omega) only[oG,sq,un,AP,dD,fJ,wrap64]
    rw[aA,ah (by omega),aA,ah (by omega)]
    simp (disch:=omega) only[uJ,aA,dq,hY,aj,ah,wrap64,dD,fJ,Int.toNat_natCast,Option.bind_some,fG,fI,XE.bh,XE.bj,XE.bm,XE.re,fH,ic,gC,gr,V.aQ,V.toInt_int,cond_true,cond_false,nQ 2 root]
    by_cases h4:bO d[first+root]! d[first+(root*2+1)]! <0
    ·simp only[h4,dj];rfl
    ·simp only[h4,gb];rfl
theorem RW {lo hi first:Nat} {d:Array XE} (hl:lo<1152921504606846976) (hb:first+hi≤d.size) (hs:d.size<1152921504606846976):
  CC Ae [.int .i64 (lo:Int),.int .i64 (hi:Int),.int .i64 (first:Int),.list aa (eA d)]=some [.list aa (eA (siftDown ay hi first lo d))]:=by
 refine ac1 ?_
 unfold RN
 rcases ade hi first _ lo d (ch _) hl hb hs with ⟨x,y,z,h⟩|⟨x,y,z,h⟩
 ·rw[h];rfl
 ·rw[h];rfl
theorem RX {hi first:Nat}: ∀(k:Nat) (d:Array XE),k<1152921504606846976→first+hi≤d.size→d.size<1152921504606846976→
  ∃x y,Loop (Fm CC first 0 hi) ((k:Int)-1,eA d)=some (x,y,eA (heapBuild ay hi first k d))
 | 0,d,hk,hb,hs=>⟨-1,false,bc (by
   simp (disch:=omega) only[Fm,AS,un,aA,ah]
   rfl)⟩
 | k+1,d,hk,hb,hs=>by
  obtain ⟨x,y,ih⟩:=RX (hi:=hi) (first:=first) k (siftDown ay hi first k d) (by omega) (by rw[AQ _ _ _ _ _ (ch _)];omega) (by rw[AQ _ _ _ _ _ (ch _)];omega)
  refine ⟨x,y,(bV ?_).trans ih⟩
  simp (disch:=omega) only[Fm,AS,un,aA,aj,uI,RW,Option.bind_some,V.aQ,V.lz,wrap64]
theorem RY {first:Nat}: ∀(k:Nat) (d:Array XE),k<1152921504606846976→first+k≤d.size→d.size<1152921504606846976→
  ∃x y,Loop (Fo CC first 0) ((k:Int)-1,eA d)=some (x,y,eA (heapPop ay first k d))
 | 0,d,hk,hb,hs=>⟨-1,false,bc (by
   simp (disch:=omega) only[Fo,AT,un,aA,ah]
   rfl)⟩
 | k+1,d,hk,hb,hs=>by
  obtain ⟨x,y,ih⟩:=RY (first:=first) k (siftDown ay k first 0 (swp d first (first+k))) (by omega) (by rw[AQ _ _ _ _ _ (ch _),size_swp];omega) (by rw[AQ _ _ _ _ _ (ch _),size_swp];omega)
  refine ⟨x,y,(bV ?_).trans ih⟩
  have gK:=RW (lo:=0) (hi:=k) (first:=first) (d:=swp d first (first+k)) (by omega) (by rw[size_swp];omega) (by rw[size_swp];omega)
  unfold swp at gK⊢
  rw[show ((0:Nat):Int)=0 from rfl] at gK
  simp (disch:=omega) only[Fo,AT,un,uI,aA,dq,hY,aj,ah,wrap64,dD,fJ,Int.toNat_natCast,Option.bind_some,fG,fI,XE.bh,XE.bj,XE.bm,XE.re,fH,ic,gC,gr,V.aQ,V.toInt_int,cond_true,cond_false]
  rw[gK]
  simp (disch:=omega) only[Option.bind_some,V.aQ,V.lz,wrap64]
theorem adf {a b:Nat} {d:Array XE} (eZ:a<b) (hb:b≤d.size) (hs:d.size<1152921504606846976):
  CC Ac [.int .i64 (a:Int),.int .i64 (b:Int),.list aa (eA d)]=some [.list aa (eA (heapSort ay d a b))]:=by
 refine ac5 ?_
 unfold RQ
 obtain ⟨x,y,h1⟩:=RX (hi:=b-a) (first:=a) ((b-a-1)/2+1) d (by omega) (by omega) hs
 obtain ⟨x2,y2,U⟩:=RY (first:=a) (b-a) (heapBuild ay (b-a) a ((b-a-1)/2+1) d) (by omega) (by rw[KO];omega) (by rw[KO];omega)
 have e1:((((b-a-1)/2+1:Nat):Int)-1)=Int.tdiv (((b-a:Nat):Int)-1) 2:=by
  rw[Int.tdiv_eq_ediv_of_nonneg (by omega)]
  omega
 rw[e1] at h1
 simp (disch:=omega) only[mz,wrap64]
 rw[h1]
 simp only[Option.bind_some,un]
 rw[U]
 rfl
theorem adg: ∀(n i j:Nat) (d:Array XE),j-i≤n→j<d.size→d.size<1152921504606846976→
  ∃x y z,Loop (AU CC) ((i:Int),(j:Int),eA d)=some (x,y,z,eA (reverseLoop i j d)):=by
 intro n
 induction n with
 | zero=>
  intro i j d hn hj hs
  rw[reverseLoop,ah (by omega)]
  exact ⟨(i:Int),(j:Int),false,bc (by
   simp (disch:=omega) only[AU,xD,un,sn,cond_false])⟩
 | succ n ih=>
  intro i j d hn hj hs
  rw[reverseLoop]
  by_cases h:i<j
  ·rw[aj h]
   obtain ⟨x,y,z,U⟩:=ih (i+1) (j-1) (swp d i j) (by omega) (by rw[size_swp];omega) (by rw[size_swp];omega)
   refine ⟨x,y,z,(bV ?_).trans U⟩
   simp (disch:=omega) only[AU,xD,un,aA,dq,hY,aj,ah,wrap64,dD,fJ,Int.toNat_natCast,Option.bind_some,fG,fI,XE.bh,XE.bj,XE.bm,XE.re,fH,ic,gC,gr,V.aQ,V.toInt_int,cond_true,cond_false,kg]
   rfl
  ·rw[ah h]
   exact ⟨(i:Int),(j:Int),false,bc (by
    simp (disch:=omega) only[AU,xD,un,sn,cond_false])⟩
theorem adh {a b:Nat} {d:Array XE} (eZ:a<b) (hb:b≤d.size) (hs:d.size<1152921504606846976):
  CC EC [.int .i64 (a:Int),.int .i64 (b:Int),.list aa (eA d)]=some [.list aa (eA (reverseRange d a b))]:=by
 refine ac9 ?_
 unfold RT
 obtain ⟨x,y,z,h⟩:=adg _ a (b-1) d (ch _) (by omega) hs
 simp (disch:=omega) only[kg,wrap64]
 rw[h]
 rfl
end Go.AM.SX
set_option maxRecDepth 100000
namespace Go.AM
open Go.Proofs
noncomputable abbrev pA:Code:=cJ Try.prog (ax.aV 118)
noncomputable def AV (C:ag) (a j:Int) (ak:List V) (i:Int) {β:Type} (kn:Int→Option β) (kr:(Int × Bool)→Option β):Option β:=
 bif decide ((i:Int)≤j) then
  bif (decide (0≤i))&&(decide (i<(ak.length:Int))) then
  (ak[(i:Int).toNat]?).bind fun x5=>
  bif (decide (0≤a))&&(decide (a<(ak.length:Int))) then
   (ak[(a:Int).toNat]?).bind fun x6=>
   (C ba [.int .i64 ((x5.cell 0).toInt),.int .i64 ((x5.cell 1).toInt),.list aa ((x5.cell 2).toList),.int .i64 ((x6.cell 0).toInt),.int .i64 ((x6.cell 1).toInt),.list aa ((x6.cell 2).toList)]).bind fun r7=>
   bif decide ((((V.nth r7 0).toInt):Int)<0) then
   kn (IntKind.wrap .i64 (i+1))
   else
   kr (i,decide ((((V.nth r7 0).toInt):Int)<0))
  else none
  else none
 else
  kr (i,false)
noncomputable def AW (C:ag) (a j:Int) (ak:List V):(Int)→Option ((Int) ⊕ (Int × Bool)):=fun i=>AV C a j ak i (fun y=>some (.inl y)) (fun r=>some (.inr r))
noncomputable def xE (C:ag) (a i:Int) (ak:List V) (j:Int) {β:Type} (kn:Int→Option β) (kr:(Int × Bool)→Option β):Option β:=
 bif decide ((i:Int)≤j) then
  bif (decide (0≤j))&&(decide (j<(ak.length:Int))) then
  (ak[(j:Int).toNat]?).bind fun lE=>
  bif (decide (0≤a))&&(decide (a<(ak.length:Int))) then
   (ak[(a:Int).toNat]?).bind fun eC=>
   (C ba [.int .i64 ((lE.cell 0).toInt),.int .i64 ((lE.cell 1).toInt),.list aa ((lE.cell 2).toList),.int .i64 ((eC.cell 0).toInt),.int .i64 ((eC.cell 1).toInt),.list aa ((eC.cell 2).toList)]).bind fun fK=>
   bif !(decide ((((V.nth fK 0).toInt):Int)<0)) then
   kn (IntKind.wrap .i64 (j-1))
   else
   kr (j,!(decide ((((V.nth fK 0).toInt):Int)<0)))
  else none
  else none
 else
  kr (j,false)
noncomputable def xF (C:ag) (a i:Int) (ak:List V):(Int)→Option ((Int) ⊕ (Int × Bool)):=fun j=>xE C a i ak j (fun y=>some (.inl y)) (fun r=>some (.inr r))
noncomputable def AX (C:ag) (a j:Int) (ak:List V) (i:Int) {β:Type} (kn:Int→Option β) (kr:(Int × Bool)→Option β):Option β:=
 bif decide ((i:Int)≤j) then
  bif (decide (0≤i))&&(decide (i<(ak.length:Int))) then
  (ak[(i:Int).toNat]?).bind fun jD=>
  bif (decide (0≤a))&&(decide (a<(ak.length:Int))) then
   (ak[(a:Int).toNat]?).bind fun uK=>
   (C ba [.int .i64 ((jD.cell 0).toInt),.int .i64 ((jD.cell 1).toInt),.list aa ((jD.cell 2).toList),.int .i64 ((uK.cell 0).toInt),.int .i64 ((uK.cell 1).toInt),.list aa ((uK.cell 2).toList)]).bind fun RZ=>
   bif decide ((((V.nth RZ 0).toInt):Int)<0) then
   kn (IntKind.wrap .i64 (i+1))
   else
   kr (i,decide ((((V.nth RZ 0).toInt):Int)<0))
  else none
  else none
 else
  kr (i,false)
noncomputable def AY (C:ag) (a j:Int) (ak:List V):(Int)→Option ((Int) ⊕ (Int × Bool)):=fun i=>AX C a j ak i (fun y=>some (.inl y)) (fun r=>some (.inr r))
noncomputable def xG (C:ag) (a i:Int) (ak:List V) (j:Int) {β:Type} (kn:Int→Option β) (kr:(Int × Bool)→Option β):Option β:=
 bif decide ((i:Int)≤j) then
  bif (decide (0≤j))&&(decide (j<(ak.length:Int))) then
  (ak[(j:Int).toNat]?).bind fun uL=>
  bif (decide (0≤a))&&(decide (a<(ak.length:Int))) then
   (ak[(a:Int).toNat]?).bind fun uM=>
   (C ba [.int .i64 ((uL.cell 0).toInt),.int .i64 ((uL.cell 1).toInt),.list aa ((uL.cell 2).toList),.int .i64 ((uM.cell 0).toInt),.int .i64 ((uM.cell 1).toInt),.list aa ((uM.cell 2).toList)]).bind fun Fp=>
   bif !(decide ((((V.nth Fp 0).toInt):Int)<0)) then
   kn (IntKind.wrap .i64 (j-1))
   else
   kr (j,!(decide ((((V.nth Fp 0).toInt):Int)<0)))
  else none
  else none
 else
  kr (j,false)
noncomputable def xH (C:ag) (a i:Int) (ak:List V):(Int)→Option ((Int) ⊕ (Int × Bool)):=fun j=>xG C a i ak j (fun y=>some (.inl y)) (fun r=>some (.inr r))
noncomputable def AZ (C:ag) (a i j:Int) (ak:List V) {β:Type} (kn:(Int × Int × (List V))→Option β) (kr:(Int × Int × Bool × (List V))→Option β):Option β:=
 (Loop (AY C a j ak) i).bind (un fun (lG:Int) (Qm:Bool)=>
  (Loop (xH C a lG ak) j).bind (un fun (oH:Int) (ZG:Bool)=>
   bif decide ((lG:Int)>oH) then
    kr (lG,oH,decide ((lG:Int)>oH),ak)
   else
    bif (decide (0≤oH))&&(decide (oH<(ak.length:Int))) then
    (ak[(oH:Int).toNat]?).bind fun qR=>
    bif (decide (0≤lG))&&(decide (lG<(ak.length:Int))) then
     (ak[(lG:Int).toNat]?).bind fun KR=>
     bif (decide (0≤lG))&&(decide (lG<(ak.length:Int))) then
     (ak[(lG:Int).toNat]?).bind fun x35=>
     bif (decide (0≤oH))&&(decide (oH<((ak.set ((lG:Int).toNat) (.agg [.int .i64 ((qR.cell 0).toInt),.int .i64 ((qR.cell 1).toInt),.list aa ((qR.cell 2).toList)])).length:Int))) then
      ((ak.set ((lG:Int).toNat) (.agg [.int .i64 ((qR.cell 0).toInt),.int .i64 ((qR.cell 1).toInt),.list aa ((qR.cell 2).toList)]))[(oH:Int).toNat]?).bind fun x36=>
      kn (IntKind.wrap .i64 (lG+1),IntKind.wrap .i64 (oH-1),(ak.set ((lG:Int).toNat) (.agg [.int .i64 ((qR.cell 0).toInt),.int .i64 ((qR.cell 1).toInt),.list aa ((qR.cell 2).toList)])).set ((oH:Int).toNat) (.agg [.int .i64 ((KR.cell 0).toInt),.int .i64 ((KR.cell 1).toInt),.list aa ((KR.cell 2).toList)]))
     else none
     else none
    else none
    else none))
noncomputable def xI (C:ag) (a:Int):(Int × Int × (List V))→Option ((Int × Int × (List V)) ⊕ (Int × Int × Bool × (List V))):=un fun i=>un fun j ak=>AZ C a i j ak (fun y=>some (.inl y)) (fun r=>some (.inr r))
noncomputable def R0 (C:ag):cz:=fun β n ds k=>
 bif Nat.beq n 49 then cf J0 [false,true,false,false] [[1,0,3,0,4]] (@AV C) ds k else
 bif Nat.beq n 81 then cf J1 [false,false,true,false] [[1,2,0,0,4]] (@xE C) ds k else
 bif Nat.beq n 209 then cf J2 [false,true,false,false] [[1,0,3,0,4]] (@AX C) ds k else
 bif Nat.beq n 241 then cf J3 [false,false,true,false] [[1,2,0,0,4]] (@xG C) ds k else
 bif Nat.beq n 210 then cf J4 [false,true,true,true] [[1,0,0,0,0]] (@AZ C) ds k else
 none
abbrev A0 (C:ag) (b:cv):Prop:=cw Try.prog ax C (R0 C) 118 (cM Try.prog (ax.aV 118)) (ax.sin 118).a8.length b
theorem adi (C:ag):A0 C (.loop (aw [1,1,1,0,0,0] pA)):=
 cm J0 [false,true,false,false] [[1,0,3,0,4]] (@AV C) (by kernel_rfl) (bf (bs:=[]) (by kernel_rfl) av) (fun ds=>by kernel_rfl) (fun i x=>by kernel_rfl) (fun i x β k=>by kernel_rfl) (fun β ds k=>by kernel_rfl)
theorem adj (C:ag):A0 C (.loop (aw [1,1,1,1,0,0,0] pA)):=
 cm J1 [false,false,true,false] [[1,2,0,0,4]] (@xE C) (by kernel_rfl) (bf (bs:=[]) (by kernel_rfl) av) (fun ds=>by kernel_rfl) (fun i x=>by kernel_rfl) (fun i x β k=>by kernel_rfl) (fun β ds k=>by kernel_rfl)
theorem adk (C:ag):A0 C (.loop (aw [1,1,1,1,1,1,1,1,1,0,0,0,0,0,0,0] pA)):=
 cm J2 [false,true,false,false] [[1,0,3,0,4]] (@AX C) (by kernel_rfl) (bf (bs:=[]) (by kernel_rfl) av) (fun ds=>by kernel_rfl) (fun i x=>by kernel_rfl) (fun i x β k=>by kernel_rfl) (fun β ds k=>by kernel_rfl)
theorem adl (C:ag):A0 C (.loop (aw [1,1,1,1,1,1,1,1,1,0,0,0,0,1,0,0,0] pA)):=
 cm J3 [false,false,true,false] [[1,2,0,0,4]] (@xG C) (by kernel_rfl) (bf (bs:=[]) (by kernel_rfl) av) (fun ds=>by kernel_rfl) (fun i x=>by kernel_rfl) (fun i x β k=>by kernel_rfl) (fun β ds k=>by kernel_rfl)
theorem adm (C:ag):A0 C (.loop (aw [1,1,1,1,1,1,1,1,1,0,0,0] pA)):=
 cm J4 [false,true,true,true] [[1,0,0,0,0]] (@AZ C) (by kernel_rfl) (bf (bs:=[.loop (aw [1,1,1,1,1,1,1,1,1,0,0,0,0,0,0,0] pA),.loop (aw [1,1,1,1,1,1,1,1,1,0,0,0,0,1,0,0,0] pA)]) (by kernel_rfl) (bD (adk C) (bD (adl C) av))) (fun ds=>by kernel_rfl) (fun i x=>by kernel_rfl) (fun i x β k=>by kernel_rfl) (fun β ds k=>by kernel_rfl)
noncomputable def R3 (C:ag) (a b' pivot:Int) (ak:List V):Option (List V):=
 bif (decide (0≤pivot))&&(decide (pivot<(ak.length:Int))) then
  (ak[(pivot:Int).toNat]?).bind fun x1=>
  bif (decide (0≤a))&&(decide (a<(ak.length:Int))) then
  (ak[(a:Int).toNat]?).bind fun x2=>
  bif (decide (0≤a))&&(decide (a<(ak.length:Int))) then
   (ak[(a:Int).toNat]?).bind fun x3=>
   bif (decide (0≤pivot))&&(decide (pivot<((ak.set ((a:Int).toNat) (.agg [.int .i64 ((x1.cell 0).toInt),.int .i64 ((x1.cell 1).toInt),.list aa ((x1.cell 2).toList)])).length:Int))) then
   ((ak.set ((a:Int).toNat) (.agg [.int .i64 ((x1.cell 0).toInt),.int .i64 ((x1.cell 1).toInt),.list aa ((x1.cell 2).toList)]))[(pivot:Int).toNat]?).bind fun x4=>
   (Loop (AW C a (IntKind.wrap .i64 (b'-1)) ((ak.set ((a:Int).toNat) (.agg [.int .i64 ((x1.cell 0).toInt),.int .i64 ((x1.cell 1).toInt),.list aa ((x1.cell 2).toList)])).set ((pivot:Int).toNat) (.agg [.int .i64 ((x2.cell 0).toInt),.int .i64 ((x2.cell 1).toInt),.list aa ((x2.cell 2).toList)]))) (IntKind.wrap .i64 (a+1))).bind (un fun (eS:Int) (sh:Bool)=>
    (Loop (xF C a eS ((ak.set ((a:Int).toNat) (.agg [.int .i64 ((x1.cell 0).toInt),.int .i64 ((x1.cell 1).toInt),.list aa ((x1.cell 2).toList)])).set ((pivot:Int).toNat) (.agg [.int .i64 ((x2.cell 0).toInt),.int .i64 ((x2.cell 1).toInt),.list aa ((x2.cell 2).toList)]))) (IntKind.wrap .i64 (b'-1))).bind (un fun (ed:Int) (uv:Bool)=>
     bif decide ((eS:Int)>ed) then
      bif (decide (0≤a))&&(decide (a<(((ak.set ((a:Int).toNat) (.agg [.int .i64 ((x1.cell 0).toInt),.int .i64 ((x1.cell 1).toInt),.list aa ((x1.cell 2).toList)])).set ((pivot:Int).toNat) (.agg [.int .i64 ((x2.cell 0).toInt),.int .i64 ((x2.cell 1).toInt),.list aa ((x2.cell 2).toList)])).length:Int))) then
      (((ak.set ((a:Int).toNat) (.agg [.int .i64 ((x1.cell 0).toInt),.int .i64 ((x1.cell 1).toInt),.list aa ((x1.cell 2).toList)])).set ((pivot:Int).toNat) (.agg [.int .i64 ((x2.cell 0).toInt),.int .i64 ((x2.cell 1).toInt),.list aa ((x2.cell 2).toList)]))[(a:Int).toNat]?).bind fun fL=>
      bif (decide (0≤ed))&&(decide (ed<(((ak.set ((a:Int).toNat) (.agg [.int .i64 ((x1.cell 0).toInt),.int .i64 ((x1.cell 1).toInt),.list aa ((x1.cell 2).toList)])).set ((pivot:Int).toNat) (.agg [.int .i64 ((x2.cell 0).toInt),.int .i64 ((x2.cell 1).toInt),.list aa ((x2.cell 2).toList)])).length:Int))) then
       (((ak.set ((a:Int).toNat) (.agg [.int .i64 ((x1.cell 0).toInt),.int .i64 ((x1.cell 1).toInt),.list aa ((x1.cell 2).toList)])).set ((pivot:Int).toNat) (.agg [.int .i64 ((x2.cell 0).toInt),.int .i64 ((x2.cell 1).toInt),.list aa ((x2.cell 2).toList)]))[(ed:Int).toNat]?).bind fun gv=>
       bif (decide (0≤ed))&&(decide (ed<(((ak.set ((a:Int).toNat) (.agg [.int .i64 ((x1.cell 0).toInt),.int .i64 ((x1.cell 1).toInt),.list aa ((x1.cell 2).toList)])).set ((pivot:Int).toNat) (.agg [.int .i64 ((x2.cell 0).toInt),.int .i64 ((x2.cell 1).toInt),.list aa ((x2.cell 2).toList)])).length:Int))) then
       (((ak.set ((a:Int).toNat) (.agg [.int .i64 ((x1.cell 0).toInt),.int .i64 ((x1.cell 1).toInt),.list aa ((x1.cell 2).toList)])).set ((pivot:Int).toNat) (.agg [.int .i64 ((x2.cell 0).toInt),.int .i64 ((x2.cell 1).toInt),.list aa ((x2.cell 2).toList)]))[(ed:Int).toNat]?).bind fun qO=>
       bif (decide (0≤a))&&(decide (a<((((ak.set ((a:Int).toNat) (.agg [.int .i64 ((x1.cell 0).toInt),.int .i64 ((x1.cell 1).toInt),.list aa ((x1.cell 2).toList)])).set ((pivot:Int).toNat) (.agg [.int .i64 ((x2.cell 0).toInt),.int .i64 ((x2.cell 1).toInt),.list aa ((x2.cell 2).toList)])).set ((ed:Int).toNat) (.agg [.int .i64 ((fL.cell 0).toInt),.int .i64 ((fL.cell 1).toInt),.list aa ((fL.cell 2).toList)])).length:Int))) then
        ((((ak.set ((a:Int).toNat) (.agg [.int .i64 ((x1.cell 0).toInt),.int .i64 ((x1.cell 1).toInt),.list aa ((x1.cell 2).toList)])).set ((pivot:Int).toNat) (.agg [.int .i64 ((x2.cell 0).toInt),.int .i64 ((x2.cell 1).toInt),.list aa ((x2.cell 2).toList)])).set ((ed:Int).toNat) (.agg [.int .i64 ((fL.cell 0).toInt),.int .i64 ((fL.cell 1).toInt),.list aa ((fL.cell 2).toList)]))[(a:Int).toNat]?).bind fun xl=>
        some [.int .i64 ed,.bool true,.list aa ((((ak.set ((a:Int).toNat) (.agg [.int .i64 ((x1.cell 0).toInt),.int .i64 ((x1.cell 1).toInt),.list aa ((x1.cell 2).toList)])).set ((pivot:Int).toNat) (.agg [.int .i64 ((x2.cell 0).toInt),.int .i64 ((x2.cell 1).toInt),.list aa ((x2.cell 2).toList)])).set ((ed:Int).toNat) (.agg [.int .i64 ((fL.cell 0).toInt),.int .i64 ((fL.cell 1).toInt),.list aa ((fL.cell 2).toList)])).set ((a:Int).toNat) (.agg [.int .i64 ((gv.cell 0).toInt),.int .i64 ((gv.cell 1).toInt),.list aa ((gv.cell 2).toList)]))]
       else none
       else none
      else none
      else none
     else
      bif (decide (0≤ed))&&(decide (ed<(((ak.set ((a:Int).toNat) (.agg [.int .i64 ((x1.cell 0).toInt),.int .i64 ((x1.cell 1).toInt),.list aa ((x1.cell 2).toList)])).set ((pivot:Int).toNat) (.agg [.int .i64 ((x2.cell 0).toInt),.int .i64 ((x2.cell 1).toInt),.list aa ((x2.cell 2).toList)])).length:Int))) then
      (((ak.set ((a:Int).toNat) (.agg [.int .i64 ((x1.cell 0).toInt),.int .i64 ((x1.cell 1).toInt),.list aa ((x1.cell 2).toList)])).set ((pivot:Int).toNat) (.agg [.int .i64 ((x2.cell 0).toInt),.int .i64 ((x2.cell 1).toInt),.list aa ((x2.cell 2).toList)]))[(ed:Int).toNat]?).bind fun pz=>
      bif (decide (0≤eS))&&(decide (eS<(((ak.set ((a:Int).toNat) (.agg [.int .i64 ((x1.cell 0).toInt),.int .i64 ((x1.cell 1).toInt),.list aa ((x1.cell 2).toList)])).set ((pivot:Int).toNat) (.agg [.int .i64 ((x2.cell 0).toInt),.int .i64 ((x2.cell 1).toInt),.list aa ((x2.cell 2).toList)])).length:Int))) then
       (((ak.set ((a:Int).toNat) (.agg [.int .i64 ((x1.cell 0).toInt),.int .i64 ((x1.cell 1).toInt),.list aa ((x1.cell 2).toList)])).set ((pivot:Int).toNat) (.agg [.int .i64 ((x2.cell 0).toInt),.int .i64 ((x2.cell 1).toInt),.list aa ((x2.cell 2).toList)]))[(eS:Int).toNat]?).bind fun uN=>
       bif (decide (0≤eS))&&(decide (eS<(((ak.set ((a:Int).toNat) (.agg [.int .i64 ((x1.cell 0).toInt),.int .i64 ((x1.cell 1).toInt),.list aa ((x1.cell 2).toList)])).set ((pivot:Int).toNat) (.agg [.int .i64 ((x2.cell 0).toInt),.int .i64 ((x2.cell 1).toInt),.list aa ((x2.cell 2).toList)])).length:Int))) then
       (((ak.set ((a:Int).toNat) (.agg [.int .i64 ((x1.cell 0).toInt),.int .i64 ((x1.cell 1).toInt),.list aa ((x1.cell 2).toList)])).set ((pivot:Int).toNat) (.agg [.int .i64 ((x2.cell 0).toInt),.int .i64 ((x2.cell 1).toInt),.list aa ((x2.cell 2).toList)]))[(eS:Int).toNat]?).bind fun Fq=>
       bif (decide (0≤ed))&&(decide (ed<((((ak.set ((a:Int).toNat) (.agg [.int .i64 ((x1.cell 0).toInt),.int .i64 ((x1.cell 1).toInt),.list aa ((x1.cell 2).toList)])).set ((pivot:Int).toNat) (.agg [.int .i64 ((x2.cell 0).toInt),.int .i64 ((x2.cell 1).toInt),.list aa ((x2.cell 2).toList)])).set ((eS:Int).toNat) (.agg [.int .i64 ((pz.cell 0).toInt),.int .i64 ((pz.cell 1).toInt),.list aa ((pz.cell 2).toList)])).length:Int))) then
        ((((ak.set ((a:Int).toNat) (.agg [.int .i64 ((x1.cell 0).toInt),.int .i64 ((x1.cell 1).toInt),.list aa ((x1.cell 2).toList)])).set ((pivot:Int).toNat) (.agg [.int .i64 ((x2.cell 0).toInt),.int .i64 ((x2.cell 1).toInt),.list aa ((x2.cell 2).toList)])).set ((eS:Int).toNat) (.agg [.int .i64 ((pz.cell 0).toInt),.int .i64 ((pz.cell 1).toInt),.list aa ((pz.cell 2).toList)]))[(ed:Int).toNat]?).bind fun x22=>
        (Loop (xI C a) (IntKind.wrap .i64 (eS+1),IntKind.wrap .i64 (ed-1),(((ak.set ((a:Int).toNat) (.agg [.int .i64 ((x1.cell 0).toInt),.int .i64 ((x1.cell 1).toInt),.list aa ((x1.cell 2).toList)])).set ((pivot:Int).toNat) (.agg [.int .i64 ((x2.cell 0).toInt),.int .i64 ((x2.cell 1).toInt),.list aa ((x2.cell 2).toList)])).set ((eS:Int).toNat) (.agg [.int .i64 ((pz.cell 0).toInt),.int .i64 ((pz.cell 1).toInt),.list aa ((pz.cell 2).toList)])).set ((ed:Int).toNat) (.agg [.int .i64 ((uN.cell 0).toInt),.int .i64 ((uN.cell 1).toInt),.list aa ((uN.cell 2).toList)]))).bind (un fun (aag:Int)=>un fun (pB:Int)=>un fun (Qs:Bool) (jG:List V)=>
         bif (decide (0≤a))&&(decide (a<(jG.length:Int))) then
         (jG[(a:Int).toNat]?).bind fun mB=>
         bif (decide (0≤pB))&&(decide (pB<(jG.length:Int))) then
          (jG[(pB:Int).toNat]?).bind fun uO=>
          bif (decide (0≤pB))&&(decide (pB<(jG.length:Int))) then
          (jG[(pB:Int).toNat]?).bind fun x43=>
          bif (decide (0≤a))&&(decide (a<((jG.set ((pB:Int).toNat) (.agg [.int .i64 ((mB.cell 0).toInt),.int .i64 ((mB.cell 1).toInt),.list aa ((mB.cell 2).toList)])).length:Int))) then
           ((jG.set ((pB:Int).toNat) (.agg [.int .i64 ((mB.cell 0).toInt),.int .i64 ((mB.cell 1).toInt),.list aa ((mB.cell 2).toList)]))[(a:Int).toNat]?).bind fun x44=>
           some [.int .i64 pB,.bool false,.list aa ((jG.set ((pB:Int).toNat) (.agg [.int .i64 ((mB.cell 0).toInt),.int .i64 ((mB.cell 1).toInt),.list aa ((mB.cell 2).toList)])).set ((a:Int).toNat) (.agg [.int .i64 ((uO.cell 0).toInt),.int .i64 ((uO.cell 1).toInt),.list aa ((uO.cell 2).toList)]))]
          else none
          else none
         else none
         else none)
       else none
       else none
      else none
      else none))
   else none
  else none
  else none
 else none
theorem adn {a b' pivot:Int} {ak:List V} {r:Option (List V)} (h:R3 CC a b' pivot ak=r):CC nn [.int .i64 a,.int .i64 b',.int .i64 pivot,.list aa ak]=r:=
 aY (key:=118) (L:=R0 CC) (bs:=[.loop (aw [1,1,1,0,0,0] pA),.loop (aw [1,1,1,1,0,0,0] pA),.loop (aw [1,1,1,1,1,1,1,1,1,0,0,0] pA)]) (by kernel_rfl) (bD (adi CC) (bD (adj CC) (bD (adm CC) av))) (aW (by kernel_rfl) h)
noncomputable abbrev xJ:Code:=cJ Try.prog (ax.aV 117)
noncomputable def A1 (C:ag) (a j:Int) (ak:List V) (i:Int) {β:Type} (kn:Int→Option β) (kr:(Int × Bool)→Option β):Option β:=
 bif decide ((i:Int)≤j) then
  bif (decide (0≤a))&&(decide (a<(ak.length:Int))) then
  (ak[(a:Int).toNat]?).bind fun x5=>
  bif (decide (0≤i))&&(decide (i<(ak.length:Int))) then
   (ak[(i:Int).toNat]?).bind fun x6=>
   (C ba [.int .i64 ((x5.cell 0).toInt),.int .i64 ((x5.cell 1).toInt),.list aa ((x5.cell 2).toList),.int .i64 ((x6.cell 0).toInt),.int .i64 ((x6.cell 1).toInt),.list aa ((x6.cell 2).toList)]).bind fun r7=>
   bif !(decide ((((V.nth r7 0).toInt):Int)<0)) then
   kn (IntKind.wrap .i64 (i+1))
   else
   kr (i,!(decide ((((V.nth r7 0).toInt):Int)<0)))
  else none
  else none
 else
  kr (i,false)
noncomputable def A3 (C:ag) (a j:Int) (ak:List V):(Int)→Option ((Int) ⊕ (Int × Bool)):=fun i=>A1 C a j ak i (fun y=>some (.inl y)) (fun r=>some (.inr r))
noncomputable def xK (C:ag) (a i:Int) (ak:List V) (j:Int) {β:Type} (kn:Int→Option β) (kr:(Int × Bool)→Option β):Option β:=
 bif decide ((i:Int)≤j) then
  bif (decide (0≤a))&&(decide (a<(ak.length:Int))) then
  (ak[(a:Int).toNat]?).bind fun lE=>
  bif (decide (0≤j))&&(decide (j<(ak.length:Int))) then
   (ak[(j:Int).toNat]?).bind fun eC=>
   (C ba [.int .i64 ((lE.cell 0).toInt),.int .i64 ((lE.cell 1).toInt),.list aa ((lE.cell 2).toList),.int .i64 ((eC.cell 0).toInt),.int .i64 ((eC.cell 1).toInt),.list aa ((eC.cell 2).toList)]).bind fun fK=>
   bif decide ((((V.nth fK 0).toInt):Int)<0) then
   kn (IntKind.wrap .i64 (j-1))
   else
   kr (j,decide ((((V.nth fK 0).toInt):Int)<0))
  else none
  else none
 else
  kr (j,false)
noncomputable def xL (C:ag) (a i:Int) (ak:List V):(Int)→Option ((Int) ⊕ (Int × Bool)):=fun j=>xK C a i ak j (fun y=>some (.inl y)) (fun r=>some (.inr r))
noncomputable def A4 (C:ag) (a i j:Int) (ak:List V) {β:Type} (kn:(Int × Int × (List V))→Option β) (kr:(Int × Int × Bool × (List V))→Option β):Option β:=
 (Loop (A3 C a j ak) i).bind (un fun (eS:Int) (sh:Bool)=>
  (Loop (xL C a eS ak) j).bind (un fun (ed:Int) (uv:Bool)=>
   bif decide ((eS:Int)>ed) then
    kr (eS,ed,decide ((eS:Int)>ed),ak)
   else
    bif (decide (0≤ed))&&(decide (ed<(ak.length:Int))) then
    (ak[(ed:Int).toNat]?).bind fun fL=>
    bif (decide (0≤eS))&&(decide (eS<(ak.length:Int))) then
     (ak[(eS:Int).toNat]?).bind fun gv=>
     bif (decide (0≤eS))&&(decide (eS<(ak.length:Int))) then
     (ak[(eS:Int).toNat]?).bind fun qO=>
     bif (decide (0≤ed))&&(decide (ed<((ak.set ((eS:Int).toNat) (.agg [.int .i64 ((fL.cell 0).toInt),.int .i64 ((fL.cell 1).toInt),.list aa ((fL.cell 2).toList)])).length:Int))) then
      ((ak.set ((eS:Int).toNat) (.agg [.int .i64 ((fL.cell 0).toInt),.int .i64 ((fL.cell 1).toInt),.list aa ((fL.cell 2).toList)]))[(ed:Int).toNat]?).bind fun xl=>
      kn (IntKind.wrap .i64 (eS+1),IntKind.wrap .i64 (ed-1),(ak.set ((eS:Int).toNat) (.agg [.int .i64 ((fL.cell 0).toInt),.int .i64 ((fL.cell 1).toInt),.list aa ((fL.cell 2).toList)])).set ((ed:Int).toNat) (.agg [.int .i64 ((gv.cell 0).toInt),.int .i64 ((gv.cell 1).toInt),.list aa ((gv.cell 2).toList)]))
     else none
     else none
    else none
    else none))
noncomputable def xM (C:ag) (a:Int):(Int × Int × (List V))→Option ((Int × Int × (List V)) ⊕ (Int × Int × Bool × (List V))):=un fun i=>un fun j ak=>A4 C a i j ak (fun y=>some (.inl y)) (fun r=>some (.inr r))
noncomputable def R4 (C:ag):cz:=fun β n ds k=>
 bif Nat.beq n 49 then cf JX [false,true,false,false] [[1,0,3,0,4]] (@A1 C) ds k else
 bif Nat.beq n 81 then cf JY [false,false,true,false] [[1,2,0,0,4]] (@xK C) ds k else
 bif Nat.beq n 50 then cf JZ [false,true,true,true] [[1,0,0,0,0]] (@A4 C) ds k else
 none
abbrev KS (C:ag) (b:cv):Prop:=cw Try.prog ax C (R4 C) 117 (cM Try.prog (ax.aV 117)) (ax.sin 117).a8.length b
theorem ado (C:ag):KS C (.loop (aw [1,1,1,0,0,0,0,0,0,0] xJ)):=
 cm JX [false,true,false,false] [[1,0,3,0,4]] (@A1 C) (by kernel_rfl) (bf (bs:=[]) (by kernel_rfl) av) (fun ds=>by kernel_rfl) (fun i x=>by kernel_rfl) (fun i x β k=>by kernel_rfl) (fun β ds k=>by kernel_rfl)
theorem adp (C:ag):KS C (.loop (aw [1,1,1,0,0,0,0,1,0,0,0] xJ)):=
 cm JY [false,false,true,false] [[1,2,0,0,4]] (@xK C) (by kernel_rfl) (bf (bs:=[]) (by kernel_rfl) av) (fun ds=>by kernel_rfl) (fun i x=>by kernel_rfl) (fun i x β k=>by kernel_rfl) (fun β ds k=>by kernel_rfl)
theorem adq (C:ag):KS C (.loop (aw [1,1,1,0,0,0] xJ)):=
 cm JZ [false,true,true,true] [[1,0,0,0,0]] (@A4 C) (by kernel_rfl) (bf (bs:=[.loop (aw [1,1,1,0,0,0,0,0,0,0] xJ),.loop (aw [1,1,1,0,0,0,0,1,0,0,0] xJ)]) (by kernel_rfl) (bD (ado C) (bD (adp C) av))) (fun ds=>by kernel_rfl) (fun i x=>by kernel_rfl) (fun i x β k=>by kernel_rfl) (fun β ds k=>by kernel_rfl)
noncomputable def R5 (C:ag) (a b' pivot:Int) (ak:List V):Option (List V):=
 bif (decide (0≤pivot))&&(decide (pivot<(ak.length:Int))) then
  (ak[(pivot:Int).toNat]?).bind fun x1=>
  bif (decide (0≤a))&&(decide (a<(ak.length:Int))) then
  (ak[(a:Int).toNat]?).bind fun x2=>
  bif (decide (0≤a))&&(decide (a<(ak.length:Int))) then
   (ak[(a:Int).toNat]?).bind fun x3=>
   bif (decide (0≤pivot))&&(decide (pivot<((ak.set ((a:Int).toNat) (.agg [.int .i64 ((x1.cell 0).toInt),.int .i64 ((x1.cell 1).toInt),.list aa ((x1.cell 2).toList)])).length:Int))) then
   ((ak.set ((a:Int).toNat) (.agg [.int .i64 ((x1.cell 0).toInt),.int .i64 ((x1.cell 1).toInt),.list aa ((x1.cell 2).toList)]))[(pivot:Int).toNat]?).bind fun x4=>
   (Loop (xM C a) (IntKind.wrap .i64 (a+1),IntKind.wrap .i64 (b'-1),(ak.set ((a:Int).toNat) (.agg [.int .i64 ((x1.cell 0).toInt),.int .i64 ((x1.cell 1).toInt),.list aa ((x1.cell 2).toList)])).set ((pivot:Int).toNat) (.agg [.int .i64 ((x2.cell 0).toInt),.int .i64 ((x2.cell 1).toInt),.list aa ((x2.cell 2).toList)]))).bind (un fun (adr:Int)=>un fun (aiO:Int)=>un fun (Kj:Bool) (ads:List V)=>
    some [.int .i64 adr,.list aa ads])
   else none
  else none
  else none
 else none
theorem adt {a b' pivot:Int} {ak:List V} {r:Option (List V)} (h:R5 CC a b' pivot ak=r):CC ug [.int .i64 a,.int .i64 b',.int .i64 pivot,.list aa ak]=r:=
 aY (key:=117) (L:=R4 CC) (bs:=[.loop (aw [1,1,1,0,0,0] xJ)]) (by kernel_rfl) (bD (adq CC) av) (aW (by kernel_rfl) h)
noncomputable abbrev nA:Code:=cJ Try.prog (ax.aV 116)
noncomputable def A5 (C:ag) (a b' j:Int) (ak:List V) (i:Int) {β:Type} (kn:Int→Option β) (kr:(Int × Bool)→Option β):Option β:=
 bif decide ((i:Int)<b') then
  bif (decide (0≤i))&&(decide (i<(ak.length:Int))) then
  (ak[(i:Int).toNat]?).bind fun x1=>
  bif (decide (0≤(IntKind.wrap .i64 (i-1))))&&(decide ((IntKind.wrap .i64 (i-1))<(ak.length:Int))) then
   (ak[(IntKind.wrap .i64 (i-1):Int).toNat]?).bind fun x2=>
   (C ba [.int .i64 ((x1.cell 0).toInt),.int .i64 ((x1.cell 1).toInt),.list aa ((x1.cell 2).toList),.int .i64 ((x2.cell 0).toInt),.int .i64 ((x2.cell 1).toInt),.list aa ((x2.cell 2).toList)]).bind fun r3=>
   bif !(decide ((((V.nth r3 0).toInt):Int)<0)) then
   kn (IntKind.wrap .i64 (i+1))
   else
   kr (i,!(decide ((((V.nth r3 0).toInt):Int)<0)))
  else none
  else none
 else
  kr (i,false)
noncomputable def A6 (C:ag) (a b' j:Int) (ak:List V):(Int)→Option ((Int) ⊕ (Int × Bool)):=fun i=>A5 C a b' j ak i (fun y=>some (.inl y)) (fun r=>some (.inr r))
noncomputable def A7 (C:ag) (a b' i j j':Int) (ak:List V) {β:Type} (kn:(Int × (List V))→Option β) (kr:(Int × (List V))→Option β):Option β:=
 bif decide ((j':Int)≥1) then
  bif (decide (0≤j'))&&(decide (j'<(ak.length:Int))) then
  (ak[(j':Int).toNat]?).bind fun lE=>
  bif (decide (0≤(IntKind.wrap .i64 (j'-1))))&&(decide ((IntKind.wrap .i64 (j'-1))<(ak.length:Int))) then
   (ak[(IntKind.wrap .i64 (j'-1):Int).toNat]?).bind fun eC=>
   (C ba [.int .i64 ((lE.cell 0).toInt),.int .i64 ((lE.cell 1).toInt),.list aa ((lE.cell 2).toList),.int .i64 ((eC.cell 0).toInt),.int .i64 ((eC.cell 1).toInt),.list aa ((eC.cell 2).toList)]).bind fun fK=>
   bif !(decide ((((V.nth fK 0).toInt):Int)<0)) then
   kr (j',ak)
   else
   bif (decide (0≤(IntKind.wrap .i64 (j'-1))))&&(decide ((IntKind.wrap .i64 (j'-1))<(ak.length:Int))) then
    (ak[(IntKind.wrap .i64 (j'-1):Int).toNat]?).bind fun iP=>
    bif (decide (0≤j'))&&(decide (j'<(ak.length:Int))) then
    (ak[(j':Int).toNat]?).bind fun nz=>
    bif (decide (0≤j'))&&(decide (j'<(ak.length:Int))) then
     (ak[(j':Int).toNat]?).bind fun fL=>
     bif (decide (0≤(IntKind.wrap .i64 (j'-1))))&&(decide ((IntKind.wrap .i64 (j'-1))<((ak.set ((j':Int).toNat) (.agg [.int .i64 ((iP.cell 0).toInt),.int .i64 ((iP.cell 1).toInt),.list aa ((iP.cell 2).toList)])).length:Int))) then
     ((ak.set ((j':Int).toNat) (.agg [.int .i64 ((iP.cell 0).toInt),.int .i64 ((iP.cell 1).toInt),.list aa ((iP.cell 2).toList)]))[(IntKind.wrap .i64 (j'-1):Int).toNat]?).bind fun gv=>
     kn (IntKind.wrap .i64 (j'-1),(ak.set ((j':Int).toNat) (.agg [.int .i64 ((iP.cell 0).toInt),.int .i64 ((iP.cell 1).toInt),.list aa ((iP.cell 2).toList)])).set ((IntKind.wrap .i64 (j'-1):Int).toNat) (.agg [.int .i64 ((nz.cell 0).toInt),.int .i64 ((nz.cell 1).toInt),.list aa ((nz.cell 2).toList)]))
     else none
    else none
    else none
   else none
  else none
  else none
 else
  kr (j',ak)
noncomputable def A8 (C:ag) (a b' i j:Int):(Int × (List V))→Option ((Int × (List V)) ⊕ (Int × (List V))):=un fun j' ak=>A7 C a b' i j j' ak (fun y=>some (.inl y)) (fun r=>some (.inr r))
noncomputable def Fs (C:ag) (a b' i j:Int) (t65:Bool) (ak:List V) {β:Type} (kr:(List V)→Option β):Option β:=
 bif t65 then
  (Loop (A8 C a b' i j) (IntKind.wrap .i64 (i-1),ak)).bind (un fun (aiP:Int) (adu:List V)=>
   kr adu)
 else
  kr ak
noncomputable def A9 (C:ag) (a b' i j j':Int) (ak:List V) {β:Type} (kn:(Int × (List V))→Option β) (kr:(Int × (List V))→Option β):Option β:=
 bif decide ((j':Int)<b') then
  bif (decide (0≤j'))&&(decide (j'<(ak.length:Int))) then
  (ak[(j':Int).toNat]?).bind fun uN=>
  bif (decide (0≤(IntKind.wrap .i64 (j'-1))))&&(decide ((IntKind.wrap .i64 (j'-1))<(ak.length:Int))) then
   (ak[(IntKind.wrap .i64 (j'-1):Int).toNat]?).bind fun Fq=>
   (C ba [.int .i64 ((uN.cell 0).toInt),.int .i64 ((uN.cell 1).toInt),.list aa ((uN.cell 2).toList),.int .i64 ((Fq.cell 0).toInt),.int .i64 ((Fq.cell 1).toInt),.list aa ((Fq.cell 2).toList)]).bind fun kh=>
   bif !(decide ((((V.nth kh 0).toInt):Int)<0)) then
   kr (j',ak)
   else
   bif (decide (0≤(IntKind.wrap .i64 (j'-1))))&&(decide ((IntKind.wrap .i64 (j'-1))<(ak.length:Int))) then
    (ak[(IntKind.wrap .i64 (j'-1):Int).toNat]?).bind fun jD=>
    bif (decide (0≤j'))&&(decide (j'<(ak.length:Int))) then
    (ak[(j':Int).toNat]?).bind fun uK=>
    bif (decide (0≤j'))&&(decide (j'<(ak.length:Int))) then
     (ak[(j':Int).toNat]?).bind fun x25=>
     bif (decide (0≤(IntKind.wrap .i64 (j'-1))))&&(decide ((IntKind.wrap .i64 (j'-1))<((ak.set ((j':Int).toNat) (.agg [.int .i64 ((jD.cell 0).toInt),.int .i64 ((jD.cell 1).toInt),.list aa ((jD.cell 2).toList)])).length:Int))) then
     ((ak.set ((j':Int).toNat) (.agg [.int .i64 ((jD.cell 0).toInt),.int .i64 ((jD.cell 1).toInt),.list aa ((jD.cell 2).toList)]))[(IntKind.wrap .i64 (j'-1):Int).toNat]?).bind fun x26=>
     kn (IntKind.wrap .i64 (j'+1),(ak.set ((j':Int).toNat) (.agg [.int .i64 ((jD.cell 0).toInt),.int .i64 ((jD.cell 1).toInt),.list aa ((jD.cell 2).toList)])).set ((IntKind.wrap .i64 (j'-1):Int).toNat) (.agg [.int .i64 ((uK.cell 0).toInt),.int .i64 ((uK.cell 1).toInt),.list aa ((uK.cell 2).toList)]))
     else none
    else none
    else none
   else none
  else none
  else none
 else
  kr (j',ak)
noncomputable def Ba (C:ag) (a b' i j:Int):(Int × (List V))→Option ((Int × (List V)) ⊕ (Int × (List V))):=un fun j' ak=>A9 C a b' i j j' ak (fun y=>some (.inl y)) (fun r=>some (.inr r))
noncomputable def Bb (C:ag) (a b' i j:Int) (ak:List V) {β:Type} (kn:(Int × Int × (List V))→Option β) (kr:((Bool × (List V)) ⊕ (Int × Int × Bool × (List V)))→Option β):Option β:=
 bif decide ((j:Int)<5) then
  (Loop (A6 C a b' j ak) i).bind (un fun (e9:Int) (mu:Bool)=>
   bif (e9:Int)==b' then
   kr (.inl (true,ak))
   else
   bif decide (((IntKind.wrap .i64 (b'-a)):Int)<50) then
    kr (.inl (false,ak))
   else
    bif (decide (0≤(IntKind.wrap .i64 (e9-1))))&&(decide ((IntKind.wrap .i64 (e9-1))<(ak.length:Int))) then
    (ak[(IntKind.wrap .i64 (e9-1):Int).toNat]?).bind fun x6=>
    bif (decide (0≤e9))&&(decide (e9<(ak.length:Int))) then
     (ak[(e9:Int).toNat]?).bind fun x7=>
     bif (decide (0≤e9))&&(decide (e9<(ak.length:Int))) then
     (ak[(e9:Int).toNat]?).bind fun x8=>
     bif (decide (0≤(IntKind.wrap .i64 (e9-1))))&&(decide ((IntKind.wrap .i64 (e9-1))<((ak.set ((e9:Int).toNat) (.agg [.int .i64 ((x6.cell 0).toInt),.int .i64 ((x6.cell 1).toInt),.list aa ((x6.cell 2).toList)])).length:Int))) then
      ((ak.set ((e9:Int).toNat) (.agg [.int .i64 ((x6.cell 0).toInt),.int .i64 ((x6.cell 1).toInt),.list aa ((x6.cell 2).toList)]))[(IntKind.wrap .i64 (e9-1):Int).toNat]?).bind fun x9=>
      Fs C a b' e9 j (decide (((IntKind.wrap .i64 (e9-a)):Int)≥2)) ((ak.set ((e9:Int).toNat) (.agg [.int .i64 ((x6.cell 0).toInt),.int .i64 ((x6.cell 1).toInt),.list aa ((x6.cell 2).toList)])).set ((IntKind.wrap .i64 (e9-1):Int).toNat) (.agg [.int .i64 ((x7.cell 0).toInt),.int .i64 ((x7.cell 1).toInt),.list aa ((x7.cell 2).toList)])) (fun (R6:List V)=>
       bif decide (((IntKind.wrap .i64 (b'-e9)):Int)≥2) then
       (Loop (Ba C a b' e9 j) (IntKind.wrap .i64 (e9+1),R6)).bind (un fun (aiQ:Int) (adv:List V)=>
        kn (e9,IntKind.wrap .i64 (j+1),adv))
       else
       kn (e9,IntKind.wrap .i64 (j+1),R6))
     else none
     else none
    else none
    else none)
 else
  kr (.inr (i,j,decide ((j:Int)<5),ak))
noncomputable def sw (C:ag) (a b':Int):(Int × Int × (List V))→Option ((Int × Int × (List V)) ⊕ ((Bool × (List V)) ⊕ (Int × Int × Bool × (List V)))):=un fun i=>un fun j ak=>Bb C a b' i j ak (fun y=>some (.inl y)) (fun r=>some (.inr r))
noncomputable def R7 (C:ag):cz:=fun β n ds k=>
 bif Nat.beq n 81 then cf JS [false,false,true,false,false] [[1,2,0,4,0,5]] (@A5 C) ds k else
 bif Nat.beq n 225 then cf JT [false,false,false,false,true,true] [[1,2,3,4,0,0]] (@A7 C) ds k else
 bif Nat.beq n 1055 then iK JU [[1,2,3,4,0]] (@Fs C) ds k else
 bif Nat.beq n 321 then cf JV [false,false,false,false,true,true] [[1,2,3,4,0,0]] (@A9 C) ds k else
 bif Nat.beq n 49 then cf JW [false,false,true,true,true] [[0,0],[1,2,0,0,0,0]] (@Bb C) ds k else
 none
abbrev Bc (C:ag) (b:cv):Prop:=cw Try.prog ax C (R7 C) 116 (cM Try.prog (ax.aV 116)) (ax.sin 116).a8.length b
theorem adw (C:ag):Bc C (.loop (aw [1,1,0,1,0,0,1,0,0,0,0,0] nA)):=
 cm JS [false,false,true,false,false] [[1,2,0,4,0,5]] (@A5 C) (by kernel_rfl) (bf (bs:=[]) (by kernel_rfl) av) (fun ds=>by kernel_rfl) (fun i x=>by kernel_rfl) (fun i x β k=>by kernel_rfl) (fun β ds k=>by kernel_rfl)
theorem adx (C:ag):Bc C (.loop (aw [1,1,0,1,0,0,1,0,0,1,1,1,1,0,1,0,1,0,0] nA)):=
 cm JT [false,false,false,false,true,true] [[1,2,3,4,0,0]] (@A7 C) (by kernel_rfl) (bf (bs:=[]) (by kernel_rfl) av) (fun ds=>by kernel_rfl) (fun i x=>by kernel_rfl) (fun i x β k=>by kernel_rfl) (fun β ds k=>by kernel_rfl)
theorem ady (C:ag):Bc C (.cond 65 (aw [1,1,0,1,0,0,1,0,0,1,1,1,1,0,1,0] nA) (aw [1,1,0,1,0,0,1,0,0,1,1,1,1,0,1,1] nA)):=
 jf JU [[1,2,3,4,0]] (@Fs C) (by kernel_rfl) (bf (bs:=[.loop (aw [1,1,0,1,0,0,1,0,0,1,1,1,1,0,1,0,1,0,0] nA)]) (by kernel_rfl) (bD (adx C) av)) (bf (bs:=[]) (by kernel_rfl) av) (fun ds=>by kernel_rfl) (fun i β k=>by kernel_rfl) (fun β ds k=>by kernel_rfl)
theorem adz (C:ag):Bc C (.loop (aw [1,1,0,1,0,0,1,0,0,1,1,1,1,1,1,0,1,0,0] nA)):=
 cm JV [false,false,false,false,true,true] [[1,2,3,4,0,0]] (@A9 C) (by kernel_rfl) (bf (bs:=[]) (by kernel_rfl) av) (fun ds=>by kernel_rfl) (fun i x=>by kernel_rfl) (fun i x β k=>by kernel_rfl) (fun β ds k=>by kernel_rfl)
theorem adA (C:ag):Bc C (.loop (aw [1,1,0,1,0,0] nA)):=
 cm JW [false,false,true,true,true] [[0,0],[1,2,0,0,0,0]] (@Bb C) (by kernel_rfl) (bf (bs:=[.loop (aw [1,1,0,1,0,0,1,0,0,0,0,0] nA),.cond 65 (aw [1,1,0,1,0,0,1,0,0,1,1,1,1,0,1,0] nA) (aw [1,1,0,1,0,0,1,0,0,1,1,1,1,0,1,1] nA),.loop (aw [1,1,0,1,0,0,1,0,0,1,1,1,1,1,1,0,1,0,0] nA)]) (by kernel_rfl) (bD (adw C) (bD (ady C) (bD (adz C) av)))) (fun ds=>by kernel_rfl) (fun i x=>by kernel_rfl) (fun i x β k=>by kernel_rfl) (fun β ds k=>by kernel_rfl)
noncomputable def R8 (C:ag) (a b':Int) (ak:List V):Option (List V):=
 (Loop (sw C a b') (IntKind.wrap .i64 (a+1),0,ak)).bind (bR (un fun (Qn:Bool) (adB:List V)=>
  some [.bool Qn,.list aa adB]) (un fun (aiR:Int)=>un fun (aiS:Int)=>un fun (Qp:Bool) (adC:List V)=>
  some [.bool false,.list aa adC]))
theorem adD {a b':Int} {ak:List V} {r:Option (List V)} (h:R8 CC a b' ak=r):CC ED [.int .i64 a,.int .i64 b',.list aa ak]=r:=
 aY (key:=116) (L:=R7 CC) (bs:=[.loop (aw [1,1,0,1,0,0] nA)]) (by kernel_rfl) (bD (adA CC) av) (aW (by kernel_rfl) h)
end Go.AM
set_option maxRecDepth 100000
set_option maxHeartbeats 4000000
namespace Go.AM.SX
open Go.Proofs Go.Sort
theorem xN (p:XE→Bool) (d:Array XE) (j i:Nat):scanUp p d j i=if i≤j then (if p d[i]! =true then scanUp p d j (i+1) else i) else i:=by
 conv=>lhs;rw[scanUp]
 by_cases h:i≤j
 ·rw[aj h];simp only[h,rn,mL]
 ·rw[ah h,ah (by simp[h])]
theorem KT (p:XE→Bool) (d:Array XE) (i j:Nat):scanDown p d i (j+1)=if i≤j+1 then (if p d[j+1]! =true then scanDown p d i j else j+1) else j+1:=by
 conv=>lhs;rw[scanDown]
 by_cases h:i≤j+1
 ·rw[aj h];simp only[h,rn,mL]
 ·rw[ah h,ah (by simp[h])]
theorem Ft (d:Array XE) (b i:Nat):scanSorted ay d b i=if i<b then (if bO d[i]! d[i-1]! <0 then i else scanSorted ay d b (i+1)) else i:=by
 conv=>lhs;rw[scanSorted]
 by_cases h:i<b
 ·rw[aj h];simp only[h,rn,mL,qQ]
  by_cases U:bO d[i]! d[i-1]! <0
  ·rw[ah (pQ U),aj U]
  ·rw[aj U,ah U]
 ·rw[ah h,ah (by simp[h])]
theorem R9 (j:Nat) (d:Array XE):shiftDown ay (j+1) d=if bO d[j+1]! d[j]! <0 then shiftDown ay j (swp d (j+1) j) else d:=by
 conv=>lhs;rw[shiftDown]
 simp only[qQ]
 by_cases U:bO d[j+1]! d[j]! <0
 ·rw[ah (pQ U),aj U]
 ·rw[aj U,ah U]
theorem Fu (b j:Nat) (d:Array XE):shiftUp ay b j d=if j<b then (if bO d[j]! d[j-1]! <0 then shiftUp ay b (j+1) (swp d j (j-1)) else d) else d:=by
 conv=>lhs;rw[shiftUp]
 simp only[qQ]
 by_cases h:j<b
 ·rw[aj h,aj h]
  by_cases U:bO d[j]! d[j-1]! <0
  ·rw[ah (pQ U),aj U]
  ·rw[aj U,ah U]
 ·rw[ah h,ah h]
theorem adE {a:Nat}: ∀(n i j:Nat) (d:Array XE),j+1-i≤n→(partLoop ay a i j d).2.size=d.size∧(partLoop ay a i j d).1≤j:=by
 intro n
 induction n with
 | zero=>
  intro i j d hn
  have h1:=scanUp_ge (fun x=>ay x d[a]!) d j i
  have U:=scanDown_le (fun x=> !ay x d[a]!) d (scanUp (fun x=>ay x d[a]!) d j i) j
  rw[partLoop_eq,aj (by omega)]
  exact ⟨rfl,U⟩
 | succ n ih=>
  intro i j d hn
  rw[partLoop_eq]
  have h1:=scanUp_ge (fun x=>ay x d[a]!) d j i
  have U:=scanDown_le (fun x=> !ay x d[a]!) d (scanUp (fun x=>ay x d[a]!) d j i) j
  split
  ·exact ⟨rfl,U⟩
  ·obtain ⟨h3,h4⟩:=ih (scanUp (fun x=>ay x d[a]!) d j i+1) (scanDown (fun x=> !ay x d[a]!) d (scanUp (fun x=>ay x d[a]!) d j i) j-1) (swp d (scanUp (fun x=>ay x d[a]!) d j i) (scanDown (fun x=> !ay x d[a]!) d (scanUp (fun x=>ay x d[a]!) d j i) j)) (by omega)
   exact ⟨by rw[h3,size_swp],by omega⟩
theorem ki {β:Type} {d:Array XE} {i:Nat} {x y:Option β} (h:i<d.size):(bif (decide (0≤(i:Int)))&&(decide ((i:Int)<((eA d).length:Int))) then x else y)=x:=by
 rw[fG,dq,aA,aj (by omega),aA,aj (by omega)]
theorem Fv {β:Type} {d:Array XE} {i k:Nat} {v:V} {x y:Option β} (h:i<d.size):(bif (decide (0≤(i:Int)))&&(decide ((i:Int)<(((eA d).set k v).length:Int))) then x else y)=x:=by
 rw[nP,fG,dq,aA,aj (by omega),aA,aj (by omega)]
theorem kj {β:Type} {d:Array XE} {i:Nat} {f:V→Option β} (h:i<d.size):((eA d)[(i:Int).toNat]?).bind f=f (d[i]!).enc:=by
 rw[Int.toNat_natCast,fI h];rfl
theorem Fw {β:Type} {d:Array XE} {i k:Nat} {v:V} {x:Option β} (h:i<d.size):(((eA d).set k v)[(i:Int).toNat]?).bind (fun _=>x)=x:=by
 rw[Int.toNat_natCast,bz (by rw[nP,fG];exact h)];rfl
theorem qS {β:Type} {d:Array XE} {i:Nat} {f:V→Option β} (h:i<d.size):((eA d)[i]?).bind f=f (d[i]!).enc:=by
 rw[fI h];rfl
theorem KU {β:Type} {d:Array XE} {i k:Nat} {v:V} {x:Option β} (h:i<d.size):(((eA d).set k v)[i]?).bind (fun _=>x)=x:=by
 rw[bz (by rw[nP,fG];exact h)];rfl
theorem adF {a j:Nat} {d:Array XE} (ha:a<d.size) (hj:j<d.size) (hs:d.size<1152921504606846976): ∀(n i:Nat),j+1-i=n→i≤d.size→
  ∃t,Loop (AW CC a j (eA d)) (i:Int)=some (((scanUp (fun x=>ay x d[a]!) d j i:Nat):Int),t):=by
 intro n
 induction n with
 | zero=>
  intro i hn hi
  rw[xN,ah (by omega)]
  exact ⟨false,bc (by simp (disch:=omega) only[AW,AV,aA,ah])⟩
 | succ n ih=>
  intro i hn hi
  obtain ⟨t,h⟩:=ih (i+1) (by omega) (by omega)
  rw[xN,aj (by omega)]
  have e:AW CC a j (eA d) (i:Int)=if bO d[i]! d[a]! <0 then some (.inl ((i+1:Nat):Int)) else some (.inr ((i:Int),decide (bO d[i]! d[a]! <0))):=by
   simp (disch:=omega) only[AW,AV,aA,dq,hY,aj,ah,wrap64,dD,fJ,Int.toNat_natCast,Option.bind_some,fG,fI,XE.bh,XE.bj,XE.bm,XE.re,fH,ic,gC,gr,V.aQ,V.toInt_int,cond_true,cond_false]
  simp only[sr]
  by_cases U:bO d[i]! d[a]! <0
  ·rw[aj U] at e
   rw[aj U]
   exact ⟨t,(bV e).trans h⟩
  ·rw[ah U] at e
   rw[ah U]
   exact ⟨_,bc e⟩
theorem Sa {a j:Nat} {d:Array XE} (ha:a<d.size) (hj:j<d.size) (hs:d.size<1152921504606846976): ∀(n i:Nat),j+1-i=n→i≤d.size→
  ∃t,Loop (AY CC a j (eA d)) (i:Int)=some (((scanUp (fun x=>ay x d[a]!) d j i:Nat):Int),t):=by
 intro n
 induction n with
 | zero=>
  intro i hn hi
  rw[xN,ah (by omega)]
  exact ⟨false,bc (by simp (disch:=omega) only[AY,AX,aA,ah])⟩
 | succ n ih=>
  intro i hn hi
  obtain ⟨t,h⟩:=ih (i+1) (by omega) (by omega)
  rw[xN,aj (by omega)]
  have e:AY CC a j (eA d) (i:Int)=if bO d[i]! d[a]! <0 then some (.inl ((i+1:Nat):Int)) else some (.inr ((i:Int),decide (bO d[i]! d[a]! <0))):=by
   simp (disch:=omega) only[AY,AX,aA,dq,hY,aj,ah,wrap64,dD,fJ,Int.toNat_natCast,Option.bind_some,fG,fI,XE.bh,XE.bj,XE.bm,XE.re,fH,ic,gC,gr,V.aQ,V.toInt_int,cond_true,cond_false]
  simp only[sr]
  by_cases U:bO d[i]! d[a]! <0
  ·rw[aj U] at e
   rw[aj U]
   exact ⟨t,(bV e).trans h⟩
  ·rw[ah U] at e
   rw[ah U]
   exact ⟨_,bc e⟩
theorem Sb {a i:Nat} {d:Array XE} (ha:a<d.size) (hi:1≤i) (hs:d.size<1152921504606846976): ∀(j:Nat),j<d.size→
  ∃t,Loop (xF CC a i (eA d)) (j:Int)=some (((scanDown (fun x=> !ay x d[a]!) d i j:Nat):Int),t)
 | 0,hj=>⟨false,bc (by simp (disch:=omega) only[xF,xE,aA,ah];rfl)⟩
 | j+1,hj=>by
  obtain ⟨t,h⟩:=Sb ha hi hs j (by omega)
  rw[KT]
  by_cases h1:i≤j+1
  ·rw[aj h1]
   have e:xF CC a i (eA d) ((j+1:Nat):Int)=if bO d[j+1]! d[a]! <0 then some (.inr (((j+1:Nat):Int),!decide (bO d[j+1]! d[a]! <0))) else some (.inl (j:Int)):=by
    simp (disch:=omega) only[xF,xE,aA,dq,hY,aj,ah,wrap64,dD,fJ,Int.toNat_natCast,Option.bind_some,fG,fI,XE.bh,XE.bj,XE.bm,XE.re,fH,ic,gC,gr,V.aQ,V.toInt_int,cond_true,cond_false,uI]
   simp only[qQ]
   by_cases U:bO d[j+1]! d[a]! <0
   ·rw[aj U] at e
    rw[ah (pQ U)]
    exact ⟨_,bc e⟩
   ·rw[ah U] at e
    rw[aj U]
    exact ⟨t,(bV e).trans h⟩
  ·rw[ah h1]
   exact ⟨false,bc (by simp (disch:=omega) only[xF,xE,aA,ah])⟩
theorem KV {a i:Nat} {d:Array XE} (ha:a<d.size) (hi:1≤i) (hs:d.size<1152921504606846976): ∀(j:Nat),j<d.size→
  ∃t,Loop (xH CC a i (eA d)) (j:Int)=some (((scanDown (fun x=> !ay x d[a]!) d i j:Nat):Int),t)
 | 0,hj=>⟨false,bc (by simp (disch:=omega) only[xH,xG,aA,ah];rfl)⟩
 | j+1,hj=>by
  obtain ⟨t,h⟩:=KV ha hi hs j (by omega)
  rw[KT]
  by_cases h1:i≤j+1
  ·rw[aj h1]
   have e:xH CC a i (eA d) ((j+1:Nat):Int)=if bO d[j+1]! d[a]! <0 then some (.inr (((j+1:Nat):Int),!decide (bO d[j+1]! d[a]! <0))) else some (.inl (j:Int)):=by
    simp (disch:=omega) only[xH,xG,aA,dq,hY,aj,ah,wrap64,dD,fJ,Int.toNat_natCast,Option.bind_some,fG,fI,XE.bh,XE.bj,XE.bm,XE.re,fH,ic,gC,gr,V.aQ,V.toInt_int,cond_true,cond_false,uI]
   simp only[qQ]
   by_cases U:bO d[j+1]! d[a]! <0
   ·rw[aj U] at e
    rw[ah (pQ U)]
    exact ⟨_,bc e⟩
   ·rw[ah U] at e
    rw[aj U]
    exact ⟨t,(bV e).trans h⟩
  ·rw[ah h1]
   exact ⟨false,bc (by simp (disch:=omega) only[xH,xG,aA,ah])⟩
theorem Sd {a j:Nat} {d:Array XE} (ha:a<d.size) (hj:j<d.size) (hs:d.size<1152921504606846976): ∀(n i:Nat),j+1-i=n→i≤d.size→
  ∃t,Loop (A3 CC a j (eA d)) (i:Int)=some (((scanUp (fun x=> !ay d[a]! x) d j i:Nat):Int),t):=by
 intro n
 induction n with
 | zero=>
  intro i hn hi
  rw[xN,ah (by omega)]
  exact ⟨false,bc (by simp (disch:=omega) only[A3,A1,aA,ah])⟩
 | succ n ih=>
  intro i hn hi
  obtain ⟨t,h⟩:=ih (i+1) (by omega) (by omega)
  rw[xN,aj (by omega)]
  have e:A3 CC a j (eA d) (i:Int)=if bO d[a]! d[i]! <0 then some (.inr ((i:Int),!decide (bO d[a]! d[i]! <0))) else some (.inl ((i+1:Nat):Int)):=by
   simp (disch:=omega) only[A3,A1,aA,dq,hY,aj,ah,wrap64,dD,fJ,Int.toNat_natCast,Option.bind_some,fG,fI,XE.bh,XE.bj,XE.bm,XE.re,fH,ic,gC,gr,V.aQ,V.toInt_int,cond_true,cond_false]
  simp only[qQ]
  by_cases U:bO d[a]! d[i]! <0
  ·rw[aj U] at e
   rw[ah (pQ U)]
   exact ⟨_,bc e⟩
  ·rw[ah U] at e
   rw[aj U]
   exact ⟨t,(bV e).trans h⟩
theorem KW {a i:Nat} {d:Array XE} (ha:a<d.size) (hi:1≤i) (hs:d.size<1152921504606846976): ∀(j:Nat),j<d.size→
  ∃t,Loop (xL CC a i (eA d)) (j:Int)=some (((scanDown (fun x=>ay d[a]! x) d i j:Nat):Int),t)
 | 0,hj=>⟨false,bc (by simp (disch:=omega) only[xL,xK,aA,ah];rfl)⟩
 | j+1,hj=>by
  obtain ⟨t,h⟩:=KW ha hi hs j (by omega)
  rw[KT]
  by_cases h1:i≤j+1
  ·rw[aj h1]
   have e:xL CC a i (eA d) ((j+1:Nat):Int)=if bO d[a]! d[j+1]! <0 then some (.inl (j:Int)) else some (.inr (((j+1:Nat):Int),decide (bO d[a]! d[j+1]! <0))):=by
    simp (disch:=omega) only[xL,xK,aA,dq,hY,aj,ah,wrap64,dD,fJ,Int.toNat_natCast,Option.bind_some,fG,fI,XE.bh,XE.bj,XE.bm,XE.re,fH,ic,gC,gr,V.aQ,V.toInt_int,cond_true,cond_false,uI]
   simp only[sr]
   by_cases U:bO d[a]! d[j+1]! <0
   ·rw[aj U] at e
    rw[aj U]
    exact ⟨t,(bV e).trans h⟩
   ·rw[ah U] at e
    rw[ah U]
    exact ⟨_,bc e⟩
  ·rw[ah h1]
   exact ⟨false,bc (by simp (disch:=omega) only[xL,xK,aA,ah])⟩
theorem adG {a:Nat}: ∀(n i j:Nat) (d:Array XE),j+1-i≤n→1≤i→i≤d.size→a<d.size→j<d.size→d.size<1152921504606846976→
  ∃x z,Loop (xI CC a) ((i:Int),(j:Int),eA d)=some (x,(((partLoop ay a i j d).1:Nat):Int),z,eA (partLoop ay a i j d).2):=by
 intro n
 induction n with
 | zero=>
  intro i j d hn h1 U ha hj hs
  obtain ⟨t3,e3⟩:=Sa (a:=a) ha hj hs _ i rfl U
  have g1:=scanUp_ge (fun x=>ay x d[a]!) d j i
  have g2:=scanDown_le (fun x=> !ay x d[a]!) d (scanUp (fun x=>ay x d[a]!) d j i) j
  obtain ⟨t4,e4⟩:=KV (a:=a) (i:=scanUp (fun x=>ay x d[a]!) d j i) ha (by omega) hs j hj
  rw[partLoop_eq,aj (by omega)]
  refine ⟨((scanUp (fun x=>ay x d[a]!) d j i:Nat):Int),true,bc ?_⟩
  simp only[xI,AZ,un]
  rw[e3]
  simp only[Option.bind_some,un]
  rw[e4]
  simp (disch:=omega) only[Option.bind_some,un,nu,cond_true]
 | succ n ih=>
  intro i j d hn h1 U ha hj hs
  obtain ⟨t3,e3⟩:=Sa (a:=a) ha hj hs _ i rfl U
  have g1:=scanUp_ge (fun x=>ay x d[a]!) d j i
  have g2:=scanDown_le (fun x=> !ay x d[a]!) d (scanUp (fun x=>ay x d[a]!) d j i) j
  obtain ⟨t4,e4⟩:=KV (a:=a) (i:=scanUp (fun x=>ay x d[a]!) d j i) ha (by omega) hs j hj
  rw[partLoop_eq]
  have f:xI CC a ((i:Int),(j:Int),eA d)=xI CC a ((i:Int),(j:Int),eA d):=rfl
  conv at f=>rhs;simp only[xI,AZ,un];rw[e3];simp only[Option.bind_some,un];rw[e4];simp only[Option.bind_some,un]
  generalize gJ:scanUp (fun x=>ay x d[a]!) d j i=i2 at*
  generalize fT:scanDown (fun x=> !ay x d[a]!) d i2 j=j2 at*
  by_cases h:i2>j2
  ·rw[aj h]
   refine ⟨(i2:Int),true,bc (f.trans ?_)⟩
   simp (disch:=omega) only[Option.bind_some,nu,cond_true]
  ·rw[ah h]
   obtain ⟨x,z,e⟩:=ih (i2+1) (j2-1) (swp d i2 j2) (by omega) (by omega) (by rw[size_swp];omega) (by rw[size_swp];omega) (by rw[size_swp];omega) (by rw[size_swp];omega)
   refine ⟨x,z,(bV (f.trans ?_)).trans e⟩
   simp (disch:=omega) only[aA,dq,hY,aj,ah,wrap64,dD,fJ,Int.toNat_natCast,Option.bind_some,fG,fI,XE.bh,XE.bj,XE.bm,XE.re,fH,ic,gC,gr,V.aQ,V.toInt_int,cond_true,cond_false,kg]
   rfl
theorem adH (d:Array XE) (a b pivot:Nat):partition ay d a b pivot=
  if scanUp (fun x=>ay x (swp d a pivot)[a]!) (swp d a pivot) (b-1) (a+1)>scanDown (fun x=> !ay x (swp d a pivot)[a]!) (swp d a pivot) (scanUp (fun x=>ay x (swp d a pivot)[a]!) (swp d a pivot) (b-1) (a+1)) (b-1) then
   (scanDown (fun x=> !ay x (swp d a pivot)[a]!) (swp d a pivot) (scanUp (fun x=>ay x (swp d a pivot)[a]!) (swp d a pivot) (b-1) (a+1)) (b-1),true,swp (swp d a pivot) (scanDown (fun x=> !ay x (swp d a pivot)[a]!) (swp d a pivot) (scanUp (fun x=>ay x (swp d a pivot)[a]!) (swp d a pivot) (b-1) (a+1)) (b-1)) a)
  else
   ((partLoop ay a (scanUp (fun x=>ay x (swp d a pivot)[a]!) (swp d a pivot) (b-1) (a+1)+1) (scanDown (fun x=> !ay x (swp d a pivot)[a]!) (swp d a pivot) (scanUp (fun x=>ay x (swp d a pivot)[a]!) (swp d a pivot) (b-1) (a+1)) (b-1)-1) (swp (swp d a pivot) (scanUp (fun x=>ay x (swp d a pivot)[a]!) (swp d a pivot) (b-1) (a+1)) (scanDown (fun x=> !ay x (swp d a pivot)[a]!) (swp d a pivot) (scanUp (fun x=>ay x (swp d a pivot)[a]!) (swp d a pivot) (b-1) (a+1)) (b-1)))).1,false,
    swp (partLoop ay a (scanUp (fun x=>ay x (swp d a pivot)[a]!) (swp d a pivot) (b-1) (a+1)+1) (scanDown (fun x=> !ay x (swp d a pivot)[a]!) (swp d a pivot) (scanUp (fun x=>ay x (swp d a pivot)[a]!) (swp d a pivot) (b-1) (a+1)) (b-1)-1) (swp (swp d a pivot) (scanUp (fun x=>ay x (swp d a pivot)[a]!) (swp d a pivot) (b-1) (a+1)) (scanDown (fun x=> !ay x (swp d a pivot)[a]!) (swp d a pivot) (scanUp (fun x=>ay x (swp d a pivot)[a]!) (swp d a pivot) (b-1) (a+1)) (b-1)))).2
    (partLoop ay a (scanUp (fun x=>ay x (swp d a pivot)[a]!) (swp d a pivot) (b-1) (a+1)+1) (scanDown (fun x=> !ay x (swp d a pivot)[a]!) (swp d a pivot) (scanUp (fun x=>ay x (swp d a pivot)[a]!) (swp d a pivot) (b-1) (a+1)) (b-1)-1) (swp (swp d a pivot) (scanUp (fun x=>ay x (swp d a pivot)[a]!) (swp d a pivot) (b-1) (a+1)) (scanDown (fun x=> !ay x (swp d a pivot)[a]!) (swp d a pivot) (scanUp (fun x=>ay x (swp d a pivot)[a]!) (swp d a pivot) (b-1) (a+1)) (b-1)))).1 a):=rfl
theorem xO (d:Array XE) (i j:Nat):eA ((d.setIfInBounds i d[j]!).setIfInBounds j d[i]!)=eA (swp d i j):=rfl
theorem adI {a b pivot:Nat} {d:Array XE} (hp:pivot<b) (eZ:a<b) (hb:b≤d.size) (hs:d.size<1152921504606846976):
  CC nn [.int .i64 (a:Int),.int .i64 (b:Int),.int .i64 (pivot:Int),.list aa (eA d)]=
   some [.int .i64 ((partition ay d a b pivot).1:Int),.bool (partition ay d a b pivot).2.1,.list aa (eA (partition ay d a b pivot).2.2)]:=by
 refine adn ?_
 unfold R3
 have z1:(swp d a pivot).size=d.size:=size_swp ..
 obtain ⟨t1,e1⟩:=adF (a:=a) (j:=b-1) (d:=swp d a pivot) (by omega) (by omega) (by omega) _ (a+1) rfl (by omega)
 have g1:=scanUp_ge (fun x=>ay x (swp d a pivot)[a]!) (swp d a pivot) (b-1) (a+1)
 have g2:=scanDown_le (fun x=> !ay x (swp d a pivot)[a]!) (swp d a pivot) (scanUp (fun x=>ay x (swp d a pivot)[a]!) (swp d a pivot) (b-1) (a+1)) (b-1)
 obtain ⟨t2,e2⟩:=Sb (a:=a) (i:=scanUp (fun x=>ay x (swp d a pivot)[a]!) (swp d a pivot) (b-1) (a+1)) (d:=swp d a pivot) (by omega) (by omega) (by omega) (b-1) (by omega)
 have e0:=adH d a b pivot
 rw[ki (i:=pivot) (by omega),kj (by omega),ki (i:=a) (by omega),kj (by omega),ki (i:=a) (by omega),kj (by omega),Fv (i:=pivot) (by omega),Fw (by omega)]
 simp only[XE.bh,XE.bj,XE.bm,XE.re,Int.toNat_natCast,fH,xO]
 simp (disch:=omega) only[kg,dD,wrap64]
 rw[e1]
 simp only[Option.bind_some,un]
 rw[e2]
 simp only[Option.bind_some,un]
 generalize gJ:scanUp (fun x=>ay x (swp d a pivot)[a]!) (swp d a pivot) (b-1) (a+1)=i2 at*
 generalize fT:scanDown (fun x=> !ay x (swp d a pivot)[a]!) (swp d a pivot) i2 (b-1)=j2 at*
 generalize swp d a pivot=d1 at*
 by_cases h:i2>j2
 ·rw[aj h] at e0
  rw[e0,aA,aj (by omega)]
  rw[ki (i:=a) (by omega)];(first|rw[kj (by omega)]|rw[qS (by omega)]);rw[ki (i:=j2) (by omega)];(first|rw[kj (by omega)]|rw[qS (by omega)]);rw[ki (i:=j2) (by omega)];(first|rw[kj (by omega)]|rw[qS (by omega)]);rw[Fv (i:=a) (by omega)];(first|rw[Fw (by omega)]|rw[KU (by omega)])
  simp only[XE.bh,XE.bj,XE.bm,XE.re,Int.toNat_natCast,fH,xO]
 ·rw[ah h] at e0
  rw[e0,aA,ah (by omega)]
  have z2:(swp d1 i2 j2).size=d1.size:=size_swp ..
  obtain ⟨x,z,e5⟩:=adG (a:=a) _ (i2+1) (j2-1) (swp d1 i2 j2) (ch _) (by omega) (by omega) (by omega) (by omega) (by omega)
  obtain ⟨q1,q2⟩:=adE (a:=a) _ (i2+1) (j2-1) (swp d1 i2 j2) (ch _)
  rw[ki (i:=j2) (by omega)];(first|rw[kj (by omega)]|rw[qS (by omega)]);rw[ki (i:=i2) (by omega)];(first|rw[kj (by omega)]|rw[qS (by omega)]);rw[ki (i:=i2) (by omega)];(first|rw[kj (by omega)]|rw[qS (by omega)]);rw[Fv (i:=j2) (by omega)];(first|rw[Fw (by omega)]|rw[KU (by omega)])
  simp only[XE.bh,XE.bj,XE.bm,XE.re,Int.toNat_natCast,fH,xO]
  simp (disch:=omega) only[kg,dD,wrap64]
  rw[e5]
  generalize partLoop ay a (i2+1) (j2-1) (swp d1 i2 j2)=r at*
  simp only[Option.bind_some,un]
  rw[ki (i:=a) (by omega)];(first|rw[kj (by omega)]|rw[qS (by omega)]);rw[ki (i:=r.1) (by omega)];(first|rw[kj (by omega)]|rw[qS (by omega)]);rw[ki (i:=r.1) (by omega)];(first|rw[kj (by omega)]|rw[qS (by omega)]);rw[Fv (i:=a) (by omega)];(first|rw[Fw (by omega)]|rw[KU (by omega)])
  simp only[XE.bh,XE.bj,XE.bm,XE.re,Int.toNat_natCast,fH,xO]
theorem adJ {a:Nat}: ∀(n i j:Nat) (d:Array XE),j+1-i≤n→1≤i→i≤d.size→a<d.size→j<d.size→d.size<1152921504606846976→
  ∃x z,Loop (xM CC a) ((i:Int),(j:Int),eA d)=some ((((partEqLoop ay a i j d).1:Nat):Int),x,z,eA (partEqLoop ay a i j d).2):=by
 intro n
 induction n with
 | zero=>
  intro i j d hn h1 U ha hj hs
  obtain ⟨t3,e3⟩:=Sd (a:=a) ha hj hs _ i rfl U
  have g1:=scanUp_ge (fun x=> !ay d[a]! x) d j i
  have g2:=scanDown_le (fun x=>ay d[a]! x) d (scanUp (fun x=> !ay d[a]! x) d j i) j
  obtain ⟨t4,e4⟩:=KW (a:=a) (i:=scanUp (fun x=> !ay d[a]! x) d j i) ha (by omega) hs j hj
  rw[partEqLoop_eq,aj (by omega)]
  refine ⟨((scanDown (fun x=>ay d[a]! x) d (scanUp (fun x=> !ay d[a]! x) d j i) j:Nat):Int),true,bc ?_⟩
  simp only[xM,A4,un]
  rw[e3]
  simp only[Option.bind_some,un]
  rw[e4]
  simp (disch:=omega) only[Option.bind_some,un,nu,cond_true]
 | succ n ih=>
  intro i j d hn h1 U ha hj hs
  obtain ⟨t3,e3⟩:=Sd (a:=a) ha hj hs _ i rfl U
  have g1:=scanUp_ge (fun x=> !ay d[a]! x) d j i
  have g2:=scanDown_le (fun x=>ay d[a]! x) d (scanUp (fun x=> !ay d[a]! x) d j i) j
  obtain ⟨t4,e4⟩:=KW (a:=a) (i:=scanUp (fun x=> !ay d[a]! x) d j i) ha (by omega) hs j hj
  rw[partEqLoop_eq]
  have f:xM CC a ((i:Int),(j:Int),eA d)=xM CC a ((i:Int),(j:Int),eA d):=rfl
  conv at f=>rhs;simp only[xM,A4,un];rw[e3];simp only[Option.bind_some,un];rw[e4];simp only[Option.bind_some,un]
  generalize gJ:scanUp (fun x=> !ay d[a]! x) d j i=i2 at*
  generalize fT:scanDown (fun x=>ay d[a]! x) d i2 j=j2 at*
  by_cases h:i2>j2
  ·rw[aj h]
   refine ⟨(j2:Int),true,bc (f.trans ?_)⟩
   simp (disch:=omega) only[Option.bind_some,nu,cond_true]
  ·rw[ah h]
   obtain ⟨x,z,e⟩:=ih (i2+1) (j2-1) (swp d i2 j2) (by omega) (by omega) (by rw[size_swp];omega) (by rw[size_swp];omega) (by rw[size_swp];omega) (by rw[size_swp];omega)
   refine ⟨x,z,(bV (f.trans ?_)).trans e⟩
   simp (disch:=omega) only[aA,dq,hY,aj,ah,wrap64,dD,fJ,Int.toNat_natCast,Option.bind_some,fG,fI,XE.bh,XE.bj,XE.bm,XE.re,fH,ic,gC,gr,V.aQ,V.toInt_int,cond_true,cond_false,kg]
   rfl
theorem adK {a b pivot:Nat} {d:Array XE} (hp:pivot<b) (eZ:a<b) (hb:b≤d.size) (hs:d.size<1152921504606846976):
  CC ug [.int .i64 (a:Int),.int .i64 (b:Int),.int .i64 (pivot:Int),.list aa (eA d)]=
   some [.int .i64 ((partitionEqual ay d a b pivot).1:Int),.list aa (eA (partitionEqual ay d a b pivot).2)]:=by
 refine adt ?_
 unfold R5
 have z1:(swp d a pivot).size=d.size:=size_swp ..
 obtain ⟨x,z,e⟩:=adJ (a:=a) _ (a+1) (b-1) (swp d a pivot) (ch _) (by omega) (by omega) (by omega) (by omega) (by omega)
 simp (disch:=omega) only[aA,dq,aj,fG,fI,Int.toNat_natCast,Option.bind_some,XE.bh,XE.bj,XE.bm,XE.re,fH,ic,gC,kg,dD,wrap64,xO]
 rw[e]
 rfl
theorem adL {a b j:Nat} {d:Array XE} (hb:b≤d.size) (hs:d.size<1152921504606846976): ∀(n i:Nat),b-i=n→1≤i→i≤b→
  ∃t,Loop (A6 CC a b j (eA d)) (i:Int)=some (((scanSorted ay d b i:Nat):Int),t):=by
 intro n
 induction n with
 | zero=>
  intro i hn h1 hi
  rw[Ft,ah (by omega)]
  exact ⟨false,bc (by simp (disch:=omega) only[A6,A5,aA,ah])⟩
 | succ n ih=>
  intro i hn h1 hi
  obtain ⟨t,h⟩:=ih (i+1) (by omega) (by omega) (by omega)
  rw[Ft,aj (by omega)]
  have e:A6 CC a b j (eA d) (i:Int)=if bO d[i]! d[i-1]! <0 then some (.inr ((i:Int),!decide (bO d[i]! d[i-1]! <0))) else some (.inl ((i+1:Nat):Int)):=by
   simp (disch:=omega) only[A6,A5,kg,aA,dq,hY,aj,ah,wrap64,dD,fJ,Int.toNat_natCast,Option.bind_some,fG,fI,XE.bh,XE.bj,XE.bm,XE.re,fH,ic,gC,gr,V.aQ,V.toInt_int,cond_true,cond_false]
  by_cases U:bO d[i]! d[i-1]! <0
  ·rw[aj U] at e⊢
   exact ⟨_,bc e⟩
  ·rw[ah U] at e⊢
   exact ⟨t,(bV e).trans h⟩
theorem Se: ∀(j:Nat) (d:Array XE),(shiftDown ay j d).size=d.size
 | 0,_=>rfl
 | j+1,d=>by
  rw[R9]
  split
  ·rw[Se j,size_swp]
  ·rfl
theorem adM {b:Nat}: ∀(n j:Nat) (d:Array XE),b-j=n→(shiftUp ay b j d).size=d.size:=by
 intro n
 induction n with
 | zero=>intro j d h;rw[Fu,ah (by omega)]
 | succ n ih=>
  intro j d h
  rw[Fu,aj (by omega)]
  split
  ·rw[ih _ _ (by omega),size_swp]
  ·rfl
theorem Sf {a b i k:Nat}: ∀(j:Nat) (d:Array XE),j<d.size→d.size<1152921504606846976→
  ∃t,Loop (A8 CC a b i k) ((j:Int),eA d)=some (t,eA (shiftDown ay j d))
 | 0,d,hj,hs=>⟨(0:Nat),bc (by
   simp (disch:=omega) only[A8,A7,un,aA,ah]
   rfl)⟩
 | j+1,d,hj,hs=>by
  obtain ⟨t,ih⟩:=Sf (a:=a) (b:=b) (i:=i) (k:=k) j (swp d (j+1) j) (by rw[size_swp];omega) (by rw[size_swp];omega)
  rw[R9]
  have e:A8 CC a b i k (((j+1:Nat):Int),eA d)=if bO d[j+1]! d[j]! <0 then some (.inl ((j:Int),eA (swp d (j+1) j))) else some (.inr (((j+1:Nat):Int),eA d)):=by
   simp (disch:=omega) only[A8,A7,un,aA,dq,hY,aj,ah,wrap64,dD,fJ,Int.toNat_natCast,Option.bind_some,fG,fI,XE.bh,XE.bj,XE.bm,XE.re,fH,ic,gC,gr,V.aQ,V.toInt_int,cond_true,cond_false,uI]
   rfl
  by_cases U:bO d[j+1]! d[j]! <0
  ·rw[aj U] at e⊢
   exact ⟨t,(bV e).trans ih⟩
  ·rw[ah U] at e⊢
   exact ⟨_,bc e⟩
theorem adN {a b i k:Nat}: ∀(n j:Nat) (d:Array XE),b-j=n→1≤j→j≤b→b≤d.size→d.size<1152921504606846976→
  ∃t,Loop (Ba CC a b i k) ((j:Int),eA d)=some (t,eA (shiftUp ay b j d)):=by
 intro n
 induction n with
 | zero=>
  intro j d hn h1 hj hb hs
  rw[Fu,ah (by omega)]
  exact ⟨(j:Int),bc (by
   simp (disch:=omega) only[Ba,A9,un,aA,ah])⟩
 | succ n ih=>
  intro j d hn h1 hj hb hs
  obtain ⟨t,h⟩:=ih (j+1) (swp d j (j-1)) (by omega) (by omega) (by omega) (by rw[size_swp];omega) (by rw[size_swp];omega)
  rw[Fu,aj (by omega)]
  have e:Ba CC a b i k ((j:Int),eA d)=if bO d[j]! d[j-1]! <0 then some (.inl (((j+1:Nat):Int),eA (swp d j (j-1)))) else some (.inr ((j:Int),eA d)):=by
   simp (disch:=omega) only[Ba,A9,un,kg,aA,dq,hY,aj,ah,wrap64,dD,fJ,Int.toNat_natCast,Option.bind_some,fG,fI,XE.bh,XE.bj,XE.bm,XE.re,fH,ic,gC,gr,V.aQ,V.toInt_int,cond_true,cond_false]
   rfl
  by_cases U:bO d[j]! d[j-1]! <0
  ·rw[aj U] at e⊢
   exact ⟨t,(bV e).trans h⟩
  ·rw[ah U] at e⊢
   exact ⟨_,bc e⟩
theorem adO {d:Array XE} {b:Nat}: ∀(n i:Nat),b-i=n→i≤b→i≤scanSorted ay d b i∧scanSorted ay d b i≤b:=by
 intro n
 induction n with
 | zero=>intro i hn hi;rw[Ft,ah (by omega)];omega
 | succ n ih=>
  intro i hn hi
  rw[Ft,aj (by omega)]
  obtain ⟨h1,U⟩:=ih (i+1) (by omega) (by omega)
  split<;>omega
theorem adP {a b:Nat}: ∀(s i:Nat) (d:Array XE),s≤5→a<i→i≤b→b≤d.size→d.size<1152921504606846976→
  (Loop (sw CC a b) ((i:Int),((5-s:Nat):Int),eA d)=some (.inl ((partialIns ay a b s i d).2,eA (partialIns ay a b s i d).1)))∨
  (∃x y z,(partialIns ay a b s i d).2=false∧Loop (sw CC a b) ((i:Int),((5-s:Nat):Int),eA d)=some (.inr (x,y,z,eA (partialIns ay a b s i d).1))):=by
 intro s
 induction s with
 | zero=>
  intro i d hs5 hi KX hb hs
  refine .inr ⟨(i:Int),((5:Nat):Int),false,rfl,bc ?_⟩
  simp (disch:=omega) only[sw,Bb,un,sn,cond_false]
  rfl
 | succ s ih=>
  intro i d hs5 hi KX hb hs
  obtain ⟨t1,e1⟩:=adL (a:=a) (j:=5-(s+1)) hb hs _ i rfl (by omega) KX
  obtain ⟨q1,q2⟩:=adO (d:=d) _ i rfl KX
  rw[partialIns_succ]
  have f:sw CC a b ((i:Int),((5-(s+1):Nat):Int),eA d)=sw CC a b ((i:Int),((5-(s+1):Nat):Int),eA d):=rfl
  conv at f=>rhs;simp only[sw,Bb,un];rw[aA,aj (by omega),e1];simp only[Option.bind_some,un]
  generalize scanSorted ay d b i=k at*
  by_cases h1:k=b
  ·rw[aj h1]
   left
   refine bc (f.trans ?_)
   rw[eL,aj (by omega)]
  ·rw[ah h1]
   by_cases U:b-a<50
   ·rw[aj U]
    left
    refine bc (f.trans ?_)
    rw[eL,ah (by omega),wrap64 (by omega) (by omega),aA,aj (by omega)]
   ·rw[ah U]
    have z1:(swp d k (k-1)).size=d.size:=size_swp ..
    have z2:(fixDown ay a k (swp d k (k-1))).size=d.size:=by
     unfold fixDown
     split
     ·rw[Se,z1]
     ·exact z1
    have z3:(fixUp ay b k (fixDown ay a k (swp d k (k-1)))).size=d.size:=by
     unfold fixUp
     split
     ·rw[adM _ _ _ rfl,z2]
     ·exact z2
    obtain ⟨t2,e2⟩:=Sf (a:=a) (b:=b) (i:=k) (k:=5-(s+1)) (k-1) (swp d k (k-1)) (by omega) (by omega)
    obtain ⟨t4,e4⟩:=adN (a:=a) (b:=b) (i:=k) (k:=5-(s+1)) _ (k+1) (fixDown ay a k (swp d k (k-1))) rfl (by omega) (by omega) (by omega) (by omega)
    have e5:sw CC a b ((i:Int),((5-(s+1):Nat):Int),eA d)=some (.inl ((k:Int),((5-s:Nat):Int),eA (fixUp ay b k (fixDown ay a k (swp d k (k-1)))))):=by
     refine f.trans ?_
     rw[eL,ah (by omega),wrap64 (by omega) (by omega),aA,ah (by omega)]
     simp (disch:=omega) only[aA,dq,aj,fG,fI,Int.toNat_natCast,Option.bind_some,XE.bh,XE.bj,XE.bm,XE.re,fH,ic,gC,kg,dD,mz,wrap64,xO,Fs]
     rw[show 5-(s+1)+1=5-s by omega]
     unfold fixDown at e4⊢
     unfold fixUp
     have c1:(((k-a:Nat):Int)≥2)=(k-a≥2):=propext (by omega)
     have c2:(((b-k:Nat):Int)≥2)=(b-k≥2):=propext (by omega)
     simp only[c1,c2]
     by_cases g1:k-a≥2
     ·by_cases g2:b-k≥2
      ·simp only[g1,g2,dj,e2,Option.bind_some,un] at e4⊢
       rw[e4]
       rfl
      ·simp only[g1,g2,dj,gb,e2,Option.bind_some,un]
     ·by_cases g2:b-k≥2
      ·simp only[g1,g2,dj,gb] at e4⊢
       rw[e4]
       rfl
      ·exact absurd (show b-k≥2 by omega) g2
    rw[bV e5]
    exact ih k _ (by omega) (by omega) (by omega) (by omega) (by omega)
theorem Sg {a b:Nat} {d:Array XE} (eZ:a<b) (hb:b≤d.size) (hs:d.size<1152921504606846976):
  CC ED [.int .i64 (a:Int),.int .i64 (b:Int),.list aa (eA d)]=
   some [.bool (partialInsertionSort ay d a b).2,.list aa (eA (partialInsertionSort ay d a b).1)]:=by
 refine adD ?_
 unfold R8
 simp (disch:=omega) only[dD,wrap64]
 rcases adP (a:=a) (b:=b) 5 (a+1) d (ch _) (by omega) (by omega) hb hs with h|⟨x,y,z,h0,h⟩
 ·rw[show ((5-5:Nat):Int)=0 from rfl] at h
  rw[h]
  rfl
 ·rw[show ((5-5:Nat):Int)=0 from rfl] at h
  rw[h]
  unfold partialInsertionSort
  rw[h0]
  rfl
end Go.AM.SX
set_option maxRecDepth 100000
namespace Go.AM
open Go.Proofs
noncomputable abbrev sy:Code:=cJ Try.prog (ax.aV 114)
noncomputable def Bd (C:ag) (data:List V) (i j k':Int) (t36:Bool) (gP:Int) {β:Type} (kr:(Int × Int × Int × Int)→Option β):Option β:=
 bif t36 then
  (C wX [.list aa data,.int .i64 i,.int .i64 gP]).bind fun r1=>
  (C wX [.list aa data,.int .i64 j,.int .i64 ((V.nth (r1.drop 1) 0).toInt)]).bind fun r2=>
  (C wX [.list aa data,.int .i64 k',.int .i64 ((V.nth (r2.drop 1) 0).toInt)]).bind fun r3=>
  kr ((V.nth r1 0).toInt,(V.nth r2 0).toInt,(V.nth r3 0).toInt,(V.nth (r3.drop 1) 0).toInt)
 else
  kr (i,j,k',gP)
noncomputable def Be (C:ag) (data:List V) (l i j k':Int) (t34:Bool) (gP:Int) {β:Type} (kr:(Int × Int)→Option β):Option β:=
 bif t34 then
  Bd C data i j k' (decide ((l:Int)≥50)) gP (un fun (e9:Int)=>un fun (j_5:Int)=>un fun (k_6:Int) (adQ:Int)=>
   (C Af [.list aa data,.int .i64 e9,.int .i64 j_5,.int .i64 k_6,.int .i64 adQ]).bind fun r8=>
   kr ((V.nth r8 0).toInt,(V.nth (r8.drop 1) 0).toInt))
 else
  kr (j,gP)
noncomputable def Sh (C:ag):cz:=fun β n ds k=>
 bif Nat.beq n 591 then iK JP [[1,0,0,0,0]] (@Bd C) ds k else
 bif Nat.beq n 559 then iK JQ [[0,0]] (@Be C) ds k else
 none
abbrev Si (C:ag) (b:cv):Prop:=cw Try.prog ax C (Sh C) 114 (cM Try.prog (ax.aV 114)) (ax.sin 114).a8.length b
theorem adR (C:ag):Si C (.cond 36 (aw [1,1,1,1,1,1,0,1,0,0,1,0] sy) (aw [1,1,1,1,1,1,0,1,0,0,1,1] sy)):=
 jf JP [[1,0,0,0,0]] (@Bd C) (by kernel_rfl) (bf (bs:=[]) (by kernel_rfl) av) (bf (bs:=[]) (by kernel_rfl) av) (fun ds=>by kernel_rfl) (fun i β k=>by kernel_rfl) (fun β ds k=>by kernel_rfl)
theorem adS (C:ag):Si C (.cond 34 (aw [1,1,1,1,1,1,0,1,0] sy) (aw [1,1,1,1,1,1,0,1,1] sy)):=
 jf JQ [[0,0]] (@Be C) (by kernel_rfl) (bf (bs:=[.cond 36 (aw [1,1,1,1,1,1,0,1,0,0,1,0] sy) (aw [1,1,1,1,1,1,0,1,0,0,1,1] sy)]) (by kernel_rfl) (bD (adR C) av)) (bf (bs:=[]) (by kernel_rfl) av) (fun ds=>by kernel_rfl) (fun i β k=>by kernel_rfl) (fun β ds k=>by kernel_rfl)
noncomputable def KY (C:ag) (data:List V) (a b':Int):Option (List V):=
 Be C data (IntKind.wrap .i64 (b'-a)) (IntKind.wrap .i64 (a+(IntKind.wrap .i64 (1*(IntKind.wrap .i64 (Int.tdiv (IntKind.wrap .i64 (b'-a)) 4)))))) (IntKind.wrap .i64 (a+(IntKind.wrap .i64 (2*(IntKind.wrap .i64 (Int.tdiv (IntKind.wrap .i64 (b'-a)) 4)))))) (IntKind.wrap .i64 (a+(IntKind.wrap .i64 (3*(IntKind.wrap .i64 (Int.tdiv (IntKind.wrap .i64 (b'-a)) 4)))))) (decide (((IntKind.wrap .i64 (b'-a)):Int)≥8)) 0 (un fun (KZ:Int) (Sj:Int)=>
  bif (Sj:Int)==0 then
   some [.int .i64 KZ,.int .i64 1]
  else
   bif (Sj:Int)==12 then
   some [.int .i64 KZ,.int .i64 2]
   else
   some [.int .i64 KZ,.int .i64 0])
theorem Sk {data:List V} {a b':Int} {r:Option (List V)} (h:KY CC data a b'=r):CC Ad [.list aa data,.int .i64 a,.int .i64 b']=r:=
 aY (key:=114) (L:=Sh CC) (bs:=[.cond 34 (aw [1,1,1,1,1,1,0,1,0] sy) (aw [1,1,1,1,1,1,0,1,1] sy)]) (by kernel_rfl) (bD (adS CC) av) (aW (by kernel_rfl) h)
noncomputable def Sl (C:ag) (data:List V) (a b' c gP:Int):Option (List V):=
 (C wY [.list aa data,.int .i64 a,.int .i64 b',.int .i64 gP]).bind fun r1=>
 (C wY [.list aa data,.int .i64 ((V.nth (r1.drop 1) 0).toInt),.int .i64 c,.int .i64 ((V.nth (r1.drop 2) 0).toInt)]).bind fun r2=>
 (C wY [.list aa data,.int .i64 ((V.nth r1 0).toInt),.int .i64 ((V.nth r2 0).toInt),.int .i64 ((V.nth (r2.drop 2) 0).toInt)]).bind fun r3=>
 some [.int .i64 ((V.nth (r3.drop 1) 0).toInt),.int .i64 ((V.nth (r3.drop 2) 0).toInt)]
theorem adT {data:List V} {a b' c gP:Int} {r:Option (List V)} (h:Sl CC data a b' c gP=r):CC Af [.list aa data,.int .i64 a,.int .i64 b',.int .i64 c,.int .i64 gP]=r:=
 aY (key:=125) (L:=cg) (bs:=[]) (by kernel_rfl) av (aW (by kernel_rfl) h)
noncomputable def K0 (C:ag) (data:List V) (a b' gP:Int):Option (List V):=
 (idx data b').bind fun x1=>
 (idx data a).bind fun x2=>
 (C ba [.int .i64 ((x1.cell 0).toInt),.int .i64 ((x1.cell 1).toInt),.list aa ((x1.cell 2).toList),.int .i64 ((x2.cell 0).toInt),.int .i64 ((x2.cell 1).toInt),.list aa ((x2.cell 2).toList)]).bind fun r3=>
 bif decide ((((V.nth r3 0).toInt):Int)<0) then
  some [.int .i64 b',.int .i64 a,.int .i64 (IntKind.wrap .i64 (gP+1))]
 else
  some [.int .i64 a,.int .i64 b',.int .i64 gP]
theorem Sm {data:List V} {a b' gP:Int} {r:Option (List V)} (h:K0 CC data a b' gP=r):CC wY [.list aa data,.int .i64 a,.int .i64 b',.int .i64 gP]=r:=
 aY (key:=126) (L:=cg) (bs:=[]) (by kernel_rfl) av (aW (by kernel_rfl) h)
noncomputable def Sn (C:ag) (data:List V) (a gP:Int):Option (List V):=
 (C Af [.list aa data,.int .i64 (IntKind.wrap .i64 (a-1)),.int .i64 a,.int .i64 (IntKind.wrap .i64 (a+1)),.int .i64 gP]).bind fun r1=>
 some [.int .i64 ((V.nth r1 0).toInt),.int .i64 ((V.nth (r1.drop 1) 0).toInt)]
theorem adU {data:List V} {a gP:Int} {r:Option (List V)} (h:Sn CC data a gP=r):CC wX [.list aa data,.int .i64 a,.int .i64 gP]=r:=
 aY (key:=124) (L:=cg) (bs:=[]) (by kernel_rfl) av (aW (by kernel_rfl) h)
noncomputable abbrev xP:Code:=cJ Try.prog (ax.aV 113)
noncomputable def Fx (C:ag) (a length xQ jH other:Int) (t45:Bool) (ak:List V) (Bf:Int) {β:Type} (kr:(Int)→Option β):Option β:=
 bif t45 then
  kr (IntKind.wrap .i64 (other-length))
 else
  kr other
noncomputable def Bg (C:ag) (a length xQ jH:Int) (ak:List V) (Bf:Int) {β:Type} (kn:(Int × (List V) × Int)→Option β) (kr:(Int × Bool × (List V) × Int)→Option β):Option β:=
 bif decide ((jH:Int)≤(IntKind.wrap .i64 ((IntKind.wrap .i64 (a+(IntKind.wrap .i64 (2*(IntKind.wrap .i64 (Int.tdiv length 4))))))+1))) then
  (C EG [.int .u64 Bf]).bind fun r2=>
  Fx C a length xQ jH (IntKind.wrap .i64 (IntKind.wrap .u64 ((BitVec.ofInt (IntKind.bits .u64) ((V.nth r2 0).toInt)&&&BitVec.ofInt (IntKind.bits .u64) (IntKind.wrap .u64 (xQ-1))).toNat))) (decide (((IntKind.wrap .i64 (IntKind.wrap .u64 ((BitVec.ofInt (IntKind.bits .u64) ((V.nth r2 0).toInt)&&&BitVec.ofInt (IntKind.bits .u64) (IntKind.wrap .u64 (xQ-1))).toNat))):Int)≥length)) ak ((V.nth (r2.drop 1) 0).toInt) (fun (uP:Int)=>
   bif (decide (0≤(IntKind.wrap .i64 (a+uP))))&&(decide ((IntKind.wrap .i64 (a+uP))<(ak.length:Int))) then
   (ak[(IntKind.wrap .i64 (a+uP):Int).toNat]?).bind fun x4=>
   bif (decide (0≤jH))&&(decide (jH<(ak.length:Int))) then
    (ak[(jH:Int).toNat]?).bind fun x5=>
    bif (decide (0≤jH))&&(decide (jH<(ak.length:Int))) then
    (ak[(jH:Int).toNat]?).bind fun x6=>
    bif (decide (0≤(IntKind.wrap .i64 (a+uP))))&&(decide ((IntKind.wrap .i64 (a+uP))<((ak.set ((jH:Int).toNat) (.agg [.int .i64 ((x4.cell 0).toInt),.int .i64 ((x4.cell 1).toInt),.list aa ((x4.cell 2).toList)])).length:Int))) then
     ((ak.set ((jH:Int).toNat) (.agg [.int .i64 ((x4.cell 0).toInt),.int .i64 ((x4.cell 1).toInt),.list aa ((x4.cell 2).toList)]))[(IntKind.wrap .i64 (a+uP):Int).toNat]?).bind fun x7=>
     kn (IntKind.wrap .i64 (jH+1),(ak.set ((jH:Int).toNat) (.agg [.int .i64 ((x4.cell 0).toInt),.int .i64 ((x4.cell 1).toInt),.list aa ((x4.cell 2).toList)])).set ((IntKind.wrap .i64 (a+uP):Int).toNat) (.agg [.int .i64 ((x5.cell 0).toInt),.int .i64 ((x5.cell 1).toInt),.list aa ((x5.cell 2).toList)]),(V.nth (r2.drop 1) 0).toInt)
    else none
    else none
   else none
   else none)
 else
  kr (jH,decide ((jH:Int)≤(IntKind.wrap .i64 ((IntKind.wrap .i64 (a+(IntKind.wrap .i64 (2*(IntKind.wrap .i64 (Int.tdiv length 4))))))+1))),ak,Bf)
noncomputable def Fy (C:ag) (a length xQ:Int):(Int × (List V) × Int)→Option ((Int × (List V) × Int) ⊕ (Int × Bool × (List V) × Int)):=un fun jH=>un fun ak Bf=>Bg C a length xQ jH ak Bf (fun y=>some (.inl y)) (fun r=>some (.inr r))
noncomputable def So (C:ag):cz:=fun β n ds k=>
 bif Nat.beq n 735 then iK JN [[1,2,3,4,0,7,8]] (@Fx C) ds k else
 bif Nat.beq n 81 then cf JO [false,false,false,true,true,true] [[1,2,3,0,0,0,0]] (@Bg C) ds k else
 none
abbrev Sp (C:ag) (b:cv):Prop:=cw Try.prog ax C (So C) 113 (cM Try.prog (ax.aV 113)) (ax.sin 113).a8.length b
theorem adV (C:ag):Sp C (.cond 45 (aw [1,1,0,1,1,1,0,0,1,0,0,1,0,1,0] xP) (aw [1,1,0,1,1,1,0,0,1,0,0,1,0,1,1] xP)):=
 jf JN [[1,2,3,4,0,7,8]] (@Fx C) (by kernel_rfl) (bf (bs:=[]) (by kernel_rfl) av) (bf (bs:=[]) (by kernel_rfl) av) (fun ds=>by kernel_rfl) (fun i β k=>by kernel_rfl) (fun β ds k=>by kernel_rfl)
theorem adW (C:ag):Sp C (.loop (aw [1,1,0,1,1,1,0,0] xP)):=
 cm JO [false,false,false,true,true,true] [[1,2,3,0,0,0,0]] (@Bg C) (by kernel_rfl) (bf (bs:=[.cond 45 (aw [1,1,0,1,1,1,0,0,1,0,0,1,0,1,0] xP) (aw [1,1,0,1,1,1,0,0,1,0,0,1,0,1,1] xP)]) (by kernel_rfl) (bD (adV C) av)) (fun ds=>by kernel_rfl) (fun i x=>by kernel_rfl) (fun i x β k=>by kernel_rfl) (fun β ds k=>by kernel_rfl)
noncomputable def Sq (C:ag) (a b':Int) (ak:List V):Option (List V):=
 bif decide (((IntKind.wrap .i64 (b'-a)):Int)≥8) then
  (C EF [.int .i64 (IntKind.wrap .i64 (b'-a))]).bind fun r1=>
  (Loop (Fy C a (IntKind.wrap .i64 (b'-a)) ((V.nth r1 0).toInt)) (IntKind.wrap .i64 ((IntKind.wrap .i64 (a+(IntKind.wrap .i64 (2*(IntKind.wrap .i64 (Int.tdiv (IntKind.wrap .i64 (b'-a)) 4))))))-1),ak,IntKind.wrap .u64 (IntKind.wrap .i64 (b'-a)))).bind (un fun (aiT:Int)=>un fun (sh:Bool)=>un fun (oF:List V) (aiU:Int)=>
   some [.list aa oF])
 else
  some [.list aa ak]
theorem adX {a b':Int} {ak:List V} {r:Option (List V)} (h:Sq CC a b' ak=r):CC EB [.int .i64 a,.int .i64 b',.list aa ak]=r:=
 aY (key:=113) (L:=So CC) (bs:=[.loop (aw [1,1,0,1,1,1,0,0] xP)]) (by kernel_rfl) (bD (adW CC) av) (aW (by kernel_rfl) h)
noncomputable def Sr (C:ag) (iQ:Int):Option (List V):=
 some [.int .u64 (IntKind.wrap .u64 ((BitVec.ofInt (IntKind.bits .u64) (IntKind.wrap .u64 ((BitVec.ofInt (IntKind.bits .u64) (IntKind.wrap .u64 ((BitVec.ofInt (IntKind.bits .u64) iQ ^^^ BitVec.ofInt (IntKind.bits .u64) (IntKind.wrap .u64 (iQ*2^(min (13:Int).toNat (IntKind.bits .u64))))).toNat)) ^^^ BitVec.ofInt (IntKind.bits .u64) (Int.fdiv (IntKind.wrap .u64 ((BitVec.ofInt (IntKind.bits .u64) iQ ^^^ BitVec.ofInt (IntKind.bits .u64) (IntKind.wrap .u64 (iQ*2^(min (13:Int).toNat (IntKind.bits .u64))))).toNat)) (2^(min (7:Int).toNat (IntKind.bits .u64))))).toNat)) ^^^ BitVec.ofInt (IntKind.bits .u64) (IntKind.wrap .u64 ((IntKind.wrap .u64 ((BitVec.ofInt (IntKind.bits .u64) (IntKind.wrap .u64 ((BitVec.ofInt (IntKind.bits .u64) iQ ^^^ BitVec.ofInt (IntKind.bits .u64) (IntKind.wrap .u64 (iQ*2^(min (13:Int).toNat (IntKind.bits .u64))))).toNat)) ^^^ BitVec.ofInt (IntKind.bits .u64) (Int.fdiv (IntKind.wrap .u64 ((BitVec.ofInt (IntKind.bits .u64) iQ ^^^ BitVec.ofInt (IntKind.bits .u64) (IntKind.wrap .u64 (iQ*2^(min (13:Int).toNat (IntKind.bits .u64))))).toNat)) (2^(min (7:Int).toNat (IntKind.bits .u64))))).toNat))*2^(min (17:Int).toNat (IntKind.bits .u64))))).toNat)),.int .u64 (IntKind.wrap .u64 ((BitVec.ofInt (IntKind.bits .u64) (IntKind.wrap .u64 ((BitVec.ofInt (IntKind.bits .u64) (IntKind.wrap .u64 ((BitVec.ofInt (IntKind.bits .u64) iQ ^^^ BitVec.ofInt (IntKind.bits .u64) (IntKind.wrap .u64 (iQ*2^(min (13:Int).toNat (IntKind.bits .u64))))).toNat)) ^^^ BitVec.ofInt (IntKind.bits .u64) (Int.fdiv (IntKind.wrap .u64 ((BitVec.ofInt (IntKind.bits .u64) iQ ^^^ BitVec.ofInt (IntKind.bits .u64) (IntKind.wrap .u64 (iQ*2^(min (13:Int).toNat (IntKind.bits .u64))))).toNat)) (2^(min (7:Int).toNat (IntKind.bits .u64))))).toNat)) ^^^ BitVec.ofInt (IntKind.bits .u64) (IntKind.wrap .u64 ((IntKind.wrap .u64 ((BitVec.ofInt (IntKind.bits .u64) (IntKind.wrap .u64 ((BitVec.ofInt (IntKind.bits .u64) iQ ^^^ BitVec.ofInt (IntKind.bits .u64) (IntKind.wrap .u64 (iQ*2^(min (13:Int).toNat (IntKind.bits .u64))))).toNat)) ^^^ BitVec.ofInt (IntKind.bits .u64) (Int.fdiv (IntKind.wrap .u64 ((BitVec.ofInt (IntKind.bits .u64) iQ ^^^ BitVec.ofInt (IntKind.bits .u64) (IntKind.wrap .u64 (iQ*2^(min (13:Int).toNat (IntKind.bits .u64))))).toNat)) (2^(min (7:Int).toNat (IntKind.bits .u64))))).toNat))*2^(min (17:Int).toNat (IntKind.bits .u64))))).toNat))]
theorem adY {iQ:Int} {r:Option (List V)} (h:Sr CC iQ=r):CC EG [.int .u64 iQ]=r:=
 aY (key:=123) (L:=cg) (bs:=[]) (by kernel_rfl) av (aW (by kernel_rfl) h)
noncomputable def Ss (C:ag) (length:Int):Option (List V):=
 (C Aa [.int .u64 (IntKind.wrap .u64 length)]).bind fun r1=>
 bif decide (0≤((V.nth r1 0).toInt)) then
  some [.int .u64 (IntKind.wrap .u64 (1*2^(min ((V.nth r1 0).toInt).toNat (IntKind.bits .u64))))]
 else none
theorem adZ {length:Int} {r:Option (List V)} (h:Ss CC length=r):CC EF [.int .i64 length]=r:=
 aY (key:=122) (L:=cg) (bs:=[]) (by kernel_rfl) av (aW (by kernel_rfl) h)
noncomputable def Su (C:ag) (x:Int):Option (List V):=
 (C EE [.int .u64 x]).bind fun r1=>
 some [.int .i64 ((V.nth r1 0).toInt)]
theorem ad0 {x:Int} {r:Option (List V)} (h:Su CC x=r):CC Aa [.int .u64 x]=r:=
 aY (key:=110) (L:=cg) (bs:=[]) (by kernel_rfl) av (aW (by kernel_rfl) h)
noncomputable abbrev sA:Code:=cJ Try.prog (ax.aV 120)
noncomputable def uQ (C:ag) (x n:Int) (t4:Bool) {β:Type} (kr:(Int × Int)→Option β):Option β:=
 bif t4 then
  kr (Int.fdiv x (2^(min (32:Int).toNat (IntKind.bits .u64))),32)
 else
  kr (x,n)
noncomputable def uR (C:ag) (x n:Int) (t8:Bool) {β:Type} (kr:(Int × Int)→Option β):Option β:=
 bif t8 then
  kr (Int.fdiv x (2^(min (16:Int).toNat (IntKind.bits .u64))),IntKind.wrap .i64 (n+16))
 else
  kr (x,n)
noncomputable def Sv (C:ag):cz:=fun β n ds k=>
 bif Nat.beq n 79 then iK J5 [[0,0]] (@uQ C) ds k else
 bif Nat.beq n 143 then iK J6 [[0,0]] (@uR C) ds k else
 none
abbrev Sw (C:ag) (b:cv):Prop:=cw Try.prog ax C (Sv C) 120 (cM Try.prog (ax.aV 120)) (ax.sin 120).a8.length b
theorem ad1 (C:ag):Sw C (.cond 4 (aw [1,0,1,0] sA) (aw [1,0,1,1] sA)):=
 jf J5 [[0,0]] (@uQ C) (by kernel_rfl) (bf (bs:=[]) (by kernel_rfl) av) (bf (bs:=[]) (by kernel_rfl) av) (fun ds=>by kernel_rfl) (fun i β k=>by kernel_rfl) (fun β ds k=>by kernel_rfl)
theorem ad2 (C:ag):Sw C (.cond 8 (aw [1,1,0,1,0] sA) (aw [1,1,0,1,1] sA)):=
 jf J6 [[0,0]] (@uR C) (by kernel_rfl) (bf (bs:=[]) (by kernel_rfl) av) (bf (bs:=[]) (by kernel_rfl) av) (fun ds=>by kernel_rfl) (fun i β k=>by kernel_rfl) (fun β ds k=>by kernel_rfl)
noncomputable def ad3 (C:ag) (x:Int):Option (List V):=
 uQ C x 0 (decide ((x:Int)≥4294967296)) (un fun (sB:Int) (Bh:Int)=>
  uR C sB Bh (decide ((sB:Int)≥65536)) (un fun (Bi:Int) (Sy:Int)=>
   bif decide ((Bi:Int)≥256) then
    (bif decide (0≤(IntKind.wrap .u8 (Int.fdiv Bi (2^(min (8:Int).toNat (IntKind.bits .u64)))))) then (([0,1,2,2,3,3,3,3,4,4,4,4,4,4,4,4,5,5,5,5,5,5,5,5,5,5,5,5,5,5,5,5,6,6,6,6,6,6,6,6,6,6,6,6,6,6,6,6,6,6,6,6,6,6,6,6,6,6,6,6,6,6,6,6,7,7,7,7,7,7,7,7,7,7,7,7,7,7,7,7,7,7,7,7,7,7,7,7,7,7,7,7,7,7,7,7,7,7,7,7,7,7,7,7,7,7,7,7,7,7,7,7,7,7,7,7,7,7,7,7,7,7,7,7,7,7,7,7,8,8,8,8,8,8,8,8,8,8,8,8,8,8,8,8,8,8,8,8,8,8,8,8,8,8,8,8,8,8,8,8,8,8,8,8,8,8,8,8,8,8,8,8,8,8,8,8,8,8,8,8,8,8,8,8,8,8,8,8,8,8,8,8,8,8,8,8,8,8,8,8,8,8,8,8,8,8,8,8,8,8,8,8,8,8,8,8,8,8,8,8,8,8,8,8,8,8,8,8,8,8,8,8,8,8,8,8,8,8,8,8,8,8,8,8,8,8,8,8,8,8,8,8,8,8,8,8]:List UInt8)[(IntKind.wrap .u8 (Int.fdiv Bi (2^(min (8:Int).toNat (IntKind.bits .u64)))):Int).toNat]?).map fun b=>V.int .u8 b.toNat else none).bind fun x5=>
    some [.int .i64 (IntKind.wrap .i64 ((IntKind.wrap .i64 (Sy+8))+(IntKind.wrap .i64 x5.toInt)))]
   else
    (bif decide (0≤(IntKind.wrap .u8 Bi)) then (([0,1,2,2,3,3,3,3,4,4,4,4,4,4,4,4,5,5,5,5,5,5,5,5,5,5,5,5,5,5,5,5,6,6,6,6,6,6,6,6,6,6,6,6,6,6,6,6,6,6,6,6,6,6,6,6,6,6,6,6,6,6,6,6,7,7,7,7,7,7,7,7,7,7,7,7,7,7,7,7,7,7,7,7,7,7,7,7,7,7,7,7,7,7,7,7,7,7,7,7,7,7,7,7,7,7,7,7,7,7,7,7,7,7,7,7,7,7,7,7,7,7,7,7,7,7,7,7,8,8,8,8,8,8,8,8,8,8,8,8,8,8,8,8,8,8,8,8,8,8,8,8,8,8,8,8,8,8,8,8,8,8,8,8,8,8,8,8,8,8,8,8,8,8,8,8,8,8,8,8,8,8,8,8,8,8,8,8,8,8,8,8,8,8,8,8,8,8,8,8,8,8,8,8,8,8,8,8,8,8,8,8,8,8,8,8,8,8,8,8,8,8,8,8,8,8,8,8,8,8,8,8,8,8,8,8,8,8,8,8,8,8,8,8,8,8,8,8,8,8,8,8,8,8,8,8]:List UInt8)[(IntKind.wrap .u8 Bi:Int).toNat]?).map fun b=>V.int .u8 b.toNat else none).bind fun x6=>
    some [.int .i64 (IntKind.wrap .i64 (Sy+(IntKind.wrap .i64 x6.toInt)))]))
theorem Sz {x:Int} {r:Option (List V)} (h:ad3 CC x=r):CC EE [.int .u64 x]=r:=
 aY (key:=120) (L:=Sv CC) (bs:=[.cond 4 (aw [1,0,1,0] sA) (aw [1,0,1,1] sA),.cond 8 (aw [1,1,0,1,0] sA) (aw [1,1,0,1,1] sA)]) (by kernel_rfl) (bD (ad1 CC) (bD (ad2 CC) av)) (aW (by kernel_rfl) h)
noncomputable abbrev lH:Code:=cJ Try.prog (ax.aV 109)
noncomputable def xR (C:ag) (a b' jl:Int) (eD eT:Bool) (length:Int) (t39:Bool) (ak:List V) {β:Type} (kr:(Int × (List V))→Option β):Option β:=
 bif t39 then
  (C EB [.int .i64 a,.int .i64 b',.list aa ak]).bind fun r3=>
  kr (IntKind.wrap .i64 (jl-1),(V.nth r3 0).toList)
 else
  kr (jl,ak)
noncomputable def xS (C:ag) (a b' jl:Int) (eD eT:Bool) (length pivot hint:Int) (t56:Bool) (ak:List V) {β:Type} (kr:(Int × Int × (List V))→Option β):Option β:=
 bif t56 then
  (C EC [.int .i64 a,.int .i64 b',.list aa ak]).bind fun r7=>
  kr (IntKind.wrap .i64 ((IntKind.wrap .i64 (b'-1))-(IntKind.wrap .i64 (pivot-a))),1,(V.nth r7 0).toList)
 else
  kr (pivot,hint,ak)
noncomputable def mC (C:ag) (a b' jl:Int) (eD eT:Bool) (length pivot:Int) (t75:Bool) (ak:List V) {β:Type} (kr:((Bool × (List V)) ⊕ (List V))→Option β):Option β:=
 bif t75 then
  (C ED [.int .i64 a,.int .i64 b',.list aa ak]).bind fun eU=>
  bif (V.nth eU 0).toBool then
  kr (.inl ((V.nth eU 0).toBool,(V.nth (eU.drop 1) 0).toList))
  else
  kr (.inr ((V.nth (eU.drop 1) 0).toList))
 else
  kr (.inr ak)
noncomputable def pC (C:ag) (a b' jl:Int) (eD eT:Bool) (ak:List V) {β:Type} (kn:(Int × Int × Int × Bool × Bool × (List V))→Option β) (kr:(List V)→Option β):Option β:=
 bif decide (((IntKind.wrap .i64 (b'-a)):Int)≤12) then
  (C Ab [.int .i64 a,.int .i64 b',.list aa ak]).bind fun r1=>
  kr ((V.nth r1 0).toList)
 else
  bif (jl:Int)==0 then
  (C Ac [.int .i64 a,.int .i64 b',.list aa ak]).bind fun r2=>
  kr ((V.nth r2 0).toList)
  else
  xR C a b' jl eD eT (IntKind.wrap .i64 (b'-a)) (!eD) ak (un fun (cF:Int) (Bj:List V)=>
   (C Ad [.list aa Bj,.int .i64 a,.int .i64 b']).bind fun r6=>
   xS C a b' cF eD eT (IntKind.wrap .i64 (b'-a)) ((V.nth r6 0).toInt) ((V.nth (r6.drop 1) 0).toInt) ((((V.nth (r6.drop 1) 0).toInt):Int)==2) Bj (un fun (dE:Int)=>un fun (K1:Int) (oF:List V)=>
    bif eD then
     bif eT then
     mC C a b' cF eD eT (IntKind.wrap .i64 (b'-a)) dE ((K1:Int)==1) oF (bR (un fun (Kf:Bool) (KP:List V)=>
      kr KP) (fun (uS:List V)=>
      bif decide ((a:Int)>0) then
       bif (decide (0≤(IntKind.wrap .i64 (a-1))))&&(decide ((IntKind.wrap .i64 (a-1))<(uS.length:Int))) then
       (uS[(IntKind.wrap .i64 (a-1):Int).toNat]?).bind fun fL=>
       bif (decide (0≤dE))&&(decide (dE<(uS.length:Int))) then
        (uS[(dE:Int).toNat]?).bind fun gv=>
        (C ba [.int .i64 ((fL.cell 0).toInt),.int .i64 ((fL.cell 1).toInt),.list aa ((fL.cell 2).toList),.int .i64 ((gv.cell 0).toInt),.int .i64 ((gv.cell 1).toInt),.list aa ((gv.cell 2).toList)]).bind fun dG=>
        bif !(decide ((((V.nth dG 0).toInt):Int)<0)) then
        (C ug [.int .i64 a,.int .i64 b',.int .i64 dE,.list aa uS]).bind fun jI=>
        kn ((V.nth jI 0).toInt,b',cF,eD,eT,(V.nth (jI.drop 1) 0).toList)
        else
        (C nn [.int .i64 a,.int .i64 b',.int .i64 dE,.list aa uS]).bind fun et=>
        bif decide (((IntKind.wrap .i64 (((V.nth et 0).toInt)-a)):Int)<(IntKind.wrap .i64 (b'-((V.nth et 0).toInt)))) then
         (C gm [.int .i64 a,.int .i64 ((V.nth et 0).toInt),.int .i64 cF,.list aa ((V.nth (et.drop 2) 0).toList)]).bind fun jm=>
         kn (IntKind.wrap .i64 (((V.nth et 0).toInt)+1),b',cF,decide (((IntKind.wrap .i64 (((V.nth et 0).toInt)-a)):Int)≥(IntKind.wrap .i64 (Int.tdiv (IntKind.wrap .i64 (b'-a)) 8))),(V.nth (et.drop 1) 0).toBool,(V.nth jm 0).toList)
        else
         (C gm [.int .i64 (IntKind.wrap .i64 (((V.nth et 0).toInt)+1)),.int .i64 b',.int .i64 cF,.list aa ((V.nth (et.drop 2) 0).toList)]).bind fun oI=>
         kn (a,(V.nth et 0).toInt,cF,decide (((IntKind.wrap .i64 (b'-((V.nth et 0).toInt))):Int)≥(IntKind.wrap .i64 (Int.tdiv (IntKind.wrap .i64 (b'-a)) 8))),(V.nth (et.drop 1) 0).toBool,(V.nth oI 0).toList)
       else none
       else none
      else
       (C nn [.int .i64 a,.int .i64 b',.int .i64 dE,.list aa uS]).bind fun kh=>
       bif decide (((IntKind.wrap .i64 (((V.nth kh 0).toInt)-a)):Int)<(IntKind.wrap .i64 (b'-((V.nth kh 0).toInt)))) then
       (C gm [.int .i64 a,.int .i64 ((V.nth kh 0).toInt),.int .i64 cF,.list aa ((V.nth (kh.drop 2) 0).toList)]).bind fun r23=>
       kn (IntKind.wrap .i64 (((V.nth kh 0).toInt)+1),b',cF,decide (((IntKind.wrap .i64 (((V.nth kh 0).toInt)-a)):Int)≥(IntKind.wrap .i64 (Int.tdiv (IntKind.wrap .i64 (b'-a)) 8))),(V.nth (kh.drop 1) 0).toBool,(V.nth r23 0).toList)
       else
       (C gm [.int .i64 (IntKind.wrap .i64 (((V.nth kh 0).toInt)+1)),.int .i64 b',.int .i64 cF,.list aa ((V.nth (kh.drop 2) 0).toList)]).bind fun Kn=>
       kn (a,(V.nth kh 0).toInt,cF,decide (((IntKind.wrap .i64 (b'-((V.nth kh 0).toInt))):Int)≥(IntKind.wrap .i64 (Int.tdiv (IntKind.wrap .i64 (b'-a)) 8))),(V.nth (kh.drop 1) 0).toBool,(V.nth Kn 0).toList)))
     else
     mC C a b' cF eD eT (IntKind.wrap .i64 (b'-a)) dE false oF (bR (un fun (ZF:Bool) (ad4:List V)=>
      kr ad4) (fun (qP:List V)=>
      bif decide ((a:Int)>0) then
       bif (decide (0≤(IntKind.wrap .i64 (a-1))))&&(decide ((IntKind.wrap .i64 (a-1))<(qP.length:Int))) then
       (qP[(IntKind.wrap .i64 (a-1):Int).toNat]?).bind fun uL=>
       bif (decide (0≤dE))&&(decide (dE<(qP.length:Int))) then
        (qP[(dE:Int).toNat]?).bind fun uM=>
        (C ba [.int .i64 ((uL.cell 0).toInt),.int .i64 ((uL.cell 1).toInt),.list aa ((uL.cell 2).toList),.int .i64 ((uM.cell 0).toInt),.int .i64 ((uM.cell 1).toInt),.list aa ((uM.cell 2).toList)]).bind fun Fp=>
        bif !(decide ((((V.nth Fp 0).toInt):Int)<0)) then
        (C ug [.int .i64 a,.int .i64 b',.int .i64 dE,.list aa qP]).bind fun SA=>
        kn ((V.nth SA 0).toInt,b',cF,eD,eT,(V.nth (SA.drop 1) 0).toList)
        else
        (C nn [.int .i64 a,.int .i64 b',.int .i64 dE,.list aa qP]).bind fun nB=>
        bif decide (((IntKind.wrap .i64 (((V.nth nB 0).toInt)-a)):Int)<(IntKind.wrap .i64 (b'-((V.nth nB 0).toInt)))) then
         (C gm [.int .i64 a,.int .i64 ((V.nth nB 0).toInt),.int .i64 cF,.list aa ((V.nth (nB.drop 2) 0).toList)]).bind fun r33=>
         kn (IntKind.wrap .i64 (((V.nth nB 0).toInt)+1),b',cF,decide (((IntKind.wrap .i64 (((V.nth nB 0).toInt)-a)):Int)≥(IntKind.wrap .i64 (Int.tdiv (IntKind.wrap .i64 (b'-a)) 8))),(V.nth (nB.drop 1) 0).toBool,(V.nth r33 0).toList)
        else
         (C gm [.int .i64 (IntKind.wrap .i64 (((V.nth nB 0).toInt)+1)),.int .i64 b',.int .i64 cF,.list aa ((V.nth (nB.drop 2) 0).toList)]).bind fun r34=>
         kn (a,(V.nth nB 0).toInt,cF,decide (((IntKind.wrap .i64 (b'-((V.nth nB 0).toInt))):Int)≥(IntKind.wrap .i64 (Int.tdiv (IntKind.wrap .i64 (b'-a)) 8))),(V.nth (nB.drop 1) 0).toBool,(V.nth r34 0).toList)
       else none
       else none
      else
       (C nn [.int .i64 a,.int .i64 b',.int .i64 dE,.list aa qP]).bind fun nC=>
       bif decide (((IntKind.wrap .i64 (((V.nth nC 0).toInt)-a)):Int)<(IntKind.wrap .i64 (b'-((V.nth nC 0).toInt)))) then
       (C gm [.int .i64 a,.int .i64 ((V.nth nC 0).toInt),.int .i64 cF,.list aa ((V.nth (nC.drop 2) 0).toList)]).bind fun r36=>
       kn (IntKind.wrap .i64 (((V.nth nC 0).toInt)+1),b',cF,decide (((IntKind.wrap .i64 (((V.nth nC 0).toInt)-a)):Int)≥(IntKind.wrap .i64 (Int.tdiv (IntKind.wrap .i64 (b'-a)) 8))),(V.nth (nC.drop 1) 0).toBool,(V.nth r36 0).toList)
       else
       (C gm [.int .i64 (IntKind.wrap .i64 (((V.nth nC 0).toInt)+1)),.int .i64 b',.int .i64 cF,.list aa ((V.nth (nC.drop 2) 0).toList)]).bind fun r37=>
       kn (a,(V.nth nC 0).toInt,cF,decide (((IntKind.wrap .i64 (b'-((V.nth nC 0).toInt))):Int)≥(IntKind.wrap .i64 (Int.tdiv (IntKind.wrap .i64 (b'-a)) 8))),(V.nth (nC.drop 1) 0).toBool,(V.nth r37 0).toList)))
    else
     mC C a b' cF eD eT (IntKind.wrap .i64 (b'-a)) dE false oF (bR (un fun (Qr:Bool) (ad5:List V)=>
      kr ad5) (fun (jG:List V)=>
      bif decide ((a:Int)>0) then
      bif (decide (0≤(IntKind.wrap .i64 (a-1))))&&(decide ((IntKind.wrap .i64 (a-1))<(jG.length:Int))) then
       (jG[(IntKind.wrap .i64 (a-1):Int).toNat]?).bind fun mB=>
       bif (decide (0≤dE))&&(decide (dE<(jG.length:Int))) then
       (jG[(dE:Int).toNat]?).bind fun uO=>
       (C ba [.int .i64 ((mB.cell 0).toInt),.int .i64 ((mB.cell 1).toInt),.list aa ((mB.cell 2).toList),.int .i64 ((uO.cell 0).toInt),.int .i64 ((uO.cell 1).toInt),.list aa ((uO.cell 2).toList)]).bind fun r43=>
       bif !(decide ((((V.nth r43 0).toInt):Int)<0)) then
        (C ug [.int .i64 a,.int .i64 b',.int .i64 dE,.list aa jG]).bind fun SB=>
        kn ((V.nth SB 0).toInt,b',cF,eD,eT,(V.nth (SB.drop 1) 0).toList)
       else
        (C nn [.int .i64 a,.int .i64 b',.int .i64 dE,.list aa jG]).bind fun nD=>
        bif decide (((IntKind.wrap .i64 (((V.nth nD 0).toInt)-a)):Int)<(IntKind.wrap .i64 (b'-((V.nth nD 0).toInt)))) then
        (C gm [.int .i64 a,.int .i64 ((V.nth nD 0).toInt),.int .i64 cF,.list aa ((V.nth (nD.drop 2) 0).toList)]).bind fun r46=>
        kn (IntKind.wrap .i64 (((V.nth nD 0).toInt)+1),b',cF,decide (((IntKind.wrap .i64 (((V.nth nD 0).toInt)-a)):Int)≥(IntKind.wrap .i64 (Int.tdiv (IntKind.wrap .i64 (b'-a)) 8))),(V.nth (nD.drop 1) 0).toBool,(V.nth r46 0).toList)
        else
        (C gm [.int .i64 (IntKind.wrap .i64 (((V.nth nD 0).toInt)+1)),.int .i64 b',.int .i64 cF,.list aa ((V.nth (nD.drop 2) 0).toList)]).bind fun r47=>
        kn (a,(V.nth nD 0).toInt,cF,decide (((IntKind.wrap .i64 (b'-((V.nth nD 0).toInt))):Int)≥(IntKind.wrap .i64 (Int.tdiv (IntKind.wrap .i64 (b'-a)) 8))),(V.nth (nD.drop 1) 0).toBool,(V.nth r47 0).toList)
       else none
      else none
      else
      (C nn [.int .i64 a,.int .i64 b',.int .i64 dE,.list aa jG]).bind fun nE=>
      bif decide (((IntKind.wrap .i64 (((V.nth nE 0).toInt)-a)):Int)<(IntKind.wrap .i64 (b'-((V.nth nE 0).toInt)))) then
       (C gm [.int .i64 a,.int .i64 ((V.nth nE 0).toInt),.int .i64 cF,.list aa ((V.nth (nE.drop 2) 0).toList)]).bind fun r49=>
       kn (IntKind.wrap .i64 (((V.nth nE 0).toInt)+1),b',cF,decide (((IntKind.wrap .i64 (((V.nth nE 0).toInt)-a)):Int)≥(IntKind.wrap .i64 (Int.tdiv (IntKind.wrap .i64 (b'-a)) 8))),(V.nth (nE.drop 1) 0).toBool,(V.nth r49 0).toList)
      else
       (C gm [.int .i64 (IntKind.wrap .i64 (((V.nth nE 0).toInt)+1)),.int .i64 b',.int .i64 cF,.list aa ((V.nth (nE.drop 2) 0).toList)]).bind fun r50=>
       kn (a,(V.nth nE 0).toInt,cF,decide (((IntKind.wrap .i64 (b'-((V.nth nE 0).toInt))):Int)≥(IntKind.wrap .i64 (Int.tdiv (IntKind.wrap .i64 (b'-a)) 8))),(V.nth (nE.drop 1) 0).toBool,(V.nth r50 0).toList)))))
noncomputable def SC (C:ag):(Int × Int × Int × Bool × Bool × (List V))→Option ((Int × Int × Int × Bool × Bool × (List V)) ⊕ (List V)):=un fun a=>un fun b'=>un fun jl=>un fun eD=>un fun eT ak=>pC C a b' jl eD eT ak (fun y=>some (.inl y)) (fun r=>some (.inr r))
noncomputable def SD (C:ag):cz:=fun β n ds k=>
 bif Nat.beq n 639 then iK JF [[1,2,0,4,5,6,0]] (@xR C) ds k else
 bif Nat.beq n 911 then iK JG [[1,2,3,4,5,6,0,0,0]] (@xS C) ds k else
 bif Nat.beq n 1215 then iK JH [[1,2,3,4,5,6,7,0,0],[1,2,3,4,5,6,7,0]] (@mC C) ds k else
 bif Nat.beq n 33 then cf JI [true,true,true,true,true,true] [[0]] (@pC C) ds k else
 none
abbrev Fz (C:ag) (b:cv):Prop:=cw Try.prog ax C (SD C) 109 (cM Try.prog (ax.aV 109)) (ax.sin 109).a8.length b
theorem ad6 (C:ag):Fz C (.cond 39 (aw [1,1,0,0,0,1,1,1,0,1,0] lH) (aw [1,1,0,0,0,1,1,1,0,1,1] lH)):=
 jf JF [[1,2,0,4,5,6,0]] (@xR C) (by kernel_rfl) (bf (bs:=[]) (by kernel_rfl) av) (bf (bs:=[]) (by kernel_rfl) av) (fun ds=>by kernel_rfl) (fun i β k=>by kernel_rfl) (fun β ds k=>by kernel_rfl)
theorem ad7 (C:ag):Fz C (.cond 56 (aw [1,1,0,0,0,1,1,1,1,1,0,1,0] lH) (aw [1,1,0,0,0,1,1,1,1,1,0,1,1] lH)):=
 jf JG [[1,2,3,4,5,6,0,0,0]] (@xS C) (by kernel_rfl) (bf (bs:=[]) (by kernel_rfl) av) (bf (bs:=[]) (by kernel_rfl) av) (fun ds=>by kernel_rfl) (fun i β k=>by kernel_rfl) (fun β ds k=>by kernel_rfl)
theorem ad8 (C:ag):Fz C (.cond 75 (aw [1,1,0,0,0,1,1,1,1,1,1,0,1,0] lH) (aw [1,1,0,0,0,1,1,1,1,1,1,0,1,1] lH)):=
 jf JH [[1,2,3,4,5,6,7,0,0],[1,2,3,4,5,6,7,0]] (@mC C) (by kernel_rfl) (bf (bs:=[]) (by kernel_rfl) av) (bf (bs:=[]) (by kernel_rfl) av) (fun ds=>by kernel_rfl) (fun i β k=>by kernel_rfl) (fun β ds k=>by kernel_rfl)
theorem ad9 (C:ag):Fz C (.loop (aw [1,1,0,0] lH)):=
 cm JI [true,true,true,true,true,true] [[0]] (@pC C) (by kernel_rfl) (bf (bs:=[.cond 39 (aw [1,1,0,0,0,1,1,1,0,1,0] lH) (aw [1,1,0,0,0,1,1,1,0,1,1] lH),.cond 56 (aw [1,1,0,0,0,1,1,1,1,1,0,1,0] lH) (aw [1,1,0,0,0,1,1,1,1,1,0,1,1] lH),.cond 75 (aw [1,1,0,0,0,1,1,1,1,1,1,0,1,0] lH) (aw [1,1,0,0,0,1,1,1,1,1,1,0,1,1] lH)]) (by kernel_rfl) (bD (ad6 C) (bD (ad7 C) (bD (ad8 C) av)))) (fun ds=>by kernel_rfl) (fun i x=>by kernel_rfl) (fun i x β k=>by kernel_rfl) (fun β ds k=>by kernel_rfl)
noncomputable def SE (C:ag) (a b' jl:Int) (ak:List V):Option (List V):=
 (Loop (SC C) (a,b',jl,true,true,ak)).bind (fun (aea:List V)=>
  some [.list aa aea])
theorem aeb {a b' jl:Int} {ak:List V} {r:Option (List V)} (h:SE CC a b' jl ak=r):CC gm [.int .i64 a,.int .i64 b',.int .i64 jl,.list aa ak]=r:=
 aY (key:=109) (L:=SD CC) (bs:=[.loop (aw [1,1,0,0] lH)]) (by kernel_rfl) (bD (ad9 CC) av) (aW (by kernel_rfl) h)
noncomputable def SF (C:ag) (xs:List V):Option (List V):=
 (C Aa [.int .u64 (IntKind.wrap .u64 (xs.length:Int))]).bind fun r1=>
 (C gm [.int .i64 0,.int .i64 (xs.length:Int),.int .i64 ((V.nth r1 0).toInt),.list aa xs]).bind fun r2=>
 some [.list aa ((V.nth r2 0).toList)]
theorem aec {xs:List V} {r:Option (List V)} (h:SF CC xs=r):CC z9 [.list aa xs]=r:=
 aY (key:=105) (L:=cg) (bs:=[]) (by kernel_rfl) av (aW (by kernel_rfl) h)
end Go.AM
set_option maxRecDepth 100000
set_option maxHeartbeats 4000000
namespace Go.AM.SX
open Go.Proofs Go.Sort
theorem aed (a b:XE):bO a b<0↔a.lt b:=Iff.rfl
theorem SG (a b:XE):(ay a b=true)=(a.lt b):=by rw[sr];rfl
theorem FA (a b:XE):(ay a b=false)= ¬(a.lt b):=by rw[←SG];simp
theorem xT:SWO ay where
 irrefl x:=by rw[FA];exact XE.lt_irrefl x
 trans x y z:=by simp only[SG];exact XE.lt_trans
 ntrans x y z:=by simp only[FA];exact XE.acU
def FB:List UInt8:=([0,1,2,2,3,3,3,3,4,4,4,4,4,4,4,4,5,5,5,5,5,5,5,5,5,5,5,5,5,5,5,5,6,6,6,6,6,6,6,6,6,6,6,6,6,6,6,6,6,6,6,6,6,6,6,6,6,6,6,6,6,6,6,6,7,7,7,7,7,7,7,7,7,7,7,7,7,7,7,7,7,7,7,7,7,7,7,7,7,7,7,7,7,7,7,7,7,7,7,7,7,7,7,7,7,7,7,7,7,7,7,7,7,7,7,7,7,7,7,7,7,7,7,7,7,7,7,7,8,8,8,8,8,8,8,8,8,8,8,8,8,8,8,8,8,8,8,8,8,8,8,8,8,8,8,8,8,8,8,8,8,8,8,8,8,8,8,8,8,8,8,8,8,8,8,8,8,8,8,8,8,8,8,8,8,8,8,8,8,8,8,8,8,8,8,8,8,8,8,8,8,8,8,8,8,8,8,8,8,8,8,8,8,8,8,8,8,8,8,8,8,8,8,8,8,8,8,8,8,8,8,8,8,8,8,8,8,8,8,8,8,8,8,8,8,8,8,8,8,8,8,8,8,8,8,8]:List UInt8)
theorem aee:(List.range 256).all (fun y=>match FB[y]? with|some b=>decide (b.toNat≤8)&&(Nat.beq y 0||(decide (1≤b.toNat)&&decide (2^(b.toNat-1)≤y)))|none=>false)=true:=by decide+kernel
theorem SH {y:Nat} (h:y<256): ∃b,FB[y]? =some b∧b.toNat≤8∧(0<y→1≤b.toNat∧2^(b.toNat-1)≤y):=by
 have:=fc.1 aee y (List.mem_range.2 h)
 cases hb:FB[y]? with
 | none=>rw[hb] at this;cases this
 | some b=>
  rw[hb] at this
  simp only[aK,Bool.or_eq_true,dH] at this
  refine ⟨b,rfl,this.1,fun hy=> ?_⟩
  rcases this.2 with U|U
  ·have:=yn U;omega
  ·exact U
theorem K2 {y t k:Nat} (h:2^(t-1)≤y/2^k) (ht:1≤t):2^(t+k-1)≤y:=by
 have e:t+k-1=(t-1)+k:=by omega
 rw[e,Nat.pow_add]
 exact lN (dr _ h) (Nat.div_mul_le_self _ _)
noncomputable def xU (y n:Int):Option (List V):=
(bif decide ((y:Int)≥256) then
    (bif decide (0≤(IntKind.wrap .u8 (Int.fdiv y (2^(min (8:Int).toNat (IntKind.bits .u64)))))) then (([0,1,2,2,3,3,3,3,4,4,4,4,4,4,4,4,5,5,5,5,5,5,5,5,5,5,5,5,5,5,5,5,6,6,6,6,6,6,6,6,6,6,6,6,6,6,6,6,6,6,6,6,6,6,6,6,6,6,6,6,6,6,6,6,7,7,7,7,7,7,7,7,7,7,7,7,7,7,7,7,7,7,7,7,7,7,7,7,7,7,7,7,7,7,7,7,7,7,7,7,7,7,7,7,7,7,7,7,7,7,7,7,7,7,7,7,7,7,7,7,7,7,7,7,7,7,7,7,8,8,8,8,8,8,8,8,8,8,8,8,8,8,8,8,8,8,8,8,8,8,8,8,8,8,8,8,8,8,8,8,8,8,8,8,8,8,8,8,8,8,8,8,8,8,8,8,8,8,8,8,8,8,8,8,8,8,8,8,8,8,8,8,8,8,8,8,8,8,8,8,8,8,8,8,8,8,8,8,8,8,8,8,8,8,8,8,8,8,8,8,8,8,8,8,8,8,8,8,8,8,8,8,8,8,8,8,8,8,8,8,8,8,8,8,8,8,8,8,8,8,8,8,8,8,8,8]:List UInt8)[(IntKind.wrap .u8 (Int.fdiv y (2^(min (8:Int).toNat (IntKind.bits .u64)))):Int).toNat]?).map fun b=>V.int .u8 b.toNat else none).bind fun x5=>
    some [V.int .i64 (IntKind.wrap .i64 ((IntKind.wrap .i64 (n+8))+(IntKind.wrap .i64 x5.toInt)))]
   else
    (bif decide (0≤(IntKind.wrap .u8 y)) then (([0,1,2,2,3,3,3,3,4,4,4,4,4,4,4,4,5,5,5,5,5,5,5,5,5,5,5,5,5,5,5,5,6,6,6,6,6,6,6,6,6,6,6,6,6,6,6,6,6,6,6,6,6,6,6,6,6,6,6,6,6,6,6,6,7,7,7,7,7,7,7,7,7,7,7,7,7,7,7,7,7,7,7,7,7,7,7,7,7,7,7,7,7,7,7,7,7,7,7,7,7,7,7,7,7,7,7,7,7,7,7,7,7,7,7,7,7,7,7,7,7,7,7,7,7,7,7,7,8,8,8,8,8,8,8,8,8,8,8,8,8,8,8,8,8,8,8,8,8,8,8,8,8,8,8,8,8,8,8,8,8,8,8,8,8,8,8,8,8,8,8,8,8,8,8,8,8,8,8,8,8,8,8,8,8,8,8,8,8,8,8,8,8,8,8,8,8,8,8,8,8,8,8,8,8,8,8,8,8,8,8,8,8,8,8,8,8,8,8,8,8,8,8,8,8,8,8,8,8,8,8,8,8,8,8,8,8,8,8,8,8,8,8,8,8,8,8,8,8,8,8,8,8,8,8,8]:List UInt8)[(IntKind.wrap .u8 y:Int).toNat]?).map fun b=>V.int .u8 b.toNat else none).bind fun x6=>
    some [V.int .i64 (IntKind.wrap .i64 (n+(IntKind.wrap .i64 x6.toInt)))])
theorem aef {x:Nat} (h:x<2^64): ∃L:Nat,CC EE [.int .u64 (x:Int)]=some [.int .i64 (L:Int)]∧L≤64∧(0<x→1≤L∧2^(L-1)≤x):=by
 have last: ∀y n:Nat,y<65536→n≤48→∃t:Nat,
   xU (y:Int) (n:Int)=some [V.int .i64 ((n+t:Nat):Int)]∧t≤16∧(0<y→1≤t∧2^(t-1)≤y):=by
  intro y n hy hn
  unfold xU
  rw[show ([0,1,2,2,3,3,3,3,4,4,4,4,4,4,4,4,5,5,5,5,5,5,5,5,5,5,5,5,5,5,5,5,6,6,6,6,6,6,6,6,6,6,6,6,6,6,6,6,6,6,6,6,6,6,6,6,6,6,6,6,6,6,6,6,7,7,7,7,7,7,7,7,7,7,7,7,7,7,7,7,7,7,7,7,7,7,7,7,7,7,7,7,7,7,7,7,7,7,7,7,7,7,7,7,7,7,7,7,7,7,7,7,7,7,7,7,7,7,7,7,7,7,7,7,7,7,7,7,8,8,8,8,8,8,8,8,8,8,8,8,8,8,8,8,8,8,8,8,8,8,8,8,8,8,8,8,8,8,8,8,8,8,8,8,8,8,8,8,8,8,8,8,8,8,8,8,8,8,8,8,8,8,8,8,8,8,8,8,8,8,8,8,8,8,8,8,8,8,8,8,8,8,8,8,8,8,8,8,8,8,8,8,8,8,8,8,8,8,8,8,8,8,8,8,8,8,8,8,8,8,8,8,8,8,8,8,8,8,8,8,8,8,8,8,8,8,8,8,8,8,8,8,8,8,8,8]:List UInt8)=FB from rfl]
  by_cases h1:y≥256
  ·have e:Int.fdiv (y:Int) (2^(min (8:Int).toNat (IntKind.bits .u64)))=((y/2^8:Nat):Int):=Ke (m:=8) (by omega)
   obtain ⟨b,hb,b1,b2⟩:=SH (y:=y/2^8) (by omega)
   refine ⟨b.toNat+8,?_,by omega,fun _=> ?_⟩
   ·rw[e,aA,aj (by omega),zV (by omega) (by omega),aA,aj (by omega),Int.toNat_natCast,hb]
    simp only[Option.map_some,Option.bind_some,V.toInt_int]
    simp (disch:=omega) only[wrap64]
    congr 3
    omega
   ·obtain ⟨b3,b4⟩:=b2 (by omega)
    exact ⟨by omega,K2 b4 b3⟩
  ·obtain ⟨b,hb,b1,b2⟩:=SH (y:=y) (by omega)
   refine ⟨b.toNat,?_,by omega,b2⟩
   rw[aA,ah (by omega),zV (by omega) (by omega),aA,aj (by omega),Int.toNat_natCast,hb]
   simp (disch:=omega) only[Option.map_some,Option.bind_some,V.toInt_int,wrap64]
   congr 3
 have mid: ∀y n:Nat,y<4294967296→n≤32→∃t:Nat,∀F:Int→Int→Option (List V),
   (∀y n:Nat,y<65536→n≤48→∃t:Nat,F (y:Int) (n:Int)=some [V.int .i64 ((n+t:Nat):Int)]∧t≤16∧(0<y→1≤t∧2^(t-1)≤y))→
   ∃t:Nat,uR CC (y:Int) (n:Int) (decide (((y:Int):Int)≥65536)) (un F)=some [V.int .i64 ((n+t:Nat):Int)]∧t≤32∧(0<y→1≤t∧2^(t-1)≤y):=by
  intro y n hy hn
  refine ⟨0,fun F hF=> ?_⟩
  unfold uR
  by_cases h1:y≥65536
  ·have e:Int.fdiv (y:Int) (2^(min (16:Int).toNat (IntKind.bits .u64)))=((y/2^16:Nat):Int):=Ke (m:=16) (by omega)
   rw[aA,aj (by omega),e,wrap64 (by omega) (by omega)]
   obtain ⟨t,U,h3,h4⟩:=hF (y/2^16) (n+16) (by omega) (by omega)
   refine ⟨t+16,?_,by omega,fun _=> ?_⟩
   ·rw[show ((n:Int)+16)=((n+16:Nat):Int) by omega]
    simp only[un]
    rw[U]
    congr 3
    omega
   ·obtain ⟨b3,b4⟩:=h4 (by omega)
    exact ⟨by omega,K2 b4 b3⟩
  ·rw[aA,ah (by omega)]
   obtain ⟨t,U,h3,h4⟩:=hF y n (by omega) (by omega)
   exact ⟨t,U,by omega,h4⟩
 by_cases h1:x≥4294967296
 ·have e:Int.fdiv (x:Int) (2^(min (32:Int).toNat (IntKind.bits .u64)))=((x/2^32:Nat):Int):=Ke (m:=32) (by omega)
  obtain ⟨_,hm⟩:=mid (x/2^32) 32 (by omega) (by omega)
  obtain ⟨t,U,h3,h4⟩:=hm xU last
  refine ⟨32+t,Sz ?_,by omega,fun _=> ?_⟩
  ·show uQ CC (x:Int) 0 (decide (((x:Int):Int)≥4294967296)) (un fun (sB:Int) (Bh:Int)=>uR CC sB Bh (decide ((sB:Int)≥65536)) (un xU))=_
   unfold uQ
   rw[aA,aj (by omega),e]
   exact U
  ·obtain ⟨b3,b4⟩:=h4 (by omega)
   rw[Nat.add_comm 32 t]
   exact ⟨by omega,K2 b4 b3⟩
 ·obtain ⟨_,hm⟩:=mid x 0 (by omega) (by omega)
  obtain ⟨t,U,h3,h4⟩:=hm xU last
  refine ⟨t,Sz ?_,by omega,h4⟩
  show uQ CC (x:Int) 0 (decide (((x:Int):Int)≥4294967296)) (un fun (sB:Int) (Bh:Int)=>uR CC sB Bh (decide ((sB:Int)≥65536)) (un xU))=_
  unfold uQ
  rw[aA,ah (by omega)]
  rw[ga] at U
  exact U
theorem SI {x:Nat} (h:x<2^64): ∃L:Nat,CC Aa [.int .u64 (x:Int)]=some [.int .i64 (L:Int)]∧L≤64∧(0<x→1≤L∧2^(L-1)≤x):=by
 obtain ⟨L,h1,U⟩:=aef h
 refine ⟨L,ad0 ?_,U⟩
 unfold Su
 rw[h1]
 rfl
theorem aeg {x:Nat} (h0:0<x) (h:x<1152921504606846976): ∃M:Nat,CC EF [.int .i64 (x:Int)]=some [.int .u64 (M:Int)]∧1≤M∧M≤2*x:=by
 obtain ⟨L,h1,U,h3⟩:=SI (x:=x) (by omega)
 obtain ⟨h4,h5⟩:=h3 h0
 have e:2^L=2*2^(L-1):=by
  obtain ⟨k,rfl⟩: ∃k,L=k+1:=⟨L-1,by omega⟩
  rw[Nat.pow_succ];simp only[ve];omega
 have hL:L<64:=by
  by_cases hx:L<64
  ·exact hx
  ·have:2^63≤2^(L-1):=Nat.pow_le_pow_right (by omega) (by omega)
   omega
 refine ⟨2^L,adZ ?_,Nat.pos_of_ne_zero (by simp),by omega⟩
 unfold Ss
 rw[Ar (A:=x) (by omega),h1]
 simp only[Option.bind_some,V.aQ,V.toInt_int]
 rw[aA,aj (by omega),Int.toNat_natCast,Zs hL]
theorem aeh (r:Int): ∃R:Nat,CC EG [.int .u64 r]=some [.int .u64 (R:Int),.int .u64 (R:Int)]∧R<2^64:=by
 have h: ∀n:Int,∃R:Nat,IntKind.wrap .u64 n=(R:Int)∧R<2^64:=fun n=>⟨(IntKind.wrap .u64 n).toNat,by rw[wrap_u64];omega,by rw[wrap_u64];omega⟩
 obtain ⟨R,h1,U⟩:=h _
 exact ⟨R,adY (by unfold Sr;rw[h1]),U⟩
theorem FC {d:Array XE} {i:Nat} (h:i<d.size):idx (eA d) (i:Int)=some (d[i]!).enc:=by rw[Pk,fI h]
theorem K3 {d:Array XE} {a b:Nat} {s:Int} (ha:a<d.size) (hb:b<d.size): ∃(x y:Nat) (s':Int),CC wY [.list aa (eA d),.int .i64 (a:Int),.int .i64 (b:Int),.int .i64 s]=some [.int .i64 (x:Int),.int .i64 (y:Int),.int .i64 s']∧(x=a∧y=b∨x=b∧y=a):=by
 by_cases h:bO d[b]! d[a]! <0
 ·refine ⟨b,a,_,Sm (by unfold K0;rw[FC hb,FC ha];simp only[Option.bind_some,XE.bh,XE.bj,XE.bm,gr,V.aQ,V.toInt_int];rw[aA,aj h]),.inr ⟨rfl,rfl⟩⟩
 ·refine ⟨a,b,_,Sm (by unfold K0;rw[FC hb,FC ha];simp only[Option.bind_some,XE.bh,XE.bj,XE.bm,gr,V.aQ,V.toInt_int];rw[aA,ah h]),.inl ⟨rfl,rfl⟩⟩
theorem K4 {d:Array XE} {a b c:Nat} {s:Int} (ha:a<d.size) (hb:b<d.size) (hc:c<d.size): ∃(m:Nat) (s':Int),CC Af [.list aa (eA d),.int .i64 (a:Int),.int .i64 (b:Int),.int .i64 (c:Int),.int .i64 s]=some [.int .i64 (m:Int),.int .i64 s']∧(m=a∨m=b∨m=c):=by
 obtain ⟨x1,y1,s1,e1,o1⟩:=K3 (s:=s) ha hb
 obtain ⟨x2,y2,s2,e2,o2⟩:=K3 (d:=d) (a:=y1) (b:=c) (s:=s1) (by omega) hc
 obtain ⟨x3,y3,s3,e3,o3⟩:=K3 (d:=d) (a:=x1) (b:=x2) (s:=s2) (by omega) (by omega)
 refine ⟨y3,s3,adT ?_,by omega⟩
 unfold Sl
 rw[e1]
 simp only[Option.bind_some,V.aQ,V.qC,V.toInt_int,kq,iT]
 rw[e2]
 simp only[Option.bind_some,V.aQ,V.qC,V.toInt_int,kq,iT]
 rw[e3]
 rfl
theorem K5 {d:Array XE} {a:Nat} {s:Int} (h1:1≤a) (ha:a+1<d.size) (hs:d.size<1152921504606846976): ∃(m:Nat) (s':Int),CC wX [.list aa (eA d),.int .i64 (a:Int),.int .i64 s]=some [.int .i64 (m:Int),.int .i64 s']∧a≤m+1∧m≤a+1:=by
 obtain ⟨m,s',e,o⟩:=K4 (d:=d) (a:=a-1) (b:=a) (c:=a+1) (s:=s) (by omega) (by omega) (by omega)
 refine ⟨m,s',adU ?_,by omega,by omega⟩
 unfold Sn
 simp (disch:=omega) only[kg,dD,wrap64]
 rw[e]
 rfl
theorem K6 (n:Nat):Int.tdiv (n:Int) 4=((n/4:Nat):Int):=by
 have:=divC n 4
 exact this
theorem mulC (k n:Nat):((k:Nat):Int)*(n:Int)=((k*n:Nat):Int):=(Int.natCast_mul k n).symm
theorem aei {d:Array XE} {a b:Nat} (eZ:a+12<b) (hb:b≤d.size) (hs:d.size<1152921504606846976): ∃(p:Nat) (h:Int),CC Ad [.list aa (eA d),.int .i64 (a:Int),.int .i64 (b:Int)]=some [.int .i64 (p:Int),.int .i64 h]∧a≤p∧p<b:=by
 have fin: ∀(p:Nat) (s:Int),∃h:Int,(bif (s:Int)==0 then some [V.int .i64 (p:Int),V.int .i64 1] else bif (s:Int)==12 then some [V.int .i64 (p:Int),V.int .i64 2] else some [V.int .i64 (p:Int),V.int .i64 0])=some [V.int .i64 (p:Int),V.int .i64 h]:=by
  intro p s
  rw[eL]
  split
  ·exact ⟨1,rfl⟩
  ·rw[eL]
   split
   ·exact ⟨2,rfl⟩
   ·exact ⟨0,rfl⟩
 have e1:IntKind.wrap .i64 ((b:Int)-(a:Int))=((b-a:Nat):Int):=by rw[mz (by omega),wrap64 (by omega) (by omega)]
 have e2:IntKind.wrap .i64 (Int.tdiv ((b-a:Nat):Int) 4)=(((b-a)/4:Nat):Int):=by rw[K6,wrap64 (by omega) (by omega)]
 have e3: ∀k:Nat,k≤3→IntKind.wrap .i64 ((a:Int)+IntKind.wrap .i64 ((k:Int)*(((b-a)/4:Nat):Int)))=((a+k*((b-a)/4):Nat):Int):=by
  intro k hk
  have mh:k*((b-a)/4)≤3*((b-a)/4):=dr _ hk
  simp (disch:=omega) only[mulC,wrap64,fJ]
 have K7:=e3 1 (by omega)
 have sC:=e3 2 (by omega)
 have K8:=e3 3 (by omega)
 rw[show ((1:Nat):Int)=1 from rfl] at K7
 rw[show ((2:Nat):Int)=2 from rfl] at sC
 rw[show ((3:Nat):Int)=3 from rfl] at K8
 by_cases h50:b-a≥50
 ·obtain ⟨m1,s1,q1,r1⟩:=K5 (d:=d) (a:=a+1*((b-a)/4)) (s:=0) (by omega) (by omega) hs
  obtain ⟨m2,s2,q2,r2⟩:=K5 (d:=d) (a:=a+2*((b-a)/4)) (s:=s1) (by omega) (by omega) hs
  obtain ⟨m3,s3,q3,r3⟩:=K5 (d:=d) (a:=a+3*((b-a)/4)) (s:=s2) (by omega) (by omega) hs
  obtain ⟨m,s,q,r⟩:=K4 (d:=d) (a:=m1) (b:=m2) (c:=m3) (s:=s3) (by omega) (by omega) (by omega)
  obtain ⟨h,hf⟩:=fin m s
  refine ⟨m,h,Sk ?_,by omega,by omega⟩
  unfold KY Be Bd
  rw[e1,e2,K7,sC,K8,nu (by omega),cond_true,nu (by omega),cond_true,q1]
  simp only[Option.bind_some,V.aQ,V.qC,V.toInt_int,kq,iT]
  rw[q2]
  simp only[Option.bind_some,V.aQ,V.qC,V.toInt_int,kq,iT]
  rw[q3]
  simp only[Option.bind_some,V.aQ,V.qC,V.toInt_int,kq,iT,un]
  rw[q]
  exact hf
 ·obtain ⟨m,s,q,r⟩:=K4 (d:=d) (a:=a+1*((b-a)/4)) (b:=a+2*((b-a)/4)) (c:=a+3*((b-a)/4)) (s:=0) (by omega) (by omega) (by omega)
  obtain ⟨h,hf⟩:=fin m s
  refine ⟨m,h,Sk ?_,by omega,by omega⟩
  unfold KY Be Bd
  rw[e1,e2,K7,sC,K8,nu (by omega),cond_true,sn (by omega),cond_false]
  simp only[un]
  rw[q]
  exact hf
theorem aej {a b M:Nat} (hM1:1≤M) (hM:M≤2*(b-a)) (h8:8≤b-a) (hB:b<1152921504606846976): ∀(n i:Nat) (d:Array XE) (r:Int),a+2*((b-a)/4)+2-i=n→a≤i→b≤d.size→d.size<1152921504606846976→
  ∃x y z R,Loop (Fy CC a (b-a:Nat) M) ((i:Int),eA d,r)=some (x,y,eA R,z)∧PermIn a b d R:=by
 have e2:IntKind.wrap .i64 (Int.tdiv ((b-a:Nat):Int) 4)=(((b-a)/4:Nat):Int):=by rw[K6,wrap64 (by omega) (by omega)]
 have sC:IntKind.wrap .i64 ((a:Int)+IntKind.wrap .i64 (2*(((b-a)/4:Nat):Int)))=((a+2*((b-a)/4):Nat):Int):=by
  have:=mulC 2 ((b-a)/4)
  rw[show ((2:Nat):Int)=2 from rfl] at this
  rw[this]
  simp (disch:=omega) only[wrap64,fJ]
 intro n
 induction n with
 | zero=>
  intro i d r hn hi hb hs
  refine ⟨(i:Int),false,r,d,bc ?_,permIn_refl _ _ _⟩
  simp only[Fy,Bg,un]
  rw[e2,sC,dD,wrap64 (by omega) (by omega),sn (by omega),cond_false]
 | succ n ih=>
  intro i d r hn hi hb hs
  obtain ⟨R1,q1,q2⟩:=aeh r
  obtain ⟨o,ho,lg⟩: ∃o:Nat,(o=if R1&&&(M-1)≥b-a then (R1&&&(M-1))-(b-a) else R1&&&(M-1))∧o<b-a:=by
   refine ⟨_,rfl,?_⟩
   have:R1&&&(M-1)≤M-1:=Nat.and_le_right
   split<;>omega
  have hand:R1&&&(M-1)≤M-1:=Nat.and_le_right
  have hP:=swp_permIn (α:=XE) d a b i (a+o) hi (by omega) (by omega) (by omega) hb
  obtain ⟨x,y,z,R,e,hR⟩:=ih (i+1) (swp d i (a+o)) (R1:Int) (by omega) (by omega) (by rw[size_swp];exact hb) (by rw[size_swp];exact hs)
  refine ⟨x,y,z,R,(bV ?_).trans e,permIn_trans _ _ _ a b hP hR⟩
  simp only[Fy,Bg,un]
  rw[e2,sC,dD,wrap64 (x:=((a+2*((b-a)/4)+1:Nat):Int)) (by omega) (by omega),nu (by omega),cond_true,q1]
  simp only[Option.bind_some,V.aQ,V.qC,V.toInt_int,kq,iT]
  have e5:IntKind.wrap .u64 ((M:Int)-1)=((M-1:Nat):Int):=by rw[kg hM1,Ar (by omega)]
  rw[e5,u64_and q2 (by omega),wrap64 (x:=((R1&&&(M-1):Nat):Int)) (by omega) (by omega)]
  have fin: ∀k:Int,k=(o:Int)→(bif (decide (0≤(IntKind.wrap .i64 ((a:Int)+k))))&&(decide ((IntKind.wrap .i64 ((a:Int)+k))<((eA d).length:Int))) then
   ((eA d)[(IntKind.wrap .i64 ((a:Int)+k):Int).toNat]?).bind fun x4=>
   bif (decide (0≤(i:Int)))&&(decide ((i:Int)<((eA d).length:Int))) then
    ((eA d)[((i:Int):Int).toNat]?).bind fun x5=>
    bif (decide (0≤(i:Int)))&&(decide ((i:Int)<((eA d).length:Int))) then
    ((eA d)[((i:Int):Int).toNat]?).bind fun x6=>
    bif (decide (0≤(IntKind.wrap .i64 ((a:Int)+k))))&&(decide ((IntKind.wrap .i64 ((a:Int)+k))<(((eA d).set (((i:Int):Int).toNat) (.agg [.int .i64 ((x4.cell 0).toInt),.int .i64 ((x4.cell 1).toInt),.list aa ((x4.cell 2).toList)])).length:Int))) then
     (((eA d).set (((i:Int):Int).toNat) (.agg [.int .i64 ((x4.cell 0).toInt),.int .i64 ((x4.cell 1).toInt),.list aa ((x4.cell 2).toList)]))[(IntKind.wrap .i64 ((a:Int)+k):Int).toNat]?).bind fun x7=>
     some (.inl (IntKind.wrap .i64 ((i:Int)+1),((eA d).set (((i:Int):Int).toNat) (.agg [.int .i64 ((x4.cell 0).toInt),.int .i64 ((x4.cell 1).toInt),.list aa ((x4.cell 2).toList)])).set ((IntKind.wrap .i64 ((a:Int)+k):Int).toNat) (.agg [.int .i64 ((x5.cell 0).toInt),.int .i64 ((x5.cell 1).toInt),.list aa ((x5.cell 2).toList)]),(R1:Int)))
    else none
    else none
   else none
   else none:Option ((Int × List V × Int) ⊕ (Int × Bool × List V × Int)))=some (.inl (((i+1:Nat):Int),eA (swp d i (a+o)),(R1:Int))):=by
   intro k hk
   subst hk
   simp (disch:=omega) only[aA,dq,hY,aj,ah,wrap64,dD,fJ,Int.toNat_natCast,Option.bind_some,fG,fI,XE.bh,XE.bj,XE.bm,XE.re,fH,ic,gC,gr,V.aQ,V.toInt_int,cond_true,cond_false]
   rfl
  unfold Fx
  by_cases h:R1&&&(M-1)≥b-a
  ·rw[aj h] at ho
   rw[nu (by omega),cond_true]
   exact fin _ (by rw[mz (by omega),wrap64 (by omega) (by omega)];omega)
  ·rw[ah h] at ho
   rw[sn (by omega),cond_false]
   exact fin _ (by omega)
theorem aek {a b:Nat} {d:Array XE} (eZ:a+12<b) (hb:b≤d.size) (hs:d.size<1152921504606846976): ∃R,CC EB [.int .i64 (a:Int),.int .i64 (b:Int),.list aa (eA d)]=some [.list aa (eA R)]∧PermIn a b d R:=by
 obtain ⟨M,q1,q2,q3⟩:=aeg (x:=b-a) (by omega) (by omega)
 have e1:IntKind.wrap .i64 ((b:Int)-(a:Int))=((b-a:Nat):Int):=by rw[mz (by omega),wrap64 (by omega) (by omega)]
 have e2:IntKind.wrap .i64 (Int.tdiv ((b-a:Nat):Int) 4)=(((b-a)/4:Nat):Int):=by rw[K6,wrap64 (by omega) (by omega)]
 have sC:IntKind.wrap .i64 ((a:Int)+IntKind.wrap .i64 (2*(((b-a)/4:Nat):Int)))=((a+2*((b-a)/4):Nat):Int):=by
  have:=mulC 2 ((b-a)/4)
  rw[show ((2:Nat):Int)=2 from rfl] at this
  rw[this]
  simp (disch:=omega) only[wrap64,fJ]
 obtain ⟨x,y,z,R,e,hR⟩:=aej (a:=a) (b:=b) (M:=M) q2 q3 (by omega) (by omega) _ (a+2*((b-a)/4)-1) d (IntKind.wrap .u64 ((b-a:Nat):Int)) rfl (by omega) hb hs
 refine ⟨R,adX ?_,hR⟩
 unfold Sq
 rw[e1,aA,aj (by omega),q1]
 simp only[Option.bind_some,V.aQ,V.toInt_int]
 rw[e2,sC,kg (by omega),wrap64 (x:=((a+2*((b-a)/4)-1:Nat):Int)) (by omega) (by omega),e]
 rfl
noncomputable def sD (C:ag) (a b':Int) (eD eT:Bool) (cF dE:Int) (mA:List V) {β:Type} (kn:(Int × Int × Int × Bool × Bool × (List V))→Option β):Option β:=
      bif decide ((a:Int)>0) then
       bif (decide (0≤(IntKind.wrap .i64 (a-1))))&&(decide ((IntKind.wrap .i64 (a-1))<(mA.length:Int))) then
       (mA[(IntKind.wrap .i64 (a-1):Int).toNat]?).bind fun iP=>
       bif (decide (0≤dE))&&(decide (dE<(mA.length:Int))) then
        (mA[(dE:Int).toNat]?).bind fun nz=>
        (C ba [.int .i64 ((iP.cell 0).toInt),.int .i64 ((iP.cell 1).toInt),.list aa ((iP.cell 2).toList),.int .i64 ((nz.cell 0).toInt),.int .i64 ((nz.cell 1).toInt),.list aa ((nz.cell 2).toList)]).bind fun lF=>
        bif !(decide ((((V.nth lF 0).toInt):Int)<0)) then
        (C ug [.int .i64 a,.int .i64 b',.int .i64 dE,.list aa mA]).bind fun fa=>
        kn ((V.nth fa 0).toInt,b',cF,eD,eT,(V.nth (fa.drop 1) 0).toList)
        else
        (C nn [.int .i64 a,.int .i64 b',.int .i64 dE,.list aa mA]).bind fun dG=>
        bif decide (((IntKind.wrap .i64 (((V.nth dG 0).toInt)-a)):Int)<(IntKind.wrap .i64 (b'-((V.nth dG 0).toInt)))) then
         (C gm [.int .i64 a,.int .i64 ((V.nth dG 0).toInt),.int .i64 cF,.list aa ((V.nth (dG.drop 2) 0).toList)]).bind fun jI=>
         kn (IntKind.wrap .i64 (((V.nth dG 0).toInt)+1),b',cF,decide (((IntKind.wrap .i64 (((V.nth dG 0).toInt)-a)):Int)≥(IntKind.wrap .i64 (Int.tdiv (IntKind.wrap .i64 (b'-a)) 8))),(V.nth (dG.drop 1) 0).toBool,(V.nth jI 0).toList)
        else
         (C gm [.int .i64 (IntKind.wrap .i64 (((V.nth dG 0).toInt)+1)),.int .i64 b',.int .i64 cF,.list aa ((V.nth (dG.drop 2) 0).toList)]).bind fun et=>
         kn (a,(V.nth dG 0).toInt,cF,decide (((IntKind.wrap .i64 (b'-((V.nth dG 0).toInt))):Int)≥(IntKind.wrap .i64 (Int.tdiv (IntKind.wrap .i64 (b'-a)) 8))),(V.nth (dG.drop 1) 0).toBool,(V.nth et 0).toList)
       else none
       else none
      else
       (C nn [.int .i64 a,.int .i64 b',.int .i64 dE,.list aa mA]).bind fun jm=>
       bif decide (((IntKind.wrap .i64 (((V.nth jm 0).toInt)-a)):Int)<(IntKind.wrap .i64 (b'-((V.nth jm 0).toInt)))) then
       (C gm [.int .i64 a,.int .i64 ((V.nth jm 0).toInt),.int .i64 cF,.list aa ((V.nth (jm.drop 2) 0).toList)]).bind fun oI=>
       kn (IntKind.wrap .i64 (((V.nth jm 0).toInt)+1),b',cF,decide (((IntKind.wrap .i64 (((V.nth jm 0).toInt)-a)):Int)≥(IntKind.wrap .i64 (Int.tdiv (IntKind.wrap .i64 (b'-a)) 8))),(V.nth (jm.drop 1) 0).toBool,(V.nth oI 0).toList)
       else
       (C gm [.int .i64 (IntKind.wrap .i64 (((V.nth jm 0).toInt)+1)),.int .i64 b',.int .i64 cF,.list aa ((V.nth (jm.drop 2) 0).toList)]).bind fun kh=>
       kn (a,(V.nth jm 0).toInt,cF,decide (((IntKind.wrap .i64 (b'-((V.nth jm 0).toInt))):Int)≥(IntKind.wrap .i64 (Int.tdiv (IntKind.wrap .i64 (b'-a)) 8))),(V.nth (jm.drop 1) 0).toBool,(V.nth kh 0).toList)
theorem FD (C:ag) (a b' jl:Int) (eD eT:Bool) (ak:List V) {β:Type} (kn:(Int × Int × Int × Bool × Bool × (List V))→Option β) (kr:(List V)→Option β):
  pC C a b' jl eD eT ak kn kr=
 bif decide (((IntKind.wrap .i64 (b'-a)):Int)≤12) then
  (C Ab [.int .i64 a,.int .i64 b',.list aa ak]).bind fun r1=>
  kr ((V.nth r1 0).toList)
 else
  bif (jl:Int)==0 then
  (C Ac [.int .i64 a,.int .i64 b',.list aa ak]).bind fun r2=>
  kr ((V.nth r2 0).toList)
  else
  xR C a b' jl eD eT (IntKind.wrap .i64 (b'-a)) (!eD) ak (un fun (cF:Int) (Bj:List V)=>
   (C Ad [.list aa Bj,.int .i64 a,.int .i64 b']).bind fun r6=>
   xS C a b' cF eD eT (IntKind.wrap .i64 (b'-a)) ((V.nth r6 0).toInt) ((V.nth (r6.drop 1) 0).toInt) ((((V.nth (r6.drop 1) 0).toInt):Int)==2) Bj (un fun (dE:Int)=>un fun (K1:Int) (oF:List V)=>
    bif eD then
     bif eT then
     mC C a b' cF eD eT (IntKind.wrap .i64 (b'-a)) dE ((K1:Int)==1) oF (bR (un fun (Qk:Bool) (K9:List V)=>
      kr K9) (fun (mA:List V)=>sD C a b' eD eT cF dE mA kn))
     else
     mC C a b' cF eD eT (IntKind.wrap .i64 (b'-a)) dE false oF (bR (un fun (Qq:Bool) (ael:List V)=>
      kr ael) (fun (aem:List V)=>sD C a b' eD eT cF dE aem kn))
    else
     mC C a b' cF eD eT (IntKind.wrap .i64 (b'-a)) dE false oF (bR (un fun (ZL:Bool) (aen:List V)=>
      kr aen) (fun (aeo:List V)=>sD C a b' eD eT cF dE aeo kn)))):=rfl
section
variable {a b:Nat} {lim:Int} {wb wp:Bool}
theorem aep {d:Array XE} (eZ:a+12<b) (hb:b≤d.size) (hs:d.size<1152921504606846976) (len:Int) (t:Bool): ∃(l1:Int) (d1:Array XE),PermIn a b d d1∧∀(β:Type) (kr:(Int × List V)→Option β),xR CC a b lim wb wp len t (eA d) kr=kr (l1,eA d1):=by
 cases t with
 | true=>
  obtain ⟨R,e,hR⟩:=aek eZ hb hs
  refine ⟨IntKind.wrap .i64 (lim-1),R,hR,fun β kr=> ?_⟩
  unfold xR
  rw[cond_true,e]
  rfl
 | false=>exact ⟨lim,d,permIn_refl _ _ _,fun β kr=>rfl⟩
theorem aeq {d:Array XE} (eZ:a+12<b) (hb:b≤d.size) (hs:d.size<1152921504606846976) (len h:Int) (t:Bool) {p:Nat} (h1:a≤p) (U:p<b): ∃(p2:Nat) (U:Int) (d1:Array XE),a≤p2∧p2<b∧PermIn a b d d1∧∀(β:Type) (kr:(Int × Int × List V)→Option β),xS CC a b lim wb wp len p h t (eA d) kr=kr ((p2:Int),U,eA d1):=by
 cases t with
 | true=>
  refine ⟨b-1-(p-a),1,reverseRange d a b,by omega,by omega,reverseRange_holds d a b (by omega) hb,fun β kr=> ?_⟩
  unfold xS
  rw[cond_true,adh (by omega) hb hs]
  simp (disch:=omega) only[Option.bind_some,V.aQ,V.lz,kg,mz,wrap64]
 | false=>exact ⟨p,h,d,h1,U,permIn_refl _ _ _,fun β kr=>rfl⟩
theorem aer {d:Array XE} (eZ:a+12<b) (hb:b≤d.size) (hs:d.size<1152921504606846976) (hB:Below ay a b d) (len p:Int) (t:Bool): ∃d1:Array XE,PermIn a b d d1∧
  ((∀(β:Type) (kr:((Bool × List V) ⊕ List V)→Option β),mC CC a b lim wb wp len p t (eA d) kr=kr (.inr (eA d1)))∨
  (SortedIn ay a b d1∧∀(β:Type) (kr:((Bool × List V) ⊕ List V)→Option β),mC CC a b lim wb wp len p t (eA d) kr=kr (.inl (true,eA d1)))):=by
 cases t with
 | true=>
  have hp:=partialInsertionSort_holds (lt:=ay) xT d a b (by omega) hb hB
  refine ⟨_,hp.1,?_⟩
  cases h:(partialInsertionSort ay d a b).2 with
  | true=>
   refine .inr ⟨hp.2 h,fun β kr=> ?_⟩
   unfold mC
   rw[cond_true,Sg (by omega) hb hs,h]
   rfl
  | false=>
   refine .inl fun β kr=> ?_
   unfold mC
   rw[cond_true,Sg (by omega) hb hs,h]
   rfl
 | false=>exact ⟨d,permIn_refl _ _ _,.inl fun β kr=>rfl⟩
end
def FE (a b:Nat) (d:Array XE):Prop:= ∀(lim:Int) (wb wp:Bool),∃R,Loop (SC CC) ((a:Int),(b:Int),lim,wb,wp,eA d)=some (eA R)∧PermIn a b d R∧SortedIn ay a b R
theorem FE.call {a b:Nat} {d:Array XE} (h:FE a b d) (lim:Int): ∃R,CC gm [.int .i64 (a:Int),.int .i64 (b:Int),.int .i64 lim,.list aa (eA d)]=some [.list aa (eA R)]∧PermIn a b d R∧SortedIn ay a b R:=by
 obtain ⟨R,e,h1,U⟩:=h lim true true
 refine ⟨R,aeb ?_,h1,U⟩
 unfold SE
 rw[e]
 rfl
theorem aes {a b p:Nat} {d:Array XE} (eZ:a+12<b) (hb:b≤d.size) (hs:d.size<1152921504606846976) (hB:Below ay a b d) (h1:a≤p) (U:p<b)
  (ih: ∀(a2 b2:Nat) (d2:Array XE),b2-a2<b-a→a2≤b2→b2≤d2.size→d2.size<1152921504606846976→Below ay a2 b2 d2→FE a2 b2 d2) (wb wp:Bool) (lim:Int):
  ∃(a2 b2:Nat) (uT uU:Bool) (d2:Array XE),b2-a2<b-a∧a2≤b2∧b2≤d2.size∧d2.size<1152921504606846976∧Below ay a2 b2 d2∧
   (∀R,PermIn a2 b2 d2 R→SortedIn ay a2 b2 R→PermIn a b d R∧SortedIn ay a b R)∧
   ∀(β:Type) (kn:(Int × Int × Int × Bool × Bool × (List V))→Option β),sD CC a b wb wp lim p (eA d) kn=kn ((a2:Int),(b2:Int),lim,uT,uU,eA d2):=by
 have part: ∃(a2 b2:Nat) (uT uU:Bool) (d2:Array XE),b2-a2<b-a∧a2≤b2∧b2≤d2.size∧d2.size<1152921504606846976∧Below ay a2 b2 d2∧
   (∀R,PermIn a2 b2 d2 R→SortedIn ay a2 b2 R→PermIn a b d R∧SortedIn ay a b R)∧
   ∀(β:Type) (kn:(Int × Int × Int × Bool × Bool × (List V))→Option β),
    ((CC nn [.int .i64 (a:Int),.int .i64 (b:Int),.int .i64 (p:Int),.list aa (eA d)]).bind fun dG=>
        bif decide (((IntKind.wrap .i64 (((V.nth dG 0).toInt)-(a:Int))):Int)<(IntKind.wrap .i64 ((b:Int)-((V.nth dG 0).toInt)))) then
         (CC gm [.int .i64 (a:Int),.int .i64 ((V.nth dG 0).toInt),.int .i64 lim,.list aa ((V.nth (dG.drop 2) 0).toList)]).bind fun jI=>
         kn (IntKind.wrap .i64 (((V.nth dG 0).toInt)+1),(b:Int),lim,decide (((IntKind.wrap .i64 (((V.nth dG 0).toInt)-(a:Int))):Int)≥(IntKind.wrap .i64 (Int.tdiv (IntKind.wrap .i64 ((b:Int)-(a:Int))) 8))),(V.nth (dG.drop 1) 0).toBool,(V.nth jI 0).toList)
        else
         (CC gm [.int .i64 (IntKind.wrap .i64 (((V.nth dG 0).toInt)+1)),.int .i64 (b:Int),.int .i64 lim,.list aa ((V.nth (dG.drop 2) 0).toList)]).bind fun et=>
         kn ((a:Int),(V.nth dG 0).toInt,lim,decide (((IntKind.wrap .i64 ((b:Int)-((V.nth dG 0).toInt))):Int)≥(IntKind.wrap .i64 (Int.tdiv (IntKind.wrap .i64 ((b:Int)-(a:Int))) 8))),(V.nth (dG.drop 1) 0).toBool,(V.nth et 0).toList))=kn ((a2:Int),(b2:Int),lim,uT,uU,eA d2):=by
  obtain ⟨mid,ap,d4,hx⟩: ∃mid ap d4,partition ay d a b p=(mid,ap,d4):=⟨_,_,_,rfl⟩
  obtain ⟨g1,g2,oJ,hBa,hBr,aet,aeu⟩:=round_part xT (partition_holds ay) h1 U hb hB hx
  have hc:=adI (a:=a) (b:=b) (pivot:=p) (d:=d) U (by omega) hb hs
  rw[hx] at hc
  by_cases hl:mid-a<b-mid
  ·obtain ⟨L,e,l1,l2⟩:=(ih a mid d4 (by omega) g1 (by rw[oJ];omega) (by rw[oJ];exact hs) hBa).call lim
   obtain ⟨La,pD⟩:=aet _ l1 l2
   refine ⟨mid+1,b,decide (((IntKind.wrap .i64 ((mid:Int)-(a:Int))):Int)≥(IntKind.wrap .i64 (Int.tdiv (IntKind.wrap .i64 ((b:Int)-(a:Int))) 8))),ap,L,by omega,by omega,by rw[l1.1,oJ];exact hb,by rw[l1.1,oJ];exact hs,La,pD,fun β kn=> ?_⟩
   ·rw[hc]
    simp only[Option.bind_some,V.aQ,V.qC,V.toInt_int,V.dA,V.lz,kq,iT]
    rw[aA,aj (by rw[mz g1,mz (by omega),wrap64 (by omega) (by omega),wrap64 (by omega) (by omega)];omega),e]
    simp only[Option.bind_some,V.aQ,V.lz]
    rw[dD,wrap64 (x:=((mid+1:Nat):Int)) (by omega) (by omega)]
  ·obtain ⟨L,e,l1,l2⟩:=(ih (mid+1) b d4 (by omega) (by omega) (by rw[oJ];exact hb) (by rw[oJ];exact hs) hBr).call lim
   obtain ⟨La,pD⟩:=aeu _ l1 l2
   refine ⟨a,mid,decide (((IntKind.wrap .i64 ((b:Int)-(mid:Int))):Int)≥(IntKind.wrap .i64 (Int.tdiv (IntKind.wrap .i64 ((b:Int)-(a:Int))) 8))),ap,L,by omega,by omega,by rw[l1.1,oJ];omega,by rw[l1.1,oJ];exact hs,La,pD,fun β kn=> ?_⟩
   ·rw[hc]
    simp only[Option.bind_some,V.aQ,V.qC,V.toInt_int,V.dA,V.lz,kq,iT]
    rw[aA,ah (by rw[mz g1,mz (by omega),wrap64 (by omega) (by omega),wrap64 (by omega) (by omega)];omega),dD,wrap64 (x:=((mid+1:Nat):Int)) (by omega) (by omega),e]
    simp only[Option.bind_some,V.aQ,V.lz]
 by_cases ha:0<a
 ·by_cases hc:bO d[a-1]! d[p]! <0
  ·obtain ⟨a2,b2,uT,uU,d2,q1,q2,q3,q4,q5,q6,q7⟩:=part
   refine ⟨a2,b2,uT,uU,d2,q1,q2,q3,q4,q5,q6,fun β kn=> ?_⟩
   rw[←q7 β kn]
   unfold sD
   rw[aA,aj (by omega),kg ha,wrap64 (by omega) (by omega),ki (i:=a-1) (by omega),kj (by omega),ki (i:=p) (by omega),kj (by omega)]
   simp only[XE.bh,XE.bj,XE.bm,gr,Option.bind_some,V.aQ,V.toInt_int]
   rw[hY,aA,aj hc]
  ·obtain ⟨mid,d4,hx⟩: ∃mid d4,partitionEqual ay d a b p=(mid,d4):=⟨_,_,rfl⟩
   obtain ⟨g1,G4,oJ,hB4,pD⟩:=round_eq xT (partitionEqual_holds ay) ha h1 U hb hB (by rw[FA,←propext (aed _ _)];exact hc) hx
   have he:=adK (a:=a) (b:=b) (pivot:=p) (d:=d) U (by omega) hb hs
   rw[hx] at he
   refine ⟨mid,b,wb,wp,d4,by omega,G4,by rw[oJ];exact hb,by rw[oJ];exact hs,hB4,pD,fun β kn=> ?_⟩
   unfold sD
   rw[aA,aj (by omega),kg ha,wrap64 (by omega) (by omega),ki (i:=a-1) (by omega),kj (by omega),ki (i:=p) (by omega),kj (by omega)]
   simp only[XE.bh,XE.bj,XE.bm,gr,Option.bind_some,V.aQ,V.toInt_int]
   rw[hY,aA,ah hc,he]
   rfl
 ·obtain ⟨a2,b2,uT,uU,d2,q1,q2,q3,q4,q5,q6,q7⟩:=part
  refine ⟨a2,b2,uT,uU,d2,q1,q2,q3,q4,q5,q6,fun β kn=> ?_⟩
  rw[←q7 β kn]
  unfold sD
  rw[aA,ah (by omega)]
theorem aev: ∀(n a b:Nat) (d:Array XE),b-a≤n→a≤b→b≤d.size→d.size<1152921504606846976→Below ay a b d→FE a b d:=by
 intro n
 induction n with
 | zero=>
  intro a b d hn eZ hb hs hB lim wb wp
  have hi:=insertionSort_holds (lt:=ay) xT d a b eZ hb
  refine ⟨_,bc ?_,hi⟩
  show pC CC a b lim wb wp (eA d) (fun y=>some (Sum.inl y)) (fun r=>some (Sum.inr r))=_
  rw[FD,aA,aj (by rw[mz eZ,wrap64 (by omega) (by omega)];omega),RV hb hs (by omega)]
  rfl
 | succ n ih=>
  intro a b d hn eZ hb hs hB lim wb wp
  by_cases h12:b-a≤12
  ·have hi:=insertionSort_holds (lt:=ay) xT d a b eZ hb
   refine ⟨_,bc ?_,hi⟩
   show pC CC a b lim wb wp (eA d) (fun y=>some (Sum.inl y)) (fun r=>some (Sum.inr r))=_
   rw[FD,aA,aj (by rw[mz eZ,wrap64 (by omega) (by omega)];omega),RV hb hs (by omega)]
   rfl
  ·have Bk:a+12<b:=by omega
   have rZ: ¬(((IntKind.wrap .i64 ((b:Int)-(a:Int))):Int)≤12):=by rw[mz eZ,wrap64 (by omega) (by omega)];omega
   by_cases h0:lim=0
   ·have hi:=heapSort_holds (lt:=ay) xT d a b eZ hb
    refine ⟨_,bc ?_,hi⟩
    show pC CC a b lim wb wp (eA d) (fun y=>some (Sum.inl y)) (fun r=>some (Sum.inr r))=_
    rw[FD,aA,ah rZ,eL,aj h0,adf (by omega) hb hs]
    rfl
   ·obtain ⟨l1,d1,s1,k1⟩:=aep (lim:=lim) (wb:=wb) (wp:=wp) Bk hb hs (IntKind.wrap .i64 ((b:Int)-(a:Int))) (!wb)
    have b1:b≤d1.size:=by rw[s1.1];exact hb
    have z1:d1.size<1152921504606846976:=by rw[s1.1];exact hs
    obtain ⟨p,h,c1,p1,p2⟩:=aei Bk b1 z1
    obtain ⟨q,U,d2,q1,q2,s2,k2⟩:=aeq (lim:=l1) (wb:=wb) (wp:=wp) Bk b1 z1 (IntKind.wrap .i64 ((b:Int)-(a:Int))) h (h==2) p1 p2
    have b2:b≤d2.size:=by rw[s2.1];exact b1
    have z2:d2.size<1152921504606846976:=by rw[s2.1];exact z1
    have B2:Below ay a b d2:=(hB.perm hb s1).perm b1 s2
    obtain ⟨t,ht⟩: ∃t:Bool,t=(bif wb then (bif wp then (U==1) else false) else false):=⟨_,rfl⟩
    obtain ⟨d3,s3,k3⟩:=aer (lim:=l1) (wb:=wb) (wp:=wp) Bk b2 z2 B2 (IntKind.wrap .i64 ((b:Int)-(a:Int))) (q:Int) t
    have b3:b≤d3.size:=by rw[s3.1];exact b2
    have z3:d3.size<1152921504606846976:=by rw[s3.1];exact z2
    have B3:Below ay a b d3:=B2.perm b2 s3
    have P3:PermIn a b d d3:=permIn_trans _ _ _ a b (permIn_trans _ _ _ a b s1 s2) s3
    have step: ∀(β:Type) (kn:(Int × Int × Int × Bool × Bool × (List V))→Option β) (kr:(List V)→Option β),pC CC a b lim wb wp (eA d) kn kr=
      mC CC a b l1 wb wp (IntKind.wrap .i64 ((b:Int)-(a:Int))) (q:Int) t (eA d2) (bR (un fun (Qk:Bool) (K9:List V)=>kr K9) (fun (mA:List V)=>sD CC a b wb wp l1 q mA kn)):=by
     intro β kn kr
     rw[FD,aA,ah rZ,eL,ah h0,k1]
     simp only[un]
     rw[c1]
     simp only[Option.bind_some,V.aQ,V.qC,V.toInt_int,kq,iT]
     rw[k2]
     simp only[un]
     rw[ht]
     cases wb
     ·rfl
     ·cases wp
      ·rfl
      ·rfl
    rcases k3 with k3|⟨k3s,k3⟩
    ·obtain ⟨a4,b4,wb4,wp4,d4,r1,r2,r3,r4,r5,r6,r7⟩:=aes Bk b3 z3 B3 q1 q2 (fun a2 b2 d2 aP h1 U h3 h4=>ih a2 b2 d2 (by omega) h1 U h3 h4) wb wp l1
     obtain ⟨R,e,e1,e2⟩:=ih a4 b4 d4 (by omega) r2 r3 r4 r5 l1 wb4 wp4
     obtain ⟨f1,f2⟩:=r6 R e1 e2
     refine ⟨R,(bV ?_).trans e,permIn_trans _ _ _ a b P3 f1,f2⟩
     show pC CC a b lim wb wp (eA d) (fun y=>some (Sum.inl y)) (fun r=>some (Sum.inr r))=_
     rw[step,k3]
     exact r7 _ (fun y=>some (Sum.inl y))
    ·refine ⟨d3,bc ?_,P3,k3s⟩
     show pC CC a b lim wb wp (eA d) (fun y=>some (Sum.inl y)) (fun r=>some (Sum.inr r))=_
     rw[step,k3]
     rfl
theorem aew (l:List XE) (hs:l.length<1152921504606846976): ∃R:List XE,CC z9 [.list aa (l.map XE.enc)]=some [.list aa (R.map XE.enc)]∧R.Perm l∧R.Pairwise (fun x y=> ¬y.lt x):=by
 obtain ⟨L,e1,_⟩:=SI (x:=l.length) (by omega)
 obtain ⟨R,e2,h1,U⟩:=(aev _ 0 l.toArray.size l.toArray (ch _) (ko _) (ch _) (by simpa using hs) (.inl rfl)).call (L:Int)
 have aU:R.size=l.length:=by rw[h1.1];simp
 refine ⟨R.toList,aec ?_,?_,?_⟩
 ·unfold SF
  rw[a9,Ar (A:=l.length) (by omega),e1]
  simp only[Option.bind_some,V.aQ,V.toInt_int]
  have e3:eA l.toArray=l.map XE.enc:=by simp[py]
  rw[e3,show ((l.toArray.size:Nat):Int)=(l.length:Int) by simp,show ((0:Nat):Int)=0 from rfl] at e2
  rw[e2]
  rfl
 ·have h3:=h1.2.2
  rw[show l.toArray.size=R.size from h1.1.symm,Array.extract_size,h1.1,Array.extract_size] at h3
  exact h3
 ·rw[Ce]
  intro i j hi hj tE
  have h3:=U i j (ko _) tE (by simpa[←aU] using hj)
  rw[FA] at h3
  have dM:i<R.size:=by simpa using hi
  have gj:j<R.size:=by simpa using hj
  rw[getElem!_pos R i dM,getElem!_pos R j gj] at h3
  simpa using h3
end Go.AM.SX
set_option maxRecDepth 100000
namespace Go.AM
open Go.Proofs
noncomputable abbrev FF:Code:=cJ Try.prog (ax.aV 106)
noncomputable def xV (C:ag) (Bl uV:Nat) (k' km:Int) (ss:List V) {β:Type} (kn:(Int × Int × (List V))→Option β) (kr:(Int × Int × Bool × (List V))→Option β):Option β:=
 bif decide ((km:Int)<(uV:Int)) then
  bif (decide (0≤km))&&(decide (km<(uV:Int))) then
  (ss[Bl+((km:Int).toNat)]?).bind fun x4=>
  bif (decide (0≤(IntKind.wrap .i64 (km-1))))&&(decide ((IntKind.wrap .i64 (km-1))<(uV:Int))) then
   (ss[Bl+((IntKind.wrap .i64 (km-1):Int).toNat)]?).bind fun x5=>
   (C pn [.int .i64 ((x4.cell 0).toInt),.int .i64 ((x4.cell 1).toInt),.list aa ((x4.cell 2).toList),.int .i64 ((x5.cell 0).toInt),.int .i64 ((x5.cell 1).toInt),.list aa ((x5.cell 2).toList)]).bind fun r6=>
   bif !((V.nth r6 0).toBool) then
   bif (decide (0≤km))&&(decide (km<(uV:Int))) then
    (ss[Bl+((km:Int).toNat)]?).bind fun x7=>
    bif (decide (0≤k'))&&(decide (k'<(ss.length:Int))) then
    (ss[(k':Int).toNat]?).bind fun x8=>
    kn (IntKind.wrap .i64 (k'+1),IntKind.wrap .i64 (km+1),ss.set ((k':Int).toNat) (.agg [.int .i64 ((x7.cell 0).toInt),.int .i64 ((x7.cell 1).toInt),.list aa ((x7.cell 2).toList)]))
    else none
   else none
   else
   kn (k',IntKind.wrap .i64 (km+1),ss)
  else none
  else none
 else
  kr (k',km,decide ((km:Int)<(uV:Int)),ss)
noncomputable def uW (C:ag) (Bl uV:Nat):(Int × Int × (List V))→Option ((Int × Int × (List V)) ⊕ (Int × Int × Bool × (List V))):=un fun k'=>un fun km ss=>xV C Bl uV k' km ss (fun y=>some (.inl y)) (fun r=>some (.inr r))
noncomputable def xW (C:ag) (ss:List V) (k':Int) {β:Type} (kn:Int→Option β) (kr:((List V) ⊕ (Int × Bool))→Option β):Option β:=
 bif decide ((k':Int)<(ss.length:Int)) then
  bif (decide (0≤k'))&&(decide (k'<(ss.length:Int))) then
  (ss[(k':Int).toNat]?).bind fun x1=>
  bif (decide (0≤(IntKind.wrap .i64 (k'-1))))&&(decide ((IntKind.wrap .i64 (k'-1))<(ss.length:Int))) then
   (ss[(IntKind.wrap .i64 (k'-1):Int).toNat]?).bind fun x2=>
   (C pn [.int .i64 ((x1.cell 0).toInt),.int .i64 ((x1.cell 1).toInt),.list aa ((x1.cell 2).toList),.int .i64 ((x2.cell 0).toInt),.int .i64 ((x2.cell 1).toInt),.list aa ((x2.cell 2).toList)]).bind fun r3=>
   bif (V.nth r3 0).toBool then
   bif (decide (0≤k'))&&(decide (k'≤(ss.length:Int))) then
    (Loop (uW C ((k':Int).toNat) (ss.length-((k':Int).toNat))) (k',1,ss)).bind (un fun (mD:Int)=>un fun (aiV:Int)=>un fun (E1:Bool) (qT:List V)=>
     bif (decide (0≤mD))&&(decide (mD≤(qT.length:Int))) then
     bif (decide (0≤mD))&&(decide (mD≤((qT.take ((mD:Int).toNat)++(List.replicate (qT.length-((mD:Int).toNat)) (V.agg [.int .i64 0,.int .i64 0,.list aa ([]:List V)])++qT.drop (((mD:Int).toNat)+(qT.length-((mD:Int).toNat))))).length:Int))) then
      kr (.inl ((qT.take ((mD:Int).toNat)++(List.replicate (qT.length-((mD:Int).toNat)) (V.agg [.int .i64 0,.int .i64 0,.list aa ([]:List V)])++qT.drop (((mD:Int).toNat)+(qT.length-((mD:Int).toNat))))).take ((mD:Int).toNat)))
     else none
     else none)
   else none
   else
   kn (IntKind.wrap .i64 (k'+1))
  else none
  else none
 else
  kr (.inr (k',decide ((k':Int)<(ss.length:Int))))
noncomputable def uX (C:ag) (ss:List V):(Int)→Option ((Int) ⊕ ((List V) ⊕ (Int × Bool))):=fun k'=>xW C ss k' (fun y=>some (.inl y)) (fun r=>some (.inr r))
noncomputable def SJ (C:ag):cz:=fun β n ds k=>
 bif Nat.beq n 145 then cf JD [true,false,false,true,true] [[0,2,3,0,0,0]] (@xV C) ds k else
 bif Nat.beq n 65 then cf JE [true,false] [[0],[0,0,2]] (@xW C) ds k else
 none
abbrev SK (C:ag) (b:cv):Prop:=cw Try.prog ax C (SJ C) 106 (cM Try.prog (ax.aV 106)) (ax.sin 106).a8.length b
theorem aex (C:ag):SK C (.loop (aw [1,1,0,1,0,0,1,0,0,1,0,1,0,1,0,0] FF)):=
 cm JD [true,false,false,true,true] [[0,2,3,0,0,0]] (@xV C) (by kernel_rfl) (bf (bs:=[]) (by kernel_rfl) av) (fun ds=>by kernel_rfl) (fun i x=>by kernel_rfl) (fun i x β k=>by kernel_rfl) (fun β ds k=>by kernel_rfl)
theorem aey (C:ag):SK C (.loop (aw [1,1,0,1,0,0] FF)):=
 cm JE [true,false] [[0],[0,0,2]] (@xW C) (by kernel_rfl) (bf (bs:=[.loop (aw [1,1,0,1,0,0,1,0,0,1,0,1,0,1,0,0] FF)]) (by kernel_rfl) (bD (aex C) av)) (fun ds=>by kernel_rfl) (fun i x=>by kernel_rfl) (fun i x β k=>by kernel_rfl) (fun β ds k=>by kernel_rfl)
noncomputable def FG (C:ag) (ss:List V):Option (List V):=
 bif decide (((ss.length:Int):Int)<2) then
  some [V.bool true,.list aa ss]
 else
  (Loop (uX C ss) 1).bind (bR (fun (aez:List V)=>
   some [V.bool false,.list aa aez]) (un fun (aiW:Int) (xd:Bool)=>
   some [V.bool true,.list aa ss]))
theorem Lb {ss:List V} {r:Option (List V)} (h:FG CC ss=r):CC EA [.list aa ss]=r:=
 aY (key:=106) (L:=SJ CC) (bs:=[.loop (aw [1,1,0,1,0,0] FF)]) (by kernel_rfl) (bD (aey CC) av) (aW (by kernel_rfl) h)
noncomputable def SL (C:ag) (gq:List V):Option (List V):=
 (C z9 [.list aa gq]).bind fun r1=>
 (C EA [.list aa ((V.nth r1 0).toList)]).bind fun r2=>
 bif (V.nth r2 0).toBool then
  some [V.bool true,.list aa ((V.nth (r2.drop 1) 0).toList)]
 else
  some [V.bool false,.list aa ((V.nth (r2.drop 1) 0).toList)]
theorem aeA {gq:List V} {r:Option (List V)} (h:SL CC gq=r):CC uf [.list aa gq]=r:=
 aY (key:=98) (L:=cg) (bs:=[]) (by kernel_rfl) av (aW (by kernel_rfl) h)
noncomputable def SM (C:ag) (eu eg:Int) (ew:List V) (ey ez:Int) (eM:List V):Option (List V):=
 (C ba [.int .i64 eu,.int .i64 eg,.list aa ew,.int .i64 ey,.int .i64 ez,.list aa eM]).bind fun r1=>
 some [.bool ((((V.nth r1 0).toInt):Int)==0)]
theorem aeB {eu eg:Int} {ew:List V} {ey ez:Int} {eM:List V} {r:Option (List V)} (h:SM CC eu eg ew ey ez eM=r):CC pn [.int .i64 eu,.int .i64 eg,.list aa ew,.int .i64 ey,.int .i64 ez,.list aa eM]=r:=
 aY (key:=107) (L:=cg) (bs:=[]) (by kernel_rfl) av (aW (by kernel_rfl) h)
end Go.AM
set_option maxRecDepth 100000
namespace Go.AM
open Go.Proofs Ex
def nF (prev:Ex):List Ex→List Ex
 | []=>[]
 | x::l=>if cmp x prev=0 then nF x l else x::nF x l
def iR:List Ex→List Ex
 | []=>[]
 | x::l=>x::nF x l
theorem SN: ∀(m:List Ex) (prev x:Ex),nF prev (m++[x])=nF prev m++(if cmp x ((prev::m).getD m.length aJ)=0 then [] else [x])
 | [],prev,x=>by simp only[List.nil_append,nF,List.length_nil,yz]
 | y::m,prev,x=>by
  have ih:=SN m y x
  simp only[List.cons_append,nF,List.length_cons,List.getD_cons_succ]
  split
  ·exact ih
  ·rw[ih];rfl
theorem SO {l:List Ex} {p:Nat} (h1:1≤p) (U:p<l.length):iR (l.take (p+1))=iR (l.take p)++(if cmp (l.getD p aJ) (l.getD (p-1) aJ)=0 then [] else [l.getD p aJ]):=by
 match l,p,h1,U with
 | y::l,p+1,_,U=>
  simp only[List.length_cons] at U
  rw[List.take_succ_cons,List.take_succ_cons,iR,iR,kR (by omega),SN]
  simp only[List.getD_cons_succ,ft,ve]
  rw[show min p l.length=p by omega]
  have:(y::l.take p).getD p aJ=(y::l).getD p aJ:=by
   match p with
   | 0=>rfl
   | q+1=>simp only[List.getD_cons_succ];rw[gB,gB,eO (by omega)]
  rw[this];rfl
theorem SP: ∀(m:List Ex) (prev:Ex),(prev::m).Pairwise (fun x y=> ¬y.lx x)→jF (prev::nF prev m)∧∀x,x∈prev::nF prev m↔x∈prev::m
 | [],prev,_=>⟨by simp[nF],by simp[nF]⟩
 | y::m,prev,h=>by
  have h1:=sS.1 h
  obtain ⟨i1,i2⟩:=SP m y h1.2
  rw[nF]
  by_cases hc:cmp y prev=0
  ·rw[aj hc]
   have:=uz _ _ hc
   subst this
   refine ⟨i1,fun x=> ?_⟩
   rw[i2 x];simp
  ·rw[ah hc]
   have aP:prev.lx y:=by
    by_cases U:prev.lx y
    ·exact U
    ·exact absurd (Ex.Q7 U (h1.1 y (by simp))) fun e=>hc (by rw[e];exact AA _)
   refine ⟨sS.2 ⟨fun x hx=> ?_,i1⟩,fun x=> ?_⟩
   ·rcases dg.1 hx with rfl|hx
    ·exact aP
    ·exact Ex.Kt aP ((sS.1 i1).1 x hx)
   ·rw[dg,i2 x,←dg]
theorem aeC {l:List Ex} (h:l.Pairwise (fun x y=> ¬y.lx x)):jF (iR l)∧∀x,x∈iR l↔x∈l:=by
 match l,h with
 | [],_=>exact ⟨List.Pairwise.nil,fun _=>Iff.rfl⟩
 | y::l,h=>exact SP l y h
theorem SQ (a:Ex) (ha:a.Ok) (b:Ex) (hb:b.Ok):CC pn (bM a (bM b []))=some [.bool (decide (cmp a b=0))]:=by
 refine aeB ?_
 unfold SM
 refine (congrArg (fun o=>Option.bind o _) (E3 a ha b hb)).trans ?_
 simp only[Option.bind_some,V.aQ,V.toInt_int]
 rw[Aw]
section
variable {l:List Ex} (hn:l.length≤1000000) (au: ∀k∈l,k.Ok)
include hn au
theorem aeD {k:Nat}: ∀(d k2 i:Nat) (ss:List Ex),k+k2+d=l.length→1≤k2→i+1≤k+k2→ss.length=l.length→ss.take i=iR (l.take (k+k2))→ss.drop (k+k2-1)=l.drop (k+k2-1)→
  ∃t u eR,Loop (uW CC k (l.length-k)) ((i:Int),(k2:Int),ss.map enc)=some (((iR l).length:Int),u,t,List.map enc eR)∧eR.take (iR l).length=iR l∧eR.length=l.length:=by
 intro d
 induction d with
 | zero=>
  intro k2 i ss hj mh hi hl ht hd
  have e0:l.take (k+k2)=l:=List.take_of_length_le (by omega)
  rw[e0] at ht
  have gJ:i=(iR l).length:=by rw[←ht,ft];omega
  refine ⟨false,(k2:Int),ss,bc ?_,by rw[←gJ];exact ht,hl⟩
  simp only[uW,xV,un,a9,aA]
  rw[ah (by omega),bL (by omega),gJ]
 | succ d ih=>
  intro k2 i ss hj mh hi hl ht hd
  have hp:k+k2<l.length:=by omega
  have iB:ss.drop (k+k2)=l.drop (k+k2):=by
   have h:=congrArg (List.drop 1) hd
   rw[pO,pO] at h
   rwa [show k+k2-1+1=k+k2 by omega] at h
  have g1:=AO hl iB hp
  have g0:=AO hl hd (show k+k2-1<l.length by omega)
  have x1:(ss.map enc)[k+k2]? =some (l.getD (k+k2) aJ).enc:=by rw[oE (by omega),g1]
  have x0:(ss.map enc)[k+(k2-1)]? =some (l.getD (k+k2-1) aJ).enc:=by rw[show k+(k2-1)=k+k2-1 by omega,oE (by omega),g0]
  have w1:IntKind.wrap .i64 ((k2:Int)-1)=((k2-1:Nat):Int):=by rw[wrap64 (by omega) (by omega)];omega
  have t1:((k2:Nat):Int)<((l.length-k:Nat):Int):=by omega
  have t2:(0:Int)≤((k2:Nat):Int):=by omega
  have t3:(0:Int)≤((k2-1:Nat):Int):=by omega
  have t4:((k2-1:Nat):Int)<((l.length-k:Nat):Int):=by omega
  have t5:((i:Nat):Int)<(ss.length:Int):=by omega
  have t6:(0:Int)≤((i:Nat):Int):=by omega
  have bY: ∃y,(ss.map enc)[i]? =some y:=⟨_,oE (by omega)⟩
  obtain ⟨y,hy⟩:=bY
  have co:=SQ (l.getD (k+k2) aJ) (E4 au hp) (l.getD (k+k2-1) aJ) (E4 au (by omega))
  have cs:=SO (l:=l) (p:=k+k2) (by omega) hp
  by_cases he:cmp (l.getD (k+k2) aJ) (l.getD (k+k2-1) aJ)=0
  ·have ca:uW CC k (l.length-k) ((i:Int),(k2:Int),ss.map enc)=some (.inl ((i:Int),((k2+1:Nat):Int),ss.map enc)):=by
    simp only[uW,xV,un,a9,aA,dq,w1,t1,t2,t3,t4,dj,Int.toNat_natCast,x1,x0,Option.bind_some,bh,bj,bm]
    refine (congrArg (fun o=>Option.bind o _) co).trans ?_
    simp only[Option.bind_some,V.aQ,V.dA]
    rw[cZ he,pN,cond_false,wrap64 (by omega) (by omega)]
    rfl
   rw[bV ca]
   refine ih (k2+1) i ss (by omega) (by omega) (by omega) hl ?_ (by rw[show k+(k2+1)-1=k+k2 by omega];exact iB)
   rw[show k+(k2+1)=k+k2+1 by omega,cs,aj he,dJ,ht]
  ·have ca:uW CC k (l.length-k) ((i:Int),(k2:Int),ss.map enc)=some (.inl (((i+1:Nat):Int),((k2+1:Nat):Int),(ss.set i (l.getD (k+k2) aJ)).map enc)):=by
    simp only[uW,xV,un,a9,aA,dq,w1,t1,t2,t3,t4,t5,t6,dj,Int.toNat_natCast,x1,x0,hy,Option.bind_some,bh,bj,bm]
    refine (congrArg (fun o=>Option.bind o _) co).trans ?_
    simp only[Option.bind_some,V.aQ,V.dA]
    rw[bL he,sU,cond_true,wrap64 (by omega) (by omega),wrap64 (by omega) (by omega),←eF,yA]
    rfl
   rw[bV ca]
   refine ih (k2+1) (i+1) (ss.set i (l.getD (k+k2) aJ)) (by omega) (by omega) (by omega) (by simpa using hl) ?_ ?_
   ·rw[kR (by rw[nP];omega),Cg (ch i),ht,show k+(k2+1)=k+k2+1 by omega,cs,ah he]
    simp[show i<ss.length by omega]
   ·rw[show k+(k2+1)-1=k+k2 by omega,Ch (by omega),iB]
theorem aeE: ∀(d p:Nat),p+d=l.length→1≤p→iR (l.take p)=l.take p→
  (iR l=l∧∃t,Loop (uX CC (l.map enc)) (p:Int)=some (.inr t))∨Loop (uX CC (l.map enc)) (p:Int)=some (.inl ((iR l).map enc)):=by
 intro d
 induction d with
 | zero=>
  intro p hp h1 hc
  obtain rfl:p=l.length:=by omega
  rw[pL] at hc
  refine .inl ⟨hc,((l.length:Int),false),bc ?_⟩
  simp only[uX,xW,a9,aA]
  rw[ah (by omega),bL (by omega)]
 | succ d ih=>
  intro p hp h1 hc
  have bZ:p<l.length:=by omega
  have cs:=SO (l:=l) h1 bZ
  have co:=SQ (l.getD p aJ) (E4 au bZ) (l.getD (p-1) aJ) (E4 au (by omega))
  have x1:(l.map enc)[p]? =some (l.getD p aJ).enc:=oE bZ
  have x0:(l.map enc)[p-1]? =some (l.getD (p-1) aJ).enc:=oE (by omega)
  have w1:IntKind.wrap .i64 ((p:Int)-1)=((p-1:Nat):Int):=by rw[wrap64 (by omega) (by omega)];omega
  have t1:((p:Nat):Int)<(l.length:Int):=by omega
  have t2:(0:Int)≤((p:Nat):Int):=by omega
  have t3:(0:Int)≤((p-1:Nat):Int):=by omega
  have t4:((p-1:Nat):Int)<(l.length:Int):=by omega
  have t5:((p:Nat):Int)≤(l.length:Int):=by omega
  by_cases he:cmp (l.getD p aJ) (l.getD (p-1) aJ)=0
  ·refine .inr (bc ?_)
   obtain ⟨t,u,eR,e1,e2,e3⟩:=aeD hn au (k:=p) (l.length-(p+1)) 1 p l (by omega) (by omega) (by omega) rfl (by rw[cs,aj he,dJ,hc]) rfl
   have hm:(iR l).length≤eR.length:=by
    have:=congrArg List.length e2
    rw[ft] at this
    omega
   have m1:(0:Int)≤(((iR l).length:Nat):Int):=by omega
   have m2:(((iR l).length:Nat):Int)≤((eR.map enc).length:Int):=by rw[a9];omega
   simp only[uX,xW,a9,aA,dq,w1,t1,t2,t3,t4,t5,dj,Int.toNat_natCast,x1,x0,Option.bind_some,bh,bj,bm]
   refine (congrArg (fun o=>Option.bind o _) co).trans ?_
   simp only[Option.bind_some,V.aQ,V.dA]
   rw[cZ he,cond_true]
   refine (congrArg (fun o=>Option.bind o _) e1).trans ?_
   simp only[Option.bind_some,un,dq,aA,Int.toNat_natCast]
   rw[aj m1,aj m2,aj m1,aj (by simp only[cx,ft,sR,sQ,a9];omega),Fi _ _ _ hm,e2]
  ·have ca:uX CC (l.map enc) (p:Int)=some (.inl ((p+1:Nat):Int)):=by
    simp only[uX,xW,a9,aA,dq,w1,t1,t2,t3,t4,dj,Int.toNat_natCast,x1,x0,Option.bind_some,bh,bj,bm]
    refine (congrArg (fun o=>Option.bind o _) co).trans ?_
    simp only[Option.bind_some,V.aQ,V.dA]
    rw[bL he,cond_false,wrap64 (by omega) (by omega)]
    rfl
   rw[bV ca]
   exact ih (p+1) (by omega) (by omega) (by rw[cs,ah he,hc,←kR bZ])
theorem aeF: ∃b,CC EA [.list aa (l.map enc)]=some [.bool b,.list aa ((iR l).map enc)]:=by
 by_cases U:l.length<2
 ·refine ⟨true,Lb ?_⟩
  unfold FG
  rw[a9,aA,aj (by omega)]
  match l,U with
  | [],_=>rfl
  | [k],_=>rfl
 ·rcases aeE hn au (l.length-1) 1 (by omega) (by omega) (by
   match l,U with
   | k::l,_=>rfl) with ⟨h3,t,h4⟩|h4
  ·refine ⟨true,Lb ?_⟩
   unfold FG
   rw[a9,aA,ah (by omega)]
   refine (congrArg (fun o=>Option.bind o _) h4).trans ?_
   rw[h3];rfl
  ·refine ⟨false,Lb ?_⟩
   unfold FG
   rw[a9,aA,ah (by omega)]
   refine (congrArg (fun o=>Option.bind o _) h4).trans ?_
   rfl
theorem aeG: ∃R:List Ex,CC z9 [.list aa (l.map enc)]=some [.list aa (R.map enc)]∧R.Perm l∧R.Pairwise (fun x y=> ¬y.lx x):=by
 have hx: ∃L:List SX.XE,L.map SX.XE.e=l:=by
  clear hn
  induction l with
  | nil=>exact ⟨[],rfl⟩
  | cons k l ih=>
   obtain ⟨L,hL⟩:=ih fun k hk=>au k (by simp[hk])
   exact ⟨⟨k,au k (by simp)⟩::L,by rw[cQ,hL]⟩
 obtain ⟨L,rfl⟩:=hx
 have he: ∀L:List SX.XE,L.map SX.XE.enc=(L.map SX.XE.e).map enc:=fun L=>by rw[List.map_map];rfl
 obtain ⟨R,e1,h1,U⟩:=SX.aew L (by rw[a9] at hn;omega)
 refine ⟨R.map SX.XE.e,?_,h1.map _,List.pairwise_map.2 U⟩
 rw[←he,←he];exact e1
theorem SR: ∃b,CC uf [.list aa (l.map enc)]=some [.bool b,.list aa ((l.foldl fF []).map enc)]:=by
 obtain ⟨R,e1,h1,U⟩:=aeG hn au
 obtain ⟨b,e2⟩:=aeF (l:=R) (by rw[h1.length_eq];exact hn) fun k hk=>au k (h1.mem_iff.1 hk)
 obtain ⟨c1,c2⟩:=aeC U
 have hc:iR R=l.foldl fF []:=Ku c1 Fc fun x=>by rw[c2,xq,h1.mem_iff]
 rw[hc] at e2
 refine ⟨b,aeA ?_⟩
 unfold SL
 refine (congrArg (fun o=>Option.bind o _) e1).trans ?_
 simp only[Option.bind_some,V.aQ,V.lz]
 refine (congrArg (fun o=>Option.bind o _) e2).trans ?_
 cases b<;>rfl
end
end Go.AM
set_option maxRecDepth 100000
namespace Go.AM
open Go.Proofs
noncomputable def SS (C:ag) (kids:List V):Option (List V):=
 (C IW [.list aa kids]).bind fun r1=>
 bif (V.nth r1 0).toBool then
  (C sg []).bind fun r2=>
  some [.int .i64 ((V.nth r2 0).toInt),.int .i64 ((V.nth (r2.drop 1) 0).toInt),.list aa ((V.nth (r2.drop 2) 0).toList)]
 else
  (C wW [.int .i64 4,.list aa kids]).bind fun r3=>
  (C EJ [.list aa ((V.nth r3 0).toList)]).bind fun r4=>
  bif (V.nth r4 0).toBool then
  (C uf [.list aa ((V.nth (r4.drop 1) 0).toList)]).bind fun r5=>
  bif (V.nth r5 0).toBool then
   (C pk []).bind fun r6=>
   (C mo [.int .i64 4,.list aa ((V.nth (r5.drop 1) 0).toList),.int .i64 ((V.nth r6 0).toInt),.int .i64 ((V.nth (r6.drop 1) 0).toInt),.list aa ((V.nth (r6.drop 2) 0).toList)]).bind fun r7=>
   some [.int .i64 ((V.nth r7 0).toInt),.int .i64 ((V.nth (r7.drop 1) 0).toInt),.list aa ((V.nth ((r7.drop 1).drop 1) 0).toList)]
  else
   (C pk []).bind fun r8=>
   (C mo [.int .i64 4,.list aa ((V.nth (r5.drop 1) 0).toList),.int .i64 ((V.nth r8 0).toInt),.int .i64 ((V.nth (r8.drop 1) 0).toInt),.list aa ((V.nth (r8.drop 2) 0).toList)]).bind fun r9=>
   some [.int .i64 ((V.nth r9 0).toInt),.int .i64 ((V.nth (r9.drop 1) 0).toInt),.list aa ((V.nth ((r9.drop 1).drop 1) 0).toList)]
  else
  (C uf [.list aa ((V.nth (r4.drop 1) 0).toList)]).bind fun dW=>
  bif (V.nth dW 0).toBool then
   (C pk []).bind fun eU=>
   (C mo [.int .i64 4,.list aa ((V.nth (dW.drop 1) 0).toList),.int .i64 ((V.nth eU 0).toInt),.int .i64 ((V.nth (eU.drop 1) 0).toInt),.list aa ((V.nth (eU.drop 2) 0).toList)]).bind fun fK=>
   some [.int .i64 ((V.nth fK 0).toInt),.int .i64 ((V.nth (fK.drop 1) 0).toInt),.list aa ((V.nth ((fK.drop 1).drop 1) 0).toList)]
  else
   (C pk []).bind fun gp=>
   (C mo [.int .i64 4,.list aa ((V.nth (dW.drop 1) 0).toList),.int .i64 ((V.nth gp 0).toInt),.int .i64 ((V.nth (gp.drop 1) 0).toInt),.list aa ((V.nth (gp.drop 2) 0).toList)]).bind fun kP=>
   some [.int .i64 ((V.nth kP 0).toInt),.int .i64 ((V.nth (kP.drop 1) 0).toInt),.list aa ((V.nth ((kP.drop 1).drop 1) 0).toList)]
theorem aeH {kids:List V} {r:Option (List V)} (h:SS CC kids=r):CC Ep [.list aa kids]=r:=
 aY (key:=78) (L:=cg) (bs:=[]) (by kernel_rfl) av (aW (by kernel_rfl) h)
noncomputable def SU (C:ag) (kids:List V):Option (List V):=
 (C se [.list aa kids]).bind fun r1=>
 bif (V.nth r1 0).toBool then
  (C pk []).bind fun r2=>
  some [.int .i64 ((V.nth r2 0).toInt),.int .i64 ((V.nth (r2.drop 1) 0).toInt),.list aa ((V.nth (r2.drop 2) 0).toList)]
 else
  (C wW [.int .i64 5,.list aa kids]).bind fun r3=>
  (C EH [.list aa ((V.nth r3 0).toList)]).bind fun r4=>
  bif (V.nth r4 0).toBool then
  (C uc []).bind fun r5=>
  (C mo [.int .i64 5,.list aa ((V.nth (r4.drop 1) 0).toList),.int .i64 ((V.nth r5 0).toInt),.int .i64 ((V.nth (r5.drop 1) 0).toInt),.list aa ((V.nth (r5.drop 2) 0).toList)]).bind fun r6=>
  some [.int .i64 ((V.nth r6 0).toInt),.int .i64 ((V.nth (r6.drop 1) 0).toInt),.list aa ((V.nth ((r6.drop 1).drop 1) 0).toList)]
  else
  (C uc []).bind fun r7=>
  (C mo [.int .i64 5,.list aa ((V.nth (r4.drop 1) 0).toList),.int .i64 ((V.nth r7 0).toInt),.int .i64 ((V.nth (r7.drop 1) 0).toInt),.list aa ((V.nth (r7.drop 2) 0).toList)]).bind fun r8=>
  some [.int .i64 ((V.nth r8 0).toInt),.int .i64 ((V.nth (r8.drop 1) 0).toInt),.list aa ((V.nth ((r8.drop 1).drop 1) 0).toList)]
theorem aeI {kids:List V} {r:Option (List V)} (h:SU CC kids=r):CC Er [.list aa kids]=r:=
 aY (key:=79) (L:=cg) (bs:=[]) (by kernel_rfl) av (aW (by kernel_rfl) h)
noncomputable def SV (C:ag) (kids:List V):Option (List V):=
 (C se [.list aa kids]).bind fun r1=>
 bif (V.nth r1 0).toBool then
  (C pk []).bind fun r2=>
  some [.int .i64 ((V.nth r2 0).toInt),.int .i64 ((V.nth (r2.drop 1) 0).toInt),.list aa ((V.nth (r2.drop 2) 0).toList)]
 else
  (C wW [.int .i64 6,.list aa kids]).bind fun r3=>
  (C wV [.list aa ((V.nth r3 0).toList)]).bind fun r4=>
  bif (V.nth r4 0).toBool then
  (C uf [.list aa ((V.nth (r4.drop 1) 0).toList)]).bind fun r5=>
  bif (V.nth r5 0).toBool then
   (C sg []).bind fun r6=>
   (C mo [.int .i64 6,.list aa ((V.nth (r5.drop 1) 0).toList),.int .i64 ((V.nth r6 0).toInt),.int .i64 ((V.nth (r6.drop 1) 0).toInt),.list aa ((V.nth (r6.drop 2) 0).toList)]).bind fun r7=>
   some [.int .i64 ((V.nth r7 0).toInt),.int .i64 ((V.nth (r7.drop 1) 0).toInt),.list aa ((V.nth ((r7.drop 1).drop 1) 0).toList)]
  else
   (C sg []).bind fun r8=>
   (C mo [.int .i64 6,.list aa ((V.nth (r5.drop 1) 0).toList),.int .i64 ((V.nth r8 0).toInt),.int .i64 ((V.nth (r8.drop 1) 0).toInt),.list aa ((V.nth (r8.drop 2) 0).toList)]).bind fun r9=>
   some [.int .i64 ((V.nth r9 0).toInt),.int .i64 ((V.nth (r9.drop 1) 0).toInt),.list aa ((V.nth ((r9.drop 1).drop 1) 0).toList)]
  else
  (C uf [.list aa ((V.nth (r4.drop 1) 0).toList)]).bind fun dW=>
  bif (V.nth dW 0).toBool then
   (C sg []).bind fun eU=>
   (C mo [.int .i64 6,.list aa ((V.nth (dW.drop 1) 0).toList),.int .i64 ((V.nth eU 0).toInt),.int .i64 ((V.nth (eU.drop 1) 0).toInt),.list aa ((V.nth (eU.drop 2) 0).toList)]).bind fun fK=>
   some [.int .i64 ((V.nth fK 0).toInt),.int .i64 ((V.nth (fK.drop 1) 0).toInt),.list aa ((V.nth ((fK.drop 1).drop 1) 0).toList)]
  else
   (C sg []).bind fun gp=>
   (C mo [.int .i64 6,.list aa ((V.nth (dW.drop 1) 0).toList),.int .i64 ((V.nth gp 0).toInt),.int .i64 ((V.nth (gp.drop 1) 0).toInt),.list aa ((V.nth (gp.drop 2) 0).toList)]).bind fun kP=>
   some [.int .i64 ((V.nth kP 0).toInt),.int .i64 ((V.nth (kP.drop 1) 0).toInt),.list aa ((V.nth ((kP.drop 1).drop 1) 0).toList)]
theorem aeJ {kids:List V} {r:Option (List V)} (h:SV CC kids=r):CC Et [.list aa kids]=r:=
 aY (key:=80) (L:=cg) (bs:=[]) (by kernel_rfl) av (aW (by kernel_rfl) h)
noncomputable def Lc (C:ag) (op:Int) (kids:List V):Option (List V):=
 bif (op:Int)==4 then
  (C Ep [.list aa kids]).bind fun r1=>
  some [.int .i64 ((V.nth r1 0).toInt),.int .i64 ((V.nth (r1.drop 1) 0).toInt),.list aa ((V.nth ((r1.drop 1).drop 1) 0).toList)]
 else
  bif (op:Int)==5 then
  (C Er [.list aa kids]).bind fun r2=>
  some [.int .i64 ((V.nth r2 0).toInt),.int .i64 ((V.nth (r2.drop 1) 0).toInt),.list aa ((V.nth ((r2.drop 1).drop 1) 0).toList)]
  else
  bif (op:Int)==6 then
   (C Et [.list aa kids]).bind fun r3=>
   some [.int .i64 ((V.nth r3 0).toInt),.int .i64 ((V.nth (r3.drop 1) 0).toInt),.list aa ((V.nth ((r3.drop 1).drop 1) 0).toList)]
  else
   bif ((kids.length:Int):Int) != 1 then
   some [.int .i64 0,.int .i64 0,.list aa ([]:List V)]
   else
   (kids[0]?).bind fun x4=>
   bif (op:Int)==8 then
    bif (((x4.cell 0).toInt):Int)==8 then
    bif ((((x4.cell 2).toList).length:Int):Int)==1 then
     (((x4.cell 2).toList)[0]?).bind fun x5=>
     some [.int .i64 ((x5.cell 0).toInt),.int .i64 ((x5.cell 1).toInt),.list aa ((x5.cell 2).toList)]
    else
     some [.int .i64 8,.int .i64 0,.list aa ([.agg [.int .i64 ((x4.cell 0).toInt),.int .i64 ((x4.cell 1).toInt),.list aa ((x4.cell 2).toList)]]:List V)]
    else
    some [.int .i64 8,.int .i64 0,.list aa ([.agg [.int .i64 ((x4.cell 0).toInt),.int .i64 ((x4.cell 1).toInt),.list aa ((x4.cell 2).toList)]]:List V)]
   else
    bif (op:Int)==7 then
    bif (((x4.cell 0).toInt):Int)==1 then
     (C uc []).bind fun r6=>
     some [.int .i64 ((V.nth r6 0).toInt),.int .i64 ((V.nth (r6.drop 1) 0).toInt),.list aa ((V.nth (r6.drop 2) 0).toList)]
    else
     bif (((x4.cell 0).toInt):Int)==2 then
     (C uc []).bind fun r7=>
     some [.int .i64 ((V.nth r7 0).toInt),.int .i64 ((V.nth (r7.drop 1) 0).toInt),.list aa ((V.nth (r7.drop 2) 0).toList)]
     else
     bif (((x4.cell 0).toInt):Int)==7 then
      some [.int .i64 ((x4.cell 0).toInt),.int .i64 ((x4.cell 1).toInt),.list aa ((x4.cell 2).toList)]
     else
      (C ml [.int .i64 ((x4.cell 0).toInt),.int .i64 ((x4.cell 1).toInt),.list aa ((x4.cell 2).toList)]).bind fun r8=>
      bif (V.nth r8 0).toBool then
      some [.int .i64 ((x4.cell 0).toInt),.int .i64 ((x4.cell 1).toInt),.list aa ((x4.cell 2).toList)]
      else
      some [.int .i64 7,.int .i64 0,.list aa ([.agg [.int .i64 ((x4.cell 0).toInt),.int .i64 ((x4.cell 1).toInt),.list aa ((x4.cell 2).toList)]]:List V)]
    else
    some [.int .i64 0,.int .i64 0,.list aa ([]:List V)]
theorem SW {op:Int} {kids:List V} {r:Option (List V)} (h:Lc CC op kids=r):CC ka [.int .i64 op,.list aa kids]=r:=
 aY (key:=69) (L:=cg) (bs:=[]) (by kernel_rfl) av (aW (by kernel_rfl) h)
noncomputable abbrev SY:Code:=cJ Try.prog (ax.aV 59)
noncomputable def Bm (C:ag) (t20:List V) (t21 gn e8:Int) (ef:List V) (Bn Bo:Int) (bx:List V) (t22:Int) (xX:List V) {β:Type} (kn:(Int × (List V))→Option β) (kr:(Int × Bool × (List V))→Option β):Option β:=
 bif decide ((t22:Int)<t21) then
  (idx t20 t22).bind fun x1=>
  (C ub [.int .i64 ((x1.cell 0).toInt),.int .i64 ((x1.cell 1).toInt),.list aa ((x1.cell 2).toList)]).bind fun r2=>
  bif (decide (0≤t22))&&(decide (t22<(xX.length:Int))) then
  (xX[(t22:Int).toNat]?).bind fun x3=>
  kn (IntKind.wrap .i64 (t22+1),xX.set ((t22:Int).toNat) (.agg [.int .i64 ((V.nth r2 0).toInt),.int .i64 ((V.nth (r2.drop 1) 0).toInt),.list aa ((V.nth ((r2.drop 1).drop 1) 0).toList)]))
  else none
 else
  kr (t22,decide ((t22:Int)<t21),xX)
noncomputable def FH (C:ag) (t20:List V) (t21 gn e8:Int) (ef:List V) (Bn Bo:Int) (bx:List V):(Int × (List V))→Option ((Int × (List V)) ⊕ (Int × Bool × (List V))):=un fun t22 xX=>Bm C t20 t21 gn e8 ef Bn Bo bx t22 xX (fun y=>some (.inl y)) (fun r=>some (.inr r))
noncomputable def SZ (C:ag):cz:=fun β n ds k=>
 bif Nat.beq n 81 then cf Jj [false,false,true,false,false,false,false,false,true,false] [[1,2,0,0,4,5,6,7,8,0,10]] (@Bm C) ds k else
 none
abbrev aeK (C:ag) (b:cv):Prop:=cw Try.prog ax C (SZ C) 59 (cM Try.prog (ax.aV 59)) (ax.sin 59).a8.length b
theorem aeL (C:ag):aeK C (.loop (aw [1,1,1,0,1,0,0] SY)):=
 cm Jj [false,false,true,false,false,false,false,false,true,false] [[1,2,0,0,4,5,6,7,8,0,10]] (@Bm C) (by kernel_rfl) (bf (bs:=[]) (by kernel_rfl) av) (fun ds=>by kernel_rfl) (fun i x=>by kernel_rfl) (fun i x β k=>by kernel_rfl) (fun β ds k=>by kernel_rfl)
noncomputable def S0 (C:ag) (ai ar:Int) (af:List V):Option (List V):=
 bif ((af.length:Int):Int)==0 then
  some [.int .i64 ai,.int .i64 ar,.list aa ([]:List V)]
 else
  bif (decide (0≤(af.length:Int)))&&((decide ((af.length:Int)≤(af.length:Int)))&&(Nat.ble ((((af.length:Int):Int).toNat)*40) cI)) then
  (Loop (FH C af (af.length:Int) ai ar af 0 0 ([]:List V)) (0,List.replicate (((af.length:Int):Int).toNat) (V.agg [.int .i64 0,.int .i64 0,.list aa ([]:List V)]))).bind (un fun (iM:Int)=>un fun (mu:Bool) (aeM:List V)=>
   (C ka [.int .i64 ai,.list aa aeM]).bind fun r7=>
   some [.int .i64 ((V.nth r7 0).toInt),.int .i64 ((V.nth (r7.drop 1) 0).toInt),.list aa ((V.nth ((r7.drop 1).drop 1) 0).toList)])
  else none
theorem aeN {ai ar:Int} {af:List V} {r:Option (List V)} (h:S0 CC ai ar af=r):CC ub [.int .i64 ai,.int .i64 ar,.list aa af]=r:=
 aY (key:=59) (L:=SZ CC) (bs:=[.loop (aw [1,1,1,0,1,0,0] SY)]) (by kernel_rfl) (bD (aeL CC) av) (aW (by kernel_rfl) h)
noncomputable def S3 (C:ag) (ai ar:Int) (af:List V):Option (List V):=
 (C z5 [.int .i64 ai,.int .i64 ar,.list aa af]).bind fun r1=>
 bif !((V.nth r1 0).toBool) then
  some [.int .i64 0,.int .i64 0,.list aa ([]:List V)]
 else
  (C ub [.int .i64 ai,.int .i64 ar,.list aa af]).bind fun r2=>
  some [.int .i64 ((V.nth r2 0).toInt),.int .i64 ((V.nth (r2.drop 1) 0).toInt),.list aa ((V.nth ((r2.drop 1).drop 1) 0).toList)]
theorem aeO {ai ar:Int} {af:List V} {r:Option (List V)} (h:S3 CC ai ar af=r):CC wJ [.int .i64 ai,.int .i64 ar,.list aa af]=r:=
 aY (key:=41) (L:=cg) (bs:=[]) (by kernel_rfl) av (aW (by kernel_rfl) h)
end Go.AM
set_option maxRecDepth 100000
namespace Go.AM
open Go.Proofs Ex
theorem uY:CC pk []=some (ib ec):=abU rfl
theorem FI:CC uc []=some (ib ji):=abW rfl
theorem Bp:CC sg []=some (ib jk):=by
 refine abY ?_
 unfold Q5
 refine bs uY ?_
 simp[ib,ec,jk,Ex.op,Ex.cO,Ex.kids,eF]
theorem S4 (o:Int) (l:List Ex):(l.filter fun k=> !(decide (k.op=o)))=l.filter fun k=>decide (k.op≠o):=by
 congr 1;funext k;simp
theorem S5 {ks:List Ex} (hlen:ks.length≤1000000):CC se [.list aa (ks.map enc)]=some [.bool (ks.any fun k=>decide (k.op=1))]:=acI hlen
theorem aeP {ks:List Ex} (hn:ks.length≤1000000): ∃b,CC EJ [.list aa (ks.map enc)]=some [.bool b,.list aa ((ks.filter (fun k=>decide (k.op≠1))).map enc)]:=by
 rw[←S4];exact acK hn
theorem aeQ {ks:List Ex} (hn:ks.length≤1000000): ∃b,CC EH [.list aa (ks.map enc)]=some [.bool b,.list aa ((ks.filter (fun k=>decide (k.op≠2))).map enc)]:=by
 rw[←S4];exact acO hn
theorem S6 {o:Int} {ks:List Ex} (h: ∀k∈ks,k.Ok): ∀k∈bJ o ks,k.Ok:=fun x hx=>by
 obtain ⟨k,h1,U|U⟩:=nt.1 hx
 ·have:=h k h1
  obtain ⟨o2,l2,lB⟩:=k
  exact this.mr x U.2
 ·rw[U.2];exact h k h1
theorem aeR {n:Int} {ks:List Ex} (hk: ∀k∈ks,Gd n k) (hs:aL ks≤1000000):CC Er [.list aa (ks.map enc)]=some (ib (dC 5 0 ks)):=by
 have hl:=pw ks
 have a1:=xo 5 ks
 have a2:=pw (bJ 5 ks)
 refine aeI ?_
 unfold SU
 rw[uB,KD hk]
 refine bs (S5 (by omega)) ?_
 cases hu:ks.any fun k=>decide (k.op=1) with
 | true=>
  refine bT rfl ?_
  refine bs uY ?_
  rfl
 | false=>
  refine bF rfl ?_
  refine bs (Ks (by omega) (by omega)) ?_
  obtain ⟨b,e⟩:=aeQ (ks:=bJ 5 ks) (by omega)
  refine bs e ?_
  cases b
  ·exact bF rfl (bs FI (bs (pt (z:=ji)) rfl))
  ·exact bT rfl (bs FI (bs (pt (z:=ji)) rfl))
section
variable {n:Int} {ks:List Ex} (hk: ∀k∈ks,Gd n k) (au: ∀k∈ks,k.Ok) (hs:aL ks≤1000000)
include hk au hs
theorem aeS:CC Ep [.list aa (ks.map enc)]=some (ib (dC 4 0 ks)):=by
 have hl:=pw ks
 have a1:=xo 4 ks
 have a2:=pw (bJ 4 ks)
 refine aeH ?_
 unfold SS
 rw[xp,Rg hk]
 refine bs (acQ (by omega)) ?_
 cases hu:ks.any univ with
 | true=>
  refine bT rfl ?_
  refine bs Bp ?_
  rfl
 | false=>
  refine bF rfl ?_
  refine bs (Ks (by omega) (by omega)) ?_
  obtain ⟨b,e⟩:=aeP (ks:=bJ 4 ks) (by omega)
  refine bs e ?_
  obtain ⟨b2,e2⟩:=SR (l:=(bJ 4 ks).filter fun k=>decide (k.op≠1)) (by have:=sV (fun k:Ex=>decide (k.op≠1)) (bJ 4 ks);omega) fun k h=>S6 au k (nT.1 h).1
  cases b
  ·refine bF rfl ?_
   refine bs e2 ?_
   cases b2
   ·exact bF rfl (bs uY (bs (pt (z:=ec)) rfl))
   ·exact bT rfl (bs uY (bs (pt (z:=ec)) rfl))
  ·refine bT rfl ?_
   refine bs e2 ?_
   cases b2
   ·exact bF rfl (bs uY (bs (pt (z:=ec)) rfl))
   ·exact bT rfl (bs uY (bs (pt (z:=ec)) rfl))
theorem aeT:CC Et [.list aa (ks.map enc)]=some (ib (dC 6 0 ks)):=by
 have hl:=pw ks
 have a1:=xo 6 ks
 have a2:=pw (bJ 6 ks)
 refine aeJ ?_
 unfold SV
 rw[AG,aca hk]
 refine bs (S5 (by omega)) ?_
 cases hu:ks.any fun k=>decide (k.op=1) with
 | true=>
  refine bT rfl ?_
  refine bs uY ?_
  rfl
 | false=>
  refine bF rfl ?_
  refine bs (Ks (by omega) (by omega)) ?_
  obtain ⟨b,e⟩:=acS (ks:=bJ 6 ks) (by omega)
  refine bs e ?_
  obtain ⟨b2,e2⟩:=SR (l:=(bJ 6 ks).filter fun k=> !(univ k)) (by have:=sV (fun k:Ex=> !(univ k)) (bJ 6 ks);omega) fun k h=>S6 au k (nT.1 h).1
  cases b
  ·refine bF rfl ?_
   refine bs e2 ?_
   cases b2
   ·exact bF rfl (bs Bp (bs (pt (z:=jk)) rfl))
   ·exact bT rfl (bs Bp (bs (pt (z:=jk)) rfl))
  ·refine bT rfl ?_
   refine bs e2 ?_
   cases b2
   ·exact bF rfl (bs Bp (bs (pt (z:=jk)) rfl))
   ·exact bT rfl (bs Bp (bs (pt (z:=jk)) rfl))
theorem qU {o:Int} (ho:o=4∨o=5∨o=6):CC ka [.int .i64 o,.list aa (ks.map enc)]=some (ib (dC o 0 ks)):=by
 refine SW ?_
 unfold Lc
 rcases ho with rfl|rfl|rfl
 ·exact bT rfl (bs (aeS hk au hs) rfl)
 ·exact bF rfl (bT rfl (bs (aeR hk hs) rfl))
 ·exact bF rfl (bF rfl (bT rfl (bs (aeT hk au hs) rfl)))
end
theorem Ld (k:Ex):[V.agg [.int .i64 k.op,.int .i64 k.cO,.list aa (k.kids.map enc)]]=[k].map enc:=by rw[←eF];rfl
theorem FJ {n o:Int} {k:Ex} (hk:Gd n k) (ho:o=7∨o=8):CC ka [.int .i64 o,.list aa ([k].map enc)]=some (ib (dC o 0 [k])):=by
 refine SW ?_
 unfold Lc
 rcases ho with rfl|rfl
 ·refine bF rfl (bF rfl (bF rfl (bF rfl (bs (a:=k.enc) rfl (bF rfl (bT rfl ?_))))))
  rw[AH,bh,bj,bm,eL,eL,eL]
  by_cases h1:k.op=1
  ·rw[aj h1,aj (.inl h1)];exact bs FI rfl
  ·rw[ah h1]
   by_cases U:k.op=2
   ·rw[aj U,aj (.inr U)];exact bs FI rfl
   ·rw[ah U,ah (show¬(k.op=1∨k.op=2) by omega)]
    by_cases h7:k.op=7
    ·rw[aj h7,aj (.inl h7)];rfl
    ·rw[ah h7]
     refine bs (AN k) ?_
     cases hu:univ k with
     | true=>rw[aj (.inr rfl)];exact bT rfl rfl
     | false=>
      rw[ah (by rintro (h|h);exact h7 h;cases h)]
      refine bF rfl ?_
      rw[Ld];rfl
 ·refine bF rfl (bF rfl (bF rfl (bF rfl (bs (a:=k.enc) rfl (bT rfl ?_)))))
  rw[AI,bh,bj,bm,eL]
  by_cases h8:k.op=8
  ·rw[aj h8,aj h8]
   have hs:=eQ hk.shape
   obtain ⟨o2,l2,lB⟩:=k
   simp only[Ex.op,Ex.kids,Ex.cO] at*
   match lB,(show (lB.length:Int)=1 by omega) with
   | [x],_=>
    refine bT (by simp) (bs (a:=x.enc) rfl ?_)
    rw[bh,bj,bm];rfl
  ·rw[ah h8,ah h8,Ld];rfl
theorem S7 {α:Type} (a:List α) (x y:α) (b:List α) {i:Nat} (h:i=a.length):(a++x::b).set i y=(a++[y])++b:=by
 subst h;simp[List.set_append_right]
theorem aeU {ks:List Ex} {a b c d:Int} {l1 l2:List V} (hn:ks.length≤1000000) (ih: ∀k∈ks,CC ub (bM k [])=some (ib (aM k))):
  ∀(aI pre:List Ex),ks=pre++aI→∃t,Loop (FH CC (ks.map enc) ((ks.map enc).length:Int) a b l1 c d l2) (((pre.length:Nat):Int),(pre.map aM).map enc++List.replicate aI.length (V.agg [.int .i64 0,.int .i64 0,.list aa ([]:List V)]))=some (((ks.map enc).length:Int),t,(ks.map aM).map enc):=by
 intro aI
 induction aI with
 | nil=>
  intro pre e
  rw[dJ] at e
  subst e
  refine ⟨false,bc ?_⟩
  simp only[FH,Bm,un,a9]
  rw[aA,ah (by omega),bL (by omega)]
  simp
 | cons k aI fE=>
  intro pre e
  have bZ:pre.length<ks.length:=by rw[e];simp
  have bY:idx (ks.map enc) (pre.length:Int)=some k.enc:=by rw[e];exact jh _ _ _
  obtain ⟨t,ht⟩:=fE (pre++[k]) (by simp[e])
  refine ⟨t,(bV ?_).trans ht⟩
  simp only[FH,Bm,un,a9]
  rw[aA,aj (by omega),bY]
  simp only[Option.bind_some,bh,bj,bm]
  refine bs (ih k (by rw[e];simp)) ?_
  refine bT (by simp only[aK,dH,cx,a9,sR,List.length_cons];omega) ?_
  refine bs (a:=V.agg [.int .i64 0,.int .i64 0,.list aa ([]:List V)]) ?_ ?_
  ·rw[Int.toNat_natCast,il (by simp)]
   simp
  ·rw[wrap64 (by omega) (by omega),Int.toNat_natCast,List.length_cons,List.replicate_succ,S7 _ _ _ _ (by simp)]
   show some (Sum.inl _)=some (Sum.inl _)
   refine congrArg (fun x=>some (Sum.inl x)) (Prod.ext ?_ ?_)
   ·simp
   ·simp only[gf,cQ,gA]
    rw[eF (aM k)];rfl
theorem S8 {n:Int} (hn:n≤6): ∀e:Ex,e.wf n=true→e.size≤1000000→CC ub (bM e [])=some (ib (aM e)):=
 ind fun o l ks ih hw hs=>by
  obtain ⟨h1,U⟩:=hZ hw
  have hl:=pw ks
  simp only[size] at hs
  have h3:=eQ h1
  refine aeN ?_
  unfold S0
  simp only[Ex.op,Ex.kids,Ex.cO,a9,eL]
  rw[my]
  by_cases h0:ks=[]
  ·subst h0
   rw[aj (by simp),lC (by simp only[List.length_nil] at h3;omega)]
   rfl
  ·have hp:0<ks.length:=List.length_pos_iff.2 h0
   rw[ah (by omega)]
   refine bT (by simp only[aK,dH,dP,qK,Int.toNat_natCast];omega) ?_
   obtain ⟨t,ht⟩:=aeU (a:=o) (b:=l) (c:=0) (d:=0) (l1:=ks.map enc) (l2:=[]) (ks:=ks) (by omega) (fun k hk=>ih k hk (U k hk) (by have:=Ax hk;omega)) ks [] rfl
   rw[a9] at ht
   refine bs ht ?_
   have hg: ∀k∈ks.map aM,Gd n k:=fun x hx=>by
    obtain ⟨k,hk,rfl⟩:=gz.1 hx
    exact lD k (U k hk)
   have hz:aL (ks.map aM)≤aL ks:=by
    clear ht h3 h1 hw ih hp h0 hl hs hg
    induction ks with
    | nil=>simp[aL]
    | cons k ks ih=>have a:=AJ k (U k (by simp));have b:=ih fun k hk=>U k (by simp[hk]);simp only[cQ,aL];omega
   have au: ∀k∈ks.map aM,k.Ok:=fun k hk=>qN hn k (hg k hk).2 (by have:=Ax hk;omega)
   rcases (show (o=4∨o=5∨o=6)∨(o=7∨o=8) by omega) with ho|ho
   ·obtain rfl:l=0:=by omega
    exact bs (qU hg au (by omega) ho) rfl
   ·obtain rfl:l=0:=by omega
    have h5:ks.length=1:=by omega
    match ks,h5 with
    | [k],_=>exact bs (FJ (hg (aM k) (by simp)) ho) rfl
theorem Lf (e:Ex) (h:e.Ok):CC wJ (bM e [])=some (ib (if e.val 6=0 then aM e else aJ)):=by
 refine aeO ?_
 unfold S3
 refine bs (QK e h) ?_
 by_cases hv:e.val 6=0
 ·have:=nr hv
  rw[aj hv]
  refine bF (by simp[hv]) ?_
  exact bs (S8 (by omega) e this.2.2 (by omega)) rfl
 ·rw[ah hv]
  refine bT (by simp[hv]) ?_
  rfl
end Go.AM
set_option maxRecDepth 100000
namespace Go.AM
open Go.Proofs
def tab {α:Type} (n:Nat) (g:Nat→α):List α:=(List.range n).map g
section
variable {α β:Type} {n i:Nat} {g h:Nat→α}
@[simp] theorem aiX:(tab n g).length=n:=by simp[tab]
end
section
variable {γ:Type} {n i:Nat} {g:Nat→V}
theorem sE {es:List V} {v:V} (hi:es[i]? =some v) {K:V→Option γ}:(bif (decide (0≤(i:Int)))&&(decide ((i:Int)<(es.length:Int))) then (es[((i:Int)).toNat]?).bind K else none)=K v:=by
 have hl:i<es.length:=by
  rcases oN i es.length with h|h
  ·exact h
  ·rw[yp h] at hi;cases hi
 rw[Int.toNat_natCast,hi,vg.2 ⟨cZ (by omega),cZ (by omega)⟩]
 rfl
end
theorem cap {a b m:Nat} (h:a+b≤10000000) (hm:m≤1000):Nat.ble ((a+b)*m) cI=true:=by
 rw[dP,qK]
 have:=Nat.mul_le_mul h hm
 omega
theorem aeV {n m:Nat} (h:n≤10000000) (hm:m≤1000):((decide (0≤(n:Int)))&&((decide ((n:Int)≤(n:Int)))&&(Nat.ble (((n:Int).toNat)*m) cI)))=true:=by
 have U:=Nat.mul_le_mul h hm
 rw[Int.toNat_natCast]
 refine vg.2 ⟨cZ (by omega),vg.2 ⟨cZ (by omega),?_⟩⟩
 rw[dP,qK]
 omega
theorem pE {i:Nat} (h:i≤1000000000):IntKind.wrap .i64 ((i:Int)+1)=((i+1:Nat):Int):=by rw[wrap64 (by omega) (by omega)];omega
theorem oK {i n:Nat} (h:i<n):decide ((i:Int)<(n:Int))=true:=cZ (by omega)
end Go.AM
set_option maxRecDepth 100000
namespace Go.AM
open Go.Proofs Ex
abbrev zE:V:= .agg [.int .i64 0,.int .i64 0,.list aa ([]:List V)]
theorem sF {α:Type} {A:List V} {n:Nat} {z:V} {i:Nat} (h:i=A.length) {K:V→Option α}:(bif (decide (0≤(i:Int)))&&(decide ((i:Int)<((A++List.replicate (n+1) z).length:Int))) then ((A++List.replicate (n+1) z)[((i:Int)).toNat]?).bind K else none)=K z:=by
 refine sE ?_
 rw[h,il (ch _)]
 simp
theorem sG {A:List V} {n:Nat} {z v:V} {i:Nat} (h:i=A.length):(A++List.replicate (n+1) z).set i v=A++[v]++List.replicate n z:=by
 rw[List.replicate_succ,S7 _ _ _ _ h]
theorem aeW (a:Ex):V.agg [.int .i64 a.op,.int .i64 a.cO,.list aa (a.kids.map enc)]=a.enc:=(eF a).symm
theorem Lg {n:Nat} (h:n≤1000000):Nat.ble (n*40) cI=true:=by rw[dP,qK];omega
theorem FK {n:Nat} (h:n≤1000000):((decide (0≤(n:Int)))&&((decide ((n:Int)≤(n:Int)))&&(Nat.ble (((n:Int).toNat)*40) cI)))=true:=aeV (by omega) (by omega)
def oneOf (o:Int):List Ex→Ex
 | [k]=>k
 | l=> .node o 0 l
mutual
def cl (c:Int):Ex→Ex
 | .node o l ks=>
  if o=3 then (if l=c then ji else ec)
  else if o=4∨o=6∨o=8 then .node o 0 (xY c ks)
  else if o=7 then .node 5 0 [(xY c ks).getD 0 aJ,.node o l ks]
  else if o=5 then oneOf 4 (iS c ks)
  else ec
def xY (c:Int):List Ex→List Ex
 | []=>[]
 | k::ks=>cl c k::xY c ks
def iS (c:Int):List Ex→List Ex
 | []=>[]
 | k::ks=>oneOf 5 (cl c k::ks)::(if k.db=true then iS c ks else [])
end
theorem S9 {c:Int}: ∀ks,xY c ks=ks.map (cl c)
 | []=>by simp only[xY,gA]
 | k::ks=>by simp only[xY,cQ,S9 ks]
theorem xZ {c o l:Int} {ks:List Ex}:cl c (.node o l ks)=if o=3 then (if l=c then ji else ec) else if o=4∨o=6∨o=8 then .node o 0 (ks.map (cl c)) else if o=7 then .node 5 0 [(ks.map (cl c)).getD 0 aJ,.node o l ks] else if o=5 then oneOf 4 (iS c ks) else ec:=by
 rw[cl,S9]
theorem FL {c:Int} {k:Ex} {ks:List Ex}:iS c (k::ks)=oneOf 5 (cl c k::ks)::(if k.db=true then iS c ks else []):=by rw[iS]
theorem aeX {o:Int} {k:Ex} {l:List Ex}:oneOf o (k::l)=if l=[] then k else .node o 0 (k::l):=by
 cases l with
 | nil=>rfl
 | cons x l=>rw[ah (by simp)];rfl
theorem Ta {n:Int}:ec.wf n=true:=uA (by simp[dB]) (by simp)
theorem aeY {n:Int}:ji.wf n=true:=uA (by simp[dB]) (by simp)
theorem aeZ {n o l len:Int} (h:dB o l len n=true) (ho:o=4∨o=6∨o=8):dB o 0 len n=true:=by
 rcases eQ h with h|⟨rfl,h⟩
 ·omega
 ·assumption
theorem Tb {n:Int} {o:Int} (ho:o=4∨o=5) {len:Int} (h:2≤len):dB o 0 len n=true:=by
 unfold dB
 rcases ho with rfl|rfl<;>simp[h]
theorem Tc {n:Int} {o:Int} (ho:o=4∨o=5) {l:List Ex} (hl:l≠[]) (h: ∀k∈l,k.wf n=true):(oneOf o l).wf n=true:=by
 match l,hl with
 | [k],_=>exact h k (by simp)
 | k::k2::l,_=>exact uA (Tb ho (by simp only[List.length_cons];omega)) h
theorem Td {c:Int} {ks:List Ex} (h:ks≠[]):iS c ks≠[]:=by
 cases ks with
 | nil=>exact absurd rfl h
 | cons k ks=>rw[FL];simp
theorem FM {n c:Int}: ∀{ks:List Ex},(∀k∈ks,k.wf n=true)→(∀k∈ks,(cl c k).wf n=true)→∀x∈iS c ks,x.wf n=true
 | [],_,_,x,hx=>by rw[iS] at hx;cases hx
 | k::ks,h1,U,x,hx=>by
  rw[FL] at hx
  rcases dg.1 hx with rfl|hx
  ·refine Tc (.inr rfl) (by simp) fun y hy=> ?_
   rcases dg.1 hy with rfl|hy
   ·exact U k (by simp)
   ·exact h1 y (by simp[hy])
  ·split at hx
   ·exact FM (fun y hy=>h1 y (by simp[hy])) (fun y hy=>U y (by simp[hy])) x hx
   ·cases hx
theorem uZ {n c:Int}: ∀e:Ex,e.wf n=true→(cl c e).wf n=true:=ind fun o l ks ih hw=>by
 obtain ⟨h1,U⟩:=hZ hw
 have hk: ∀k∈ks,(cl c k).wf n=true:=fun k hk=>ih k hk (U k hk)
 rw[xZ]
 split
 ·split
  ·exact aeY
  ·exact Ta
 split
 ·next _ ho=>
  refine uA (by rw[a9];exact aeZ h1 ho) fun x hx=> ?_
  obtain ⟨k,mh,rfl⟩:=gz.1 hx
  exact hk k mh
 split
 ·next _ _ ho=>
  subst ho
  have hl:ks.length=1:=by rcases eQ h1 with h|⟨_,h|h|h|h|h|h|h⟩<;>omega
  obtain ⟨k,rfl⟩:=yB.1 hl
  refine uA (Tb (.inr rfl) (by simp)) fun x hx=> ?_
  rcases dg.1 hx with rfl|hx
  ·exact hk k (by simp)
  ·rw[dX.1 hx];exact hw
 split
 ·next _ _ _ ho=>
  subst ho
  have hl:2≤ks.length:=by rcases eQ h1 with h|⟨_,h|h|h|h|h|h|h⟩<;>omega
  exact Tc (.inl rfl) (Td (by intro h;rw[h] at hl;simp at hl)) (FM U hk)
 ·exact Ta
theorem Te {o:Int} {l:List Ex}:(oneOf o l).size≤1+aL l:=by
 match l with
 | []=>simp[oneOf,size,aL]
 | [k]=>simp[oneOf,aL]
 | k::k2::l=>simp[oneOf,size]
theorem Lh {f:Ex→Ex}: ∀{ks:List Ex},(∀k∈ks,(f k).size≤k.size*k.size)→aL (ks.map f)≤aL ks*aL ks
 | [],_=>by simp[aL]
 | k::ks,h=>by
  have ih:=Lh (f:=f) (ks:=ks) fun x hx=>h x (by simp[hx])
  have hk:=h k (by simp)
  simp only[cQ,aL,df,Nat.mul_add]
  omega
theorem Li {c:Int}: ∀{ks:List Ex},(∀k∈ks,(cl c k).size≤k.size*k.size)→1+aL (iS c ks)≤(1+aL ks)*(1+aL ks)
 | [],_=>by rw[iS];simp[aL]
 | k::ks,h=>by
  have ih:=Li (c:=c) (ks:=ks) fun x hx=>h x (by simp[hx])
  have hk:=h k (by simp)
  have h1:(oneOf 5 (cl c k::ks)).size≤1+((cl c k).size+aL ks):=Te
  have hp:=k.size_pos
  have U:aL (if k.db=true then iS c ks else [])≤aL (iS c ks):=by
   split
   ·exact ch _
   ·simp[aL]
  have h3:1*aL ks≤k.size*aL ks:=dr _ hp
  have h4:aL ks*k.size=k.size*aL ks:=nQ _ _
  rw[FL]
  simp only[aL,df,Nat.mul_add] at*
  omega
theorem Tf {c:Int}: ∀e:Ex,(∀n,e.wf n=true→(cl c e).size≤e.size*e.size):=ind fun o l ks ih n hw=>by
 obtain ⟨h1,U⟩:=hZ hw
 have hk: ∀k∈ks,(cl c k).size≤k.size*k.size:=fun k hk=>ih k hk n (U k hk)
 have h3:1*1≤(Ex.node o l ks).size*(Ex.node o l ks).size:=Nat.mul_le_mul (size_pos _) (size_pos _)
 rw[xZ]
 split
 ·split
  ·exact h3
  ·exact h3
 split
 ·have:=Lh hk
  simp only[size,df,Nat.mul_add] at*
  omega
 split
 ·next _ _ ho=>
  subst ho
  have hl:ks.length=1:=by rcases eQ h1 with h|⟨_,h|h|h|h|h|h|h⟩<;>omega
  obtain ⟨k,rfl⟩:=yB.1 hl
  have:=hk k (by simp)
  have hp:=k.size_pos
  simp only[cQ,gA,yz,size,aL,df,Nat.mul_add,Nat.add_zero] at*
  omega
 split
 ·have h4:=Li hk
  have h5:(oneOf 4 (iS c ks)).size≤1+aL (iS c ks):=Te
  show _≤(1+aL ks)*(1+aL ks)
  omega
 ·exact h3
section
variable {n c:Int}
theorem ae0 {o l:Int} {ks:List Ex} (ho:o=4∨o=6∨o=8):aM (cl c (.node o l ks))=dC o 0 (ks.map fun k=>aM (cl c k)):=by
 rw[xZ,ah (by omega),aj ho,my,List.map_map]
 rfl
theorem ae1 {l:Int} {k:Ex}:aM (cl c (.node 7 l [k]))=dC 5 0 [aM (cl c k),aM (.node 7 l [k])]:=by
 rw[xZ,ah (by omega),ah (by omega),aj rfl,my]
 rfl
def FN (c:Int) (k:Ex) (ks:List Ex):Ex:=if (aM (cl c k)).op=1 then aM (cl c k) else dC 5 0 (aM (cl c k)::ks.map aM)
theorem ae2 {k:Ex} {ks:List Ex} (hk:k.wf n=true) (aZ: ∀x∈ks,x.wf n=true):FN c k ks=aM (oneOf 5 (cl c k::ks)):=by
 have hg:=lD (n:=n) _ (uZ (c:=c) k hk)
 unfold FN
 rw[aeX]
 by_cases hn:ks=[]
 ·subst hn
  rw[aj rfl,gA,aco hg]
  split<;>rfl
 ·rw[ah hn,my,cQ]
  by_cases h1:(aM (cl c k)).op=1
  ·rw[aj h1,uB,aj,empty_eq hg h1]
   have Dt: ∀x∈aM (cl c k)::ks.map aM,Gd n x:=fun x hx=>by
    rcases dg.1 hx with rfl|hx
    ·exact hg
    ·obtain ⟨y,hy,rfl⟩:=gz.1 hx
     exact lD y (aZ y hy)
   rw[KD Dt]
   simp[h1]
  ·rw[ah h1]
def sH (c:Int):List Ex→List Ex
 | []=>[]
 | k::ks=>FN c k ks::(if k.db=true then sH c ks else [])
theorem parts_eq: ∀{ks:List Ex},(∀x∈ks,x.wf n=true)→sH c ks=(iS c ks).map aM
 | [],_=>by rw[iS];rfl
 | k::ks,h=>by
  have ih:=parts_eq (ks:=ks) fun x hx=>h x (by simp[hx])
  rw[FL,cQ,←ae2 (h k (by simp)) (fun x hx=>h x (by simp[hx]))]
  unfold sH
  refine congrArg _ ?_
  split
  ·exact ih
  ·rfl
theorem ae3 {l:Int} {ks:List Ex} (bu:ks≠[]) (hk: ∀x∈ks,x.wf n=true):aM (cl c (.node 5 l ks))=dC 4 0 (sH c ks):=by
 rw[xZ,ah (by omega),ah (by omega),ah (by omega),aj rfl,parts_eq hk]
 have hw:=FM (c:=c) hk fun k mh=>uZ k (hk k mh)
 have hn:=Td (c:=c) bu
 generalize iS c ks=L at*
 match L,hn with
 | [x],_=>exact (acn (lD x (hw x (by simp)))).symm
 | x::y::L,_=>
  show aM (.node 4 0 _)=_
  rw[my]
end
end Go.AM
set_option maxRecDepth 100000
namespace Go.AM
open Go.Proofs
noncomputable def Tg (C:ag) (cd:Int) (bS:Bool) (ai ar:Int) (af:List V):Option (List V):=
 bif bS then
  some [.int .i64 ai,.int .i64 ar,.list aa af]
 else
  (C ub [.int .i64 ai,.int .i64 ar,.list aa af]).bind fun r1=>
  some [.int .i64 ((V.nth r1 0).toInt),.int .i64 ((V.nth (r1.drop 1) 0).toInt),.list aa ((V.nth ((r1.drop 1).drop 1) 0).toList)]
theorem ae4 {cd:Int} {bS:Bool} {ai ar:Int} {af:List V} {r:Option (List V)} (h:Tg CC cd bS ai ar af=r):CC z7 [.int .i64 cd,.bool bS,.int .i64 ai,.int .i64 ar,.list aa af]=r:=
 aY (key:=83) (L:=cg) (bs:=[]) (by kernel_rfl) av (aW (by kernel_rfl) h)
noncomputable abbrev Th:Code:=cJ Try.prog (ax.aV 68)
noncomputable def Bq (C:ag) (t21:List V) (t22 lI:Int) (lJ:Bool) (gn e8:Int) (ef:List V) (kS kT qV qW:Int) (qX:Bool) (eE gQ:List V) (Br t23:Int) (lK fq:List V) {β:Type} (kn:(Int × Int × (List V) × (List V))→Option β) (kr:(Int × Int × Bool × (List V) × (List V))→Option β):Option β:=
 bif decide ((t23:Int)<t22) then
  (idx t21 t23).bind fun x1=>
  (C oz [.int .i64 lI,.bool lJ,.int .i64 ((x1.cell 0).toInt),.int .i64 ((x1.cell 1).toInt),.list aa ((x1.cell 2).toList)]).bind fun r2=>
  bif (decide (0≤t23))&&(decide (t23<(lK.length:Int))) then
  (lK[(t23:Int).toNat]?).bind fun x3=>
  bif (decide (0≤t23))&&(decide (t23<(fq.length:Int))) then
   (fq[(t23:Int).toNat]?).bind fun x4=>
   bif (V.nth ((((((r2.drop 1).drop 1).drop 1).drop 1).drop 1).drop 1) 0).toBool then
   kn (IntKind.wrap .i64 (Br+1),IntKind.wrap .i64 (t23+1),lK.set ((t23:Int).toNat) (.agg [.int .i64 ((V.nth r2 0).toInt),.int .i64 ((V.nth (r2.drop 1) 0).toInt),.list aa ((V.nth ((r2.drop 1).drop 1) 0).toList)]),fq.set ((t23:Int).toNat) (.agg [.int .i64 ((V.nth (((r2.drop 1).drop 1).drop 1) 0).toInt),.int .i64 ((V.nth ((((r2.drop 1).drop 1).drop 1).drop 1) 0).toInt),.list aa ((V.nth (((((r2.drop 1).drop 1).drop 1).drop 1).drop 1) 0).toList)]))
   else
   kn (Br,IntKind.wrap .i64 (t23+1),lK.set ((t23:Int).toNat) (.agg [.int .i64 ((V.nth r2 0).toInt),.int .i64 ((V.nth (r2.drop 1) 0).toInt),.list aa ((V.nth ((r2.drop 1).drop 1) 0).toList)]),fq.set ((t23:Int).toNat) (.agg [.int .i64 ((V.nth (((r2.drop 1).drop 1).drop 1) 0).toInt),.int .i64 ((V.nth ((((r2.drop 1).drop 1).drop 1).drop 1) 0).toInt),.list aa ((V.nth (((((r2.drop 1).drop 1).drop 1).drop 1).drop 1) 0).toList)]))
  else none
  else none
 else
  kr (Br,t23,decide ((t23:Int)<t22),lK,fq)
noncomputable def FO (C:ag) (t21:List V) (t22 lI:Int) (lJ:Bool) (gn e8:Int) (ef:List V) (kS kT qV qW:Int) (qX:Bool) (eE gQ:List V):(Int × Int × (List V) × (List V))→Option ((Int × Int × (List V) × (List V)) ⊕ (Int × Int × Bool × (List V) × (List V))):=un fun Br=>un fun t23=>un fun lK fq=>Bq C t21 t22 lI lJ gn e8 ef kS kT qV qW qX eE gQ Br t23 lK fq (fun y=>some (.inl y)) (fun r=>some (.inr r))
noncomputable def Ti (C:ag):cz:=fun β n ds k=>
 bif Nat.beq n 65 then cf Jl [true,false,false,true,false,false,false,false,false,false,false,false,false,false,true,true,false,false] [[0,2,3,0,0,5,6,7,8,9,10,11,12,13,14,0,0,17,18]] (@Bq C) ds k else
 none
abbrev ae5 (C:ag) (b:cv):Prop:=cw Try.prog ax C (Ti C) 68 (cM Try.prog (ax.aV 68)) (ax.sin 68).a8.length b
theorem ae6 (C:ag):ae5 C (.loop (aw [1,1,1,0,1,0,0] Th)):=
 cm Jl [true,false,false,true,false,false,false,false,false,false,false,false,false,false,true,true,false,false] [[0,2,3,0,0,5,6,7,8,9,10,11,12,13,14,0,0,17,18]] (@Bq C) (by kernel_rfl) (bf (bs:=[]) (by kernel_rfl) av) (fun ds=>by kernel_rfl) (fun i x=>by kernel_rfl) (fun i x β k=>by kernel_rfl) (fun β ds k=>by kernel_rfl)
noncomputable def Tj (C:ag) (cd:Int) (bS:Bool) (ai ar:Int) (af:List V):Option (List V):=
 bif (decide (0≤(af.length:Int)))&&((decide ((af.length:Int)≤(af.length:Int)))&&(Nat.ble ((((af.length:Int):Int).toNat)*40) cI)) then
  bif (decide (0≤(af.length:Int)))&&((decide ((af.length:Int)≤(af.length:Int)))&&(Nat.ble ((((af.length:Int):Int).toNat)*40) cI)) then
  (Loop (FO C af (af.length:Int) cd bS ai ar af 0 0 0 0 false ([]:List V) ([]:List V)) (0,0,List.replicate (((af.length:Int):Int).toNat) (V.agg [.int .i64 0,.int .i64 0,.list aa ([]:List V)]),List.replicate (((af.length:Int):Int).toNat) (V.agg [.int .i64 0,.int .i64 0,.list aa ([]:List V)]))).bind (un fun (Lj:Int)=>un fun (lA:Int)=>un fun (pr:Bool)=>un fun (ae7:List V) (ae8:List V)=>
   (C ka [.int .i64 ai,.list aa ae7]).bind fun dW=>
   (C ka [.int .i64 ai,.list aa ae8]).bind fun eU=>
   bif (ai:Int)==4 then
    some [.int .i64 ((V.nth dW 0).toInt),.int .i64 ((V.nth (dW.drop 1) 0).toInt),.list aa ((V.nth ((dW.drop 1).drop 1) 0).toList),.int .i64 ((V.nth eU 0).toInt),.int .i64 ((V.nth (eU.drop 1) 0).toInt),.list aa ((V.nth ((eU.drop 1).drop 1) 0).toList),.bool (decide ((Lj:Int)>0))]
   else
    bif (ai:Int)==6 then
    some [.int .i64 ((V.nth dW 0).toInt),.int .i64 ((V.nth (dW.drop 1) 0).toInt),.list aa ((V.nth ((dW.drop 1).drop 1) 0).toList),.int .i64 ((V.nth eU 0).toInt),.int .i64 ((V.nth (eU.drop 1) 0).toInt),.list aa ((V.nth ((eU.drop 1).drop 1) 0).toList),.bool ((Lj:Int)==(af.length:Int))]
    else
    bif (ai:Int)==8 then
     some [.int .i64 ((V.nth dW 0).toInt),.int .i64 ((V.nth (dW.drop 1) 0).toInt),.list aa ((V.nth ((dW.drop 1).drop 1) 0).toList),.int .i64 ((V.nth eU 0).toInt),.int .i64 ((V.nth (eU.drop 1) 0).toInt),.list aa ((V.nth ((eU.drop 1).drop 1) 0).toList),.bool ((Lj:Int)==0)]
    else
     some [.int .i64 ((V.nth dW 0).toInt),.int .i64 ((V.nth (dW.drop 1) 0).toInt),.list aa ((V.nth ((dW.drop 1).drop 1) 0).toList),.int .i64 ((V.nth eU 0).toInt),.int .i64 ((V.nth (eU.drop 1) 0).toInt),.list aa ((V.nth ((eU.drop 1).drop 1) 0).toList),.bool false])
  else none
 else none
theorem ae9 {cd:Int} {bS:Bool} {ai ar:Int} {af:List V} {r:Option (List V)} (h:Tj CC cd bS ai ar af=r):CC wQ [.int .i64 cd,.bool bS,.int .i64 ai,.int .i64 ar,.list aa af]=r:=
 aY (key:=68) (L:=Ti CC) (bs:=[.loop (aw [1,1,1,0,1,0,0] Th)]) (by kernel_rfl) (bD (ae6 CC) av) (aW (by kernel_rfl) h)
end Go.AM
