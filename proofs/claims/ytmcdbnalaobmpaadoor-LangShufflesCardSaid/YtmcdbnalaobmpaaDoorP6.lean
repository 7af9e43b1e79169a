/-
  Functions of uC program, lifted to plain data.
-/
import Derived.Test.YtmcdbnalaobmpaaDoorP5
set_option linter.unusedVariables false
set_option linter.unusedSimpArgs false
set_option maxRecDepth 100000
namespace Go.AM
open Go.Proofs
noncomputable def TL (C:af) (kR kS kT ql qm qn:Int):Option (List V):=
 (C qf [.int .i64 kR,.int .i64 ql]).bind fun r1=>
 (C qf [.int .i64 kS,.int .i64 qm]).bind fun r2=>
 (C qf [.int .i64 kT,.int .i64 qn]).bind fun r3=>
 (C yU [.list ah ([.int .i64 ((V.nth r1 0).toInt),.int .i64 ((V.nth r2 0).toInt),.int .i64 ((V.nth r3 0).toInt)]:List V)]).bind fun r4=>
 some [.int .i64 ((V.nth r4 0).toInt)]
theorem aeE {kR kS kT ql qm qn:Int} {r:Option (List V)} (h:TL CC kR kS kT ql qm qn=r):CC bw [.int .i64 kR,.int .i64 kS,.int .i64 kT,.int .i64 ql,.int .i64 qm,.int .i64 qn]=r:=
 bn (key:=88) (L:=cT) (bs:=[]) (by kernel_rfl) av (Eq.trans (by kernel_rfl) h)
end Go.AM
set_option maxRecDepth 100000
set_option linter.unusedSimpArgs false
namespace Go.AM
open Go.Proofs
theorem gr (a b:Ed):CC bw [.int .i64 a.f,.int .i64 a.l,.int .i64 a.t,.int .i64 b.f,.int .i64 b.l,.int .i64 b.t]=some [.int .i64 (bO a b)]:=by
 refine aeE ?_
 unfold TL
 refine bs (vR _ _) ?_
 refine bs (vR _ _) ?_
 refine bs (vR _ _) ?_
 refine bs (QI _ _ _) ?_
 rfl
end Go.AM
set_option maxRecDepth 100000
namespace Go.AM
open Go.Proofs
noncomputable abbrev FO:Code:=cC Tryd.prog (aw.aW 170)
noncomputable def wB (C:af) (a b' i j:Int) (ai:List V) {β:Type} (kn:(Int × (List V))→Option β) (kr:(Int × Bool × (List V))→Option β):Option β:=
 bif decide ((j:Int)>a) then
  bif (decide (0≤j))&&(decide (j<(ai.length:Int))) then
  (ai[(j:Int).toNat]?).bind fun x1=>
  bif (decide (0≤(IntKind.wrap .i64 (j-1))))&&(decide ((IntKind.wrap .i64 (j-1))<(ai.length:Int))) then
   (ai[(IntKind.wrap .i64 (j-1):Int).toNat]?).bind fun x2=>
   (C bw [.int .i64 ((x1.cell 0).toInt),.int .i64 ((x1.cell 1).toInt),.int .i64 ((x1.cell 2).toInt),.int .i64 ((x2.cell 0).toInt),.int .i64 ((x2.cell 1).toInt),.int .i64 ((x2.cell 2).toInt)]).bind fun r3=>
   bif decide ((((V.nth r3 0).toInt):Int)<0) then
   bif (decide (0≤(IntKind.wrap .i64 (j-1))))&&(decide ((IntKind.wrap .i64 (j-1))<(ai.length:Int))) then
    (ai[(IntKind.wrap .i64 (j-1):Int).toNat]?).bind fun x4=>
    bif (decide (0≤j))&&(decide (j<(ai.length:Int))) then
    (ai[(j:Int).toNat]?).bind fun x5=>
    bif (decide (0≤j))&&(decide (j<(ai.length:Int))) then
     (ai[(j:Int).toNat]?).bind fun x6=>
     bif (decide (0≤(IntKind.wrap .i64 (j-1))))&&(decide ((IntKind.wrap .i64 (j-1))<((ai.set ((j:Int).toNat) (.agg [.int .i64 ((x4.cell 0).toInt),.int .i64 ((x4.cell 1).toInt),.int .i64 ((x4.cell 2).toInt)])).length:Int))) then
     ((ai.set ((j:Int).toNat) (.agg [.int .i64 ((x4.cell 0).toInt),.int .i64 ((x4.cell 1).toInt),.int .i64 ((x4.cell 2).toInt)]))[(IntKind.wrap .i64 (j-1):Int).toNat]?).bind fun x7=>
     kn (IntKind.wrap .i64 (j-1),(ai.set ((j:Int).toNat) (.agg [.int .i64 ((x4.cell 0).toInt),.int .i64 ((x4.cell 1).toInt),.int .i64 ((x4.cell 2).toInt)])).set ((IntKind.wrap .i64 (j-1):Int).toNat) (.agg [.int .i64 ((x5.cell 0).toInt),.int .i64 ((x5.cell 1).toInt),.int .i64 ((x5.cell 2).toInt)]))
     else none
    else none
    else none
   else none
   else
   kr (j,decide ((((V.nth r3 0).toInt):Int)<0),ai)
  else none
  else none
 else
  kr (j,false,ai)
noncomputable def wC (C:af) (a b' i:Int):(Int × (List V))→Option ((Int × (List V)) ⊕ (Int × Bool × (List V))):=un fun j ai=>wB C a b' i j ai (fun y=>some (.inl y)) (fun r=>some (.inr r))
noncomputable def AZ (C:af) (a b' i:Int) (ai:List V) {β:Type} (kn:(Int × (List V))→Option β) (kr:(Int × Bool × (List V))→Option β):Option β:=
 bif decide ((i:Int)<b') then
  (Loop (wC C a b' i) (i,ai)).bind (un fun (j_8:Int)=>un fun (qp:Bool) (om:List V)=>
   kn (IntKind.wrap .i64 (i+1),om))
 else
  kr (i,decide ((i:Int)<b'),ai)
noncomputable def FP (C:af) (a b':Int):(Int × (List V))→Option ((Int × (List V)) ⊕ (Int × Bool × (List V))):=un fun i ai=>AZ C a b' i ai (fun y=>some (.inl y)) (fun r=>some (.inr r))
noncomputable def TM (C:af):cq:=fun β n ds k=>
 bif Nat.beq n 65 then bu JX [false,false,false,true,true] [[1,2,3,0,0,0]] (@wB C) ds k else
 bif Nat.beq n 17 then bu JY [false,false,true,true] [[1,2,0,0,0]] (@AZ C) ds k else
 none
abbrev TN (C:af) (b:ch):Prop:=cj Tryd.prog aw C (TM C) 170 (cJ Tryd.prog (aw.aW 170)) (aw.sin 170).a8.length b
theorem aeF (C:af):TN C (.loop (ar [1,0,0,1,0,0,1,0,0] FO)):=
 bz JX [false,false,false,true,true] [[1,2,3,0,0,0]] (@wB C) (by kernel_rfl) (aS (bs:=[]) (by kernel_rfl) av) (fun ds=>by kernel_rfl) (fun i x=>by kernel_rfl) (fun i x β k=>by kernel_rfl) (fun β ds k=>by kernel_rfl)
theorem aeG (C:af):TN C (.loop (ar [1,0,0] FO)):=
 bz JY [false,false,true,true] [[1,2,0,0,0]] (@AZ C) (by kernel_rfl) (aS (bs:=[.loop (ar [1,0,0,1,0,0,1,0,0] FO)]) (by kernel_rfl) (bf (aeF C) av)) (fun ds=>by kernel_rfl) (fun i x=>by kernel_rfl) (fun i x β k=>by kernel_rfl) (fun β ds k=>by kernel_rfl)
noncomputable def TO (C:af) (a b':Int) (ai:List V):Option (List V):=
 (Loop (FP C a b') (IntKind.wrap .i64 (a+1),ai)).bind (un fun (aiu:Int)=>un fun (Ao:Bool) (Lr:List V)=>
  some [.list ag Lr])
theorem aeH {a b':Int} {ai:List V} {r:Option (List V)} (h:TO CC a b' ai=r):CC Em [.int .i64 a,.int .i64 b',.list ag ai]=r:=
 bn (key:=170) (L:=TM CC) (bs:=[.loop (ar [1,0,0] FO)]) (by kernel_rfl) (bf (aeG CC) av) (Eq.trans (by kernel_rfl) h)
end Go.AM
set_option maxRecDepth 100000
namespace Go.AM
open Go.Proofs
noncomputable abbrev wD:Code:=cC Tryd.prog (aw.aW 177)
noncomputable def ui (C:af) (hi first root child:Int) (t40:Bool) (ai:List V) {β:Type} (kr:(Int)→Option β):Option β:=
 bif t40 then
  kr (IntKind.wrap .i64 (child+1))
 else
  kr child
noncomputable def rW (C:af) (hi first root:Int) (ai:List V) {β:Type} (kn:(Int × (List V))→Option β) (kr:((Int × Int × Bool × (List V)) ⊕ (Int × Int × Bool × (List V)))→Option β):Option β:=
 bif decide (((IntKind.wrap .i64 ((IntKind.wrap .i64 (root*2))+1)):Int)≥hi) then
  kr (.inl (root,IntKind.wrap .i64 ((IntKind.wrap .i64 (root*2))+1),decide (((IntKind.wrap .i64 ((IntKind.wrap .i64 (root*2))+1)):Int)≥hi),ai))
 else
  bif decide (((IntKind.wrap .i64 ((IntKind.wrap .i64 ((IntKind.wrap .i64 (root*2))+1))+1)):Int)<hi) then
  bif (decide (0≤(IntKind.wrap .i64 (first+(IntKind.wrap .i64 ((IntKind.wrap .i64 (root*2))+1))))))&&(decide ((IntKind.wrap .i64 (first+(IntKind.wrap .i64 ((IntKind.wrap .i64 (root*2))+1))))<(ai.length:Int))) then
   (ai[(IntKind.wrap .i64 (first+(IntKind.wrap .i64 ((IntKind.wrap .i64 (root*2))+1))):Int).toNat]?).bind fun x1=>
   bif (decide (0≤(IntKind.wrap .i64 ((IntKind.wrap .i64 (first+(IntKind.wrap .i64 ((IntKind.wrap .i64 (root*2))+1))))+1))))&&(decide ((IntKind.wrap .i64 ((IntKind.wrap .i64 (first+(IntKind.wrap .i64 ((IntKind.wrap .i64 (root*2))+1))))+1))<(ai.length:Int))) then
   (ai[(IntKind.wrap .i64 ((IntKind.wrap .i64 (first+(IntKind.wrap .i64 ((IntKind.wrap .i64 (root*2))+1))))+1):Int).toNat]?).bind fun x2=>
   (C bw [.int .i64 ((x1.cell 0).toInt),.int .i64 ((x1.cell 1).toInt),.int .i64 ((x1.cell 2).toInt),.int .i64 ((x2.cell 0).toInt),.int .i64 ((x2.cell 1).toInt),.int .i64 ((x2.cell 2).toInt)]).bind fun r3=>
   ui C hi first root (IntKind.wrap .i64 ((IntKind.wrap .i64 (root*2))+1)) (decide ((((V.nth r3 0).toInt):Int)<0)) ai (fun (m9:Int)=>
    bif (decide (0≤(IntKind.wrap .i64 (first+root))))&&(decide ((IntKind.wrap .i64 (first+root))<(ai.length:Int))) then
     (ai[(IntKind.wrap .i64 (first+root):Int).toNat]?).bind fun x5=>
     bif (decide (0≤(IntKind.wrap .i64 (first+m9))))&&(decide ((IntKind.wrap .i64 (first+m9))<(ai.length:Int))) then
     (ai[(IntKind.wrap .i64 (first+m9):Int).toNat]?).bind fun x6=>
     (C bw [.int .i64 ((x5.cell 0).toInt),.int .i64 ((x5.cell 1).toInt),.int .i64 ((x5.cell 2).toInt),.int .i64 ((x6.cell 0).toInt),.int .i64 ((x6.cell 1).toInt),.int .i64 ((x6.cell 2).toInt)]).bind fun r7=>
     bif !(decide ((((V.nth r7 0).toInt):Int)<0)) then
      kr (.inr (root,m9,!(decide ((((V.nth r7 0).toInt):Int)<0)),ai))
     else
      bif (decide (0≤(IntKind.wrap .i64 (first+m9))))&&(decide ((IntKind.wrap .i64 (first+m9))<(ai.length:Int))) then
      (ai[(IntKind.wrap .i64 (first+m9):Int).toNat]?).bind fun x8=>
      bif (decide (0≤(IntKind.wrap .i64 (first+root))))&&(decide ((IntKind.wrap .i64 (first+root))<(ai.length:Int))) then
       (ai[(IntKind.wrap .i64 (first+root):Int).toNat]?).bind fun x9=>
       bif (decide (0≤(IntKind.wrap .i64 (first+root))))&&(decide ((IntKind.wrap .i64 (first+root))<(ai.length:Int))) then
       (ai[(IntKind.wrap .i64 (first+root):Int).toNat]?).bind fun gd=>
       bif (decide (0≤(IntKind.wrap .i64 (first+m9))))&&(decide ((IntKind.wrap .i64 (first+m9))<((ai.set ((IntKind.wrap .i64 (first+root):Int).toNat) (.agg [.int .i64 ((x8.cell 0).toInt),.int .i64 ((x8.cell 1).toInt),.int .i64 ((x8.cell 2).toInt)])).length:Int))) then
        ((ai.set ((IntKind.wrap .i64 (first+root):Int).toNat) (.agg [.int .i64 ((x8.cell 0).toInt),.int .i64 ((x8.cell 1).toInt),.int .i64 ((x8.cell 2).toInt)]))[(IntKind.wrap .i64 (first+m9):Int).toNat]?).bind fun ey=>
        kn (m9,(ai.set ((IntKind.wrap .i64 (first+root):Int).toNat) (.agg [.int .i64 ((x8.cell 0).toInt),.int .i64 ((x8.cell 1).toInt),.int .i64 ((x8.cell 2).toInt)])).set ((IntKind.wrap .i64 (first+m9):Int).toNat) (.agg [.int .i64 ((x9.cell 0).toInt),.int .i64 ((x9.cell 1).toInt),.int .i64 ((x9.cell 2).toInt)]))
       else none
       else none
      else none
      else none
     else none
    else none)
   else none
  else none
  else
  ui C hi first root (IntKind.wrap .i64 ((IntKind.wrap .i64 (root*2))+1)) false ai (fun (na:Int)=>
   bif (decide (0≤(IntKind.wrap .i64 (first+root))))&&(decide ((IntKind.wrap .i64 (first+root))<(ai.length:Int))) then
    (ai[(IntKind.wrap .i64 (first+root):Int).toNat]?).bind fun gH=>
    bif (decide (0≤(IntKind.wrap .i64 (first+na))))&&(decide ((IntKind.wrap .i64 (first+na))<(ai.length:Int))) then
    (ai[(IntKind.wrap .i64 (first+na):Int).toNat]?).bind fun lp=>
    (C bw [.int .i64 ((gH.cell 0).toInt),.int .i64 ((gH.cell 1).toInt),.int .i64 ((gH.cell 2).toInt),.int .i64 ((lp.cell 0).toInt),.int .i64 ((lp.cell 1).toInt),.int .i64 ((lp.cell 2).toInt)]).bind fun oe=>
    bif !(decide ((((V.nth oe 0).toInt):Int)<0)) then
     kr (.inr (root,na,!(decide ((((V.nth oe 0).toInt):Int)<0)),ai))
    else
     bif (decide (0≤(IntKind.wrap .i64 (first+na))))&&(decide ((IntKind.wrap .i64 (first+na))<(ai.length:Int))) then
     (ai[(IntKind.wrap .i64 (first+na):Int).toNat]?).bind fun gu=>
     bif (decide (0≤(IntKind.wrap .i64 (first+root))))&&(decide ((IntKind.wrap .i64 (first+root))<(ai.length:Int))) then
      (ai[(IntKind.wrap .i64 (first+root):Int).toNat]?).bind fun mX=>
      bif (decide (0≤(IntKind.wrap .i64 (first+root))))&&(decide ((IntKind.wrap .i64 (first+root))<(ai.length:Int))) then
      (ai[(IntKind.wrap .i64 (first+root):Int).toNat]?).bind fun rR=>
      bif (decide (0≤(IntKind.wrap .i64 (first+na))))&&(decide ((IntKind.wrap .i64 (first+na))<((ai.set ((IntKind.wrap .i64 (first+root):Int).toNat) (.agg [.int .i64 ((gu.cell 0).toInt),.int .i64 ((gu.cell 1).toInt),.int .i64 ((gu.cell 2).toInt)])).length:Int))) then
       ((ai.set ((IntKind.wrap .i64 (first+root):Int).toNat) (.agg [.int .i64 ((gu.cell 0).toInt),.int .i64 ((gu.cell 1).toInt),.int .i64 ((gu.cell 2).toInt)]))[(IntKind.wrap .i64 (first+na):Int).toNat]?).bind fun ld=>
       kn (na,(ai.set ((IntKind.wrap .i64 (first+root):Int).toNat) (.agg [.int .i64 ((gu.cell 0).toInt),.int .i64 ((gu.cell 1).toInt),.int .i64 ((gu.cell 2).toInt)])).set ((IntKind.wrap .i64 (first+na):Int).toNat) (.agg [.int .i64 ((mX.cell 0).toInt),.int .i64 ((mX.cell 1).toInt),.int .i64 ((mX.cell 2).toInt)]))
      else none
      else none
     else none
     else none
    else none
   else none)
noncomputable def oo (C:af) (hi first:Int):(Int × (List V))→Option ((Int × (List V)) ⊕ ((Int × Int × Bool × (List V)) ⊕ (Int × Int × Bool × (List V)))):=un fun root ai=>rW C hi first root ai (fun y=>some (.inl y)) (fun r=>some (.inr r))
noncomputable def TP (C:af):cq:=fun β n ds k=>
 bif Nat.beq n 655 then lO J5 [[1,2,3,0,6]] (@ui C) ds k else
 bif Nat.beq n 17 then bu J6 [false,false,true,true] [[1,2,0,0,0,0],[1,2,0,0,0,0]] (@rW C) ds k else
 none
abbrev TQ (C:af) (b:ch):Prop:=cj Tryd.prog aw C (TP C) 177 (cJ Tryd.prog (aw.aW 177)) (aw.sin 177).a8.length b
theorem aeI (C:af):TQ C (.cond 40 (ar [1,0,0,0,1,1,0,1,0] wD) (ar [1,0,0,0,1,1,0,1,1] wD)):=
 mK J5 [[1,2,3,0,6]] (@ui C) (by kernel_rfl) (aS (bs:=[]) (by kernel_rfl) av) (aS (bs:=[]) (by kernel_rfl) av) (fun ds=>by kernel_rfl) (fun i β k=>by kernel_rfl) (fun β ds k=>by kernel_rfl)
theorem aeJ (C:af):TQ C (.loop (ar [1,0,0] wD)):=
 bz J6 [false,false,true,true] [[1,2,0,0,0,0],[1,2,0,0,0,0]] (@rW C) (by kernel_rfl) (aS (bs:=[.cond 40 (ar [1,0,0,0,1,1,0,1,0] wD) (ar [1,0,0,0,1,1,0,1,1] wD)]) (by kernel_rfl) (bf (aeI C) av)) (fun ds=>by kernel_rfl) (fun i x=>by kernel_rfl) (fun i x β k=>by kernel_rfl) (fun β ds k=>by kernel_rfl)
noncomputable def TR (C:af) (lo hi first:Int) (ai:List V):Option (List V):=
 (Loop (oo C hi first) (lo,ai)).bind (cZ (un fun (aiv:Int)=>un fun (aiw:Int)=>un fun (acR:Bool) (aeK:List V)=>
  some [.list ag aeK]) (un fun (aix:Int)=>un fun (aiy:Int)=>un fun (adf:Bool) (qE:List V)=>
  some [.list ag qE]))
theorem aeL {lo hi first:Int} {ai:List V} {r:Option (List V)} (h:TR CC lo hi first ai=r):CC Er [.int .i64 lo,.int .i64 hi,.int .i64 first,.list ag ai]=r:=
 bn (key:=177) (L:=TP CC) (bs:=[.loop (ar [1,0,0] wD)]) (by kernel_rfl) (bf (aeJ CC) av) (Eq.trans (by kernel_rfl) h)
end Go.AM
set_option maxRecDepth 100000
namespace Go.AM
open Go.Proofs
noncomputable abbrev FQ:Code:=cC Tryd.prog (aw.aW 171)
noncomputable def A0 (C:af) (first lo hi i:Int) (ai:List V) {β:Type} (kn:(Int × (List V))→Option β) (kr:(Int × Bool × (List V))→Option β):Option β:=
 bif decide ((i:Int)≥0) then
  (C Er [.int .i64 i,.int .i64 hi,.int .i64 first,.list ag ai]).bind fun r1=>
  kn (IntKind.wrap .i64 (i-1),(V.nth r1 0).toList)
 else
  kr (i,decide ((i:Int)≥0),ai)
noncomputable def FR (C:af) (first lo hi:Int):(Int × (List V))→Option ((Int × (List V)) ⊕ (Int × Bool × (List V))):=un fun i ai=>A0 C first lo hi i ai (fun y=>some (.inl y)) (fun r=>some (.inr r))
noncomputable def A1 (C:af) (first lo i:Int) (ai:List V) {β:Type} (kn:(Int × (List V))→Option β) (kr:(Int × Bool × (List V))→Option β):Option β:=
 bif decide ((i:Int)≥0) then
  bif (decide (0≤(IntKind.wrap .i64 (first+i))))&&(decide ((IntKind.wrap .i64 (first+i))<(ai.length:Int))) then
  (ai[(IntKind.wrap .i64 (first+i):Int).toNat]?).bind fun x5=>
  bif (decide (0≤first))&&(decide (first<(ai.length:Int))) then
   (ai[(first:Int).toNat]?).bind fun x6=>
   bif (decide (0≤first))&&(decide (first<(ai.length:Int))) then
   (ai[(first:Int).toNat]?).bind fun x7=>
   bif (decide (0≤(IntKind.wrap .i64 (first+i))))&&(decide ((IntKind.wrap .i64 (first+i))<((ai.set ((first:Int).toNat) (.agg [.int .i64 ((x5.cell 0).toInt),.int .i64 ((x5.cell 1).toInt),.int .i64 ((x5.cell 2).toInt)])).length:Int))) then
    ((ai.set ((first:Int).toNat) (.agg [.int .i64 ((x5.cell 0).toInt),.int .i64 ((x5.cell 1).toInt),.int .i64 ((x5.cell 2).toInt)]))[(IntKind.wrap .i64 (first+i):Int).toNat]?).bind fun x8=>
    (C Er [.int .i64 lo,.int .i64 i,.int .i64 first,.list ag ((ai.set ((first:Int).toNat) (.agg [.int .i64 ((x5.cell 0).toInt),.int .i64 ((x5.cell 1).toInt),.int .i64 ((x5.cell 2).toInt)])).set ((IntKind.wrap .i64 (first+i):Int).toNat) (.agg [.int .i64 ((x6.cell 0).toInt),.int .i64 ((x6.cell 1).toInt),.int .i64 ((x6.cell 2).toInt)]))]).bind fun r9=>
    kn (IntKind.wrap .i64 (i-1),(V.nth r9 0).toList)
   else none
   else none
  else none
  else none
 else
  kr (i,decide ((i:Int)≥0),ai)
noncomputable def FT (C:af) (first lo:Int):(Int × (List V))→Option ((Int × (List V)) ⊕ (Int × Bool × (List V))):=un fun i ai=>A1 C first lo i ai (fun y=>some (.inl y)) (fun r=>some (.inr r))
noncomputable def TS (C:af):cq:=fun β n ds k=>
 bif Nat.beq n 65 then bu JZ [false,false,false,true,true] [[1,2,3,0,0,0]] (@A0 C) ds k else
 bif Nat.beq n 129 then bu J0 [false,false,true,true] [[1,2,0,0,0]] (@A1 C) ds k else
 none
abbrev TT (C:af) (b:ch):Prop:=cj Tryd.prog aw C (TS C) 171 (cJ Tryd.prog (aw.aW 171)) (aw.sin 171).a8.length b
theorem aeM (C:af):TT C (.loop (ar [1,1,1,0,1,0,0] FQ)):=
 bz JZ [false,false,false,true,true] [[1,2,3,0,0,0]] (@A0 C) (by kernel_rfl) (aS (bs:=[]) (by kernel_rfl) av) (fun ds=>by kernel_rfl) (fun i x=>by kernel_rfl) (fun i x β k=>by kernel_rfl) (fun β ds k=>by kernel_rfl)
theorem aeN (C:af):TT C (.loop (ar [1,1,1,1,1,0,0] FQ)):=
 bz J0 [false,false,true,true] [[1,2,0,0,0]] (@A1 C) (by kernel_rfl) (aS (bs:=[]) (by kernel_rfl) av) (fun ds=>by kernel_rfl) (fun i x=>by kernel_rfl) (fun i x β k=>by kernel_rfl) (fun β ds k=>by kernel_rfl)
noncomputable def TU (C:af) (a b':Int) (ai:List V):Option (List V):=
 (Loop (FR C a 0 (IntKind.wrap .i64 (b'-a))) (IntKind.wrap .i64 (Int.tdiv (IntKind.wrap .i64 ((IntKind.wrap .i64 (b'-a))-1)) 2),ai)).bind (un fun (i_2:Int)=>un fun (jO:Bool) (aeO:List V)=>
  (Loop (FT C a 0) (IntKind.wrap .i64 ((IntKind.wrap .i64 (b'-a))-1),aeO)).bind (un fun (aiz:Int)=>un fun (Ld:Bool) (mb:List V)=>
   some [.list ag mb]))
theorem aeP {a b':Int} {ai:List V} {r:Option (List V)} (h:TU CC a b' ai=r):CC En [.int .i64 a,.int .i64 b',.list ag ai]=r:=
 bn (key:=171) (L:=TS CC) (bs:=[.loop (ar [1,1,1,0,1,0,0] FQ),.loop (ar [1,1,1,1,1,0,0] FQ)]) (by kernel_rfl) (bf (aeM CC) (bf (aeN CC) av)) (Eq.trans (by kernel_rfl) h)
end Go.AM
set_option maxRecDepth 100000
namespace Go.AM
open Go.Proofs
noncomputable abbrev TV:Code:=cC Tryd.prog (aw.aW 179)
noncomputable def wE (C:af) (i j:Int) (ai:List V) {β:Type} (kn:(Int × Int × (List V))→Option β) (kr:(Int × Int × Bool × (List V))→Option β):Option β:=
 bif decide ((i:Int)<j) then
  bif (decide (0≤j))&&(decide (j<(ai.length:Int))) then
  (ai[(j:Int).toNat]?).bind fun x1=>
  bif (decide (0≤i))&&(decide (i<(ai.length:Int))) then
   (ai[(i:Int).toNat]?).bind fun x2=>
   bif (decide (0≤i))&&(decide (i<(ai.length:Int))) then
   (ai[(i:Int).toNat]?).bind fun x3=>
   bif (decide (0≤j))&&(decide (j<((ai.set ((i:Int).toNat) (.agg [.int .i64 ((x1.cell 0).toInt),.int .i64 ((x1.cell 1).toInt),.int .i64 ((x1.cell 2).toInt)])).length:Int))) then
    ((ai.set ((i:Int).toNat) (.agg [.int .i64 ((x1.cell 0).toInt),.int .i64 ((x1.cell 1).toInt),.int .i64 ((x1.cell 2).toInt)]))[(j:Int).toNat]?).bind fun x4=>
    kn (IntKind.wrap .i64 (i+1),IntKind.wrap .i64 (j-1),(ai.set ((i:Int).toNat) (.agg [.int .i64 ((x1.cell 0).toInt),.int .i64 ((x1.cell 1).toInt),.int .i64 ((x1.cell 2).toInt)])).set ((j:Int).toNat) (.agg [.int .i64 ((x2.cell 0).toInt),.int .i64 ((x2.cell 1).toInt),.int .i64 ((x2.cell 2).toInt)]))
   else none
   else none
  else none
  else none
 else
  kr (i,j,decide ((i:Int)<j),ai)
noncomputable def A3 (C:af):(Int × Int × (List V))→Option ((Int × Int × (List V)) ⊕ (Int × Int × Bool × (List V))):=un fun i=>un fun j ai=>wE C i j ai (fun y=>some (.inl y)) (fun r=>some (.inr r))
noncomputable def TW (C:af):cq:=fun β n ds k=>
 bif Nat.beq n 33 then bu J7 [true,true,true] [[0,0,0,0]] (@wE C) ds k else
 none
abbrev aeQ (C:af) (b:ch):Prop:=cj Tryd.prog aw C (TW C) 179 (cJ Tryd.prog (aw.aW 179)) (aw.sin 179).a8.length b
theorem aeR (C:af):aeQ C (.loop (ar [1,1,0,0] TV)):=
 bz J7 [true,true,true] [[0,0,0,0]] (@wE C) (by kernel_rfl) (aS (bs:=[]) (by kernel_rfl) av) (fun ds=>by kernel_rfl) (fun i x=>by kernel_rfl) (fun i x β k=>by kernel_rfl) (fun β ds k=>by kernel_rfl)
noncomputable def TX (C:af) (a b':Int) (ai:List V):Option (List V):=
 (Loop (A3 C) (a,IntKind.wrap .i64 (b'-1),ai)).bind (un fun (i_5:Int)=>un fun (j_6:Int)=>un fun (mM:Bool) (aeS:List V)=>
  some [.list ag aeS])
theorem aeT {a b':Int} {ai:List V} {r:Option (List V)} (h:TX CC a b' ai=r):CC IH [.int .i64 a,.int .i64 b',.list ag ai]=r:=
 bn (key:=179) (L:=TW CC) (bs:=[.loop (ar [1,1,0,0] TV)]) (by kernel_rfl) (bf (aeR CC) av) (Eq.trans (by kernel_rfl) h)
end Go.AM
set_option maxRecDepth 100000
set_option linter.unusedSimpArgs false
set_option maxHeartbeats 4000000
namespace Go.AM.SL
open Go.AM Go.Proofs Go.Sort
def ay (a b:Ed):Bool:=decide (bO a b<0)
theorem rX (a b:Ed):(ay a b=true)=(bO a b<0):=by unfold ay;rw[decide_eq_true_eq]
theorem qG (a b:Ed):((!ay a b)=true)= ¬(bO a b<0):=by unfold ay;simp
abbrev eA (d:Array Ed):List V:=o6 Ed.enc d
theorem aeU (a j:Nat) (d:Array Ed):insInner ay a (j+1) d=if j+1>a then (if bO d[j+1]! d[j]! <0 then insInner ay a j (swp d (j+1) j) else d) else d:=by
 rw[Tt]
 by_cases h1:j+1>a
 ·rw[if_pos h1];simp only[h1,decide_true,Bool.true_and,rX]
 ·rw[if_neg h1,if_neg (by simp[h1])]
theorem Ls (hi first root:Nat) (d:Array Ed):siftDown ay hi first root d=
  if 2*root+1≥hi then d else
   if 2*root+2<hi then
    (if bO d[first+(2*root+1)]! d[first+(2*root+2)]! <0 then
     (if bO d[first+root]! d[first+(2*root+2)]! <0 then siftDown ay hi first (2*root+2) (swp d (first+root) (first+(2*root+2))) else d)
    else (if bO d[first+root]! d[first+(2*root+1)]! <0 then siftDown ay hi first (2*root+1) (swp d (first+root) (first+(2*root+1))) else d))
   else (if bO d[first+root]! d[first+(2*root+1)]! <0 then siftDown ay hi first (2*root+1) (swp d (first+root) (first+(2*root+1))) else d):=by
 rw[siftDown]
 by_cases h1:2*root+1≥hi
 ·rw[dif_pos h1,if_pos h1]
 rw[dif_neg h1,if_neg h1]
 by_cases h2:2*root+2<hi
 ·rw[if_pos h2]
  by_cases h3:bO d[first+(2*root+1)]! d[first+(2*root+2)]! <0
  ·rw[if_pos h3,if_pos (by simp only[Bool.and_eq_true,decide_eq_true_eq,rX];exact ⟨h2,h3⟩)]
   simp only[qG]
   by_cases h4:bO d[first+root]! d[first+(2*root+2)]! <0
   ·rw[if_neg (not_not_intro h4),dif_pos h2,if_pos h4]
   ·rw[if_pos h4,if_neg h4]
  ·rw[if_neg h3,if_neg (by simp only[Bool.and_eq_true,decide_eq_true_eq,rX];exact fun h=>h3 h.2)]
   simp only[qG]
   by_cases h4:bO d[first+root]! d[first+(2*root+1)]! <0
   ·rw[if_neg (not_not_intro h4),if_pos h4]
   ·rw[if_pos h4,if_neg h4]
 ·rw[if_neg h2,if_neg (by simp only[Bool.and_eq_true,decide_eq_true_eq,rX];exact fun h=>h2 h.1)]
  simp only[qG]
  by_cases h4:bO d[first+root]! d[first+(2*root+1)]! <0
  ·rw[if_neg (not_not_intro h4),if_pos h4]
  ·rw[if_pos h4,if_neg h4]
theorem TY {a b i:Nat}: ∀(j:Nat) (d:Array Ed),j<d.size→d.size<1152921504606846976→
  ∃j' t,Loop (wC CC a b i) ((j:Int),eA d)=some (j',t,eA (insInner ay a j d))
 | 0,d,hj,hs=>⟨(0:Nat),false,bS (by
   simp (disch:=omega) only[wC,wB,un,aA,if_neg]
   rfl)⟩
 | j+1,d,hj,hs=>by
  obtain ⟨j',t,ih⟩:=TY (a:=a) (b:=b) (i:=i) j (swp d (j+1) j) (by rw[size_swp];omega) (by rw[size_swp];omega)
  rw[aeU]
  by_cases h1:j+1>a
  ·rw[if_pos h1]
   have e:wC CC a b i (((j+1:Nat):Int),eA d)=if bO d[j+1]! d[j]! <0 then some (.inl ((j:Int),eA (swp d (j+1) j))) else some (.inr (((j+1:Nat):Int),decide (bO d[j+1]! d[j]! <0),eA d)):=by
    simp (disch:=omega) only[wC,wB,un,aA,dv,gb,if_pos,if_neg,wrap64,dG,fR,Int.toNat_natCast,Option.bind_some,fO,fQ,Ed.di,Ed.dj,Ed.dk,Ed.re,fP,g9,Array.size_setIfInBounds,gr,V.bQ,V.toInt_int,cond_true,cond_false,rV]
    rfl
   by_cases h2:bO d[j+1]! d[j]! <0
   ·rw[if_pos h2] at e⊢
    exact ⟨j',t,(dV e).trans ih⟩
   ·rw[if_neg h2] at e⊢
    exact ⟨_,_,bS e⟩
  ·rw[if_neg h1]
   exact ⟨((j+1:Nat):Int),false,bS (by
    simp (disch:=omega) only[wC,wB,un,aA,if_neg])⟩
theorem aeV {a b:Nat}: ∀(n i:Nat) (d:Array Ed),b-i=n→b≤d.size→d.size<1152921504606846976→
  ∃j' t,Loop (FP CC a b) ((i:Int),eA d)=some (j',t,eA (insOuter ay a b i d)):=by
 intro n
 induction n with
 | zero=>
  intro i d hn hb hs
  rw[insOuter,if_neg (by omega)]
  exact ⟨(i:Int),false,bS (by
   simp (disch:=omega) only[FP,AZ,un,qC,cond_false])⟩
 | succ n ih=>
  intro i d hn hb hs
  obtain ⟨j1,t1,h1⟩:=TY (a:=a) (b:=b) (i:=i) i d (by omega) hs
  obtain ⟨j',t,h2⟩:=ih (i+1) (insInner ay a i d) (by omega) (by rw[Li];omega) (by rw[Li];omega)
  rw[insOuter,if_pos (by omega)]
  refine ⟨j',t,(dV ?_).trans h2⟩
  simp (disch:=omega) only[FP,AZ,un,aA,if_pos,h1,Option.bind_some,dG,wrap64]
theorem TZ {a b:Nat} {d:Array Ed} (hb:b≤d.size) (hs:d.size<1152921504606846976) (ha:a<1152921504606846976):
  CC Em [.int .i64 (a:Int),.int .i64 (b:Int),.list ag (eA d)]=some [.list ag (eA (insertionSort ay d a b))]:=by
 refine aeH ?_
 unfold TO
 obtain ⟨j',t,h⟩:=aeV (a:=a) (b:=b) _ (a+1) d rfl hb hs
 simp (disch:=omega) only[dG,wrap64]
 rw[h]
 rfl
theorem aeW (hi first:Nat): ∀(n root:Nat) (d:Array Ed),hi-root≤n→root<1152921504606846976→first+hi≤d.size→d.size<1152921504606846976→
  (∃x y z,Loop (oo CC hi first) ((root:Int),eA d)=some (.inl (x,y,z,eA (siftDown ay hi first root d))))∨
  (∃x y z,Loop (oo CC hi first) ((root:Int),eA d)=some (.inr (x,y,z,eA (siftDown ay hi first root d)))):=by
 intro n
 induction n with
 | zero=>
  intro root d hn hr hb hs
  rw[Ls,if_pos (by omega)]
  exact .inl ⟨(root:Int),((root*2+1:Nat):Int),true,bS (by
   simp (disch:=omega) only[oo,rW,un,AO,dG,wrap64];rw[mY (by omega)];rfl)⟩
 | succ n ih=>
  intro root d hn hr hb hs
  by_cases h1:2*root+1≥hi
  ·rw[Ls,if_pos h1]
   exact .inl ⟨(root:Int),((root*2+1:Nat):Int),true,bS (by
    simp (disch:=omega) only[oo,rW,un,AO,dG,wrap64];rw[mY (by omega)];rfl)⟩
  ·have go: ∀c:Nat,c<hi→root<c→(oo CC hi first ((root:Int),eA d)=
      if bO d[first+root]! d[first+c]! <0 then some (.inl ((c:Int),eA (swp d (first+root) (first+c)))) else some (.inr (.inr ((root:Int),(c:Int),true,eA d))))→
     siftDown ay hi first root d=(if bO d[first+root]! d[first+c]! <0 then siftDown ay hi first c (swp d (first+root) (first+c)) else d)→
     ((∃x y z,Loop (oo CC hi first) ((root:Int),eA d)=some (.inl (x,y,z,eA (siftDown ay hi first root d))))∨
     (∃x y z,Loop (oo CC hi first) ((root:Int),eA d)=some (.inr (x,y,z,eA (siftDown ay hi first root d))))):=by
    intro c hc hrc e1 e2
    rw[e2]
    by_cases h3:bO d[first+root]! d[first+c]! <0
    ·rw[if_pos h3] at e1
     rw[if_pos h3,dV e1]
     exact ih c _ (by omega) (by omega) (by rw[size_swp];omega) (by rw[size_swp];omega)
    ·rw[if_neg h3] at e1
     rw[if_neg h3,bS e1]
     exact .inr ⟨_,_,_,rfl⟩
   have e0:=Ls hi first root d
   rw[if_neg h1] at e0
   by_cases h2:2*root+2<hi
   ·rw[if_pos h2] at e0
    by_cases h3:bO d[first+(2*root+1)]! d[first+(2*root+2)]! <0
    ·rw[if_pos h3] at e0
     refine go (2*root+2) (by omega) (by omega) ?_ e0
     rw[Nat.mul_comm 2 root] at h3
     simp (disch:=omega) only[oo,rW,un,AO,dG,fR,wrap64]
     rw[aA,if_neg (by omega),aA,if_pos (by omega)]
     simp (disch:=omega) only[ui,aA,dv,gb,if_pos,if_neg,wrap64,dG,fR,Int.toNat_natCast,Option.bind_some,fO,fQ,Ed.di,Ed.dj,Ed.dk,Ed.re,fP,g9,Array.size_setIfInBounds,gr,V.bQ,V.toInt_int,cond_true,cond_false,Nat.mul_comm 2 root,mY]
     by_cases h4:bO d[first+root]! d[first+(root*2+2)]! <0
     ·simp only[h4,if_true];rfl
     ·simp only[h4,if_false];rfl
    ·rw[if_neg h3] at e0
     refine go (2*root+1) (by omega) (by omega) ?_ e0
     rw[Nat.mul_comm 2 root] at h3
     simp (disch:=omega) only[oo,rW,un,AO,dG,fR,wrap64]
     rw[aA,if_neg (by omega),aA,if_pos (by omega)]
     simp (disch:=omega) only[ui,aA,dv,gb,if_pos,if_neg,wrap64,dG,fR,Int.toNat_natCast,Option.bind_some,fO,fQ,Ed.di,Ed.dj,Ed.dk,Ed.re,fP,g9,Array.size_setIfInBounds,gr,V.bQ,V.toInt_int,cond_true,cond_false,Nat.mul_comm 2 root,qC]
     by_cases h4:bO d[first+root]! d[first+(root*2+1)]! <0
     ·simp only[h4,if_true];rfl
     ·simp only[h4,if_false];rfl
   ·rw[if_neg h2] at e0
    refine go (2*root+1) (by omega) (by omega) ?_ e0
    simp (disch:=omega) only[oo,rW,un,AO,dG,fR,wrap64]
    rw[aA,if_neg (by omega),aA,if_neg (by omega)]
    simp (disch:=omega) only[ui,aA,dv,gb,if_pos,if_neg,wrap64,dG,fR,Int.toNat_natCast,Option.bind_some,fO,fQ,Ed.di,Ed.dj,Ed.dk,Ed.re,fP,g9,Array.size_setIfInBounds,gr,V.bQ,V.toInt_int,cond_true,cond_false,Nat.mul_comm 2 root]
    by_cases h4:bO d[first+root]! d[first+(root*2+1)]! <0
    ·simp only[h4,if_true];rfl
    ·simp only[h4,if_false];rfl
theorem T2 {lo hi first:Nat} {d:Array Ed} (hl:lo<1152921504606846976) (hb:first+hi≤d.size) (hs:d.size<1152921504606846976):
  CC Er [.int .i64 (lo:Int),.int .i64 (hi:Int),.int .i64 (first:Int),.list ag (eA d)]=some [.list ag (eA (siftDown ay hi first lo d))]:=by
 refine aeL ?_
 unfold TR
 rcases aeW hi first _ lo d (Nat.le_refl _) hl hb hs with ⟨x,y,z,h⟩|⟨x,y,z,h⟩
 ·rw[h];rfl
 ·rw[h];rfl
theorem T4 {hi first:Nat}: ∀(k:Nat) (d:Array Ed),k<1152921504606846976→first+hi≤d.size→d.size<1152921504606846976→
  ∃x y,Loop (FR CC first 0 hi) ((k:Int)-1,eA d)=some (x,y,eA (heapBuild ay hi first k d))
 | 0,d,hk,hb,hs=>⟨-1,false,bS (by
   simp (disch:=omega) only[FR,A0,un,aA,if_neg]
   rfl)⟩
 | k+1,d,hk,hb,hs=>by
  obtain ⟨x,y,ih⟩:=T4 (hi:=hi) (first:=first) k (siftDown ay hi first k d) (by omega) (by rw[AP _ _ _ _ _ (Nat.le_refl _)];omega) (by rw[AP _ _ _ _ _ (Nat.le_refl _)];omega)
  refine ⟨x,y,(dV ?_).trans ih⟩
  simp (disch:=omega) only[FR,A0,un,aA,if_pos,rV,T2,Option.bind_some,V.bQ,V.mH,wrap64]
theorem T6 {first:Nat}: ∀(k:Nat) (d:Array Ed),k<1152921504606846976→first+k≤d.size→d.size<1152921504606846976→
  ∃x y,Loop (FT CC first 0) ((k:Int)-1,eA d)=some (x,y,eA (heapPop ay first k d))
 | 0,d,hk,hb,hs=>⟨-1,false,bS (by
   simp (disch:=omega) only[FT,A1,un,aA,if_neg]
   rfl)⟩
 | k+1,d,hk,hb,hs=>by
  obtain ⟨x,y,ih⟩:=T6 (first:=first) k (siftDown ay k first 0 (swp d first (first+k))) (by omega) (by rw[AP _ _ _ _ _ (Nat.le_refl _),size_swp];omega) (by rw[AP _ _ _ _ _ (Nat.le_refl _),size_swp];omega)
  refine ⟨x,y,(dV ?_).trans ih⟩
  have ka:=T2 (lo:=0) (hi:=k) (first:=first) (d:=swp d first (first+k)) (by omega) (by rw[size_swp];omega) (by rw[size_swp];omega)
  unfold swp at ka⊢
  rw[show ((0:Nat):Int)=0 from rfl] at ka
  simp (disch:=omega) only[FT,A1,un,rV,aA,dv,gb,if_pos,if_neg,wrap64,dG,fR,Int.toNat_natCast,Option.bind_some,fO,fQ,Ed.di,Ed.dj,Ed.dk,Ed.re,fP,g9,Array.size_setIfInBounds,gr,V.bQ,V.toInt_int,cond_true,cond_false]
  rw[ka]
  simp (disch:=omega) only[Option.bind_some,V.bQ,V.mH,wrap64]
theorem aeX {a b:Nat} {d:Array Ed} (fJ:a<b) (hb:b≤d.size) (hs:d.size<1152921504606846976):
  CC En [.int .i64 (a:Int),.int .i64 (b:Int),.list ag (eA d)]=some [.list ag (eA (heapSort ay d a b))]:=by
 refine aeP ?_
 unfold TU
 obtain ⟨x,y,h1⟩:=T4 (hi:=b-a) (first:=a) ((b-a-1)/2+1) d (by omega) (by omega) hs
 obtain ⟨x2,y2,h2⟩:=T6 (first:=a) (b-a) (heapBuild ay (b-a) a ((b-a-1)/2+1) d) (by omega) (by rw[Lj];omega) (by rw[Lj];omega)
 have e1:((((b-a-1)/2+1:Nat):Int)-1)=Int.tdiv (((b-a:Nat):Int)-1) 2:=by
  rw[Int.tdiv_eq_ediv_of_nonneg (by omega)]
  omega
 rw[e1] at h1
 simp (disch:=omega) only[lZ,wrap64]
 rw[h1]
 simp only[Option.bind_some,un]
 rw[h2]
 rfl
theorem aeY: ∀(n i j:Nat) (d:Array Ed),j-i≤n→j<d.size→d.size<1152921504606846976→
  ∃x y z,Loop (A3 CC) ((i:Int),(j:Int),eA d)=some (x,y,z,eA (reverseLoop i j d)):=by
 intro n
 induction n with
 | zero=>
  intro i j d hn hj hs
  rw[reverseLoop,if_neg (by omega)]
  exact ⟨(i:Int),(j:Int),false,bS (by
   simp (disch:=omega) only[A3,wE,un,qC,cond_false])⟩
 | succ n ih=>
  intro i j d hn hj hs
  rw[reverseLoop]
  by_cases h:i<j
  ·rw[if_pos h]
   obtain ⟨x,y,z,h2⟩:=ih (i+1) (j-1) (swp d i j) (by omega) (by rw[size_swp];omega) (by rw[size_swp];omega)
   refine ⟨x,y,z,(dV ?_).trans h2⟩
   simp (disch:=omega) only[A3,wE,un,aA,dv,gb,if_pos,if_neg,wrap64,dG,fR,Int.toNat_natCast,Option.bind_some,fO,fQ,Ed.di,Ed.dj,Ed.dk,Ed.re,fP,g9,Array.size_setIfInBounds,gr,V.bQ,V.toInt_int,cond_true,cond_false,jr]
   rfl
  ·rw[if_neg h]
   exact ⟨(i:Int),(j:Int),false,bS (by
    simp (disch:=omega) only[A3,wE,un,qC,cond_false])⟩
theorem aeZ {a b:Nat} {d:Array Ed} (fJ:a<b) (hb:b≤d.size) (hs:d.size<1152921504606846976):
  CC IH [.int .i64 (a:Int),.int .i64 (b:Int),.list ag (eA d)]=some [.list ag (eA (reverseRange d a b))]:=by
 refine aeT ?_
 unfold TX
 obtain ⟨x,y,z,h⟩:=aeY _ a (b-1) d (Nat.le_refl _) (by omega) hs
 simp (disch:=omega) only[jr,wrap64]
 rw[h]
 rfl
end Go.AM.SL
set_option maxRecDepth 100000
namespace Go.AM
open Go.Proofs
noncomputable abbrev o8:Code:=cC Tryd.prog (aw.aW 181)
noncomputable def A4 (C:af) (a j:Int) (ai:List V) (i:Int) {β:Type} (kn:Int→Option β) (kr:(Int × Bool)→Option β):Option β:=
 bif decide ((i:Int)≤j) then
  bif (decide (0≤i))&&(decide (i<(ai.length:Int))) then
  (ai[(i:Int).toNat]?).bind fun x5=>
  bif (decide (0≤a))&&(decide (a<(ai.length:Int))) then
   (ai[(a:Int).toNat]?).bind fun x6=>
   (C bw [.int .i64 ((x5.cell 0).toInt),.int .i64 ((x5.cell 1).toInt),.int .i64 ((x5.cell 2).toInt),.int .i64 ((x6.cell 0).toInt),.int .i64 ((x6.cell 1).toInt),.int .i64 ((x6.cell 2).toInt)]).bind fun r7=>
   bif decide ((((V.nth r7 0).toInt):Int)<0) then
   kn (IntKind.wrap .i64 (i+1))
   else
   kr (i,decide ((((V.nth r7 0).toInt):Int)<0))
  else none
  else none
 else
  kr (i,false)
noncomputable def A5 (C:af) (a j:Int) (ai:List V):(Int)→Option ((Int) ⊕ (Int × Bool)):=fun i=>A4 C a j ai i (fun y=>some (.inl y)) (fun r=>some (.inr r))
noncomputable def wF (C:af) (a i:Int) (ai:List V) (j:Int) {β:Type} (kn:Int→Option β) (kr:(Int × Bool)→Option β):Option β:=
 bif decide ((i:Int)≤j) then
  bif (decide (0≤j))&&(decide (j<(ai.length:Int))) then
  (ai[(j:Int).toNat]?).bind fun gd=>
  bif (decide (0≤a))&&(decide (a<(ai.length:Int))) then
   (ai[(a:Int).toNat]?).bind fun ey=>
   (C bw [.int .i64 ((gd.cell 0).toInt),.int .i64 ((gd.cell 1).toInt),.int .i64 ((gd.cell 2).toInt),.int .i64 ((ey.cell 0).toInt),.int .i64 ((ey.cell 1).toInt),.int .i64 ((ey.cell 2).toInt)]).bind fun ky=>
   bif !(decide ((((V.nth ky 0).toInt):Int)<0)) then
   kn (IntKind.wrap .i64 (j-1))
   else
   kr (j,!(decide ((((V.nth ky 0).toInt):Int)<0)))
  else none
  else none
 else
  kr (j,false)
noncomputable def wG (C:af) (a i:Int) (ai:List V):(Int)→Option ((Int) ⊕ (Int × Bool)):=fun j=>wF C a i ai j (fun y=>some (.inl y)) (fun r=>some (.inr r))
noncomputable def A6 (C:af) (a j:Int) (ai:List V) (i:Int) {β:Type} (kn:Int→Option β) (kr:(Int × Bool)→Option β):Option β:=
 bif decide ((i:Int)≤j) then
  bif (decide (0≤i))&&(decide (i<(ai.length:Int))) then
  (ai[(i:Int).toNat]?).bind fun lb=>
  bif (decide (0≤a))&&(decide (a<(ai.length:Int))) then
   (ai[(a:Int).toNat]?).bind fun o9=>
   (C bw [.int .i64 ((lb.cell 0).toInt),.int .i64 ((lb.cell 1).toInt),.int .i64 ((lb.cell 2).toInt),.int .i64 ((o9.cell 0).toInt),.int .i64 ((o9.cell 1).toInt),.int .i64 ((o9.cell 2).toInt)]).bind fun T7=>
   bif decide ((((V.nth T7 0).toInt):Int)<0) then
   kn (IntKind.wrap .i64 (i+1))
   else
   kr (i,decide ((((V.nth T7 0).toInt):Int)<0))
  else none
  else none
 else
  kr (i,false)
noncomputable def A7 (C:af) (a j:Int) (ai:List V):(Int)→Option ((Int) ⊕ (Int × Bool)):=fun i=>A6 C a j ai i (fun y=>some (.inl y)) (fun r=>some (.inr r))
noncomputable def wH (C:af) (a i:Int) (ai:List V) (j:Int) {β:Type} (kn:Int→Option β) (kr:(Int × Bool)→Option β):Option β:=
 bif decide ((i:Int)≤j) then
  bif (decide (0≤j))&&(decide (j<(ai.length:Int))) then
  (ai[(j:Int).toNat]?).bind fun uj=>
  bif (decide (0≤a))&&(decide (a<(ai.length:Int))) then
   (ai[(a:Int).toNat]?).bind fun uk=>
   (C bw [.int .i64 ((uj.cell 0).toInt),.int .i64 ((uj.cell 1).toInt),.int .i64 ((uj.cell 2).toInt),.int .i64 ((uk.cell 0).toInt),.int .i64 ((uk.cell 1).toInt),.int .i64 ((uk.cell 2).toInt)]).bind fun FU=>
   bif !(decide ((((V.nth FU 0).toInt):Int)<0)) then
   kn (IntKind.wrap .i64 (j-1))
   else
   kr (j,!(decide ((((V.nth FU 0).toInt):Int)<0)))
  else none
  else none
 else
  kr (j,false)
noncomputable def wI (C:af) (a i:Int) (ai:List V):(Int)→Option ((Int) ⊕ (Int × Bool)):=fun j=>wH C a i ai j (fun y=>some (.inl y)) (fun r=>some (.inr r))
noncomputable def A8 (C:af) (a i j:Int) (ai:List V) {β:Type} (kn:(Int × Int × (List V))→Option β) (kr:(Int × Int × Bool × (List V))→Option β):Option β:=
 (Loop (A7 C a j ai) i).bind (un fun (kp:Int) (Sb:Bool)=>
  (Loop (wI C a kp ai) j).bind (un fun (oq:Int) (ae0:Bool)=>
   bif decide ((kp:Int)>oq) then
    kr (kp,oq,decide ((kp:Int)>oq),ai)
   else
    bif (decide (0≤oq))&&(decide (oq<(ai.length:Int))) then
    (ai[(oq:Int).toNat]?).bind fun qH=>
    bif (decide (0≤kp))&&(decide (kp<(ai.length:Int))) then
     (ai[(kp:Int).toNat]?).bind fun Lt=>
     bif (decide (0≤kp))&&(decide (kp<(ai.length:Int))) then
     (ai[(kp:Int).toNat]?).bind fun x35=>
     bif (decide (0≤oq))&&(decide (oq<((ai.set ((kp:Int).toNat) (.agg [.int .i64 ((qH.cell 0).toInt),.int .i64 ((qH.cell 1).toInt),.int .i64 ((qH.cell 2).toInt)])).length:Int))) then
      ((ai.set ((kp:Int).toNat) (.agg [.int .i64 ((qH.cell 0).toInt),.int .i64 ((qH.cell 1).toInt),.int .i64 ((qH.cell 2).toInt)]))[(oq:Int).toNat]?).bind fun x36=>
      kn (IntKind.wrap .i64 (kp+1),IntKind.wrap .i64 (oq-1),(ai.set ((kp:Int).toNat) (.agg [.int .i64 ((qH.cell 0).toInt),.int .i64 ((qH.cell 1).toInt),.int .i64 ((qH.cell 2).toInt)])).set ((oq:Int).toNat) (.agg [.int .i64 ((Lt.cell 0).toInt),.int .i64 ((Lt.cell 1).toInt),.int .i64 ((Lt.cell 2).toInt)]))
     else none
     else none
    else none
    else none))
noncomputable def wJ (C:af) (a:Int):(Int × Int × (List V))→Option ((Int × Int × (List V)) ⊕ (Int × Int × Bool × (List V))):=un fun i=>un fun j ai=>A8 C a i j ai (fun y=>some (.inl y)) (fun r=>some (.inr r))
noncomputable def T8 (C:af):cq:=fun β n ds k=>
 bif Nat.beq n 49 then bu Kd [false,true,false,false] [[1,0,3,0,4]] (@A4 C) ds k else
 bif Nat.beq n 81 then bu Ke [false,false,true,false] [[1,2,0,0,4]] (@wF C) ds k else
 bif Nat.beq n 209 then bu Kf [false,true,false,false] [[1,0,3,0,4]] (@A6 C) ds k else
 bif Nat.beq n 241 then bu Kg [false,false,true,false] [[1,2,0,0,4]] (@wH C) ds k else
 bif Nat.beq n 210 then bu Kh [false,true,true,true] [[1,0,0,0,0]] (@A8 C) ds k else
 none
abbrev A9 (C:af) (b:ch):Prop:=cj Tryd.prog aw C (T8 C) 181 (cJ Tryd.prog (aw.aW 181)) (aw.sin 181).a8.length b
theorem ae1 (C:af):A9 C (.loop (ar [1,1,1,0,0,0] o8)):=
 bz Kd [false,true,false,false] [[1,0,3,0,4]] (@A4 C) (by kernel_rfl) (aS (bs:=[]) (by kernel_rfl) av) (fun ds=>by kernel_rfl) (fun i x=>by kernel_rfl) (fun i x β k=>by kernel_rfl) (fun β ds k=>by kernel_rfl)
theorem ae2 (C:af):A9 C (.loop (ar [1,1,1,1,0,0,0] o8)):=
 bz Ke [false,false,true,false] [[1,2,0,0,4]] (@wF C) (by kernel_rfl) (aS (bs:=[]) (by kernel_rfl) av) (fun ds=>by kernel_rfl) (fun i x=>by kernel_rfl) (fun i x β k=>by kernel_rfl) (fun β ds k=>by kernel_rfl)
theorem ae3 (C:af):A9 C (.loop (ar [1,1,1,1,1,1,1,1,1,0,0,0,0,0,0,0] o8)):=
 bz Kf [false,true,false,false] [[1,0,3,0,4]] (@A6 C) (by kernel_rfl) (aS (bs:=[]) (by kernel_rfl) av) (fun ds=>by kernel_rfl) (fun i x=>by kernel_rfl) (fun i x β k=>by kernel_rfl) (fun β ds k=>by kernel_rfl)
theorem ae4 (C:af):A9 C (.loop (ar [1,1,1,1,1,1,1,1,1,0,0,0,0,1,0,0,0] o8)):=
 bz Kg [false,false,true,false] [[1,2,0,0,4]] (@wH C) (by kernel_rfl) (aS (bs:=[]) (by kernel_rfl) av) (fun ds=>by kernel_rfl) (fun i x=>by kernel_rfl) (fun i x β k=>by kernel_rfl) (fun β ds k=>by kernel_rfl)
theorem ae5 (C:af):A9 C (.loop (ar [1,1,1,1,1,1,1,1,1,0,0,0] o8)):=
 bz Kh [false,true,true,true] [[1,0,0,0,0]] (@A8 C) (by kernel_rfl) (aS (bs:=[.loop (ar [1,1,1,1,1,1,1,1,1,0,0,0,0,0,0,0] o8),.loop (ar [1,1,1,1,1,1,1,1,1,0,0,0,0,1,0,0,0] o8)]) (by kernel_rfl) (bf (ae3 C) (bf (ae4 C) av))) (fun ds=>by kernel_rfl) (fun i x=>by kernel_rfl) (fun i x β k=>by kernel_rfl) (fun β ds k=>by kernel_rfl)
noncomputable def T9 (C:af) (a b' pivot:Int) (ai:List V):Option (List V):=
 bif (decide (0≤pivot))&&(decide (pivot<(ai.length:Int))) then
  (ai[(pivot:Int).toNat]?).bind fun x1=>
  bif (decide (0≤a))&&(decide (a<(ai.length:Int))) then
  (ai[(a:Int).toNat]?).bind fun x2=>
  bif (decide (0≤a))&&(decide (a<(ai.length:Int))) then
   (ai[(a:Int).toNat]?).bind fun x3=>
   bif (decide (0≤pivot))&&(decide (pivot<((ai.set ((a:Int).toNat) (.agg [.int .i64 ((x1.cell 0).toInt),.int .i64 ((x1.cell 1).toInt),.int .i64 ((x1.cell 2).toInt)])).length:Int))) then
   ((ai.set ((a:Int).toNat) (.agg [.int .i64 ((x1.cell 0).toInt),.int .i64 ((x1.cell 1).toInt),.int .i64 ((x1.cell 2).toInt)]))[(pivot:Int).toNat]?).bind fun x4=>
   (Loop (A5 C a (IntKind.wrap .i64 (b'-1)) ((ai.set ((a:Int).toNat) (.agg [.int .i64 ((x1.cell 0).toInt),.int .i64 ((x1.cell 1).toInt),.int .i64 ((x1.cell 2).toInt)])).set ((pivot:Int).toNat) (.agg [.int .i64 ((x2.cell 0).toInt),.int .i64 ((x2.cell 1).toInt),.int .i64 ((x2.cell 2).toInt)]))) (IntKind.wrap .i64 (a+1))).bind (un fun (fa:Int) (qp:Bool)=>
    (Loop (wG C a fa ((ai.set ((a:Int).toNat) (.agg [.int .i64 ((x1.cell 0).toInt),.int .i64 ((x1.cell 1).toInt),.int .i64 ((x1.cell 2).toInt)])).set ((pivot:Int).toNat) (.agg [.int .i64 ((x2.cell 0).toInt),.int .i64 ((x2.cell 1).toInt),.int .i64 ((x2.cell 2).toInt)]))) (IntKind.wrap .i64 (b'-1))).bind (un fun (eB:Int) (zy:Bool)=>
     bif decide ((fa:Int)>eB) then
      bif (decide (0≤a))&&(decide (a<(((ai.set ((a:Int).toNat) (.agg [.int .i64 ((x1.cell 0).toInt),.int .i64 ((x1.cell 1).toInt),.int .i64 ((x1.cell 2).toInt)])).set ((pivot:Int).toNat) (.agg [.int .i64 ((x2.cell 0).toInt),.int .i64 ((x2.cell 1).toInt),.int .i64 ((x2.cell 2).toInt)])).length:Int))) then
      (((ai.set ((a:Int).toNat) (.agg [.int .i64 ((x1.cell 0).toInt),.int .i64 ((x1.cell 1).toInt),.int .i64 ((x1.cell 2).toInt)])).set ((pivot:Int).toNat) (.agg [.int .i64 ((x2.cell 0).toInt),.int .i64 ((x2.cell 1).toInt),.int .i64 ((x2.cell 2).toInt)]))[(a:Int).toNat]?).bind fun fS=>
      bif (decide (0≤eB))&&(decide (eB<(((ai.set ((a:Int).toNat) (.agg [.int .i64 ((x1.cell 0).toInt),.int .i64 ((x1.cell 1).toInt),.int .i64 ((x1.cell 2).toInt)])).set ((pivot:Int).toNat) (.agg [.int .i64 ((x2.cell 0).toInt),.int .i64 ((x2.cell 1).toInt),.int .i64 ((x2.cell 2).toInt)])).length:Int))) then
       (((ai.set ((a:Int).toNat) (.agg [.int .i64 ((x1.cell 0).toInt),.int .i64 ((x1.cell 1).toInt),.int .i64 ((x1.cell 2).toInt)])).set ((pivot:Int).toNat) (.agg [.int .i64 ((x2.cell 0).toInt),.int .i64 ((x2.cell 1).toInt),.int .i64 ((x2.cell 2).toInt)]))[(eB:Int).toNat]?).bind fun gu=>
       bif (decide (0≤eB))&&(decide (eB<(((ai.set ((a:Int).toNat) (.agg [.int .i64 ((x1.cell 0).toInt),.int .i64 ((x1.cell 1).toInt),.int .i64 ((x1.cell 2).toInt)])).set ((pivot:Int).toNat) (.agg [.int .i64 ((x2.cell 0).toInt),.int .i64 ((x2.cell 1).toInt),.int .i64 ((x2.cell 2).toInt)])).length:Int))) then
       (((ai.set ((a:Int).toNat) (.agg [.int .i64 ((x1.cell 0).toInt),.int .i64 ((x1.cell 1).toInt),.int .i64 ((x1.cell 2).toInt)])).set ((pivot:Int).toNat) (.agg [.int .i64 ((x2.cell 0).toInt),.int .i64 ((x2.cell 1).toInt),.int .i64 ((x2.cell 2).toInt)]))[(eB:Int).toNat]?).bind fun mX=>
       bif (decide (0≤a))&&(decide (a<((((ai.set ((a:Int).toNat) (.agg [.int .i64 ((x1.cell 0).toInt),.int .i64 ((x1.cell 1).toInt),.int .i64 ((x1.cell 2).toInt)])).set ((pivot:Int).toNat) (.agg [.int .i64 ((x2.cell 0).toInt),.int .i64 ((x2.cell 1).toInt),.int .i64 ((x2.cell 2).toInt)])).set ((eB:Int).toNat) (.agg [.int .i64 ((fS.cell 0).toInt),.int .i64 ((fS.cell 1).toInt),.int .i64 ((fS.cell 2).toInt)])).length:Int))) then
        ((((ai.set ((a:Int).toNat) (.agg [.int .i64 ((x1.cell 0).toInt),.int .i64 ((x1.cell 1).toInt),.int .i64 ((x1.cell 2).toInt)])).set ((pivot:Int).toNat) (.agg [.int .i64 ((x2.cell 0).toInt),.int .i64 ((x2.cell 1).toInt),.int .i64 ((x2.cell 2).toInt)])).set ((eB:Int).toNat) (.agg [.int .i64 ((fS.cell 0).toInt),.int .i64 ((fS.cell 1).toInt),.int .i64 ((fS.cell 2).toInt)]))[(a:Int).toNat]?).bind fun rR=>
        some [.int .i64 eB,.bool true,.list ag ((((ai.set ((a:Int).toNat) (.agg [.int .i64 ((x1.cell 0).toInt),.int .i64 ((x1.cell 1).toInt),.int .i64 ((x1.cell 2).toInt)])).set ((pivot:Int).toNat) (.agg [.int .i64 ((x2.cell 0).toInt),.int .i64 ((x2.cell 1).toInt),.int .i64 ((x2.cell 2).toInt)])).set ((eB:Int).toNat) (.agg [.int .i64 ((fS.cell 0).toInt),.int .i64 ((fS.cell 1).toInt),.int .i64 ((fS.cell 2).toInt)])).set ((a:Int).toNat) (.agg [.int .i64 ((gu.cell 0).toInt),.int .i64 ((gu.cell 1).toInt),.int .i64 ((gu.cell 2).toInt)]))]
       else none
       else none
      else none
      else none
     else
      bif (decide (0≤eB))&&(decide (eB<(((ai.set ((a:Int).toNat) (.agg [.int .i64 ((x1.cell 0).toInt),.int .i64 ((x1.cell 1).toInt),.int .i64 ((x1.cell 2).toInt)])).set ((pivot:Int).toNat) (.agg [.int .i64 ((x2.cell 0).toInt),.int .i64 ((x2.cell 1).toInt),.int .i64 ((x2.cell 2).toInt)])).length:Int))) then
      (((ai.set ((a:Int).toNat) (.agg [.int .i64 ((x1.cell 0).toInt),.int .i64 ((x1.cell 1).toInt),.int .i64 ((x1.cell 2).toInt)])).set ((pivot:Int).toNat) (.agg [.int .i64 ((x2.cell 0).toInt),.int .i64 ((x2.cell 1).toInt),.int .i64 ((x2.cell 2).toInt)]))[(eB:Int).toNat]?).bind fun ld=>
      bif (decide (0≤fa))&&(decide (fa<(((ai.set ((a:Int).toNat) (.agg [.int .i64 ((x1.cell 0).toInt),.int .i64 ((x1.cell 1).toInt),.int .i64 ((x1.cell 2).toInt)])).set ((pivot:Int).toNat) (.agg [.int .i64 ((x2.cell 0).toInt),.int .i64 ((x2.cell 1).toInt),.int .i64 ((x2.cell 2).toInt)])).length:Int))) then
       (((ai.set ((a:Int).toNat) (.agg [.int .i64 ((x1.cell 0).toInt),.int .i64 ((x1.cell 1).toInt),.int .i64 ((x1.cell 2).toInt)])).set ((pivot:Int).toNat) (.agg [.int .i64 ((x2.cell 0).toInt),.int .i64 ((x2.cell 1).toInt),.int .i64 ((x2.cell 2).toInt)]))[(fa:Int).toNat]?).bind fun qy=>
       bif (decide (0≤fa))&&(decide (fa<(((ai.set ((a:Int).toNat) (.agg [.int .i64 ((x1.cell 0).toInt),.int .i64 ((x1.cell 1).toInt),.int .i64 ((x1.cell 2).toInt)])).set ((pivot:Int).toNat) (.agg [.int .i64 ((x2.cell 0).toInt),.int .i64 ((x2.cell 1).toInt),.int .i64 ((x2.cell 2).toInt)])).length:Int))) then
       (((ai.set ((a:Int).toNat) (.agg [.int .i64 ((x1.cell 0).toInt),.int .i64 ((x1.cell 1).toInt),.int .i64 ((x1.cell 2).toInt)])).set ((pivot:Int).toNat) (.agg [.int .i64 ((x2.cell 0).toInt),.int .i64 ((x2.cell 1).toInt),.int .i64 ((x2.cell 2).toInt)]))[(fa:Int).toNat]?).bind fun An=>
       bif (decide (0≤eB))&&(decide (eB<((((ai.set ((a:Int).toNat) (.agg [.int .i64 ((x1.cell 0).toInt),.int .i64 ((x1.cell 1).toInt),.int .i64 ((x1.cell 2).toInt)])).set ((pivot:Int).toNat) (.agg [.int .i64 ((x2.cell 0).toInt),.int .i64 ((x2.cell 1).toInt),.int .i64 ((x2.cell 2).toInt)])).set ((fa:Int).toNat) (.agg [.int .i64 ((ld.cell 0).toInt),.int .i64 ((ld.cell 1).toInt),.int .i64 ((ld.cell 2).toInt)])).length:Int))) then
        ((((ai.set ((a:Int).toNat) (.agg [.int .i64 ((x1.cell 0).toInt),.int .i64 ((x1.cell 1).toInt),.int .i64 ((x1.cell 2).toInt)])).set ((pivot:Int).toNat) (.agg [.int .i64 ((x2.cell 0).toInt),.int .i64 ((x2.cell 1).toInt),.int .i64 ((x2.cell 2).toInt)])).set ((fa:Int).toNat) (.agg [.int .i64 ((ld.cell 0).toInt),.int .i64 ((ld.cell 1).toInt),.int .i64 ((ld.cell 2).toInt)]))[(eB:Int).toNat]?).bind fun x22=>
        (Loop (wJ C a) (IntKind.wrap .i64 (fa+1),IntKind.wrap .i64 (eB-1),(((ai.set ((a:Int).toNat) (.agg [.int .i64 ((x1.cell 0).toInt),.int .i64 ((x1.cell 1).toInt),.int .i64 ((x1.cell 2).toInt)])).set ((pivot:Int).toNat) (.agg [.int .i64 ((x2.cell 0).toInt),.int .i64 ((x2.cell 1).toInt),.int .i64 ((x2.cell 2).toInt)])).set ((fa:Int).toNat) (.agg [.int .i64 ((ld.cell 0).toInt),.int .i64 ((ld.cell 1).toInt),.int .i64 ((ld.cell 2).toInt)])).set ((eB:Int).toNat) (.agg [.int .i64 ((qy.cell 0).toInt),.int .i64 ((qy.cell 1).toInt),.int .i64 ((qy.cell 2).toInt)]))).bind (un fun (aiA:Int)=>un fun (pb:Int)=>un fun (aiB:Bool) (js:List V)=>
         bif (decide (0≤a))&&(decide (a<(js.length:Int))) then
         (js[(a:Int).toNat]?).bind fun mc=>
         bif (decide (0≤pb))&&(decide (pb<(js.length:Int))) then
          (js[(pb:Int).toNat]?).bind fun um=>
          bif (decide (0≤pb))&&(decide (pb<(js.length:Int))) then
          (js[(pb:Int).toNat]?).bind fun x43=>
          bif (decide (0≤a))&&(decide (a<((js.set ((pb:Int).toNat) (.agg [.int .i64 ((mc.cell 0).toInt),.int .i64 ((mc.cell 1).toInt),.int .i64 ((mc.cell 2).toInt)])).length:Int))) then
           ((js.set ((pb:Int).toNat) (.agg [.int .i64 ((mc.cell 0).toInt),.int .i64 ((mc.cell 1).toInt),.int .i64 ((mc.cell 2).toInt)]))[(a:Int).toNat]?).bind fun x44=>
           some [.int .i64 pb,.bool false,.list ag ((js.set ((pb:Int).toNat) (.agg [.int .i64 ((mc.cell 0).toInt),.int .i64 ((mc.cell 1).toInt),.int .i64 ((mc.cell 2).toInt)])).set ((a:Int).toNat) (.agg [.int .i64 ((um.cell 0).toInt),.int .i64 ((um.cell 1).toInt),.int .i64 ((um.cell 2).toInt)]))]
          else none
          else none
         else none
         else none)
       else none
       else none
      else none
      else none))
   else none
  else none
  else none
 else none
theorem ae6 {a b' pivot:Int} {ai:List V} {r:Option (List V)} (h:T9 CC a b' pivot ai=r):CC nY [.int .i64 a,.int .i64 b',.int .i64 pivot,.list ag ai]=r:=
 bn (key:=181) (L:=T8 CC) (bs:=[.loop (ar [1,1,1,0,0,0] o8),.loop (ar [1,1,1,1,0,0,0] o8),.loop (ar [1,1,1,1,1,1,1,1,1,0,0,0] o8)]) (by kernel_rfl) (bf (ae1 CC) (bf (ae2 CC) (bf (ae5 CC) av))) (Eq.trans (by kernel_rfl) h)
end Go.AM
set_option maxRecDepth 100000
namespace Go.AM
open Go.Proofs
noncomputable abbrev wK:Code:=cC Tryd.prog (aw.aW 182)
noncomputable def Ba (C:af) (a j:Int) (ai:List V) (i:Int) {β:Type} (kn:Int→Option β) (kr:(Int × Bool)→Option β):Option β:=
 bif decide ((i:Int)≤j) then
  bif (decide (0≤a))&&(decide (a<(ai.length:Int))) then
  (ai[(a:Int).toNat]?).bind fun x5=>
  bif (decide (0≤i))&&(decide (i<(ai.length:Int))) then
   (ai[(i:Int).toNat]?).bind fun x6=>
   (C bw [.int .i64 ((x5.cell 0).toInt),.int .i64 ((x5.cell 1).toInt),.int .i64 ((x5.cell 2).toInt),.int .i64 ((x6.cell 0).toInt),.int .i64 ((x6.cell 1).toInt),.int .i64 ((x6.cell 2).toInt)]).bind fun r7=>
   bif !(decide ((((V.nth r7 0).toInt):Int)<0)) then
   kn (IntKind.wrap .i64 (i+1))
   else
   kr (i,!(decide ((((V.nth r7 0).toInt):Int)<0)))
  else none
  else none
 else
  kr (i,false)
noncomputable def Bb (C:af) (a j:Int) (ai:List V):(Int)→Option ((Int) ⊕ (Int × Bool)):=fun i=>Ba C a j ai i (fun y=>some (.inl y)) (fun r=>some (.inr r))
noncomputable def wL (C:af) (a i:Int) (ai:List V) (j:Int) {β:Type} (kn:Int→Option β) (kr:(Int × Bool)→Option β):Option β:=
 bif decide ((i:Int)≤j) then
  bif (decide (0≤a))&&(decide (a<(ai.length:Int))) then
  (ai[(a:Int).toNat]?).bind fun gd=>
  bif (decide (0≤j))&&(decide (j<(ai.length:Int))) then
   (ai[(j:Int).toNat]?).bind fun ey=>
   (C bw [.int .i64 ((gd.cell 0).toInt),.int .i64 ((gd.cell 1).toInt),.int .i64 ((gd.cell 2).toInt),.int .i64 ((ey.cell 0).toInt),.int .i64 ((ey.cell 1).toInt),.int .i64 ((ey.cell 2).toInt)]).bind fun ky=>
   bif decide ((((V.nth ky 0).toInt):Int)<0) then
   kn (IntKind.wrap .i64 (j-1))
   else
   kr (j,decide ((((V.nth ky 0).toInt):Int)<0))
  else none
  else none
 else
  kr (j,false)
noncomputable def wM (C:af) (a i:Int) (ai:List V):(Int)→Option ((Int) ⊕ (Int × Bool)):=fun j=>wL C a i ai j (fun y=>some (.inl y)) (fun r=>some (.inr r))
noncomputable def Bc (C:af) (a i j:Int) (ai:List V) {β:Type} (kn:(Int × Int × (List V))→Option β) (kr:(Int × Int × Bool × (List V))→Option β):Option β:=
 (Loop (Bb C a j ai) i).bind (un fun (fa:Int) (qp:Bool)=>
  (Loop (wM C a fa ai) j).bind (un fun (eB:Int) (zy:Bool)=>
   bif decide ((fa:Int)>eB) then
    kr (fa,eB,decide ((fa:Int)>eB),ai)
   else
    bif (decide (0≤eB))&&(decide (eB<(ai.length:Int))) then
    (ai[(eB:Int).toNat]?).bind fun fS=>
    bif (decide (0≤fa))&&(decide (fa<(ai.length:Int))) then
     (ai[(fa:Int).toNat]?).bind fun gu=>
     bif (decide (0≤fa))&&(decide (fa<(ai.length:Int))) then
     (ai[(fa:Int).toNat]?).bind fun mX=>
     bif (decide (0≤eB))&&(decide (eB<((ai.set ((fa:Int).toNat) (.agg [.int .i64 ((fS.cell 0).toInt),.int .i64 ((fS.cell 1).toInt),.int .i64 ((fS.cell 2).toInt)])).length:Int))) then
      ((ai.set ((fa:Int).toNat) (.agg [.int .i64 ((fS.cell 0).toInt),.int .i64 ((fS.cell 1).toInt),.int .i64 ((fS.cell 2).toInt)]))[(eB:Int).toNat]?).bind fun rR=>
      kn (IntKind.wrap .i64 (fa+1),IntKind.wrap .i64 (eB-1),(ai.set ((fa:Int).toNat) (.agg [.int .i64 ((fS.cell 0).toInt),.int .i64 ((fS.cell 1).toInt),.int .i64 ((fS.cell 2).toInt)])).set ((eB:Int).toNat) (.agg [.int .i64 ((gu.cell 0).toInt),.int .i64 ((gu.cell 1).toInt),.int .i64 ((gu.cell 2).toInt)]))
     else none
     else none
    else none
    else none))
noncomputable def wO (C:af) (a:Int):(Int × Int × (List V))→Option ((Int × Int × (List V)) ⊕ (Int × Int × Bool × (List V))):=un fun i=>un fun j ai=>Bc C a i j ai (fun y=>some (.inl y)) (fun r=>some (.inr r))
noncomputable def Ua (C:af):cq:=fun β n ds k=>
 bif Nat.beq n 49 then bu Ki [false,true,false,false] [[1,0,3,0,4]] (@Ba C) ds k else
 bif Nat.beq n 81 then bu Kj [false,false,true,false] [[1,2,0,0,4]] (@wL C) ds k else
 bif Nat.beq n 50 then bu Kk [false,true,true,true] [[1,0,0,0,0]] (@Bc C) ds k else
 none
abbrev Lu (C:af) (b:ch):Prop:=cj Tryd.prog aw C (Ua C) 182 (cJ Tryd.prog (aw.aW 182)) (aw.sin 182).a8.length b
theorem ae7 (C:af):Lu C (.loop (ar [1,1,1,0,0,0,0,0,0,0] wK)):=
 bz Ki [false,true,false,false] [[1,0,3,0,4]] (@Ba C) (by kernel_rfl) (aS (bs:=[]) (by kernel_rfl) av) (fun ds=>by kernel_rfl) (fun i x=>by kernel_rfl) (fun i x β k=>by kernel_rfl) (fun β ds k=>by kernel_rfl)
theorem ae8 (C:af):Lu C (.loop (ar [1,1,1,0,0,0,0,1,0,0,0] wK)):=
 bz Kj [false,false,true,false] [[1,2,0,0,4]] (@wL C) (by kernel_rfl) (aS (bs:=[]) (by kernel_rfl) av) (fun ds=>by kernel_rfl) (fun i x=>by kernel_rfl) (fun i x β k=>by kernel_rfl) (fun β ds k=>by kernel_rfl)
theorem ae9 (C:af):Lu C (.loop (ar [1,1,1,0,0,0] wK)):=
 bz Kk [false,true,true,true] [[1,0,0,0,0]] (@Bc C) (by kernel_rfl) (aS (bs:=[.loop (ar [1,1,1,0,0,0,0,0,0,0] wK),.loop (ar [1,1,1,0,0,0,0,1,0,0,0] wK)]) (by kernel_rfl) (bf (ae7 C) (bf (ae8 C) av))) (fun ds=>by kernel_rfl) (fun i x=>by kernel_rfl) (fun i x β k=>by kernel_rfl) (fun β ds k=>by kernel_rfl)
noncomputable def Ub (C:af) (a b' pivot:Int) (ai:List V):Option (List V):=
 bif (decide (0≤pivot))&&(decide (pivot<(ai.length:Int))) then
  (ai[(pivot:Int).toNat]?).bind fun x1=>
  bif (decide (0≤a))&&(decide (a<(ai.length:Int))) then
  (ai[(a:Int).toNat]?).bind fun x2=>
  bif (decide (0≤a))&&(decide (a<(ai.length:Int))) then
   (ai[(a:Int).toNat]?).bind fun x3=>
   bif (decide (0≤pivot))&&(decide (pivot<((ai.set ((a:Int).toNat) (.agg [.int .i64 ((x1.cell 0).toInt),.int .i64 ((x1.cell 1).toInt),.int .i64 ((x1.cell 2).toInt)])).length:Int))) then
   ((ai.set ((a:Int).toNat) (.agg [.int .i64 ((x1.cell 0).toInt),.int .i64 ((x1.cell 1).toInt),.int .i64 ((x1.cell 2).toInt)]))[(pivot:Int).toNat]?).bind fun x4=>
   (Loop (wO C a) (IntKind.wrap .i64 (a+1),IntKind.wrap .i64 (b'-1),(ai.set ((a:Int).toNat) (.agg [.int .i64 ((x1.cell 0).toInt),.int .i64 ((x1.cell 1).toInt),.int .i64 ((x1.cell 2).toInt)])).set ((pivot:Int).toNat) (.agg [.int .i64 ((x2.cell 0).toInt),.int .i64 ((x2.cell 1).toInt),.int .i64 ((x2.cell 2).toInt)]))).bind (un fun (afa:Int)=>un fun (aiC:Int)=>un fun (afb:Bool) (afc:List V)=>
    some [.int .i64 afa,.list ag afc])
   else none
  else none
  else none
 else none
theorem afd {a b' pivot:Int} {ai:List V} {r:Option (List V)} (h:Ub CC a b' pivot ai=r):CC vP [.int .i64 a,.int .i64 b',.int .i64 pivot,.list ag ai]=r:=
 bn (key:=182) (L:=Ua CC) (bs:=[.loop (ar [1,1,1,0,0,0] wK)]) (by kernel_rfl) (bf (ae9 CC) av) (Eq.trans (by kernel_rfl) h)
end Go.AM
set_option maxRecDepth 100000
namespace Go.AM
open Go.Proofs
noncomputable abbrev nc:Code:=cC Tryd.prog (aw.aW 180)
noncomputable def Bd (C:af) (a b' j:Int) (ai:List V) (i:Int) {β:Type} (kn:Int→Option β) (kr:(Int × Bool)→Option β):Option β:=
 bif decide ((i:Int)<b') then
  bif (decide (0≤i))&&(decide (i<(ai.length:Int))) then
  (ai[(i:Int).toNat]?).bind fun x1=>
  bif (decide (0≤(IntKind.wrap .i64 (i-1))))&&(decide ((IntKind.wrap .i64 (i-1))<(ai.length:Int))) then
   (ai[(IntKind.wrap .i64 (i-1):Int).toNat]?).bind fun x2=>
   (C bw [.int .i64 ((x1.cell 0).toInt),.int .i64 ((x1.cell 1).toInt),.int .i64 ((x1.cell 2).toInt),.int .i64 ((x2.cell 0).toInt),.int .i64 ((x2.cell 1).toInt),.int .i64 ((x2.cell 2).toInt)]).bind fun r3=>
   bif !(decide ((((V.nth r3 0).toInt):Int)<0)) then
   kn (IntKind.wrap .i64 (i+1))
   else
   kr (i,!(decide ((((V.nth r3 0).toInt):Int)<0)))
  else none
  else none
 else
  kr (i,false)
noncomputable def Be (C:af) (a b' j:Int) (ai:List V):(Int)→Option ((Int) ⊕ (Int × Bool)):=fun i=>Bd C a b' j ai i (fun y=>some (.inl y)) (fun r=>some (.inr r))
noncomputable def Bf (C:af) (a b' i j j':Int) (ai:List V) {β:Type} (kn:(Int × (List V))→Option β) (kr:(Int × (List V))→Option β):Option β:=
 bif decide ((j':Int)≥1) then
  bif (decide (0≤j'))&&(decide (j'<(ai.length:Int))) then
  (ai[(j':Int).toNat]?).bind fun gd=>
  bif (decide (0≤(IntKind.wrap .i64 (j'-1))))&&(decide ((IntKind.wrap .i64 (j'-1))<(ai.length:Int))) then
   (ai[(IntKind.wrap .i64 (j'-1):Int).toNat]?).bind fun ey=>
   (C bw [.int .i64 ((gd.cell 0).toInt),.int .i64 ((gd.cell 1).toInt),.int .i64 ((gd.cell 2).toInt),.int .i64 ((ey.cell 0).toInt),.int .i64 ((ey.cell 1).toInt),.int .i64 ((ey.cell 2).toInt)]).bind fun ky=>
   bif !(decide ((((V.nth ky 0).toInt):Int)<0)) then
   kr (j',ai)
   else
   bif (decide (0≤(IntKind.wrap .i64 (j'-1))))&&(decide ((IntKind.wrap .i64 (j'-1))<(ai.length:Int))) then
    (ai[(IntKind.wrap .i64 (j'-1):Int).toNat]?).bind fun gH=>
    bif (decide (0≤j'))&&(decide (j'<(ai.length:Int))) then
    (ai[(j':Int).toNat]?).bind fun lp=>
    bif (decide (0≤j'))&&(decide (j'<(ai.length:Int))) then
     (ai[(j':Int).toNat]?).bind fun fS=>
     bif (decide (0≤(IntKind.wrap .i64 (j'-1))))&&(decide ((IntKind.wrap .i64 (j'-1))<((ai.set ((j':Int).toNat) (.agg [.int .i64 ((gH.cell 0).toInt),.int .i64 ((gH.cell 1).toInt),.int .i64 ((gH.cell 2).toInt)])).length:Int))) then
     ((ai.set ((j':Int).toNat) (.agg [.int .i64 ((gH.cell 0).toInt),.int .i64 ((gH.cell 1).toInt),.int .i64 ((gH.cell 2).toInt)]))[(IntKind.wrap .i64 (j'-1):Int).toNat]?).bind fun gu=>
     kn (IntKind.wrap .i64 (j'-1),(ai.set ((j':Int).toNat) (.agg [.int .i64 ((gH.cell 0).toInt),.int .i64 ((gH.cell 1).toInt),.int .i64 ((gH.cell 2).toInt)])).set ((IntKind.wrap .i64 (j'-1):Int).toNat) (.agg [.int .i64 ((lp.cell 0).toInt),.int .i64 ((lp.cell 1).toInt),.int .i64 ((lp.cell 2).toInt)]))
     else none
    else none
    else none
   else none
  else none
  else none
 else
  kr (j',ai)
noncomputable def Bg (C:af) (a b' i j:Int):(Int × (List V))→Option ((Int × (List V)) ⊕ (Int × (List V))):=un fun j' ai=>Bf C a b' i j j' ai (fun y=>some (.inl y)) (fun r=>some (.inr r))
noncomputable def FV (C:af) (a b' i j:Int) (t65:Bool) (ai:List V) {β:Type} (kr:(List V)→Option β):Option β:=
 bif t65 then
  (Loop (Bg C a b' i j) (IntKind.wrap .i64 (i-1),ai)).bind (un fun (aiD:Int) (afe:List V)=>
   kr afe)
 else
  kr ai
noncomputable def Bh (C:af) (a b' i j j':Int) (ai:List V) {β:Type} (kn:(Int × (List V))→Option β) (kr:(Int × (List V))→Option β):Option β:=
 bif decide ((j':Int)<b') then
  bif (decide (0≤j'))&&(decide (j'<(ai.length:Int))) then
  (ai[(j':Int).toNat]?).bind fun qy=>
  bif (decide (0≤(IntKind.wrap .i64 (j'-1))))&&(decide ((IntKind.wrap .i64 (j'-1))<(ai.length:Int))) then
   (ai[(IntKind.wrap .i64 (j'-1):Int).toNat]?).bind fun An=>
   (C bw [.int .i64 ((qy.cell 0).toInt),.int .i64 ((qy.cell 1).toInt),.int .i64 ((qy.cell 2).toInt),.int .i64 ((An.cell 0).toInt),.int .i64 ((An.cell 1).toInt),.int .i64 ((An.cell 2).toInt)]).bind fun jT=>
   bif !(decide ((((V.nth jT 0).toInt):Int)<0)) then
   kr (j',ai)
   else
   bif (decide (0≤(IntKind.wrap .i64 (j'-1))))&&(decide ((IntKind.wrap .i64 (j'-1))<(ai.length:Int))) then
    (ai[(IntKind.wrap .i64 (j'-1):Int).toNat]?).bind fun lb=>
    bif (decide (0≤j'))&&(decide (j'<(ai.length:Int))) then
    (ai[(j':Int).toNat]?).bind fun o9=>
    bif (decide (0≤j'))&&(decide (j'<(ai.length:Int))) then
     (ai[(j':Int).toNat]?).bind fun x25=>
     bif (decide (0≤(IntKind.wrap .i64 (j'-1))))&&(decide ((IntKind.wrap .i64 (j'-1))<((ai.set ((j':Int).toNat) (.agg [.int .i64 ((lb.cell 0).toInt),.int .i64 ((lb.cell 1).toInt),.int .i64 ((lb.cell 2).toInt)])).length:Int))) then
     ((ai.set ((j':Int).toNat) (.agg [.int .i64 ((lb.cell 0).toInt),.int .i64 ((lb.cell 1).toInt),.int .i64 ((lb.cell 2).toInt)]))[(IntKind.wrap .i64 (j'-1):Int).toNat]?).bind fun x26=>
     kn (IntKind.wrap .i64 (j'+1),(ai.set ((j':Int).toNat) (.agg [.int .i64 ((lb.cell 0).toInt),.int .i64 ((lb.cell 1).toInt),.int .i64 ((lb.cell 2).toInt)])).set ((IntKind.wrap .i64 (j'-1):Int).toNat) (.agg [.int .i64 ((o9.cell 0).toInt),.int .i64 ((o9.cell 1).toInt),.int .i64 ((o9.cell 2).toInt)]))
     else none
    else none
    else none
   else none
  else none
  else none
 else
  kr (j',ai)
noncomputable def Bi (C:af) (a b' i j:Int):(Int × (List V))→Option ((Int × (List V)) ⊕ (Int × (List V))):=un fun j' ai=>Bh C a b' i j j' ai (fun y=>some (.inl y)) (fun r=>some (.inr r))
noncomputable def Bj (C:af) (a b' i j:Int) (ai:List V) {β:Type} (kn:(Int × Int × (List V))→Option β) (kr:((Bool × (List V)) ⊕ (Int × Int × Bool × (List V)))→Option β):Option β:=
 bif decide ((j:Int)<5) then
  (Loop (Be C a b' j ai) i).bind (un fun (fj:Int) (lP:Bool)=>
   bif (fj:Int)==b' then
   kr (.inl (true,ai))
   else
   bif decide (((IntKind.wrap .i64 (b'-a)):Int)<50) then
    kr (.inl (false,ai))
   else
    bif (decide (0≤(IntKind.wrap .i64 (fj-1))))&&(decide ((IntKind.wrap .i64 (fj-1))<(ai.length:Int))) then
    (ai[(IntKind.wrap .i64 (fj-1):Int).toNat]?).bind fun x6=>
    bif (decide (0≤fj))&&(decide (fj<(ai.length:Int))) then
     (ai[(fj:Int).toNat]?).bind fun x7=>
     bif (decide (0≤fj))&&(decide (fj<(ai.length:Int))) then
     (ai[(fj:Int).toNat]?).bind fun x8=>
     bif (decide (0≤(IntKind.wrap .i64 (fj-1))))&&(decide ((IntKind.wrap .i64 (fj-1))<((ai.set ((fj:Int).toNat) (.agg [.int .i64 ((x6.cell 0).toInt),.int .i64 ((x6.cell 1).toInt),.int .i64 ((x6.cell 2).toInt)])).length:Int))) then
      ((ai.set ((fj:Int).toNat) (.agg [.int .i64 ((x6.cell 0).toInt),.int .i64 ((x6.cell 1).toInt),.int .i64 ((x6.cell 2).toInt)]))[(IntKind.wrap .i64 (fj-1):Int).toNat]?).bind fun x9=>
      FV C a b' fj j (decide (((IntKind.wrap .i64 (fj-a)):Int)≥2)) ((ai.set ((fj:Int).toNat) (.agg [.int .i64 ((x6.cell 0).toInt),.int .i64 ((x6.cell 1).toInt),.int .i64 ((x6.cell 2).toInt)])).set ((IntKind.wrap .i64 (fj-1):Int).toNat) (.agg [.int .i64 ((x7.cell 0).toInt),.int .i64 ((x7.cell 1).toInt),.int .i64 ((x7.cell 2).toInt)])) (fun (Uc:List V)=>
       bif decide (((IntKind.wrap .i64 (b'-fj)):Int)≥2) then
       (Loop (Bi C a b' fj j) (IntKind.wrap .i64 (fj+1),Uc)).bind (un fun (aiE:Int) (aff:List V)=>
        kn (fj,IntKind.wrap .i64 (j+1),aff))
       else
       kn (fj,IntKind.wrap .i64 (j+1),Uc))
     else none
     else none
    else none
    else none)
 else
  kr (.inr (i,j,decide ((j:Int)<5),ai))
noncomputable def rY (C:af) (a b':Int):(Int × Int × (List V))→Option ((Int × Int × (List V)) ⊕ ((Bool × (List V)) ⊕ (Int × Int × Bool × (List V)))):=un fun i=>un fun j ai=>Bj C a b' i j ai (fun y=>some (.inl y)) (fun r=>some (.inr r))
noncomputable def Ud (C:af):cq:=fun β n ds k=>
 bif Nat.beq n 81 then bu J8 [false,false,true,false,false] [[1,2,0,4,0,5]] (@Bd C) ds k else
 bif Nat.beq n 225 then bu J9 [false,false,false,false,true,true] [[1,2,3,4,0,0]] (@Bf C) ds k else
 bif Nat.beq n 1055 then lO Ka [[1,2,3,4,0]] (@FV C) ds k else
 bif Nat.beq n 321 then bu Kb [false,false,false,false,true,true] [[1,2,3,4,0,0]] (@Bh C) ds k else
 bif Nat.beq n 49 then bu Kc [false,false,true,true,true] [[0,0],[1,2,0,0,0,0]] (@Bj C) ds k else
 none
abbrev Bk (C:af) (b:ch):Prop:=cj Tryd.prog aw C (Ud C) 180 (cJ Tryd.prog (aw.aW 180)) (aw.sin 180).a8.length b
theorem afg (C:af):Bk C (.loop (ar [1,1,0,1,0,0,1,0,0,0,0,0] nc)):=
 bz J8 [false,false,true,false,false] [[1,2,0,4,0,5]] (@Bd C) (by kernel_rfl) (aS (bs:=[]) (by kernel_rfl) av) (fun ds=>by kernel_rfl) (fun i x=>by kernel_rfl) (fun i x β k=>by kernel_rfl) (fun β ds k=>by kernel_rfl)
theorem afh (C:af):Bk C (.loop (ar [1,1,0,1,0,0,1,0,0,1,1,1,1,0,1,0,1,0,0] nc)):=
 bz J9 [false,false,false,false,true,true] [[1,2,3,4,0,0]] (@Bf C) (by kernel_rfl) (aS (bs:=[]) (by kernel_rfl) av) (fun ds=>by kernel_rfl) (fun i x=>by kernel_rfl) (fun i x β k=>by kernel_rfl) (fun β ds k=>by kernel_rfl)
theorem afi (C:af):Bk C (.cond 65 (ar [1,1,0,1,0,0,1,0,0,1,1,1,1,0,1,0] nc) (ar [1,1,0,1,0,0,1,0,0,1,1,1,1,0,1,1] nc)):=
 mK Ka [[1,2,3,4,0]] (@FV C) (by kernel_rfl) (aS (bs:=[.loop (ar [1,1,0,1,0,0,1,0,0,1,1,1,1,0,1,0,1,0,0] nc)]) (by kernel_rfl) (bf (afh C) av)) (aS (bs:=[]) (by kernel_rfl) av) (fun ds=>by kernel_rfl) (fun i β k=>by kernel_rfl) (fun β ds k=>by kernel_rfl)
theorem afj (C:af):Bk C (.loop (ar [1,1,0,1,0,0,1,0,0,1,1,1,1,1,1,0,1,0,0] nc)):=
 bz Kb [false,false,false,false,true,true] [[1,2,3,4,0,0]] (@Bh C) (by kernel_rfl) (aS (bs:=[]) (by kernel_rfl) av) (fun ds=>by kernel_rfl) (fun i x=>by kernel_rfl) (fun i x β k=>by kernel_rfl) (fun β ds k=>by kernel_rfl)
theorem afk (C:af):Bk C (.loop (ar [1,1,0,1,0,0] nc)):=
 bz Kc [false,false,true,true,true] [[0,0],[1,2,0,0,0,0]] (@Bj C) (by kernel_rfl) (aS (bs:=[.loop (ar [1,1,0,1,0,0,1,0,0,0,0,0] nc),.cond 65 (ar [1,1,0,1,0,0,1,0,0,1,1,1,1,0,1,0] nc) (ar [1,1,0,1,0,0,1,0,0,1,1,1,1,0,1,1] nc),.loop (ar [1,1,0,1,0,0,1,0,0,1,1,1,1,1,1,0,1,0,0] nc)]) (by kernel_rfl) (bf (afg C) (bf (afi C) (bf (afj C) av)))) (fun ds=>by kernel_rfl) (fun i x=>by kernel_rfl) (fun i x β k=>by kernel_rfl) (fun β ds k=>by kernel_rfl)
noncomputable def Ue (C:af) (a b':Int) (ai:List V):Option (List V):=
 (Loop (rY C a b') (IntKind.wrap .i64 (a+1),0,ai)).bind (cZ (un fun (afl:Bool) (afm:List V)=>
  some [.bool afl,.list ag afm]) (un fun (afn:Int)=>un fun (aiF:Int)=>un fun (aiG:Bool) (afo:List V)=>
  some [.bool false,.list ag afo]))
theorem afp {a b':Int} {ai:List V} {r:Option (List V)} (h:Ue CC a b' ai=r):CC II [.int .i64 a,.int .i64 b',.list ag ai]=r:=
 bn (key:=180) (L:=Ud CC) (bs:=[.loop (ar [1,1,0,1,0,0] nc)]) (by kernel_rfl) (bf (afk CC) av) (Eq.trans (by kernel_rfl) h)
end Go.AM
set_option maxRecDepth 100000
set_option linter.unusedSimpArgs false
set_option maxHeartbeats 4000000
namespace Go.AM.SL
open Go.AM Go.Proofs Go.Sort
theorem wP (p:Ed→Bool) (d:Array Ed) (j i:Nat):scanUp p d j i=if i≤j then (if p d[i]! =true then scanUp p d j (i+1) else i) else i:=by
 conv=>lhs;rw[scanUp]
 by_cases h:i≤j
 ·rw[if_pos h];simp only[h,decide_true,Bool.true_and]
 ·rw[if_neg h,if_neg (by simp[h])]
theorem Lv (p:Ed→Bool) (d:Array Ed) (i j:Nat):scanDown p d i (j+1)=if i≤j+1 then (if p d[j+1]! =true then scanDown p d i j else j+1) else j+1:=by
 conv=>lhs;rw[scanDown]
 by_cases h:i≤j+1
 ·rw[if_pos h];simp only[h,decide_true,Bool.true_and]
 ·rw[if_neg h,if_neg (by simp[h])]
theorem FW (d:Array Ed) (b i:Nat):scanSorted ay d b i=if i<b then (if bO d[i]! d[i-1]! <0 then i else scanSorted ay d b (i+1)) else i:=by
 conv=>lhs;rw[scanSorted]
 by_cases h:i<b
 ·rw[if_pos h];simp only[h,decide_true,Bool.true_and,qG]
  by_cases h2:bO d[i]! d[i-1]! <0
  ·rw[if_neg (not_not_intro h2),if_pos h2]
  ·rw[if_pos h2,if_neg h2]
 ·rw[if_neg h,if_neg (by simp[h])]
theorem Uf (j:Nat) (d:Array Ed):shiftDown ay (j+1) d=if bO d[j+1]! d[j]! <0 then shiftDown ay j (swp d (j+1) j) else d:=by
 conv=>lhs;rw[shiftDown]
 simp only[qG]
 by_cases h2:bO d[j+1]! d[j]! <0
 ·rw[if_neg (not_not_intro h2),if_pos h2]
 ·rw[if_pos h2,if_neg h2]
theorem FX (b j:Nat) (d:Array Ed):shiftUp ay b j d=if j<b then (if bO d[j]! d[j-1]! <0 then shiftUp ay b (j+1) (swp d j (j-1)) else d) else d:=by
 conv=>lhs;rw[shiftUp]
 simp only[qG]
 by_cases h:j<b
 ·rw[if_pos h,if_pos h]
  by_cases h2:bO d[j]! d[j-1]! <0
  ·rw[if_neg (not_not_intro h2),if_pos h2]
  ·rw[if_pos h2,if_neg h2]
 ·rw[if_neg h,if_neg h]
theorem afq {a:Nat}: ∀(n i j:Nat) (d:Array Ed),j+1-i≤n→(partLoop ay a i j d).2.size=d.size∧(partLoop ay a i j d).1≤j:=by
 intro n
 induction n with
 | zero=>
  intro i j d hn
  have h1:=scanUp_ge (fun x=>ay x d[a]!) d j i
  have h2:=scanDown_le (fun x=> !ay x d[a]!) d (scanUp (fun x=>ay x d[a]!) d j i) j
  rw[partLoop_eq,if_pos (by omega)]
  exact ⟨rfl,h2⟩
 | succ n ih=>
  intro i j d hn
  rw[partLoop_eq]
  have h1:=scanUp_ge (fun x=>ay x d[a]!) d j i
  have h2:=scanDown_le (fun x=> !ay x d[a]!) d (scanUp (fun x=>ay x d[a]!) d j i) j
  split
  ·exact ⟨rfl,h2⟩
  ·obtain ⟨h3,h4⟩:=ih (scanUp (fun x=>ay x d[a]!) d j i+1) (scanDown (fun x=> !ay x d[a]!) d (scanUp (fun x=>ay x d[a]!) d j i) j-1) (swp d (scanUp (fun x=>ay x d[a]!) d j i) (scanDown (fun x=> !ay x d[a]!) d (scanUp (fun x=>ay x d[a]!) d j i) j)) (by omega)
   exact ⟨by rw[h3,size_swp],by omega⟩
theorem jU {β:Type} {d:Array Ed} {i:Nat} {x y:Option β} (h:i<d.size):(bif (decide (0≤(i:Int)))&&(decide ((i:Int)<((eA d).length:Int))) then x else y)=x:=by
 rw[fO,dv,aA,if_pos (by omega),aA,if_pos (by omega)]
theorem FY {β:Type} {d:Array Ed} {i k:Nat} {v:V} {x y:Option β} (h:i<d.size):(bif (decide (0≤(i:Int)))&&(decide ((i:Int)<(((eA d).set k v).length:Int))) then x else y)=x:=by
 rw[List.length_set,fO,dv,aA,if_pos (by omega),aA,if_pos (by omega)]
theorem jV {β:Type} {d:Array Ed} {i:Nat} {f:V→Option β} (h:i<d.size):((eA d)[(i:Int).toNat]?).bind f=f (d[i]!).enc:=by
 rw[Int.toNat_natCast,fQ h];rfl
theorem FZ {β:Type} {d:Array Ed} {i k:Nat} {v:V} {x:Option β} (h:i<d.size):(((eA d).set k v)[(i:Int).toNat]?).bind (fun _=>x)=x:=by
 rw[Int.toNat_natCast,List.getElem?_eq_getElem (by rw[List.length_set,fO];exact h)];rfl
theorem qI {β:Type} {d:Array Ed} {i:Nat} {f:V→Option β} (h:i<d.size):((eA d)[i]?).bind f=f (d[i]!).enc:=by
 rw[fQ h];rfl
theorem Lw {β:Type} {d:Array Ed} {i k:Nat} {v:V} {x:Option β} (h:i<d.size):(((eA d).set k v)[i]?).bind (fun _=>x)=x:=by
 rw[List.getElem?_eq_getElem (by rw[List.length_set,fO];exact h)];rfl
theorem afr {a j:Nat} {d:Array Ed} (ha:a<d.size) (hj:j<d.size) (hs:d.size<1152921504606846976): ∀(n i:Nat),j+1-i=n→i≤d.size→
  ∃t,Loop (A5 CC a j (eA d)) (i:Int)=some (((scanUp (fun x=>ay x d[a]!) d j i:Nat):Int),t):=by
 intro n
 induction n with
 | zero=>
  intro i hn hi
  rw[wP,if_neg (by omega)]
  exact ⟨false,bS (by simp (disch:=omega) only[A5,A4,aA,if_neg])⟩
 | succ n ih=>
  intro i hn hi
  obtain ⟨t,h⟩:=ih (i+1) (by omega) (by omega)
  rw[wP,if_pos (by omega)]
  have e:A5 CC a j (eA d) (i:Int)=if bO d[i]! d[a]! <0 then some (.inl ((i+1:Nat):Int)) else some (.inr ((i:Int),decide (bO d[i]! d[a]! <0))):=by
   simp (disch:=omega) only[A5,A4,aA,dv,gb,if_pos,if_neg,wrap64,dG,fR,Int.toNat_natCast,Option.bind_some,fO,fQ,Ed.di,Ed.dj,Ed.dk,Ed.re,fP,g9,Array.size_setIfInBounds,gr,V.bQ,V.toInt_int,cond_true,cond_false]
  simp only[rX]
  by_cases h2:bO d[i]! d[a]! <0
  ·rw[if_pos h2] at e
   rw[if_pos h2]
   exact ⟨t,(dV e).trans h⟩
  ·rw[if_neg h2] at e
   rw[if_neg h2]
   exact ⟨_,bS e⟩
theorem Ug {a j:Nat} {d:Array Ed} (ha:a<d.size) (hj:j<d.size) (hs:d.size<1152921504606846976): ∀(n i:Nat),j+1-i=n→i≤d.size→
  ∃t,Loop (A7 CC a j (eA d)) (i:Int)=some (((scanUp (fun x=>ay x d[a]!) d j i:Nat):Int),t):=by
 intro n
 induction n with
 | zero=>
  intro i hn hi
  rw[wP,if_neg (by omega)]
  exact ⟨false,bS (by simp (disch:=omega) only[A7,A6,aA,if_neg])⟩
 | succ n ih=>
  intro i hn hi
  obtain ⟨t,h⟩:=ih (i+1) (by omega) (by omega)
  rw[wP,if_pos (by omega)]
  have e:A7 CC a j (eA d) (i:Int)=if bO d[i]! d[a]! <0 then some (.inl ((i+1:Nat):Int)) else some (.inr ((i:Int),decide (bO d[i]! d[a]! <0))):=by
   simp (disch:=omega) only[A7,A6,aA,dv,gb,if_pos,if_neg,wrap64,dG,fR,Int.toNat_natCast,Option.bind_some,fO,fQ,Ed.di,Ed.dj,Ed.dk,Ed.re,fP,g9,Array.size_setIfInBounds,gr,V.bQ,V.toInt_int,cond_true,cond_false]
  simp only[rX]
  by_cases h2:bO d[i]! d[a]! <0
  ·rw[if_pos h2] at e
   rw[if_pos h2]
   exact ⟨t,(dV e).trans h⟩
  ·rw[if_neg h2] at e
   rw[if_neg h2]
   exact ⟨_,bS e⟩
theorem Uh {a i:Nat} {d:Array Ed} (ha:a<d.size) (hi:1≤i) (hs:d.size<1152921504606846976): ∀(j:Nat),j<d.size→
  ∃t,Loop (wG CC a i (eA d)) (j:Int)=some (((scanDown (fun x=> !ay x d[a]!) d i j:Nat):Int),t)
 | 0,hj=>⟨false,bS (by simp (disch:=omega) only[wG,wF,aA,if_neg];rfl)⟩
 | j+1,hj=>by
  obtain ⟨t,h⟩:=Uh ha hi hs j (by omega)
  rw[Lv]
  by_cases h1:i≤j+1
  ·rw[if_pos h1]
   have e:wG CC a i (eA d) ((j+1:Nat):Int)=if bO d[j+1]! d[a]! <0 then some (.inr (((j+1:Nat):Int),!decide (bO d[j+1]! d[a]! <0))) else some (.inl (j:Int)):=by
    simp (disch:=omega) only[wG,wF,aA,dv,gb,if_pos,if_neg,wrap64,dG,fR,Int.toNat_natCast,Option.bind_some,fO,fQ,Ed.di,Ed.dj,Ed.dk,Ed.re,fP,g9,Array.size_setIfInBounds,gr,V.bQ,V.toInt_int,cond_true,cond_false,rV]
   simp only[qG]
   by_cases h2:bO d[j+1]! d[a]! <0
   ·rw[if_pos h2] at e
    rw[if_neg (not_not_intro h2)]
    exact ⟨_,bS e⟩
   ·rw[if_neg h2] at e
    rw[if_pos h2]
    exact ⟨t,(dV e).trans h⟩
  ·rw[if_neg h1]
   exact ⟨false,bS (by simp (disch:=omega) only[wG,wF,aA,if_neg])⟩
theorem Lx {a i:Nat} {d:Array Ed} (ha:a<d.size) (hi:1≤i) (hs:d.size<1152921504606846976): ∀(j:Nat),j<d.size→
  ∃t,Loop (wI CC a i (eA d)) (j:Int)=some (((scanDown (fun x=> !ay x d[a]!) d i j:Nat):Int),t)
 | 0,hj=>⟨false,bS (by simp (disch:=omega) only[wI,wH,aA,if_neg];rfl)⟩
 | j+1,hj=>by
  obtain ⟨t,h⟩:=Lx ha hi hs j (by omega)
  rw[Lv]
  by_cases h1:i≤j+1
  ·rw[if_pos h1]
   have e:wI CC a i (eA d) ((j+1:Nat):Int)=if bO d[j+1]! d[a]! <0 then some (.inr (((j+1:Nat):Int),!decide (bO d[j+1]! d[a]! <0))) else some (.inl (j:Int)):=by
    simp (disch:=omega) only[wI,wH,aA,dv,gb,if_pos,if_neg,wrap64,dG,fR,Int.toNat_natCast,Option.bind_some,fO,fQ,Ed.di,Ed.dj,Ed.dk,Ed.re,fP,g9,Array.size_setIfInBounds,gr,V.bQ,V.toInt_int,cond_true,cond_false,rV]
   simp only[qG]
   by_cases h2:bO d[j+1]! d[a]! <0
   ·rw[if_pos h2] at e
    rw[if_neg (not_not_intro h2)]
    exact ⟨_,bS e⟩
   ·rw[if_neg h2] at e
    rw[if_pos h2]
    exact ⟨t,(dV e).trans h⟩
  ·rw[if_neg h1]
   exact ⟨false,bS (by simp (disch:=omega) only[wI,wH,aA,if_neg])⟩
theorem Ui {a j:Nat} {d:Array Ed} (ha:a<d.size) (hj:j<d.size) (hs:d.size<1152921504606846976): ∀(n i:Nat),j+1-i=n→i≤d.size→
  ∃t,Loop (Bb CC a j (eA d)) (i:Int)=some (((scanUp (fun x=> !ay d[a]! x) d j i:Nat):Int),t):=by
 intro n
 induction n with
 | zero=>
  intro i hn hi
  rw[wP,if_neg (by omega)]
  exact ⟨false,bS (by simp (disch:=omega) only[Bb,Ba,aA,if_neg])⟩
 | succ n ih=>
  intro i hn hi
  obtain ⟨t,h⟩:=ih (i+1) (by omega) (by omega)
  rw[wP,if_pos (by omega)]
  have e:Bb CC a j (eA d) (i:Int)=if bO d[a]! d[i]! <0 then some (.inr ((i:Int),!decide (bO d[a]! d[i]! <0))) else some (.inl ((i+1:Nat):Int)):=by
   simp (disch:=omega) only[Bb,Ba,aA,dv,gb,if_pos,if_neg,wrap64,dG,fR,Int.toNat_natCast,Option.bind_some,fO,fQ,Ed.di,Ed.dj,Ed.dk,Ed.re,fP,g9,Array.size_setIfInBounds,gr,V.bQ,V.toInt_int,cond_true,cond_false]
  simp only[qG]
  by_cases h2:bO d[a]! d[i]! <0
  ·rw[if_pos h2] at e
   rw[if_neg (not_not_intro h2)]
   exact ⟨_,bS e⟩
  ·rw[if_neg h2] at e
   rw[if_pos h2]
   exact ⟨t,(dV e).trans h⟩
theorem Ly {a i:Nat} {d:Array Ed} (ha:a<d.size) (hi:1≤i) (hs:d.size<1152921504606846976): ∀(j:Nat),j<d.size→
  ∃t,Loop (wM CC a i (eA d)) (j:Int)=some (((scanDown (fun x=>ay d[a]! x) d i j:Nat):Int),t)
 | 0,hj=>⟨false,bS (by simp (disch:=omega) only[wM,wL,aA,if_neg];rfl)⟩
 | j+1,hj=>by
  obtain ⟨t,h⟩:=Ly ha hi hs j (by omega)
  rw[Lv]
  by_cases h1:i≤j+1
  ·rw[if_pos h1]
   have e:wM CC a i (eA d) ((j+1:Nat):Int)=if bO d[a]! d[j+1]! <0 then some (.inl (j:Int)) else some (.inr (((j+1:Nat):Int),decide (bO d[a]! d[j+1]! <0))):=by
    simp (disch:=omega) only[wM,wL,aA,dv,gb,if_pos,if_neg,wrap64,dG,fR,Int.toNat_natCast,Option.bind_some,fO,fQ,Ed.di,Ed.dj,Ed.dk,Ed.re,fP,g9,Array.size_setIfInBounds,gr,V.bQ,V.toInt_int,cond_true,cond_false,rV]
   simp only[rX]
   by_cases h2:bO d[a]! d[j+1]! <0
   ·rw[if_pos h2] at e
    rw[if_pos h2]
    exact ⟨t,(dV e).trans h⟩
   ·rw[if_neg h2] at e
    rw[if_neg h2]
    exact ⟨_,bS e⟩
  ·rw[if_neg h1]
   exact ⟨false,bS (by simp (disch:=omega) only[wM,wL,aA,if_neg])⟩
theorem afs {a:Nat}: ∀(n i j:Nat) (d:Array Ed),j+1-i≤n→1≤i→i≤d.size→a<d.size→j<d.size→d.size<1152921504606846976→
  ∃x z,Loop (wJ CC a) ((i:Int),(j:Int),eA d)=some (x,(((partLoop ay a i j d).1:Nat):Int),z,eA (partLoop ay a i j d).2):=by
 intro n
 induction n with
 | zero=>
  intro i j d hn h1 h2 ha hj hs
  obtain ⟨t3,e3⟩:=Ug (a:=a) ha hj hs _ i rfl h2
  have g1:=scanUp_ge (fun x=>ay x d[a]!) d j i
  have g2:=scanDown_le (fun x=> !ay x d[a]!) d (scanUp (fun x=>ay x d[a]!) d j i) j
  obtain ⟨t4,e4⟩:=Lx (a:=a) (i:=scanUp (fun x=>ay x d[a]!) d j i) ha (by omega) hs j hj
  rw[partLoop_eq,if_pos (by omega)]
  refine ⟨((scanUp (fun x=>ay x d[a]!) d j i:Nat):Int),true,bS ?_⟩
  simp only[wJ,A8,un]
  rw[e3]
  simp only[Option.bind_some,un]
  rw[e4]
  simp (disch:=omega) only[Option.bind_some,un,mY,cond_true]
 | succ n ih=>
  intro i j d hn h1 h2 ha hj hs
  obtain ⟨t3,e3⟩:=Ug (a:=a) ha hj hs _ i rfl h2
  have g1:=scanUp_ge (fun x=>ay x d[a]!) d j i
  have g2:=scanDown_le (fun x=> !ay x d[a]!) d (scanUp (fun x=>ay x d[a]!) d j i) j
  obtain ⟨t4,e4⟩:=Lx (a:=a) (i:=scanUp (fun x=>ay x d[a]!) d j i) ha (by omega) hs j hj
  rw[partLoop_eq]
  have f:wJ CC a ((i:Int),(j:Int),eA d)=wJ CC a ((i:Int),(j:Int),eA d):=rfl
  conv at f=>rhs;simp only[wJ,A8,un];rw[e3];simp only[Option.bind_some,un];rw[e4];simp only[Option.bind_some,un]
  generalize iP:scanUp (fun x=>ay x d[a]!) d j i=i2 at*
  generalize bU:scanDown (fun x=> !ay x d[a]!) d i2 j=j2 at*
  by_cases h:i2>j2
  ·rw[if_pos h]
   refine ⟨(i2:Int),true,bS (f.trans ?_)⟩
   simp (disch:=omega) only[Option.bind_some,mY,cond_true]
  ·rw[if_neg h]
   obtain ⟨x,z,e⟩:=ih (i2+1) (j2-1) (swp d i2 j2) (by omega) (by omega) (by rw[size_swp];omega) (by rw[size_swp];omega) (by rw[size_swp];omega) (by rw[size_swp];omega)
   refine ⟨x,z,(dV (f.trans ?_)).trans e⟩
   simp (disch:=omega) only[aA,dv,gb,if_pos,if_neg,wrap64,dG,fR,Int.toNat_natCast,Option.bind_some,fO,fQ,Ed.di,Ed.dj,Ed.dk,Ed.re,fP,g9,Array.size_setIfInBounds,gr,V.bQ,V.toInt_int,cond_true,cond_false,jr]
   rfl
theorem aft (d:Array Ed) (a b pivot:Nat):partition ay d a b pivot=
  if scanUp (fun x=>ay x (swp d a pivot)[a]!) (swp d a pivot) (b-1) (a+1)>scanDown (fun x=> !ay x (swp d a pivot)[a]!) (swp d a pivot) (scanUp (fun x=>ay x (swp d a pivot)[a]!) (swp d a pivot) (b-1) (a+1)) (b-1) then
   (scanDown (fun x=> !ay x (swp d a pivot)[a]!) (swp d a pivot) (scanUp (fun x=>ay x (swp d a pivot)[a]!) (swp d a pivot) (b-1) (a+1)) (b-1),true,swp (swp d a pivot) (scanDown (fun x=> !ay x (swp d a pivot)[a]!) (swp d a pivot) (scanUp (fun x=>ay x (swp d a pivot)[a]!) (swp d a pivot) (b-1) (a+1)) (b-1)) a)
  else
   ((partLoop ay a (scanUp (fun x=>ay x (swp d a pivot)[a]!) (swp d a pivot) (b-1) (a+1)+1) (scanDown (fun x=> !ay x (swp d a pivot)[a]!) (swp d a pivot) (scanUp (fun x=>ay x (swp d a pivot)[a]!) (swp d a pivot) (b-1) (a+1)) (b-1)-1) (swp (swp d a pivot) (scanUp (fun x=>ay x (swp d a pivot)[a]!) (swp d a pivot) (b-1) (a+1)) (scanDown (fun x=> !ay x (swp d a pivot)[a]!) (swp d a pivot) (scanUp (fun x=>ay x (swp d a pivot)[a]!) (swp d a pivot) (b-1) (a+1)) (b-1)))).1,false,
    swp (partLoop ay a (scanUp (fun x=>ay x (swp d a pivot)[a]!) (swp d a pivot) (b-1) (a+1)+1) (scanDown (fun x=> !ay x (swp d a pivot)[a]!) (swp d a pivot) (scanUp (fun x=>ay x (swp d a pivot)[a]!) (swp d a pivot) (b-1) (a+1)) (b-1)-1) (swp (swp d a pivot) (scanUp (fun x=>ay x (swp d a pivot)[a]!) (swp d a pivot) (b-1) (a+1)) (scanDown (fun x=> !ay x (swp d a pivot)[a]!) (swp d a pivot) (scanUp (fun x=>ay x (swp d a pivot)[a]!) (swp d a pivot) (b-1) (a+1)) (b-1)))).2
    (partLoop ay a (scanUp (fun x=>ay x (swp d a pivot)[a]!) (swp d a pivot) (b-1) (a+1)+1) (scanDown (fun x=> !ay x (swp d a pivot)[a]!) (swp d a pivot) (scanUp (fun x=>ay x (swp d a pivot)[a]!) (swp d a pivot) (b-1) (a+1)) (b-1)-1) (swp (swp d a pivot) (scanUp (fun x=>ay x (swp d a pivot)[a]!) (swp d a pivot) (b-1) (a+1)) (scanDown (fun x=> !ay x (swp d a pivot)[a]!) (swp d a pivot) (scanUp (fun x=>ay x (swp d a pivot)[a]!) (swp d a pivot) (b-1) (a+1)) (b-1)))).1 a):=rfl
theorem wQ (d:Array Ed) (i j:Nat):eA ((d.setIfInBounds i d[j]!).setIfInBounds j d[i]!)=eA (swp d i j):=rfl
theorem afu {a b pivot:Nat} {d:Array Ed} (hp:pivot<b) (fJ:a<b) (hb:b≤d.size) (hs:d.size<1152921504606846976):
  CC nY [.int .i64 (a:Int),.int .i64 (b:Int),.int .i64 (pivot:Int),.list ag (eA d)]=
   some [.int .i64 ((partition ay d a b pivot).1:Int),.bool (partition ay d a b pivot).2.1,.list ag (eA (partition ay d a b pivot).2.2)]:=by
 refine ae6 ?_
 unfold T9
 have z1:(swp d a pivot).size=d.size:=size_swp ..
 obtain ⟨t1,e1⟩:=afr (a:=a) (j:=b-1) (d:=swp d a pivot) (by omega) (by omega) (by omega) _ (a+1) rfl (by omega)
 have g1:=scanUp_ge (fun x=>ay x (swp d a pivot)[a]!) (swp d a pivot) (b-1) (a+1)
 have g2:=scanDown_le (fun x=> !ay x (swp d a pivot)[a]!) (swp d a pivot) (scanUp (fun x=>ay x (swp d a pivot)[a]!) (swp d a pivot) (b-1) (a+1)) (b-1)
 obtain ⟨t2,e2⟩:=Uh (a:=a) (i:=scanUp (fun x=>ay x (swp d a pivot)[a]!) (swp d a pivot) (b-1) (a+1)) (d:=swp d a pivot) (by omega) (by omega) (by omega) (b-1) (by omega)
 have e0:=aft d a b pivot
 rw[jU (i:=pivot) (by omega),jV (by omega),jU (i:=a) (by omega),jV (by omega),jU (i:=a) (by omega),jV (by omega),FY (i:=pivot) (by omega),FZ (by omega)]
 simp only[Ed.di,Ed.dj,Ed.dk,Ed.re,Int.toNat_natCast,fP,wQ]
 simp (disch:=omega) only[jr,dG,wrap64]
 rw[e1]
 simp only[Option.bind_some,un]
 rw[e2]
 simp only[Option.bind_some,un]
 generalize iP:scanUp (fun x=>ay x (swp d a pivot)[a]!) (swp d a pivot) (b-1) (a+1)=i2 at*
 generalize bU:scanDown (fun x=> !ay x (swp d a pivot)[a]!) (swp d a pivot) i2 (b-1)=j2 at*
 generalize swp d a pivot=d1 at*
 by_cases h:i2>j2
 ·rw[if_pos h] at e0
  rw[e0,aA,if_pos (by omega)]
  rw[jU (i:=a) (by omega)];(first|rw[jV (by omega)]|rw[qI (by omega)]);rw[jU (i:=j2) (by omega)];(first|rw[jV (by omega)]|rw[qI (by omega)]);rw[jU (i:=j2) (by omega)];(first|rw[jV (by omega)]|rw[qI (by omega)]);rw[FY (i:=a) (by omega)];(first|rw[FZ (by omega)]|rw[Lw (by omega)])
  simp only[Ed.di,Ed.dj,Ed.dk,Ed.re,Int.toNat_natCast,fP,wQ]
 ·rw[if_neg h] at e0
  rw[e0,aA,if_neg (by omega)]
  have z2:(swp d1 i2 j2).size=d1.size:=size_swp ..
  obtain ⟨x,z,e5⟩:=afs (a:=a) _ (i2+1) (j2-1) (swp d1 i2 j2) (Nat.le_refl _) (by omega) (by omega) (by omega) (by omega) (by omega)
  obtain ⟨q1,q2⟩:=afq (a:=a) _ (i2+1) (j2-1) (swp d1 i2 j2) (Nat.le_refl _)
  rw[jU (i:=j2) (by omega)];(first|rw[jV (by omega)]|rw[qI (by omega)]);rw[jU (i:=i2) (by omega)];(first|rw[jV (by omega)]|rw[qI (by omega)]);rw[jU (i:=i2) (by omega)];(first|rw[jV (by omega)]|rw[qI (by omega)]);rw[FY (i:=j2) (by omega)];(first|rw[FZ (by omega)]|rw[Lw (by omega)])
  simp only[Ed.di,Ed.dj,Ed.dk,Ed.re,Int.toNat_natCast,fP,wQ]
  simp (disch:=omega) only[jr,dG,wrap64]
  rw[e5]
  generalize partLoop ay a (i2+1) (j2-1) (swp d1 i2 j2)=r at*
  simp only[Option.bind_some,un]
  rw[jU (i:=a) (by omega)];(first|rw[jV (by omega)]|rw[qI (by omega)]);rw[jU (i:=r.1) (by omega)];(first|rw[jV (by omega)]|rw[qI (by omega)]);rw[jU (i:=r.1) (by omega)];(first|rw[jV (by omega)]|rw[qI (by omega)]);rw[FY (i:=a) (by omega)];(first|rw[FZ (by omega)]|rw[Lw (by omega)])
  simp only[Ed.di,Ed.dj,Ed.dk,Ed.re,Int.toNat_natCast,fP,wQ]
theorem afv {a:Nat}: ∀(n i j:Nat) (d:Array Ed),j+1-i≤n→1≤i→i≤d.size→a<d.size→j<d.size→d.size<1152921504606846976→
  ∃x z,Loop (wO CC a) ((i:Int),(j:Int),eA d)=some ((((partEqLoop ay a i j d).1:Nat):Int),x,z,eA (partEqLoop ay a i j d).2):=by
 intro n
 induction n with
 | zero=>
  intro i j d hn h1 h2 ha hj hs
  obtain ⟨t3,e3⟩:=Ui (a:=a) ha hj hs _ i rfl h2
  have g1:=scanUp_ge (fun x=> !ay d[a]! x) d j i
  have g2:=scanDown_le (fun x=>ay d[a]! x) d (scanUp (fun x=> !ay d[a]! x) d j i) j
  obtain ⟨t4,e4⟩:=Ly (a:=a) (i:=scanUp (fun x=> !ay d[a]! x) d j i) ha (by omega) hs j hj
  rw[partEqLoop_eq,if_pos (by omega)]
  refine ⟨((scanDown (fun x=>ay d[a]! x) d (scanUp (fun x=> !ay d[a]! x) d j i) j:Nat):Int),true,bS ?_⟩
  simp only[wO,Bc,un]
  rw[e3]
  simp only[Option.bind_some,un]
  rw[e4]
  simp (disch:=omega) only[Option.bind_some,un,mY,cond_true]
 | succ n ih=>
  intro i j d hn h1 h2 ha hj hs
  obtain ⟨t3,e3⟩:=Ui (a:=a) ha hj hs _ i rfl h2
  have g1:=scanUp_ge (fun x=> !ay d[a]! x) d j i
  have g2:=scanDown_le (fun x=>ay d[a]! x) d (scanUp (fun x=> !ay d[a]! x) d j i) j
  obtain ⟨t4,e4⟩:=Ly (a:=a) (i:=scanUp (fun x=> !ay d[a]! x) d j i) ha (by omega) hs j hj
  rw[partEqLoop_eq]
  have f:wO CC a ((i:Int),(j:Int),eA d)=wO CC a ((i:Int),(j:Int),eA d):=rfl
  conv at f=>rhs;simp only[wO,Bc,un];rw[e3];simp only[Option.bind_some,un];rw[e4];simp only[Option.bind_some,un]
  generalize iP:scanUp (fun x=> !ay d[a]! x) d j i=i2 at*
  generalize bU:scanDown (fun x=>ay d[a]! x) d i2 j=j2 at*
  by_cases h:i2>j2
  ·rw[if_pos h]
   refine ⟨(j2:Int),true,bS (f.trans ?_)⟩
   simp (disch:=omega) only[Option.bind_some,mY,cond_true]
  ·rw[if_neg h]
   obtain ⟨x,z,e⟩:=ih (i2+1) (j2-1) (swp d i2 j2) (by omega) (by omega) (by rw[size_swp];omega) (by rw[size_swp];omega) (by rw[size_swp];omega) (by rw[size_swp];omega)
   refine ⟨x,z,(dV (f.trans ?_)).trans e⟩
   simp (disch:=omega) only[aA,dv,gb,if_pos,if_neg,wrap64,dG,fR,Int.toNat_natCast,Option.bind_some,fO,fQ,Ed.di,Ed.dj,Ed.dk,Ed.re,fP,g9,Array.size_setIfInBounds,gr,V.bQ,V.toInt_int,cond_true,cond_false,jr]
   rfl
theorem afw {a b pivot:Nat} {d:Array Ed} (hp:pivot<b) (fJ:a<b) (hb:b≤d.size) (hs:d.size<1152921504606846976):
  CC vP [.int .i64 (a:Int),.int .i64 (b:Int),.int .i64 (pivot:Int),.list ag (eA d)]=
   some [.int .i64 ((partitionEqual ay d a b pivot).1:Int),.list ag (eA (partitionEqual ay d a b pivot).2)]:=by
 refine afd ?_
 unfold Ub
 have z1:(swp d a pivot).size=d.size:=size_swp ..
 obtain ⟨x,z,e⟩:=afv (a:=a) _ (a+1) (b-1) (swp d a pivot) (Nat.le_refl _) (by omega) (by omega) (by omega) (by omega) (by omega)
 simp (disch:=omega) only[aA,dv,if_pos,fO,fQ,Int.toNat_natCast,Option.bind_some,Ed.di,Ed.dj,Ed.dk,Ed.re,fP,g9,Array.size_setIfInBounds,jr,dG,wrap64,wQ]
 rw[e]
 rfl
theorem afx {a b j:Nat} {d:Array Ed} (hb:b≤d.size) (hs:d.size<1152921504606846976): ∀(n i:Nat),b-i=n→1≤i→i≤b→
  ∃t,Loop (Be CC a b j (eA d)) (i:Int)=some (((scanSorted ay d b i:Nat):Int),t):=by
 intro n
 induction n with
 | zero=>
  intro i hn h1 hi
  rw[FW,if_neg (by omega)]
  exact ⟨false,bS (by simp (disch:=omega) only[Be,Bd,aA,if_neg])⟩
 | succ n ih=>
  intro i hn h1 hi
  obtain ⟨t,h⟩:=ih (i+1) (by omega) (by omega) (by omega)
  rw[FW,if_pos (by omega)]
  have e:Be CC a b j (eA d) (i:Int)=if bO d[i]! d[i-1]! <0 then some (.inr ((i:Int),!decide (bO d[i]! d[i-1]! <0))) else some (.inl ((i+1:Nat):Int)):=by
   simp (disch:=omega) only[Be,Bd,jr,aA,dv,gb,if_pos,if_neg,wrap64,dG,fR,Int.toNat_natCast,Option.bind_some,fO,fQ,Ed.di,Ed.dj,Ed.dk,Ed.re,fP,g9,Array.size_setIfInBounds,gr,V.bQ,V.toInt_int,cond_true,cond_false]
  by_cases h2:bO d[i]! d[i-1]! <0
  ·rw[if_pos h2] at e⊢
   exact ⟨_,bS e⟩
  ·rw[if_neg h2] at e⊢
   exact ⟨t,(dV e).trans h⟩
theorem Uj: ∀(j:Nat) (d:Array Ed),(shiftDown ay j d).size=d.size
 | 0,_=>rfl
 | j+1,d=>by
  rw[Uf]
  split
  ·rw[Uj j,size_swp]
  ·rfl
theorem afy {b:Nat}: ∀(n j:Nat) (d:Array Ed),b-j=n→(shiftUp ay b j d).size=d.size:=by
 intro n
 induction n with
 | zero=>intro j d h;rw[FX,if_neg (by omega)]
 | succ n ih=>
  intro j d h
  rw[FX,if_pos (by omega)]
  split
  ·rw[ih _ _ (by omega),size_swp]
  ·rfl
theorem Uk {a b i k:Nat}: ∀(j:Nat) (d:Array Ed),j<d.size→d.size<1152921504606846976→
  ∃t,Loop (Bg CC a b i k) ((j:Int),eA d)=some (t,eA (shiftDown ay j d))
 | 0,d,hj,hs=>⟨(0:Nat),bS (by
   simp (disch:=omega) only[Bg,Bf,un,aA,if_neg]
   rfl)⟩
 | j+1,d,hj,hs=>by
  obtain ⟨t,ih⟩:=Uk (a:=a) (b:=b) (i:=i) (k:=k) j (swp d (j+1) j) (by rw[size_swp];omega) (by rw[size_swp];omega)
  rw[Uf]
  have e:Bg CC a b i k (((j+1:Nat):Int),eA d)=if bO d[j+1]! d[j]! <0 then some (.inl ((j:Int),eA (swp d (j+1) j))) else some (.inr (((j+1:Nat):Int),eA d)):=by
   simp (disch:=omega) only[Bg,Bf,un,aA,dv,gb,if_pos,if_neg,wrap64,dG,fR,Int.toNat_natCast,Option.bind_some,fO,fQ,Ed.di,Ed.dj,Ed.dk,Ed.re,fP,g9,Array.size_setIfInBounds,gr,V.bQ,V.toInt_int,cond_true,cond_false,rV]
   rfl
  by_cases h2:bO d[j+1]! d[j]! <0
  ·rw[if_pos h2] at e⊢
   exact ⟨t,(dV e).trans ih⟩
  ·rw[if_neg h2] at e⊢
   exact ⟨_,bS e⟩
theorem afz {a b i k:Nat}: ∀(n j:Nat) (d:Array Ed),b-j=n→1≤j→j≤b→b≤d.size→d.size<1152921504606846976→
  ∃t,Loop (Bi CC a b i k) ((j:Int),eA d)=some (t,eA (shiftUp ay b j d)):=by
 intro n
 induction n with
 | zero=>
  intro j d hn h1 hj hb hs
  rw[FX,if_neg (by omega)]
  exact ⟨(j:Int),bS (by
   simp (disch:=omega) only[Bi,Bh,un,aA,if_neg])⟩
 | succ n ih=>
  intro j d hn h1 hj hb hs
  obtain ⟨t,h⟩:=ih (j+1) (swp d j (j-1)) (by omega) (by omega) (by omega) (by rw[size_swp];omega) (by rw[size_swp];omega)
  rw[FX,if_pos (by omega)]
  have e:Bi CC a b i k ((j:Int),eA d)=if bO d[j]! d[j-1]! <0 then some (.inl (((j+1:Nat):Int),eA (swp d j (j-1)))) else some (.inr ((j:Int),eA d)):=by
   simp (disch:=omega) only[Bi,Bh,un,jr,aA,dv,gb,if_pos,if_neg,wrap64,dG,fR,Int.toNat_natCast,Option.bind_some,fO,fQ,Ed.di,Ed.dj,Ed.dk,Ed.re,fP,g9,Array.size_setIfInBounds,gr,V.bQ,V.toInt_int,cond_true,cond_false]
   rfl
  by_cases h2:bO d[j]! d[j-1]! <0
  ·rw[if_pos h2] at e⊢
   exact ⟨t,(dV e).trans h⟩
  ·rw[if_neg h2] at e⊢
   exact ⟨_,bS e⟩
theorem afA {d:Array Ed} {b:Nat}: ∀(n i:Nat),b-i=n→i≤b→i≤scanSorted ay d b i∧scanSorted ay d b i≤b:=by
 intro n
 induction n with
 | zero=>intro i hn hi;rw[FW,if_neg (by omega)];omega
 | succ n ih=>
  intro i hn hi
  rw[FW,if_pos (by omega)]
  obtain ⟨h1,h2⟩:=ih (i+1) (by omega) (by omega)
  split<;>omega
theorem afB {a b:Nat}: ∀(s i:Nat) (d:Array Ed),s≤5→a<i→i≤b→b≤d.size→d.size<1152921504606846976→
  (Loop (rY CC a b) ((i:Int),((5-s:Nat):Int),eA d)=some (.inl ((partialIns ay a b s i d).2,eA (partialIns ay a b s i d).1)))∨
  (∃x y z,(partialIns ay a b s i d).2=false∧Loop (rY CC a b) ((i:Int),((5-s:Nat):Int),eA d)=some (.inr (x,y,z,eA (partialIns ay a b s i d).1))):=by
 intro s
 induction s with
 | zero=>
  intro i d hs5 hi LA hb hs
  refine .inr ⟨(i:Int),((5:Nat):Int),false,rfl,bS ?_⟩
  simp (disch:=omega) only[rY,Bj,un,qC,cond_false]
  rfl
 | succ s ih=>
  intro i d hs5 hi LA hb hs
  obtain ⟨t1,e1⟩:=afx (a:=a) (j:=5-(s+1)) hb hs _ i rfl (by omega) LA
  obtain ⟨q1,q2⟩:=afA (d:=d) _ i rfl LA
  rw[partialIns_succ]
  have f:rY CC a b ((i:Int),((5-(s+1):Nat):Int),eA d)=rY CC a b ((i:Int),((5-(s+1):Nat):Int),eA d):=rfl
  conv at f=>rhs;simp only[rY,Bj,un];rw[aA,if_pos (by omega),e1];simp only[Option.bind_some,un]
  generalize scanSorted ay d b i=k at*
  by_cases h1:k=b
  ·rw[if_pos h1]
   left
   refine bS (f.trans ?_)
   rw[mI,if_pos (by omega)]
  ·rw[if_neg h1]
   by_cases h2:b-a<50
   ·rw[if_pos h2]
    left
    refine bS (f.trans ?_)
    rw[mI,if_neg (by omega),wrap64 (by omega) (by omega),aA,if_pos (by omega)]
   ·rw[if_neg h2]
    have z1:(swp d k (k-1)).size=d.size:=size_swp ..
    have z2:(fixDown ay a k (swp d k (k-1))).size=d.size:=by
     unfold fixDown
     split
     ·rw[Uj,z1]
     ·exact z1
    have z3:(fixUp ay b k (fixDown ay a k (swp d k (k-1)))).size=d.size:=by
     unfold fixUp
     split
     ·rw[afy _ _ _ rfl,z2]
     ·exact z2
    obtain ⟨t2,e2⟩:=Uk (a:=a) (b:=b) (i:=k) (k:=5-(s+1)) (k-1) (swp d k (k-1)) (by omega) (by omega)
    obtain ⟨t4,e4⟩:=afz (a:=a) (b:=b) (i:=k) (k:=5-(s+1)) _ (k+1) (fixDown ay a k (swp d k (k-1))) rfl (by omega) (by omega) (by omega) (by omega)
    have e5:rY CC a b ((i:Int),((5-(s+1):Nat):Int),eA d)=some (.inl ((k:Int),((5-s:Nat):Int),eA (fixUp ay b k (fixDown ay a k (swp d k (k-1)))))):=by
     refine f.trans ?_
     rw[mI,if_neg (by omega),wrap64 (by omega) (by omega),aA,if_neg (by omega)]
     simp (disch:=omega) only[aA,dv,if_pos,fO,fQ,Int.toNat_natCast,Option.bind_some,Ed.di,Ed.dj,Ed.dk,Ed.re,fP,g9,Array.size_setIfInBounds,jr,dG,lZ,wrap64,wQ,FV]
     rw[show 5-(s+1)+1=5-s by omega]
     unfold fixDown at e4⊢
     unfold fixUp
     have c1:(((k-a:Nat):Int)≥2)=(k-a≥2):=propext (by omega)
     have c2:(((b-k:Nat):Int)≥2)=(b-k≥2):=propext (by omega)
     simp only[c1,c2]
     by_cases g1:k-a≥2
     ·by_cases g2:b-k≥2
      ·simp only[g1,g2,if_true,e2,Option.bind_some,un] at e4⊢
       rw[e4]
       rfl
      ·simp only[g1,g2,if_true,if_false,e2,Option.bind_some,un]
     ·by_cases g2:b-k≥2
      ·simp only[g1,g2,if_true,if_false] at e4⊢
       rw[e4]
       rfl
      ·exact absurd (show b-k≥2 by omega) g2
    rw[dV e5]
    exact ih k _ (by omega) (by omega) (by omega) (by omega) (by omega)
theorem Ul {a b:Nat} {d:Array Ed} (fJ:a<b) (hb:b≤d.size) (hs:d.size<1152921504606846976):
  CC II [.int .i64 (a:Int),.int .i64 (b:Int),.list ag (eA d)]=
   some [.bool (partialInsertionSort ay d a b).2,.list ag (eA (partialInsertionSort ay d a b).1)]:=by
 refine afp ?_
 unfold Ue
 simp (disch:=omega) only[dG,wrap64]
 rcases afB (a:=a) (b:=b) 5 (a+1) d (Nat.le_refl _) (by omega) (by omega) hb hs with h|⟨x,y,z,h0,h⟩
 ·rw[show ((5-5:Nat):Int)=0 from rfl] at h
  rw[h]
  rfl
 ·rw[show ((5-5:Nat):Int)=0 from rfl] at h
  rw[h]
  unfold partialInsertionSort
  rw[h0]
  rfl
end Go.AM.SL
set_option maxRecDepth 100000
namespace Go.AM
open Go.Proofs
noncomputable abbrev rZ:Code:=cC Tryd.prog (aw.aW 173)
noncomputable def Bl (C:af) (data:List V) (i j k':Int) (t36:Bool) (gI:Int) {β:Type} (kr:(Int × Int × Int × Int)→Option β):Option β:=
 bif t36 then
  (C y8 [.list ag data,.int .i64 i,.int .i64 gI]).bind fun r1=>
  (C y8 [.list ag data,.int .i64 j,.int .i64 ((V.nth (r1.drop 1) 0).toInt)]).bind fun r2=>
  (C y8 [.list ag data,.int .i64 k',.int .i64 ((V.nth (r2.drop 1) 0).toInt)]).bind fun r3=>
  kr ((V.nth r1 0).toInt,(V.nth r2 0).toInt,(V.nth r3 0).toInt,(V.nth (r3.drop 1) 0).toInt)
 else
  kr (i,j,k',gI)
noncomputable def Bm (C:af) (data:List V) (l i j k':Int) (t34:Bool) (gI:Int) {β:Type} (kr:(Int × Int)→Option β):Option β:=
 bif t34 then
  Bl C data i j k' (decide ((l:Int)≥50)) gI (un fun (fj:Int)=>un fun (j_5:Int)=>un fun (k_6:Int) (afC:Int)=>
   (C Ep [.list ag data,.int .i64 fj,.int .i64 j_5,.int .i64 k_6,.int .i64 afC]).bind fun r8=>
   kr ((V.nth r8 0).toInt,(V.nth (r8.drop 1) 0).toInt))
 else
  kr (j,gI)
noncomputable def Um (C:af):cq:=fun β n ds k=>
 bif Nat.beq n 591 then lO J3 [[1,0,0,0,0]] (@Bl C) ds k else
 bif Nat.beq n 559 then lO J4 [[0,0]] (@Bm C) ds k else
 none
abbrev Un (C:af) (b:ch):Prop:=cj Tryd.prog aw C (Um C) 173 (cJ Tryd.prog (aw.aW 173)) (aw.sin 173).a8.length b
theorem afD (C:af):Un C (.cond 36 (ar [1,1,1,1,1,1,0,1,0,0,1,0] rZ) (ar [1,1,1,1,1,1,0,1,0,0,1,1] rZ)):=
 mK J3 [[1,0,0,0,0]] (@Bl C) (by kernel_rfl) (aS (bs:=[]) (by kernel_rfl) av) (aS (bs:=[]) (by kernel_rfl) av) (fun ds=>by kernel_rfl) (fun i β k=>by kernel_rfl) (fun β ds k=>by kernel_rfl)
theorem afE (C:af):Un C (.cond 34 (ar [1,1,1,1,1,1,0,1,0] rZ) (ar [1,1,1,1,1,1,0,1,1] rZ)):=
 mK J4 [[0,0]] (@Bm C) (by kernel_rfl) (aS (bs:=[.cond 36 (ar [1,1,1,1,1,1,0,1,0,0,1,0] rZ) (ar [1,1,1,1,1,1,0,1,0,0,1,1] rZ)]) (by kernel_rfl) (bf (afD C) av)) (aS (bs:=[]) (by kernel_rfl) av) (fun ds=>by kernel_rfl) (fun i β k=>by kernel_rfl) (fun β ds k=>by kernel_rfl)
noncomputable def LB (C:af) (data:List V) (a b':Int):Option (List V):=
 Bm C data (IntKind.wrap .i64 (b'-a)) (IntKind.wrap .i64 (a+(IntKind.wrap .i64 (1*(IntKind.wrap .i64 (Int.tdiv (IntKind.wrap .i64 (b'-a)) 4)))))) (IntKind.wrap .i64 (a+(IntKind.wrap .i64 (2*(IntKind.wrap .i64 (Int.tdiv (IntKind.wrap .i64 (b'-a)) 4)))))) (IntKind.wrap .i64 (a+(IntKind.wrap .i64 (3*(IntKind.wrap .i64 (Int.tdiv (IntKind.wrap .i64 (b'-a)) 4)))))) (decide (((IntKind.wrap .i64 (b'-a)):Int)≥8)) 0 (un fun (LC:Int) (Uo:Int)=>
  bif (Uo:Int)==0 then
   some [.int .i64 LC,.int .i64 1]
  else
   bif (Uo:Int)==12 then
   some [.int .i64 LC,.int .i64 2]
   else
   some [.int .i64 LC,.int .i64 0])
theorem Up {data:List V} {a b':Int} {r:Option (List V)} (h:LB CC data a b'=r):CC Eo [.list ag data,.int .i64 a,.int .i64 b']=r:=
 bn (key:=173) (L:=Um CC) (bs:=[.cond 34 (ar [1,1,1,1,1,1,0,1,0] rZ) (ar [1,1,1,1,1,1,0,1,1] rZ)]) (by kernel_rfl) (bf (afE CC) av) (Eq.trans (by kernel_rfl) h)
end Go.AM
set_option maxRecDepth 100000
namespace Go.AM
open Go.Proofs
noncomputable def Uq (C:af) (data:List V) (a b' c gI:Int):Option (List V):=
 (C y9 [.list ag data,.int .i64 a,.int .i64 b',.int .i64 gI]).bind fun r1=>
 (C y9 [.list ag data,.int .i64 ((V.nth (r1.drop 1) 0).toInt),.int .i64 c,.int .i64 ((V.nth (r1.drop 2) 0).toInt)]).bind fun r2=>
 (C y9 [.list ag data,.int .i64 ((V.nth r1 0).toInt),.int .i64 ((V.nth r2 0).toInt),.int .i64 ((V.nth (r2.drop 2) 0).toInt)]).bind fun r3=>
 some [.int .i64 ((V.nth (r3.drop 1) 0).toInt),.int .i64 ((V.nth (r3.drop 2) 0).toInt)]
theorem afF {data:List V} {a b' c gI:Int} {r:Option (List V)} (h:Uq CC data a b' c gI=r):CC Ep [.list ag data,.int .i64 a,.int .i64 b',.int .i64 c,.int .i64 gI]=r:=
 bn (key:=175) (L:=cT) (bs:=[]) (by kernel_rfl) av (Eq.trans (by kernel_rfl) h)
end Go.AM
set_option maxRecDepth 100000
namespace Go.AM
open Go.Proofs
noncomputable def LD (C:af) (data:List V) (a b' gI:Int):Option (List V):=
 (idx data b').bind fun x1=>
 (idx data a).bind fun x2=>
 (C bw [.int .i64 ((x1.cell 0).toInt),.int .i64 ((x1.cell 1).toInt),.int .i64 ((x1.cell 2).toInt),.int .i64 ((x2.cell 0).toInt),.int .i64 ((x2.cell 1).toInt),.int .i64 ((x2.cell 2).toInt)]).bind fun r3=>
 bif decide ((((V.nth r3 0).toInt):Int)<0) then
  some [.int .i64 b',.int .i64 a,.int .i64 (IntKind.wrap .i64 (gI+1))]
 else
  some [.int .i64 a,.int .i64 b',.int .i64 gI]
theorem Ur {data:List V} {a b' gI:Int} {r:Option (List V)} (h:LD CC data a b' gI=r):CC y9 [.list ag data,.int .i64 a,.int .i64 b',.int .i64 gI]=r:=
 bn (key:=176) (L:=cT) (bs:=[]) (by kernel_rfl) av (Eq.trans (by kernel_rfl) h)
end Go.AM
set_option maxRecDepth 100000
namespace Go.AM
open Go.Proofs
noncomputable def Us (C:af) (data:List V) (a gI:Int):Option (List V):=
 (C Ep [.list ag data,.int .i64 (IntKind.wrap .i64 (a-1)),.int .i64 a,.int .i64 (IntKind.wrap .i64 (a+1)),.int .i64 gI]).bind fun r1=>
 some [.int .i64 ((V.nth r1 0).toInt),.int .i64 ((V.nth (r1.drop 1) 0).toInt)]
theorem afG {data:List V} {a gI:Int} {r:Option (List V)} (h:Us CC data a gI=r):CC y8 [.list ag data,.int .i64 a,.int .i64 gI]=r:=
 bn (key:=174) (L:=cT) (bs:=[]) (by kernel_rfl) av (Eq.trans (by kernel_rfl) h)
end Go.AM
set_option maxRecDepth 100000
namespace Go.AM
open Go.Proofs
noncomputable abbrev wR:Code:=cC Tryd.prog (aw.aW 172)
noncomputable def F0 (C:af) (a length wS jt other:Int) (t45:Bool) (ai:List V) (Bn:Int) {β:Type} (kr:(Int)→Option β):Option β:=
 bif t45 then
  kr (IntKind.wrap .i64 (other-length))
 else
  kr other
noncomputable def Bo (C:af) (a length wS jt:Int) (ai:List V) (Bn:Int) {β:Type} (kn:(Int × (List V) × Int)→Option β) (kr:(Int × Bool × (List V) × Int)→Option β):Option β:=
 bif decide ((jt:Int)≤(IntKind.wrap .i64 ((IntKind.wrap .i64 (a+(IntKind.wrap .i64 (2*(IntKind.wrap .i64 (Int.tdiv length 4))))))+1))) then
  (C El [.int .u64 Bn]).bind fun r2=>
  F0 C a length wS jt (IntKind.wrap .i64 (IntKind.wrap .u64 ((BitVec.ofInt (IntKind.bits .u64) ((V.nth r2 0).toInt)&&&BitVec.ofInt (IntKind.bits .u64) (IntKind.wrap .u64 (wS-1))).toNat))) (decide (((IntKind.wrap .i64 (IntKind.wrap .u64 ((BitVec.ofInt (IntKind.bits .u64) ((V.nth r2 0).toInt)&&&BitVec.ofInt (IntKind.bits .u64) (IntKind.wrap .u64 (wS-1))).toNat))):Int)≥length)) ai ((V.nth (r2.drop 1) 0).toInt) (fun (uo:Int)=>
   bif (decide (0≤(IntKind.wrap .i64 (a+uo))))&&(decide ((IntKind.wrap .i64 (a+uo))<(ai.length:Int))) then
   (ai[(IntKind.wrap .i64 (a+uo):Int).toNat]?).bind fun x4=>
   bif (decide (0≤jt))&&(decide (jt<(ai.length:Int))) then
    (ai[(jt:Int).toNat]?).bind fun x5=>
    bif (decide (0≤jt))&&(decide (jt<(ai.length:Int))) then
    (ai[(jt:Int).toNat]?).bind fun x6=>
    bif (decide (0≤(IntKind.wrap .i64 (a+uo))))&&(decide ((IntKind.wrap .i64 (a+uo))<((ai.set ((jt:Int).toNat) (.agg [.int .i64 ((x4.cell 0).toInt),.int .i64 ((x4.cell 1).toInt),.int .i64 ((x4.cell 2).toInt)])).length:Int))) then
     ((ai.set ((jt:Int).toNat) (.agg [.int .i64 ((x4.cell 0).toInt),.int .i64 ((x4.cell 1).toInt),.int .i64 ((x4.cell 2).toInt)]))[(IntKind.wrap .i64 (a+uo):Int).toNat]?).bind fun x7=>
     kn (IntKind.wrap .i64 (jt+1),(ai.set ((jt:Int).toNat) (.agg [.int .i64 ((x4.cell 0).toInt),.int .i64 ((x4.cell 1).toInt),.int .i64 ((x4.cell 2).toInt)])).set ((IntKind.wrap .i64 (a+uo):Int).toNat) (.agg [.int .i64 ((x5.cell 0).toInt),.int .i64 ((x5.cell 1).toInt),.int .i64 ((x5.cell 2).toInt)]),(V.nth (r2.drop 1) 0).toInt)
    else none
    else none
   else none
   else none)
 else
  kr (jt,decide ((jt:Int)≤(IntKind.wrap .i64 ((IntKind.wrap .i64 (a+(IntKind.wrap .i64 (2*(IntKind.wrap .i64 (Int.tdiv length 4))))))+1))),ai,Bn)
noncomputable def F3 (C:af) (a length wS:Int):(Int × (List V) × Int)→Option ((Int × (List V) × Int) ⊕ (Int × Bool × (List V) × Int)):=un fun jt=>un fun ai Bn=>Bo C a length wS jt ai Bn (fun y=>some (.inl y)) (fun r=>some (.inr r))
noncomputable def Ut (C:af):cq:=fun β n ds k=>
 bif Nat.beq n 735 then lO J1 [[1,2,3,4,0,7,8]] (@F0 C) ds k else
 bif Nat.beq n 81 then bu J2 [false,false,false,true,true,true] [[1,2,3,0,0,0,0]] (@Bo C) ds k else
 none
abbrev Uu (C:af) (b:ch):Prop:=cj Tryd.prog aw C (Ut C) 172 (cJ Tryd.prog (aw.aW 172)) (aw.sin 172).a8.length b
theorem afH (C:af):Uu C (.cond 45 (ar [1,1,0,1,1,1,0,0,1,0,0,1,0,1,0] wR) (ar [1,1,0,1,1,1,0,0,1,0,0,1,0,1,1] wR)):=
 mK J1 [[1,2,3,4,0,7,8]] (@F0 C) (by kernel_rfl) (aS (bs:=[]) (by kernel_rfl) av) (aS (bs:=[]) (by kernel_rfl) av) (fun ds=>by kernel_rfl) (fun i β k=>by kernel_rfl) (fun β ds k=>by kernel_rfl)
theorem afI (C:af):Uu C (.loop (ar [1,1,0,1,1,1,0,0] wR)):=
 bz J2 [false,false,false,true,true,true] [[1,2,3,0,0,0,0]] (@Bo C) (by kernel_rfl) (aS (bs:=[.cond 45 (ar [1,1,0,1,1,1,0,0,1,0,0,1,0,1,0] wR) (ar [1,1,0,1,1,1,0,0,1,0,0,1,0,1,1] wR)]) (by kernel_rfl) (bf (afH C) av)) (fun ds=>by kernel_rfl) (fun i x=>by kernel_rfl) (fun i x β k=>by kernel_rfl) (fun β ds k=>by kernel_rfl)
noncomputable def Uv (C:af) (a b':Int) (ai:List V):Option (List V):=
 bif decide (((IntKind.wrap .i64 (b'-a)):Int)≥8) then
  (C Ek [.int .i64 (IntKind.wrap .i64 (b'-a))]).bind fun r1=>
  (Loop (F3 C a (IntKind.wrap .i64 (b'-a)) ((V.nth r1 0).toInt)) (IntKind.wrap .i64 ((IntKind.wrap .i64 (a+(IntKind.wrap .i64 (2*(IntKind.wrap .i64 (Int.tdiv (IntKind.wrap .i64 (b'-a)) 4))))))-1),ai,IntKind.wrap .u64 (IntKind.wrap .i64 (b'-a)))).bind (un fun (aiH:Int)=>un fun (qp:Bool)=>un fun (om:List V) (aiI:Int)=>
   some [.list ag om])
 else
  some [.list ag ai]
theorem afJ {a b':Int} {ai:List V} {r:Option (List V)} (h:Uv CC a b' ai=r):CC IG [.int .i64 a,.int .i64 b',.list ag ai]=r:=
 bn (key:=172) (L:=Ut CC) (bs:=[.loop (ar [1,1,0,1,1,1,0,0] wR)]) (by kernel_rfl) (bf (afI CC) av) (Eq.trans (by kernel_rfl) h)
end Go.AM
set_option maxRecDepth 100000
namespace Go.AM
open Go.Proofs
noncomputable def Uw (C:af) (iD:Int):Option (List V):=
 some [.int .u64 (IntKind.wrap .u64 ((BitVec.ofInt (IntKind.bits .u64) (IntKind.wrap .u64 ((BitVec.ofInt (IntKind.bits .u64) (IntKind.wrap .u64 ((BitVec.ofInt (IntKind.bits .u64) iD ^^^ BitVec.ofInt (IntKind.bits .u64) (IntKind.wrap .u64 (iD*2^(min (13:Int).toNat (IntKind.bits .u64))))).toNat)) ^^^ BitVec.ofInt (IntKind.bits .u64) (Int.fdiv (IntKind.wrap .u64 ((BitVec.ofInt (IntKind.bits .u64) iD ^^^ BitVec.ofInt (IntKind.bits .u64) (IntKind.wrap .u64 (iD*2^(min (13:Int).toNat (IntKind.bits .u64))))).toNat)) (2^(min (7:Int).toNat (IntKind.bits .u64))))).toNat)) ^^^ BitVec.ofInt (IntKind.bits .u64) (IntKind.wrap .u64 ((IntKind.wrap .u64 ((BitVec.ofInt (IntKind.bits .u64) (IntKind.wrap .u64 ((BitVec.ofInt (IntKind.bits .u64) iD ^^^ BitVec.ofInt (IntKind.bits .u64) (IntKind.wrap .u64 (iD*2^(min (13:Int).toNat (IntKind.bits .u64))))).toNat)) ^^^ BitVec.ofInt (IntKind.bits .u64) (Int.fdiv (IntKind.wrap .u64 ((BitVec.ofInt (IntKind.bits .u64) iD ^^^ BitVec.ofInt (IntKind.bits .u64) (IntKind.wrap .u64 (iD*2^(min (13:Int).toNat (IntKind.bits .u64))))).toNat)) (2^(min (7:Int).toNat (IntKind.bits .u64))))).toNat))*2^(min (17:Int).toNat (IntKind.bits .u64))))).toNat)),.int .u64 (IntKind.wrap .u64 ((BitVec.ofInt (IntKind.bits .u64) (IntKind.wrap .u64 ((BitVec.ofInt (IntKind.bits .u64) (IntKind.wrap .u64 ((BitVec.ofInt (IntKind.bits .u64) iD ^^^ BitVec.ofInt (IntKind.bits .u64) (IntKind.wrap .u64 (iD*2^(min (13:Int).toNat (IntKind.bits .u64))))).toNat)) ^^^ BitVec.ofInt (IntKind.bits .u64) (Int.fdiv (IntKind.wrap .u64 ((BitVec.ofInt (IntKind.bits .u64) iD ^^^ BitVec.ofInt (IntKind.bits .u64) (IntKind.wrap .u64 (iD*2^(min (13:Int).toNat (IntKind.bits .u64))))).toNat)) (2^(min (7:Int).toNat (IntKind.bits .u64))))).toNat)) ^^^ BitVec.ofInt (IntKind.bits .u64) (IntKind.wrap .u64 ((IntKind.wrap .u64 ((BitVec.ofInt (IntKind.bits .u64) (IntKind.wrap .u64 ((BitVec.ofInt (IntKind.bits .u64) iD ^^^ BitVec.ofInt (IntKind.bits .u64) (IntKind.wrap .u64 (iD*2^(min (13:Int).toNat (IntKind.bits .u64))))).toNat)) ^^^ BitVec.ofInt (IntKind.bits .u64) (Int.fdiv (IntKind.wrap .u64 ((BitVec.ofInt (IntKind.bits .u64) iD ^^^ BitVec.ofInt (IntKind.bits .u64) (IntKind.wrap .u64 (iD*2^(min (13:Int).toNat (IntKind.bits .u64))))).toNat)) (2^(min (7:Int).toNat (IntKind.bits .u64))))).toNat))*2^(min (17:Int).toNat (IntKind.bits .u64))))).toNat))]
theorem afK {iD:Int} {r:Option (List V)} (h:Uw CC iD=r):CC El [.int .u64 iD]=r:=
 bn (key:=143) (L:=cT) (bs:=[]) (by kernel_rfl) av (Eq.trans (by kernel_rfl) h)
end Go.AM
set_option maxRecDepth 100000
namespace Go.AM
open Go.Proofs
noncomputable def Ux (C:af) (length:Int):Option (List V):=
 (C yY [.int .u64 (IntKind.wrap .u64 length)]).bind fun r1=>
 bif decide (0≤((V.nth r1 0).toInt)) then
  some [.int .u64 (IntKind.wrap .u64 (1*2^(min ((V.nth r1 0).toInt).toNat (IntKind.bits .u64))))]
 else none
theorem afL {length:Int} {r:Option (List V)} (h:Ux CC length=r):CC Ek [.int .i64 length]=r:=
 bn (key:=142) (L:=cT) (bs:=[]) (by kernel_rfl) av (Eq.trans (by kernel_rfl) h)
end Go.AM
set_option maxRecDepth 100000
namespace Go.AM
open Go.Proofs
noncomputable def Uy (C:af) (x:Int):Option (List V):=
 (C Eg [.int .u64 x]).bind fun r1=>
 some [.int .i64 ((V.nth r1 0).toInt)]
theorem afM {x:Int} {r:Option (List V)} (h:Uy CC x=r):CC yY [.int .u64 x]=r:=
 bn (key:=111) (L:=cT) (bs:=[]) (by kernel_rfl) av (Eq.trans (by kernel_rfl) h)
end Go.AM
set_option maxRecDepth 100000
namespace Go.AM
open Go.Proofs
noncomputable abbrev sa:Code:=cC Tryd.prog (aw.aW 134)
noncomputable def uq (C:af) (x n:Int) (t4:Bool) {β:Type} (kr:(Int × Int)→Option β):Option β:=
 bif t4 then
  kr (Int.fdiv x (2^(min (32:Int).toNat (IntKind.bits .u64))),32)
 else
  kr (x,n)
noncomputable def ur (C:af) (x n:Int) (t8:Bool) {β:Type} (kr:(Int × Int)→Option β):Option β:=
 bif t8 then
  kr (Int.fdiv x (2^(min (16:Int).toNat (IntKind.bits .u64))),IntKind.wrap .i64 (n+16))
 else
  kr (x,n)
noncomputable def Uz (C:af):cq:=fun β n ds k=>
 bif Nat.beq n 79 then lO JQ [[0,0]] (@uq C) ds k else
 bif Nat.beq n 143 then lO JR [[0,0]] (@ur C) ds k else
 none
abbrev UA (C:af) (b:ch):Prop:=cj Tryd.prog aw C (Uz C) 134 (cJ Tryd.prog (aw.aW 134)) (aw.sin 134).a8.length b
theorem afN (C:af):UA C (.cond 4 (ar [1,0,1,0] sa) (ar [1,0,1,1] sa)):=
 mK JQ [[0,0]] (@uq C) (by kernel_rfl) (aS (bs:=[]) (by kernel_rfl) av) (aS (bs:=[]) (by kernel_rfl) av) (fun ds=>by kernel_rfl) (fun i β k=>by kernel_rfl) (fun β ds k=>by kernel_rfl)
theorem afO (C:af):UA C (.cond 8 (ar [1,1,0,1,0] sa) (ar [1,1,0,1,1] sa)):=
 mK JR [[0,0]] (@ur C) (by kernel_rfl) (aS (bs:=[]) (by kernel_rfl) av) (aS (bs:=[]) (by kernel_rfl) av) (fun ds=>by kernel_rfl) (fun i β k=>by kernel_rfl) (fun β ds k=>by kernel_rfl)
noncomputable def afP (C:af) (x:Int):Option (List V):=
 uq C x 0 (decide ((x:Int)≥4294967296)) (un fun (sb:Int) (cm:Int)=>
  ur C sb cm (decide ((sb:Int)≥65536)) (un fun (Bp:Int) (ct:Int)=>
   bif decide ((Bp:Int)≥256) then
    (bif decide (0≤(IntKind.wrap .u8 (Int.fdiv Bp (2^(min (8:Int).toNat (IntKind.bits .u64)))))) then (([0,1,2,2,3,3,3,3,4,4,4,4,4,4,4,4,5,5,5,5,5,5,5,5,5,5,5,5,5,5,5,5,6,6,6,6,6,6,6,6,6,6,6,6,6,6,6,6,6,6,6,6,6,6,6,6,6,6,6,6,6,6,6,6,7,7,7,7,7,7,7,7,7,7,7,7,7,7,7,7,7,7,7,7,7,7,7,7,7,7,7,7,7,7,7,7,7,7,7,7,7,7,7,7,7,7,7,7,7,7,7,7,7,7,7,7,7,7,7,7,7,7,7,7,7,7,7,7,8,8,8,8,8,8,8,8,8,8,8,8,8,8,8,8,8,8,8,8,8,8,8,8,8,8,8,8,8,8,8,8,8,8,8,8,8,8,8,8,8,8,8,8,8,8,8,8,8,8,8,8,8,8,8,8,8,8,8,8,8,8,8,8,8,8,8,8,8,8,8,8,8,8,8,8,8,8,8,8,8,8,8,8,8,8,8,8,8,8,8,8,8,8,8,8,8,8,8,8,8,8,8,8,8,8,8,8,8,8,8,8,8,8,8,8,8,8,8,8,8,8,8,8,8,8,8,8]:List UInt8)[(IntKind.wrap .u8 (Int.fdiv Bp (2^(min (8:Int).toNat (IntKind.bits .u64)))):Int).toNat]?).map fun b=>V.int .u8 b.toNat else none).bind fun x5=>
    some [.int .i64 (IntKind.wrap .i64 ((IntKind.wrap .i64 (ct+8))+(IntKind.wrap .i64 x5.toInt)))]
   else
    (bif decide (0≤(IntKind.wrap .u8 Bp)) then (([0,1,2,2,3,3,3,3,4,4,4,4,4,4,4,4,5,5,5,5,5,5,5,5,5,5,5,5,5,5,5,5,6,6,6,6,6,6,6,6,6,6,6,6,6,6,6,6,6,6,6,6,6,6,6,6,6,6,6,6,6,6,6,6,7,7,7,7,7,7,7,7,7,7,7,7,7,7,7,7,7,7,7,7,7,7,7,7,7,7,7,7,7,7,7,7,7,7,7,7,7,7,7,7,7,7,7,7,7,7,7,7,7,7,7,7,7,7,7,7,7,7,7,7,7,7,7,7,8,8,8,8,8,8,8,8,8,8,8,8,8,8,8,8,8,8,8,8,8,8,8,8,8,8,8,8,8,8,8,8,8,8,8,8,8,8,8,8,8,8,8,8,8,8,8,8,8,8,8,8,8,8,8,8,8,8,8,8,8,8,8,8,8,8,8,8,8,8,8,8,8,8,8,8,8,8,8,8,8,8,8,8,8,8,8,8,8,8,8,8,8,8,8,8,8,8,8,8,8,8,8,8,8,8,8,8,8,8,8,8,8,8,8,8,8,8,8,8,8,8,8,8,8,8,8,8]:List UInt8)[(IntKind.wrap .u8 Bp:Int).toNat]?).map fun b=>V.int .u8 b.toNat else none).bind fun x6=>
    some [.int .i64 (IntKind.wrap .i64 (ct+(IntKind.wrap .i64 x6.toInt)))]))
theorem UB {x:Int} {r:Option (List V)} (h:afP CC x=r):CC Eg [.int .u64 x]=r:=
 bn (key:=134) (L:=Uz CC) (bs:=[.cond 4 (ar [1,0,1,0] sa) (ar [1,0,1,1] sa),.cond 8 (ar [1,1,0,1,0] sa) (ar [1,1,0,1,1] sa)]) (by kernel_rfl) (bf (afN CC) (bf (afO CC) av)) (Eq.trans (by kernel_rfl) h)
end Go.AM
set_option maxRecDepth 100000
namespace Go.AM
open Go.Proofs
noncomputable abbrev lq:Code:=cC Tryd.prog (aw.aW 169)
noncomputable def wU (C:af) (a b' iU:Int) (eQ fb:Bool) (length:Int) (t39:Bool) (ai:List V) {β:Type} (kr:(Int × (List V))→Option β):Option β:=
 bif t39 then
  (C IG [.int .i64 a,.int .i64 b',.list ag ai]).bind fun r3=>
  kr (IntKind.wrap .i64 (iU-1),(V.nth r3 0).toList)
 else
  kr (iU,ai)
noncomputable def wV (C:af) (a b' iU:Int) (eQ fb:Bool) (length pivot hint:Int) (t56:Bool) (ai:List V) {β:Type} (kr:(Int × Int × (List V))→Option β):Option β:=
 bif t56 then
  (C IH [.int .i64 a,.int .i64 b',.list ag ai]).bind fun r7=>
  kr (IntKind.wrap .i64 ((IntKind.wrap .i64 (b'-1))-(IntKind.wrap .i64 (pivot-a))),1,(V.nth r7 0).toList)
 else
  kr (pivot,hint,ai)
noncomputable def me (C:af) (a b' iU:Int) (eQ fb:Bool) (length pivot:Int) (t75:Bool) (ai:List V) {β:Type} (kr:((Bool × (List V)) ⊕ (List V))→Option β):Option β:=
 bif t75 then
  (C II [.int .i64 a,.int .i64 b',.list ag ai]).bind fun F4=>
  bif (V.nth F4 0).toBool then
  kr (.inl ((V.nth F4 0).toBool,(V.nth (F4.drop 1) 0).toList))
  else
  kr (.inr ((V.nth (F4.drop 1) 0).toList))
 else
  kr (.inr ai)
noncomputable def pc (C:af) (a b' iU:Int) (eQ fb:Bool) (ai:List V) {β:Type} (kn:(Int × Int × Int × Bool × Bool × (List V))→Option β) (kr:(List V)→Option β):Option β:=
 bif decide (((IntKind.wrap .i64 (b'-a)):Int)≤12) then
  (C Em [.int .i64 a,.int .i64 b',.list ag ai]).bind fun r1=>
  kr ((V.nth r1 0).toList)
 else
  bif (iU:Int)==0 then
  (C En [.int .i64 a,.int .i64 b',.list ag ai]).bind fun r2=>
  kr ((V.nth r2 0).toList)
  else
  wU C a b' iU eQ fb (IntKind.wrap .i64 (b'-a)) (!eQ) ai (un fun (cG:Int) (Bq:List V)=>
   (C Eo [.list ag Bq,.int .i64 a,.int .i64 b']).bind fun r6=>
   wV C a b' cG eQ fb (IntKind.wrap .i64 (b'-a)) ((V.nth r6 0).toInt) ((V.nth (r6.drop 1) 0).toInt) ((((V.nth (r6.drop 1) 0).toInt):Int)==2) Bq (un fun (dS:Int)=>un fun (LF:Int) (om:List V)=>
    bif eQ then
     bif fb then
     me C a b' cG eQ fb (IntKind.wrap .i64 (b'-a)) dS ((LF:Int)==1) om (cZ (un fun (Ao:Bool) (Lr:List V)=>
      kr Lr) (fun (uu:List V)=>
      bif decide ((a:Int)>0) then
       bif (decide (0≤(IntKind.wrap .i64 (a-1))))&&(decide ((IntKind.wrap .i64 (a-1))<(uu.length:Int))) then
       (uu[(IntKind.wrap .i64 (a-1):Int).toNat]?).bind fun fS=>
       bif (decide (0≤dS))&&(decide (dS<(uu.length:Int))) then
        (uu[(dS:Int).toNat]?).bind fun gu=>
        (C bw [.int .i64 ((fS.cell 0).toInt),.int .i64 ((fS.cell 1).toInt),.int .i64 ((fS.cell 2).toInt),.int .i64 ((gu.cell 0).toInt),.int .i64 ((gu.cell 1).toInt),.int .i64 ((gu.cell 2).toInt)]).bind fun eP=>
        bif !(decide ((((V.nth eP 0).toInt):Int)<0)) then
        (C vP [.int .i64 a,.int .i64 b',.int .i64 dS,.list ag uu]).bind fun wW=>
        kn ((V.nth wW 0).toInt,b',cG,eQ,fb,(V.nth (wW.drop 1) 0).toList)
        else
        (C nY [.int .i64 a,.int .i64 b',.int .i64 dS,.list ag uu]).bind fun e7=>
        bif decide (((IntKind.wrap .i64 (((V.nth e7 0).toInt)-a)):Int)<(IntKind.wrap .i64 (b'-((V.nth e7 0).toInt)))) then
         (C gE [.int .i64 a,.int .i64 ((V.nth e7 0).toInt),.int .i64 cG,.list ag ((V.nth (e7.drop 2) 0).toList)]).bind fun hZ=>
         kn (IntKind.wrap .i64 (((V.nth e7 0).toInt)+1),b',cG,decide (((IntKind.wrap .i64 (((V.nth e7 0).toInt)-a)):Int)≥(IntKind.wrap .i64 (Int.tdiv (IntKind.wrap .i64 (b'-a)) 8))),(V.nth (e7.drop 1) 0).toBool,(V.nth hZ 0).toList)
        else
         (C gE [.int .i64 (IntKind.wrap .i64 (((V.nth e7 0).toInt)+1)),.int .i64 b',.int .i64 cG,.list ag ((V.nth (e7.drop 2) 0).toList)]).bind fun qJ=>
         kn (a,(V.nth e7 0).toInt,cG,decide (((IntKind.wrap .i64 (b'-((V.nth e7 0).toInt))):Int)≥(IntKind.wrap .i64 (Int.tdiv (IntKind.wrap .i64 (b'-a)) 8))),(V.nth (e7.drop 1) 0).toBool,(V.nth qJ 0).toList)
       else none
       else none
      else
       (C nY [.int .i64 a,.int .i64 b',.int .i64 dS,.list ag uu]).bind fun jT=>
       bif decide (((IntKind.wrap .i64 (((V.nth jT 0).toInt)-a)):Int)<(IntKind.wrap .i64 (b'-((V.nth jT 0).toInt)))) then
       (C gE [.int .i64 a,.int .i64 ((V.nth jT 0).toInt),.int .i64 cG,.list ag ((V.nth (jT.drop 2) 0).toList)]).bind fun r23=>
       kn (IntKind.wrap .i64 (((V.nth jT 0).toInt)+1),b',cG,decide (((IntKind.wrap .i64 (((V.nth jT 0).toInt)-a)):Int)≥(IntKind.wrap .i64 (Int.tdiv (IntKind.wrap .i64 (b'-a)) 8))),(V.nth (jT.drop 1) 0).toBool,(V.nth r23 0).toList)
       else
       (C gE [.int .i64 (IntKind.wrap .i64 (((V.nth jT 0).toInt)+1)),.int .i64 b',.int .i64 cG,.list ag ((V.nth (jT.drop 2) 0).toList)]).bind fun r24=>
       kn (a,(V.nth jT 0).toInt,cG,decide (((IntKind.wrap .i64 (b'-((V.nth jT 0).toInt))):Int)≥(IntKind.wrap .i64 (Int.tdiv (IntKind.wrap .i64 (b'-a)) 8))),(V.nth (jT.drop 1) 0).toBool,(V.nth r24 0).toList)))
     else
     me C a b' cG eQ fb (IntKind.wrap .i64 (b'-a)) dS false om (cZ (un fun (KT:Bool) (afQ:List V)=>
      kr afQ) (fun (qE:List V)=>
      bif decide ((a:Int)>0) then
       bif (decide (0≤(IntKind.wrap .i64 (a-1))))&&(decide ((IntKind.wrap .i64 (a-1))<(qE.length:Int))) then
       (qE[(IntKind.wrap .i64 (a-1):Int).toNat]?).bind fun uj=>
       bif (decide (0≤dS))&&(decide (dS<(qE.length:Int))) then
        (qE[(dS:Int).toNat]?).bind fun uk=>
        (C bw [.int .i64 ((uj.cell 0).toInt),.int .i64 ((uj.cell 1).toInt),.int .i64 ((uj.cell 2).toInt),.int .i64 ((uk.cell 0).toInt),.int .i64 ((uk.cell 1).toInt),.int .i64 ((uk.cell 2).toInt)]).bind fun FU=>
        bif !(decide ((((V.nth FU 0).toInt):Int)<0)) then
        (C vP [.int .i64 a,.int .i64 b',.int .i64 dS,.list ag qE]).bind fun UC=>
        kn ((V.nth UC 0).toInt,b',cG,eQ,fb,(V.nth (UC.drop 1) 0).toList)
        else
        (C nY [.int .i64 a,.int .i64 b',.int .i64 dS,.list ag qE]).bind fun nd=>
        bif decide (((IntKind.wrap .i64 (((V.nth nd 0).toInt)-a)):Int)<(IntKind.wrap .i64 (b'-((V.nth nd 0).toInt)))) then
         (C gE [.int .i64 a,.int .i64 ((V.nth nd 0).toInt),.int .i64 cG,.list ag ((V.nth (nd.drop 2) 0).toList)]).bind fun r33=>
         kn (IntKind.wrap .i64 (((V.nth nd 0).toInt)+1),b',cG,decide (((IntKind.wrap .i64 (((V.nth nd 0).toInt)-a)):Int)≥(IntKind.wrap .i64 (Int.tdiv (IntKind.wrap .i64 (b'-a)) 8))),(V.nth (nd.drop 1) 0).toBool,(V.nth r33 0).toList)
        else
         (C gE [.int .i64 (IntKind.wrap .i64 (((V.nth nd 0).toInt)+1)),.int .i64 b',.int .i64 cG,.list ag ((V.nth (nd.drop 2) 0).toList)]).bind fun uv=>
         kn (a,(V.nth nd 0).toInt,cG,decide (((IntKind.wrap .i64 (b'-((V.nth nd 0).toInt))):Int)≥(IntKind.wrap .i64 (Int.tdiv (IntKind.wrap .i64 (b'-a)) 8))),(V.nth (nd.drop 1) 0).toBool,(V.nth uv 0).toList)
       else none
       else none
      else
       (C nY [.int .i64 a,.int .i64 b',.int .i64 dS,.list ag qE]).bind fun nf=>
       bif decide (((IntKind.wrap .i64 (((V.nth nf 0).toInt)-a)):Int)<(IntKind.wrap .i64 (b'-((V.nth nf 0).toInt)))) then
       (C gE [.int .i64 a,.int .i64 ((V.nth nf 0).toInt),.int .i64 cG,.list ag ((V.nth (nf.drop 2) 0).toList)]).bind fun r36=>
       kn (IntKind.wrap .i64 (((V.nth nf 0).toInt)+1),b',cG,decide (((IntKind.wrap .i64 (((V.nth nf 0).toInt)-a)):Int)≥(IntKind.wrap .i64 (Int.tdiv (IntKind.wrap .i64 (b'-a)) 8))),(V.nth (nf.drop 1) 0).toBool,(V.nth r36 0).toList)
       else
       (C gE [.int .i64 (IntKind.wrap .i64 (((V.nth nf 0).toInt)+1)),.int .i64 b',.int .i64 cG,.list ag ((V.nth (nf.drop 2) 0).toList)]).bind fun r37=>
       kn (a,(V.nth nf 0).toInt,cG,decide (((IntKind.wrap .i64 (b'-((V.nth nf 0).toInt))):Int)≥(IntKind.wrap .i64 (Int.tdiv (IntKind.wrap .i64 (b'-a)) 8))),(V.nth (nf.drop 1) 0).toBool,(V.nth r37 0).toList)))
    else
     me C a b' cG eQ fb (IntKind.wrap .i64 (b'-a)) dS false om (cZ (un fun (aiJ:Bool) (afR:List V)=>
      kr afR) (fun (js:List V)=>
      bif decide ((a:Int)>0) then
      bif (decide (0≤(IntKind.wrap .i64 (a-1))))&&(decide ((IntKind.wrap .i64 (a-1))<(js.length:Int))) then
       (js[(IntKind.wrap .i64 (a-1):Int).toNat]?).bind fun mc=>
       bif (decide (0≤dS))&&(decide (dS<(js.length:Int))) then
       (js[(dS:Int).toNat]?).bind fun um=>
       (C bw [.int .i64 ((mc.cell 0).toInt),.int .i64 ((mc.cell 1).toInt),.int .i64 ((mc.cell 2).toInt),.int .i64 ((um.cell 0).toInt),.int .i64 ((um.cell 1).toInt),.int .i64 ((um.cell 2).toInt)]).bind fun r43=>
       bif !(decide ((((V.nth r43 0).toInt):Int)<0)) then
        (C vP [.int .i64 a,.int .i64 b',.int .i64 dS,.list ag js]).bind fun UD=>
        kn ((V.nth UD 0).toInt,b',cG,eQ,fb,(V.nth (UD.drop 1) 0).toList)
       else
        (C nY [.int .i64 a,.int .i64 b',.int .i64 dS,.list ag js]).bind fun ng=>
        bif decide (((IntKind.wrap .i64 (((V.nth ng 0).toInt)-a)):Int)<(IntKind.wrap .i64 (b'-((V.nth ng 0).toInt)))) then
        (C gE [.int .i64 a,.int .i64 ((V.nth ng 0).toInt),.int .i64 cG,.list ag ((V.nth (ng.drop 2) 0).toList)]).bind fun r46=>
        kn (IntKind.wrap .i64 (((V.nth ng 0).toInt)+1),b',cG,decide (((IntKind.wrap .i64 (((V.nth ng 0).toInt)-a)):Int)≥(IntKind.wrap .i64 (Int.tdiv (IntKind.wrap .i64 (b'-a)) 8))),(V.nth (ng.drop 1) 0).toBool,(V.nth r46 0).toList)
        else
        (C gE [.int .i64 (IntKind.wrap .i64 (((V.nth ng 0).toInt)+1)),.int .i64 b',.int .i64 cG,.list ag ((V.nth (ng.drop 2) 0).toList)]).bind fun r47=>
        kn (a,(V.nth ng 0).toInt,cG,decide (((IntKind.wrap .i64 (b'-((V.nth ng 0).toInt))):Int)≥(IntKind.wrap .i64 (Int.tdiv (IntKind.wrap .i64 (b'-a)) 8))),(V.nth (ng.drop 1) 0).toBool,(V.nth r47 0).toList)
       else none
      else none
      else
      (C nY [.int .i64 a,.int .i64 b',.int .i64 dS,.list ag js]).bind fun nh=>
      bif decide (((IntKind.wrap .i64 (((V.nth nh 0).toInt)-a)):Int)<(IntKind.wrap .i64 (b'-((V.nth nh 0).toInt)))) then
       (C gE [.int .i64 a,.int .i64 ((V.nth nh 0).toInt),.int .i64 cG,.list ag ((V.nth (nh.drop 2) 0).toList)]).bind fun r49=>
       kn (IntKind.wrap .i64 (((V.nth nh 0).toInt)+1),b',cG,decide (((IntKind.wrap .i64 (((V.nth nh 0).toInt)-a)):Int)≥(IntKind.wrap .i64 (Int.tdiv (IntKind.wrap .i64 (b'-a)) 8))),(V.nth (nh.drop 1) 0).toBool,(V.nth r49 0).toList)
      else
       (C gE [.int .i64 (IntKind.wrap .i64 (((V.nth nh 0).toInt)+1)),.int .i64 b',.int .i64 cG,.list ag ((V.nth (nh.drop 2) 0).toList)]).bind fun r50=>
       kn (a,(V.nth nh 0).toInt,cG,decide (((IntKind.wrap .i64 (b'-((V.nth nh 0).toInt))):Int)≥(IntKind.wrap .i64 (Int.tdiv (IntKind.wrap .i64 (b'-a)) 8))),(V.nth (nh.drop 1) 0).toBool,(V.nth r50 0).toList)))))
noncomputable def UE (C:af):(Int × Int × Int × Bool × Bool × (List V))→Option ((Int × Int × Int × Bool × Bool × (List V)) ⊕ (List V)):=un fun a=>un fun b'=>un fun iU=>un fun eQ=>un fun fb ai=>pc C a b' iU eQ fb ai (fun y=>some (.inl y)) (fun r=>some (.inr r))
noncomputable def UF (C:af):cq:=fun β n ds k=>
 bif Nat.beq n 639 then lO JT [[1,2,0,4,5,6,0]] (@wU C) ds k else
 bif Nat.beq n 911 then lO JU [[1,2,3,4,5,6,0,0,0]] (@wV C) ds k else
 bif Nat.beq n 1215 then lO JV [[1,2,3,4,5,6,7,0,0],[1,2,3,4,5,6,7,0]] (@me C) ds k else
 bif Nat.beq n 33 then bu JW [true,true,true,true,true,true] [[0]] (@pc C) ds k else
 none
abbrev F5 (C:af) (b:ch):Prop:=cj Tryd.prog aw C (UF C) 169 (cJ Tryd.prog (aw.aW 169)) (aw.sin 169).a8.length b
theorem afS (C:af):F5 C (.cond 39 (ar [1,1,0,0,0,1,1,1,0,1,0] lq) (ar [1,1,0,0,0,1,1,1,0,1,1] lq)):=
 mK JT [[1,2,0,4,5,6,0]] (@wU C) (by kernel_rfl) (aS (bs:=[]) (by kernel_rfl) av) (aS (bs:=[]) (by kernel_rfl) av) (fun ds=>by kernel_rfl) (fun i β k=>by kernel_rfl) (fun β ds k=>by kernel_rfl)
theorem afT (C:af):F5 C (.cond 56 (ar [1,1,0,0,0,1,1,1,1,1,0,1,0] lq) (ar [1,1,0,0,0,1,1,1,1,1,0,1,1] lq)):=
 mK JU [[1,2,3,4,5,6,0,0,0]] (@wV C) (by kernel_rfl) (aS (bs:=[]) (by kernel_rfl) av) (aS (bs:=[]) (by kernel_rfl) av) (fun ds=>by kernel_rfl) (fun i β k=>by kernel_rfl) (fun β ds k=>by kernel_rfl)
theorem afU (C:af):F5 C (.cond 75 (ar [1,1,0,0,0,1,1,1,1,1,1,0,1,0] lq) (ar [1,1,0,0,0,1,1,1,1,1,1,0,1,1] lq)):=
 mK JV [[1,2,3,4,5,6,7,0,0],[1,2,3,4,5,6,7,0]] (@me C) (by kernel_rfl) (aS (bs:=[]) (by kernel_rfl) av) (aS (bs:=[]) (by kernel_rfl) av) (fun ds=>by kernel_rfl) (fun i β k=>by kernel_rfl) (fun β ds k=>by kernel_rfl)
theorem afV (C:af):F5 C (.loop (ar [1,1,0,0] lq)):=
 bz JW [true,true,true,true,true,true] [[0]] (@pc C) (by kernel_rfl) (aS (bs:=[.cond 39 (ar [1,1,0,0,0,1,1,1,0,1,0] lq) (ar [1,1,0,0,0,1,1,1,0,1,1] lq),.cond 56 (ar [1,1,0,0,0,1,1,1,1,1,0,1,0] lq) (ar [1,1,0,0,0,1,1,1,1,1,0,1,1] lq),.cond 75 (ar [1,1,0,0,0,1,1,1,1,1,1,0,1,0] lq) (ar [1,1,0,0,0,1,1,1,1,1,1,0,1,1] lq)]) (by kernel_rfl) (bf (afS C) (bf (afT C) (bf (afU C) av)))) (fun ds=>by kernel_rfl) (fun i x=>by kernel_rfl) (fun i x β k=>by kernel_rfl) (fun β ds k=>by kernel_rfl)
noncomputable def UG (C:af) (a b' iU:Int) (ai:List V):Option (List V):=
 (Loop (UE C) (a,b',iU,true,true,ai)).bind (fun (afW:List V)=>
  some [.list ag afW])
theorem afX {a b' iU:Int} {ai:List V} {r:Option (List V)} (h:UG CC a b' iU ai=r):CC gE [.int .i64 a,.int .i64 b',.int .i64 iU,.list ag ai]=r:=
 bn (key:=169) (L:=UF CC) (bs:=[.loop (ar [1,1,0,0] lq)]) (by kernel_rfl) (bf (afV CC) av) (Eq.trans (by kernel_rfl) h)
end Go.AM
set_option maxRecDepth 100000
namespace Go.AM
open Go.Proofs
noncomputable def UH (C:af) (xs:List V):Option (List V):=
 (C yY [.int .u64 (IntKind.wrap .u64 (xs.length:Int))]).bind fun r1=>
 (C gE [.int .i64 0,.int .i64 (xs.length:Int),.int .i64 ((V.nth r1 0).toInt),.list ag xs]).bind fun r2=>
 some [.list ag ((V.nth r2 0).toList)]
theorem afY {xs:List V} {r:Option (List V)} (h:UH CC xs=r):CC yT [.list ag xs]=r:=
 bn (key:=87) (L:=cT) (bs:=[]) (by kernel_rfl) av (Eq.trans (by kernel_rfl) h)
end Go.AM
set_option maxRecDepth 100000
set_option linter.unusedSimpArgs false
set_option maxHeartbeats 4000000
namespace Go.AM.SL
open Go.AM Go.Proofs Go.Sort
theorem UI (a b:Ed):(ay a b=true)=(a.lt b):=by rw[rX,propext (EA a b)]
theorem F6 (a b:Ed):(ay a b=false)= ¬(a.lt b):=by rw[←UI];simp
theorem wX:SWO ay where
 irrefl x:=by rw[F6];unfold Ed.lt;omega
 trans x y z:=by simp only[UI];unfold Ed.lt;omega
 ntrans x y z:=by simp only[F6];unfold Ed.lt;omega
def F7:List UInt8:=([0,1,2,2,3,3,3,3,4,4,4,4,4,4,4,4,5,5,5,5,5,5,5,5,5,5,5,5,5,5,5,5,6,6,6,6,6,6,6,6,6,6,6,6,6,6,6,6,6,6,6,6,6,6,6,6,6,6,6,6,6,6,6,6,7,7,7,7,7,7,7,7,7,7,7,7,7,7,7,7,7,7,7,7,7,7,7,7,7,7,7,7,7,7,7,7,7,7,7,7,7,7,7,7,7,7,7,7,7,7,7,7,7,7,7,7,7,7,7,7,7,7,7,7,7,7,7,7,8,8,8,8,8,8,8,8,8,8,8,8,8,8,8,8,8,8,8,8,8,8,8,8,8,8,8,8,8,8,8,8,8,8,8,8,8,8,8,8,8,8,8,8,8,8,8,8,8,8,8,8,8,8,8,8,8,8,8,8,8,8,8,8,8,8,8,8,8,8,8,8,8,8,8,8,8,8,8,8,8,8,8,8,8,8,8,8,8,8,8,8,8,8,8,8,8,8,8,8,8,8,8,8,8,8,8,8,8,8,8,8,8,8,8,8,8,8,8,8,8,8,8,8,8,8,8,8]:List UInt8)
theorem afZ:(List.range 256).all (fun y=>match F7[y]? with|some b=>decide (b.toNat≤8)&&(Nat.beq y 0||(decide (1≤b.toNat)&&decide (2^(b.toNat-1)≤y)))|none=>false)=true:=by decide+kernel
theorem UJ {y:Nat} (h:y<256): ∃b,F7[y]? =some b∧b.toNat≤8∧(0<y→1≤b.toNat∧2^(b.toNat-1)≤y):=by
 have:=List.all_eq_true.1 afZ y (List.mem_range.2 h)
 cases hb:F7[y]? with
 | none=>rw[hb] at this;cases this
 | some b=>
  rw[hb] at this
  simp only[Bool.and_eq_true,Bool.or_eq_true,decide_eq_true_eq] at this
  refine ⟨b,rfl,this.1,fun hy=> ?_⟩
  rcases this.2 with h2|h2
  ·have:=Nat.eq_of_beq_eq_true h2;omega
  ·exact h2
theorem LG {y t k:Nat} (h:2^(t-1)≤y/2^k) (ht:1≤t):2^(t+k-1)≤y:=by
 have e:t+k-1=(t-1)+k:=by omega
 rw[e,Nat.pow_add]
 exact Nat.le_trans (Nat.mul_le_mul_right _ h) (Nat.div_mul_le_self _ _)
noncomputable def wY (y n:Int):Option (List V):=
(bif decide ((y:Int)≥256) then
    (bif decide (0≤(IntKind.wrap .u8 (Int.fdiv y (2^(min (8:Int).toNat (IntKind.bits .u64)))))) then (([0,1,2,2,3,3,3,3,4,4,4,4,4,4,4,4,5,5,5,5,5,5,5,5,5,5,5,5,5,5,5,5,6,6,6,6,6,6,6,6,6,6,6,6,6,6,6,6,6,6,6,6,6,6,6,6,6,6,6,6,6,6,6,6,7,7,7,7,7,7,7,7,7,7,7,7,7,7,7,7,7,7,7,7,7,7,7,7,7,7,7,7,7,7,7,7,7,7,7,7,7,7,7,7,7,7,7,7,7,7,7,7,7,7,7,7,7,7,7,7,7,7,7,7,7,7,7,7,8,8,8,8,8,8,8,8,8,8,8,8,8,8,8,8,8,8,8,8,8,8,8,8,8,8,8,8,8,8,8,8,8,8,8,8,8,8,8,8,8,8,8,8,8,8,8,8,8,8,8,8,8,8,8,8,8,8,8,8,8,8,8,8,8,8,8,8,8,8,8,8,8,8,8,8,8,8,8,8,8,8,8,8,8,8,8,8,8,8,8,8,8,8,8,8,8,8,8,8,8,8,8,8,8,8,8,8,8,8,8,8,8,8,8,8,8,8,8,8,8,8,8,8,8,8,8,8]:List UInt8)[(IntKind.wrap .u8 (Int.fdiv y (2^(min (8:Int).toNat (IntKind.bits .u64)))):Int).toNat]?).map fun b=>V.int .u8 b.toNat else none).bind fun x5=>
    some [V.int .i64 (IntKind.wrap .i64 ((IntKind.wrap .i64 (n+8))+(IntKind.wrap .i64 x5.toInt)))]
   else
    (bif decide (0≤(IntKind.wrap .u8 y)) then (([0,1,2,2,3,3,3,3,4,4,4,4,4,4,4,4,5,5,5,5,5,5,5,5,5,5,5,5,5,5,5,5,6,6,6,6,6,6,6,6,6,6,6,6,6,6,6,6,6,6,6,6,6,6,6,6,6,6,6,6,6,6,6,6,7,7,7,7,7,7,7,7,7,7,7,7,7,7,7,7,7,7,7,7,7,7,7,7,7,7,7,7,7,7,7,7,7,7,7,7,7,7,7,7,7,7,7,7,7,7,7,7,7,7,7,7,7,7,7,7,7,7,7,7,7,7,7,7,8,8,8,8,8,8,8,8,8,8,8,8,8,8,8,8,8,8,8,8,8,8,8,8,8,8,8,8,8,8,8,8,8,8,8,8,8,8,8,8,8,8,8,8,8,8,8,8,8,8,8,8,8,8,8,8,8,8,8,8,8,8,8,8,8,8,8,8,8,8,8,8,8,8,8,8,8,8,8,8,8,8,8,8,8,8,8,8,8,8,8,8,8,8,8,8,8,8,8,8,8,8,8,8,8,8,8,8,8,8,8,8,8,8,8,8,8,8,8,8,8,8,8,8,8,8,8,8]:List UInt8)[(IntKind.wrap .u8 y:Int).toNat]?).map fun b=>V.int .u8 b.toNat else none).bind fun x6=>
    some [V.int .i64 (IntKind.wrap .i64 (n+(IntKind.wrap .i64 x6.toInt)))])
theorem af0 {x:Nat} (h:x<2^64): ∃L:Nat,CC Eg [.int .u64 (x:Int)]=some [.int .i64 (L:Int)]∧L≤64∧(0<x→1≤L∧2^(L-1)≤x):=by
 have last: ∀y n:Nat,y<65536→n≤48→∃t:Nat,
   wY (y:Int) (n:Int)=some [V.int .i64 ((n+t:Nat):Int)]∧t≤16∧(0<y→1≤t∧2^(t-1)≤y):=by
  intro y n hy hn
  unfold wY
  rw[show ([0,1,2,2,3,3,3,3,4,4,4,4,4,4,4,4,5,5,5,5,5,5,5,5,5,5,5,5,5,5,5,5,6,6,6,6,6,6,6,6,6,6,6,6,6,6,6,6,6,6,6,6,6,6,6,6,6,6,6,6,6,6,6,6,7,7,7,7,7,7,7,7,7,7,7,7,7,7,7,7,7,7,7,7,7,7,7,7,7,7,7,7,7,7,7,7,7,7,7,7,7,7,7,7,7,7,7,7,7,7,7,7,7,7,7,7,7,7,7,7,7,7,7,7,7,7,7,7,8,8,8,8,8,8,8,8,8,8,8,8,8,8,8,8,8,8,8,8,8,8,8,8,8,8,8,8,8,8,8,8,8,8,8,8,8,8,8,8,8,8,8,8,8,8,8,8,8,8,8,8,8,8,8,8,8,8,8,8,8,8,8,8,8,8,8,8,8,8,8,8,8,8,8,8,8,8,8,8,8,8,8,8,8,8,8,8,8,8,8,8,8,8,8,8,8,8,8,8,8,8,8,8,8,8,8,8,8,8,8,8,8,8,8,8,8,8,8,8,8,8,8,8,8,8,8,8]:List UInt8)=F7 from rfl]
  by_cases h1:y≥256
  ·have e:Int.fdiv (y:Int) (2^(min (8:Int).toNat (IntKind.bits .u64)))=((y/2^8:Nat):Int):=zc (m:=8) (by omega)
   obtain ⟨b,hb,b1,b2⟩:=UJ (y:=y/2^8) (by omega)
   refine ⟨b.toNat+8,?_,by omega,fun _=> ?_⟩
   ·rw[e,aA,if_pos (by omega),Io (by omega) (by omega),aA,if_pos (by omega),Int.toNat_natCast,hb]
    simp only[Option.map_some,Option.bind_some,V.toInt_int]
    simp (disch:=omega) only[wrap64]
    congr 3
    omega
   ·obtain ⟨b3,b4⟩:=b2 (by omega)
    exact ⟨by omega,LG b4 b3⟩
  ·obtain ⟨b,hb,b1,b2⟩:=UJ (y:=y) (by omega)
   refine ⟨b.toNat,?_,by omega,b2⟩
   rw[aA,if_neg (by omega),Io (by omega) (by omega),aA,if_pos (by omega),Int.toNat_natCast,hb]
   simp (disch:=omega) only[Option.map_some,Option.bind_some,V.toInt_int,wrap64]
   congr 3
 have mid: ∀y n:Nat,y<4294967296→n≤32→∃t:Nat,∀F:Int→Int→Option (List V),
   (∀y n:Nat,y<65536→n≤48→∃t:Nat,F (y:Int) (n:Int)=some [V.int .i64 ((n+t:Nat):Int)]∧t≤16∧(0<y→1≤t∧2^(t-1)≤y))→
   ∃t:Nat,ur CC (y:Int) (n:Int) (decide (((y:Int):Int)≥65536)) (un F)=some [V.int .i64 ((n+t:Nat):Int)]∧t≤32∧(0<y→1≤t∧2^(t-1)≤y):=by
  intro y n hy hn
  refine ⟨0,fun F hF=> ?_⟩
  unfold ur
  by_cases h1:y≥65536
  ·have e:Int.fdiv (y:Int) (2^(min (16:Int).toNat (IntKind.bits .u64)))=((y/2^16:Nat):Int):=zc (m:=16) (by omega)
   rw[aA,if_pos (by omega),e,wrap64 (by omega) (by omega)]
   obtain ⟨t,h2,h3,h4⟩:=hF (y/2^16) (n+16) (by omega) (by omega)
   refine ⟨t+16,?_,by omega,fun _=> ?_⟩
   ·rw[show ((n:Int)+16)=((n+16:Nat):Int) by omega]
    simp only[un]
    rw[h2]
    congr 3
    omega
   ·obtain ⟨b3,b4⟩:=h4 (by omega)
    exact ⟨by omega,LG b4 b3⟩
  ·rw[aA,if_neg (by omega)]
   obtain ⟨t,h2,h3,h4⟩:=hF y n (by omega) (by omega)
   exact ⟨t,h2,by omega,h4⟩
 by_cases h1:x≥4294967296
 ·have e:Int.fdiv (x:Int) (2^(min (32:Int).toNat (IntKind.bits .u64)))=((x/2^32:Nat):Int):=zc (m:=32) (by omega)
  obtain ⟨_,hm⟩:=mid (x/2^32) 32 (by omega) (by omega)
  obtain ⟨t,h2,h3,h4⟩:=hm wY last
  refine ⟨32+t,UB ?_,by omega,fun _=> ?_⟩
  ·show uq CC (x:Int) 0 (decide (((x:Int):Int)≥4294967296)) (un fun (sb:Int) (cm:Int)=>ur CC sb cm (decide ((sb:Int)≥65536)) (un wY))=_
   unfold uq
   rw[aA,if_pos (by omega),e]
   exact h2
  ·obtain ⟨b3,b4⟩:=h4 (by omega)
   rw[Nat.add_comm 32 t]
   exact ⟨by omega,LG b4 b3⟩
 ·obtain ⟨_,hm⟩:=mid x 0 (by omega) (by omega)
  obtain ⟨t,h2,h3,h4⟩:=hm wY last
  refine ⟨t,UB ?_,by omega,h4⟩
  show uq CC (x:Int) 0 (decide (((x:Int):Int)≥4294967296)) (un fun (sb:Int) (cm:Int)=>ur CC sb cm (decide ((sb:Int)≥65536)) (un wY))=_
  unfold uq
  rw[aA,if_neg (by omega)]
  rw[Nat.zero_add] at h2
  exact h2
theorem UK {x:Nat} (h:x<2^64): ∃L:Nat,CC yY [.int .u64 (x:Int)]=some [.int .i64 (L:Int)]∧L≤64∧(0<x→1≤L∧2^(L-1)≤x):=by
 obtain ⟨L,h1,h2⟩:=af0 h
 refine ⟨L,afM ?_,h2⟩
 unfold Uy
 rw[h1]
 rfl
theorem af1 {x:Nat} (h0:0<x) (h:x<1152921504606846976): ∃M:Nat,CC Ek [.int .i64 (x:Int)]=some [.int .u64 (M:Int)]∧1≤M∧M≤2*x:=by
 obtain ⟨L,h1,h2,h3⟩:=UK (x:=x) (by omega)
 obtain ⟨h4,h5⟩:=h3 h0
 have e:2^L=2*2^(L-1):=by
  obtain ⟨k,rfl⟩: ∃k,L=k+1:=⟨L-1,by omega⟩
  rw[Nat.pow_succ];simp only[Nat.add_sub_cancel];omega
 have hL:L<64:=by
  by_cases hx:L<64
  ·exact hx
  ·have:2^63≤2^(L-1):=Nat.pow_le_pow_right (by omega) (by omega)
   omega
 refine ⟨2^L,afL ?_,Nat.pos_of_ne_zero (by simp),by omega⟩
 unfold Ux
 rw[rL (A:=x) (by omega),h1]
 simp only[Option.bind_some,V.bQ,V.toInt_int]
 rw[aA,if_pos (by omega),Int.toNat_natCast,zb hL]
theorem af2 (r:Int): ∃R:Nat,CC El [.int .u64 r]=some [.int .u64 (R:Int),.int .u64 (R:Int)]∧R<2^64:=by
 have h: ∀n:Int,∃R:Nat,IntKind.wrap .u64 n=(R:Int)∧R<2^64:=fun n=>⟨(IntKind.wrap .u64 n).toNat,by rw[wrap_u64];omega,by rw[wrap_u64];omega⟩
 obtain ⟨R,h1,h2⟩:=h _
 exact ⟨R,afK (by unfold Uw;rw[h1]),h2⟩
theorem F8 {d:Array Ed} {i:Nat} (h:i<d.size):idx (eA d) (i:Int)=some (d[i]!).enc:=by rw[DI,fQ h]
theorem LH {d:Array Ed} {a b:Nat} {s:Int} (ha:a<d.size) (hb:b<d.size): ∃(x y:Nat) (s':Int),CC y9 [.list ag (eA d),.int .i64 (a:Int),.int .i64 (b:Int),.int .i64 s]=some [.int .i64 (x:Int),.int .i64 (y:Int),.int .i64 s']∧(x=a∧y=b∨x=b∧y=a):=by
 by_cases h:bO d[b]! d[a]! <0
 ·refine ⟨b,a,_,Ur (by unfold LD;rw[F8 hb,F8 ha];simp only[Option.bind_some,Ed.di,Ed.dj,Ed.dk,gr,V.bQ,V.toInt_int];rw[aA,if_pos h]),.inr ⟨rfl,rfl⟩⟩
 ·refine ⟨a,b,_,Ur (by unfold LD;rw[F8 hb,F8 ha];simp only[Option.bind_some,Ed.di,Ed.dj,Ed.dk,gr,V.bQ,V.toInt_int];rw[aA,if_neg h]),.inl ⟨rfl,rfl⟩⟩
theorem LI {d:Array Ed} {a b c:Nat} {s:Int} (ha:a<d.size) (hb:b<d.size) (hc:c<d.size): ∃(m:Nat) (s':Int),CC Ep [.list ag (eA d),.int .i64 (a:Int),.int .i64 (b:Int),.int .i64 (c:Int),.int .i64 s]=some [.int .i64 (m:Int),.int .i64 s']∧(m=a∨m=b∨m=c):=by
 obtain ⟨x1,y1,s1,e1,o1⟩:=LH (s:=s) ha hb
 obtain ⟨x2,y2,s2,e2,o2⟩:=LH (d:=d) (a:=y1) (b:=c) (s:=s1) (by omega) hc
 obtain ⟨x3,y3,s3,e3,o3⟩:=LH (d:=d) (a:=x1) (b:=x2) (s:=s2) (by omega) (by omega)
 refine ⟨y3,s3,afF ?_,by omega⟩
 unfold Uq
 rw[e1]
 simp only[Option.bind_some,V.bQ,V.qa,V.toInt_int,List.drop_succ_cons,List.drop_zero]
 rw[e2]
 simp only[Option.bind_some,V.bQ,V.qa,V.toInt_int,List.drop_succ_cons,List.drop_zero]
 rw[e3]
 rfl
theorem LJ {d:Array Ed} {a:Nat} {s:Int} (h1:1≤a) (ha:a+1<d.size) (hs:d.size<1152921504606846976): ∃(m:Nat) (s':Int),CC y8 [.list ag (eA d),.int .i64 (a:Int),.int .i64 s]=some [.int .i64 (m:Int),.int .i64 s']∧a≤m+1∧m≤a+1:=by
 obtain ⟨m,s',e,o⟩:=LI (d:=d) (a:=a-1) (b:=a) (c:=a+1) (s:=s) (by omega) (by omega) (by omega)
 refine ⟨m,s',afG ?_,by omega,by omega⟩
 unfold Us
 simp (disch:=omega) only[jr,dG,wrap64]
 rw[e]
 rfl
theorem LL (n:Nat):Int.tdiv (n:Int) 4=((n/4:Nat):Int):=by
 have:=divC n 4
 exact this
theorem mulC (k n:Nat):((k:Nat):Int)*(n:Int)=((k*n:Nat):Int):=(Int.natCast_mul k n).symm
theorem af3 {d:Array Ed} {a b:Nat} (fJ:a+12<b) (hb:b≤d.size) (hs:d.size<1152921504606846976): ∃(p:Nat) (h:Int),CC Eo [.list ag (eA d),.int .i64 (a:Int),.int .i64 (b:Int)]=some [.int .i64 (p:Int),.int .i64 h]∧a≤p∧p<b:=by
 have fin: ∀(p:Nat) (s:Int),∃h:Int,(bif (s:Int)==0 then some [V.int .i64 (p:Int),V.int .i64 1] else bif (s:Int)==12 then some [V.int .i64 (p:Int),V.int .i64 2] else some [V.int .i64 (p:Int),V.int .i64 0])=some [V.int .i64 (p:Int),V.int .i64 h]:=by
  intro p s
  rw[mI]
  split
  ·exact ⟨1,rfl⟩
  ·rw[mI]
   split
   ·exact ⟨2,rfl⟩
   ·exact ⟨0,rfl⟩
 have e1:IntKind.wrap .i64 ((b:Int)-(a:Int))=((b-a:Nat):Int):=by rw[lZ (by omega),wrap64 (by omega) (by omega)]
 have e2:IntKind.wrap .i64 (Int.tdiv ((b-a:Nat):Int) 4)=(((b-a)/4:Nat):Int):=by rw[LL,wrap64 (by omega) (by omega)]
 have e3: ∀k:Nat,k≤3→IntKind.wrap .i64 ((a:Int)+IntKind.wrap .i64 ((k:Int)*(((b-a)/4:Nat):Int)))=((a+k*((b-a)/4):Nat):Int):=by
  intro k hk
  have rE:k*((b-a)/4)≤3*((b-a)/4):=Nat.mul_le_mul_right _ hk
  simp (disch:=omega) only[mulC,wrap64,fR]
 have LM:=e3 1 (by omega)
 have sc:=e3 2 (by omega)
 have LN:=e3 3 (by omega)
 rw[show ((1:Nat):Int)=1 from rfl] at LM
 rw[show ((2:Nat):Int)=2 from rfl] at sc
 rw[show ((3:Nat):Int)=3 from rfl] at LN
 by_cases h50:b-a≥50
 ·obtain ⟨m1,s1,q1,r1⟩:=LJ (d:=d) (a:=a+1*((b-a)/4)) (s:=0) (by omega) (by omega) hs
  obtain ⟨m2,s2,q2,r2⟩:=LJ (d:=d) (a:=a+2*((b-a)/4)) (s:=s1) (by omega) (by omega) hs
  obtain ⟨m3,s3,q3,r3⟩:=LJ (d:=d) (a:=a+3*((b-a)/4)) (s:=s2) (by omega) (by omega) hs
  obtain ⟨m,s,q,r⟩:=LI (d:=d) (a:=m1) (b:=m2) (c:=m3) (s:=s3) (by omega) (by omega) (by omega)
  obtain ⟨h,hf⟩:=fin m s
  refine ⟨m,h,Up ?_,by omega,by omega⟩
  unfold LB Bm Bl
  rw[e1,e2,LM,sc,LN,mY (by omega),cond_true,mY (by omega),cond_true,q1]
  simp only[Option.bind_some,V.bQ,V.qa,V.toInt_int,List.drop_succ_cons,List.drop_zero]
  rw[q2]
  simp only[Option.bind_some,V.bQ,V.qa,V.toInt_int,List.drop_succ_cons,List.drop_zero]
  rw[q3]
  simp only[Option.bind_some,V.bQ,V.qa,V.toInt_int,List.drop_succ_cons,List.drop_zero,un]
  rw[q]
  exact hf
 ·obtain ⟨m,s,q,r⟩:=LI (d:=d) (a:=a+1*((b-a)/4)) (b:=a+2*((b-a)/4)) (c:=a+3*((b-a)/4)) (s:=0) (by omega) (by omega) (by omega)
  obtain ⟨h,hf⟩:=fin m s
  refine ⟨m,h,Up ?_,by omega,by omega⟩
  unfold LB Bm Bl
  rw[e1,e2,LM,sc,LN,mY (by omega),cond_true,qC (by omega),cond_false]
  simp only[un]
  rw[q]
  exact hf
theorem af4 {a b M:Nat} (hM1:1≤M) (hM:M≤2*(b-a)) (h8:8≤b-a) (hB:b<1152921504606846976): ∀(n i:Nat) (d:Array Ed) (r:Int),a+2*((b-a)/4)+2-i=n→a≤i→b≤d.size→d.size<1152921504606846976→
  ∃x y z R,Loop (F3 CC a (b-a:Nat) M) ((i:Int),eA d,r)=some (x,y,eA R,z)∧PermIn a b d R:=by
 have e2:IntKind.wrap .i64 (Int.tdiv ((b-a:Nat):Int) 4)=(((b-a)/4:Nat):Int):=by rw[LL,wrap64 (by omega) (by omega)]
 have sc:IntKind.wrap .i64 ((a:Int)+IntKind.wrap .i64 (2*(((b-a)/4:Nat):Int)))=((a+2*((b-a)/4):Nat):Int):=by
  have:=mulC 2 ((b-a)/4)
  rw[show ((2:Nat):Int)=2 from rfl] at this
  rw[this]
  simp (disch:=omega) only[wrap64,fR]
 intro n
 induction n with
 | zero=>
  intro i d r hn hi hb hs
  refine ⟨(i:Int),false,r,d,bS ?_,permIn_refl _ _ _⟩
  simp only[F3,Bo,un]
  rw[e2,sc,dG,wrap64 (by omega) (by omega),qC (by omega),cond_false]
 | succ n ih=>
  intro i d r hn hi hb hs
  obtain ⟨R1,q1,q2⟩:=af2 r
  obtain ⟨o,ho,mu⟩: ∃o:Nat,(o=if R1&&&(M-1)≥b-a then (R1&&&(M-1))-(b-a) else R1&&&(M-1))∧o<b-a:=by
   refine ⟨_,rfl,?_⟩
   have:R1&&&(M-1)≤M-1:=Nat.and_le_right
   split<;>omega
  have hand:R1&&&(M-1)≤M-1:=Nat.and_le_right
  have hP:=swp_permIn (α:=Ed) d a b i (a+o) hi (by omega) (by omega) (by omega) hb
  obtain ⟨x,y,z,R,e,hR⟩:=ih (i+1) (swp d i (a+o)) (R1:Int) (by omega) (by omega) (by rw[size_swp];exact hb) (by rw[size_swp];exact hs)
  refine ⟨x,y,z,R,(dV ?_).trans e,permIn_trans _ _ _ a b hP hR⟩
  simp only[F3,Bo,un]
  rw[e2,sc,dG,wrap64 (x:=((a+2*((b-a)/4)+1:Nat):Int)) (by omega) (by omega),mY (by omega),cond_true,q1]
  simp only[Option.bind_some,V.bQ,V.qa,V.toInt_int,List.drop_succ_cons,List.drop_zero]
  have e5:IntKind.wrap .u64 ((M:Int)-1)=((M-1:Nat):Int):=by rw[jr hM1,rL (by omega)]
  rw[e5,u64_and q2 (by omega),wrap64 (x:=((R1&&&(M-1):Nat):Int)) (by omega) (by omega)]
  have fin: ∀k:Int,k=(o:Int)→(bif (decide (0≤(IntKind.wrap .i64 ((a:Int)+k))))&&(decide ((IntKind.wrap .i64 ((a:Int)+k))<((eA d).length:Int))) then
   ((eA d)[(IntKind.wrap .i64 ((a:Int)+k):Int).toNat]?).bind fun x4=>
   bif (decide (0≤(i:Int)))&&(decide ((i:Int)<((eA d).length:Int))) then
    ((eA d)[((i:Int):Int).toNat]?).bind fun x5=>
    bif (decide (0≤(i:Int)))&&(decide ((i:Int)<((eA d).length:Int))) then
    ((eA d)[((i:Int):Int).toNat]?).bind fun x6=>
    bif (decide (0≤(IntKind.wrap .i64 ((a:Int)+k))))&&(decide ((IntKind.wrap .i64 ((a:Int)+k))<(((eA d).set (((i:Int):Int).toNat) (.agg [.int .i64 ((x4.cell 0).toInt),.int .i64 ((x4.cell 1).toInt),.int .i64 ((x4.cell 2).toInt)])).length:Int))) then
     (((eA d).set (((i:Int):Int).toNat) (.agg [.int .i64 ((x4.cell 0).toInt),.int .i64 ((x4.cell 1).toInt),.int .i64 ((x4.cell 2).toInt)]))[(IntKind.wrap .i64 ((a:Int)+k):Int).toNat]?).bind fun x7=>
     some (.inl (IntKind.wrap .i64 ((i:Int)+1),((eA d).set (((i:Int):Int).toNat) (.agg [.int .i64 ((x4.cell 0).toInt),.int .i64 ((x4.cell 1).toInt),.int .i64 ((x4.cell 2).toInt)])).set ((IntKind.wrap .i64 ((a:Int)+k):Int).toNat) (.agg [.int .i64 ((x5.cell 0).toInt),.int .i64 ((x5.cell 1).toInt),.int .i64 ((x5.cell 2).toInt)]),(R1:Int)))
    else none
    else none
   else none
   else none:Option ((Int × List V × Int) ⊕ (Int × Bool × List V × Int)))=some (.inl (((i+1:Nat):Int),eA (swp d i (a+o)),(R1:Int))):=by
   intro k hk
   subst hk
   simp (disch:=omega) only[aA,dv,gb,if_pos,if_neg,wrap64,dG,fR,Int.toNat_natCast,Option.bind_some,fO,fQ,Ed.di,Ed.dj,Ed.dk,Ed.re,fP,g9,Array.size_setIfInBounds,gr,V.bQ,V.toInt_int,cond_true,cond_false]
   rfl
  unfold F0
  by_cases h:R1&&&(M-1)≥b-a
  ·rw[if_pos h] at ho
   rw[mY (by omega),cond_true]
   exact fin _ (by rw[lZ (by omega),wrap64 (by omega) (by omega)];omega)
  ·rw[if_neg h] at ho
   rw[qC (by omega),cond_false]
   exact fin _ (by omega)
theorem af5 {a b:Nat} {d:Array Ed} (fJ:a+12<b) (hb:b≤d.size) (hs:d.size<1152921504606846976): ∃R,CC IG [.int .i64 (a:Int),.int .i64 (b:Int),.list ag (eA d)]=some [.list ag (eA R)]∧PermIn a b d R:=by
 obtain ⟨M,q1,q2,q3⟩:=af1 (x:=b-a) (by omega) (by omega)
 have e1:IntKind.wrap .i64 ((b:Int)-(a:Int))=((b-a:Nat):Int):=by rw[lZ (by omega),wrap64 (by omega) (by omega)]
 have e2:IntKind.wrap .i64 (Int.tdiv ((b-a:Nat):Int) 4)=(((b-a)/4:Nat):Int):=by rw[LL,wrap64 (by omega) (by omega)]
 have sc:IntKind.wrap .i64 ((a:Int)+IntKind.wrap .i64 (2*(((b-a)/4:Nat):Int)))=((a+2*((b-a)/4):Nat):Int):=by
  have:=mulC 2 ((b-a)/4)
  rw[show ((2:Nat):Int)=2 from rfl] at this
  rw[this]
  simp (disch:=omega) only[wrap64,fR]
 obtain ⟨x,y,z,R,e,hR⟩:=af4 (a:=a) (b:=b) (M:=M) q2 q3 (by omega) (by omega) _ (a+2*((b-a)/4)-1) d (IntKind.wrap .u64 ((b-a:Nat):Int)) rfl (by omega) hb hs
 refine ⟨R,afJ ?_,hR⟩
 unfold Uv
 rw[e1,aA,if_pos (by omega),q1]
 simp only[Option.bind_some,V.bQ,V.toInt_int]
 rw[e2,sc,jr (by omega),wrap64 (x:=((a+2*((b-a)/4)-1:Nat):Int)) (by omega) (by omega),e]
 rfl
noncomputable def sd (C:af) (a b':Int) (eQ fb:Bool) (cG dS:Int) (mb:List V) {β:Type} (kn:(Int × Int × Int × Bool × Bool × (List V))→Option β):Option β:=
      bif decide ((a:Int)>0) then
       bif (decide (0≤(IntKind.wrap .i64 (a-1))))&&(decide ((IntKind.wrap .i64 (a-1))<(mb.length:Int))) then
       (mb[(IntKind.wrap .i64 (a-1):Int).toNat]?).bind fun gH=>
       bif (decide (0≤dS))&&(decide (dS<(mb.length:Int))) then
        (mb[(dS:Int).toNat]?).bind fun lp=>
        (C bw [.int .i64 ((gH.cell 0).toInt),.int .i64 ((gH.cell 1).toInt),.int .i64 ((gH.cell 2).toInt),.int .i64 ((lp.cell 0).toInt),.int .i64 ((lp.cell 1).toInt),.int .i64 ((lp.cell 2).toInt)]).bind fun oe=>
        bif !(decide ((((V.nth oe 0).toInt):Int)<0)) then
        (C vP [.int .i64 a,.int .i64 b',.int .i64 dS,.list ag mb]).bind fun jq=>
        kn ((V.nth jq 0).toInt,b',cG,eQ,fb,(V.nth (jq.drop 1) 0).toList)
        else
        (C nY [.int .i64 a,.int .i64 b',.int .i64 dS,.list ag mb]).bind fun eP=>
        bif decide (((IntKind.wrap .i64 (((V.nth eP 0).toInt)-a)):Int)<(IntKind.wrap .i64 (b'-((V.nth eP 0).toInt)))) then
         (C gE [.int .i64 a,.int .i64 ((V.nth eP 0).toInt),.int .i64 cG,.list ag ((V.nth (eP.drop 2) 0).toList)]).bind fun wW=>
         kn (IntKind.wrap .i64 (((V.nth eP 0).toInt)+1),b',cG,decide (((IntKind.wrap .i64 (((V.nth eP 0).toInt)-a)):Int)≥(IntKind.wrap .i64 (Int.tdiv (IntKind.wrap .i64 (b'-a)) 8))),(V.nth (eP.drop 1) 0).toBool,(V.nth wW 0).toList)
        else
         (C gE [.int .i64 (IntKind.wrap .i64 (((V.nth eP 0).toInt)+1)),.int .i64 b',.int .i64 cG,.list ag ((V.nth (eP.drop 2) 0).toList)]).bind fun e7=>
         kn (a,(V.nth eP 0).toInt,cG,decide (((IntKind.wrap .i64 (b'-((V.nth eP 0).toInt))):Int)≥(IntKind.wrap .i64 (Int.tdiv (IntKind.wrap .i64 (b'-a)) 8))),(V.nth (eP.drop 1) 0).toBool,(V.nth e7 0).toList)
       else none
       else none
      else
       (C nY [.int .i64 a,.int .i64 b',.int .i64 dS,.list ag mb]).bind fun hZ=>
       bif decide (((IntKind.wrap .i64 (((V.nth hZ 0).toInt)-a)):Int)<(IntKind.wrap .i64 (b'-((V.nth hZ 0).toInt)))) then
       (C gE [.int .i64 a,.int .i64 ((V.nth hZ 0).toInt),.int .i64 cG,.list ag ((V.nth (hZ.drop 2) 0).toList)]).bind fun qJ=>
       kn (IntKind.wrap .i64 (((V.nth hZ 0).toInt)+1),b',cG,decide (((IntKind.wrap .i64 (((V.nth hZ 0).toInt)-a)):Int)≥(IntKind.wrap .i64 (Int.tdiv (IntKind.wrap .i64 (b'-a)) 8))),(V.nth (hZ.drop 1) 0).toBool,(V.nth qJ 0).toList)
       else
       (C gE [.int .i64 (IntKind.wrap .i64 (((V.nth hZ 0).toInt)+1)),.int .i64 b',.int .i64 cG,.list ag ((V.nth (hZ.drop 2) 0).toList)]).bind fun jT=>
       kn (a,(V.nth hZ 0).toInt,cG,decide (((IntKind.wrap .i64 (b'-((V.nth hZ 0).toInt))):Int)≥(IntKind.wrap .i64 (Int.tdiv (IntKind.wrap .i64 (b'-a)) 8))),(V.nth (hZ.drop 1) 0).toBool,(V.nth jT 0).toList)
theorem F9 (C:af) (a b' iU:Int) (eQ fb:Bool) (ai:List V) {β:Type} (kn:(Int × Int × Int × Bool × Bool × (List V))→Option β) (kr:(List V)→Option β):
  pc C a b' iU eQ fb ai kn kr=
 bif decide (((IntKind.wrap .i64 (b'-a)):Int)≤12) then
  (C Em [.int .i64 a,.int .i64 b',.list ag ai]).bind fun r1=>
  kr ((V.nth r1 0).toList)
 else
  bif (iU:Int)==0 then
  (C En [.int .i64 a,.int .i64 b',.list ag ai]).bind fun r2=>
  kr ((V.nth r2 0).toList)
  else
  wU C a b' iU eQ fb (IntKind.wrap .i64 (b'-a)) (!eQ) ai (un fun (cG:Int) (Bq:List V)=>
   (C Eo [.list ag Bq,.int .i64 a,.int .i64 b']).bind fun r6=>
   wV C a b' cG eQ fb (IntKind.wrap .i64 (b'-a)) ((V.nth r6 0).toInt) ((V.nth (r6.drop 1) 0).toInt) ((((V.nth (r6.drop 1) 0).toInt):Int)==2) Bq (un fun (dS:Int)=>un fun (LF:Int) (om:List V)=>
    bif eQ then
     bif fb then
     me C a b' cG eQ fb (IntKind.wrap .i64 (b'-a)) dS ((LF:Int)==1) om (cZ (un fun (KX:Bool) (LO:List V)=>
      kr LO) (fun (mb:List V)=>sd C a b' eQ fb cG dS mb kn))
     else
     me C a b' cG eQ fb (IntKind.wrap .i64 (b'-a)) dS false om (cZ (un fun (aiK:Bool) (af6:List V)=>
      kr af6) (fun (af7:List V)=>sd C a b' eQ fb cG dS af7 kn))
    else
     me C a b' cG eQ fb (IntKind.wrap .i64 (b'-a)) dS false om (cZ (un fun (aiL:Bool) (af8:List V)=>
      kr af8) (fun (af9:List V)=>sd C a b' eQ fb cG dS af9 kn)))):=rfl
section
variable {a b:Nat} {lim:Int} {wb wp:Bool}
theorem aga {d:Array Ed} (fJ:a+12<b) (hb:b≤d.size) (hs:d.size<1152921504606846976) (len:Int) (t:Bool): ∃(l1:Int) (d1:Array Ed),PermIn a b d d1∧∀(β:Type) (kr:(Int × List V)→Option β),wU CC a b lim wb wp len t (eA d) kr=kr (l1,eA d1):=by
 cases t with
 | true=>
  obtain ⟨R,e,hR⟩:=af5 fJ hb hs
  refine ⟨IntKind.wrap .i64 (lim-1),R,hR,fun β kr=> ?_⟩
  unfold wU
  rw[cond_true,e]
  rfl
 | false=>exact ⟨lim,d,permIn_refl _ _ _,fun β kr=>rfl⟩
theorem agb {d:Array Ed} (fJ:a+12<b) (hb:b≤d.size) (hs:d.size<1152921504606846976) (len h:Int) (t:Bool) {p:Nat} (h1:a≤p) (h2:p<b): ∃(p2:Nat) (h2:Int) (d1:Array Ed),a≤p2∧p2<b∧PermIn a b d d1∧∀(β:Type) (kr:(Int × Int × List V)→Option β),wV CC a b lim wb wp len p h t (eA d) kr=kr ((p2:Int),h2,eA d1):=by
 cases t with
 | true=>
  refine ⟨b-1-(p-a),1,reverseRange d a b,by omega,by omega,reverseRange_holds d a b (by omega) hb,fun β kr=> ?_⟩
  unfold wV
  rw[cond_true,aeZ (by omega) hb hs]
  simp (disch:=omega) only[Option.bind_some,V.bQ,V.mH,jr,lZ,wrap64]
 | false=>exact ⟨p,h,d,h1,h2,permIn_refl _ _ _,fun β kr=>rfl⟩
theorem agc {d:Array Ed} (fJ:a+12<b) (hb:b≤d.size) (hs:d.size<1152921504606846976) (hB:Below ay a b d) (len p:Int) (t:Bool): ∃d1:Array Ed,PermIn a b d d1∧
  ((∀(β:Type) (kr:((Bool × List V) ⊕ List V)→Option β),me CC a b lim wb wp len p t (eA d) kr=kr (.inr (eA d1)))∨
  (SortedIn ay a b d1∧∀(β:Type) (kr:((Bool × List V) ⊕ List V)→Option β),me CC a b lim wb wp len p t (eA d) kr=kr (.inl (true,eA d1)))):=by
 cases t with
 | true=>
  have hp:=partialInsertionSort_holds (lt:=ay) wX d a b (by omega) hb hB
  refine ⟨_,hp.1,?_⟩
  cases h:(partialInsertionSort ay d a b).2 with
  | true=>
   refine .inr ⟨hp.2 h,fun β kr=> ?_⟩
   unfold me
   rw[cond_true,Ul (by omega) hb hs,h]
   rfl
  | false=>
   refine .inl fun β kr=> ?_
   unfold me
   rw[cond_true,Ul (by omega) hb hs,h]
   rfl
 | false=>exact ⟨d,permIn_refl _ _ _,.inl fun β kr=>rfl⟩
end
def Ga (a b:Nat) (d:Array Ed):Prop:= ∀(lim:Int) (wb wp:Bool),∃R,Loop (UE CC) ((a:Int),(b:Int),lim,wb,wp,eA d)=some (eA R)∧PermIn a b d R∧SortedIn ay a b R
theorem Ga.call {a b:Nat} {d:Array Ed} (h:Ga a b d) (lim:Int): ∃R,CC gE [.int .i64 (a:Int),.int .i64 (b:Int),.int .i64 lim,.list ag (eA d)]=some [.list ag (eA R)]∧PermIn a b d R∧SortedIn ay a b R:=by
 obtain ⟨R,e,h1,h2⟩:=h lim true true
 refine ⟨R,afX ?_,h1,h2⟩
 unfold UG
 rw[e]
 rfl
theorem agd {a b p:Nat} {d:Array Ed} (fJ:a+12<b) (hb:b≤d.size) (hs:d.size<1152921504606846976) (hB:Below ay a b d) (h1:a≤p) (h2:p<b)
  (ih: ∀(a2 b2:Nat) (d2:Array Ed),b2-a2<b-a→a2≤b2→b2≤d2.size→d2.size<1152921504606846976→Below ay a2 b2 d2→Ga a2 b2 d2) (wb wp:Bool) (lim:Int):
  ∃(a2 b2:Nat) (uw ux:Bool) (d2:Array Ed),b2-a2<b-a∧a2≤b2∧b2≤d2.size∧d2.size<1152921504606846976∧Below ay a2 b2 d2∧
   (∀R,PermIn a2 b2 d2 R→SortedIn ay a2 b2 R→PermIn a b d R∧SortedIn ay a b R)∧
   ∀(β:Type) (kn:(Int × Int × Int × Bool × Bool × (List V))→Option β),sd CC a b wb wp lim p (eA d) kn=kn ((a2:Int),(b2:Int),lim,uw,ux,eA d2):=by
 have part: ∃(a2 b2:Nat) (uw ux:Bool) (d2:Array Ed),b2-a2<b-a∧a2≤b2∧b2≤d2.size∧d2.size<1152921504606846976∧Below ay a2 b2 d2∧
   (∀R,PermIn a2 b2 d2 R→SortedIn ay a2 b2 R→PermIn a b d R∧SortedIn ay a b R)∧
   ∀(β:Type) (kn:(Int × Int × Int × Bool × Bool × (List V))→Option β),
    ((CC nY [.int .i64 (a:Int),.int .i64 (b:Int),.int .i64 (p:Int),.list ag (eA d)]).bind fun eP=>
        bif decide (((IntKind.wrap .i64 (((V.nth eP 0).toInt)-(a:Int))):Int)<(IntKind.wrap .i64 ((b:Int)-((V.nth eP 0).toInt)))) then
         (CC gE [.int .i64 (a:Int),.int .i64 ((V.nth eP 0).toInt),.int .i64 lim,.list ag ((V.nth (eP.drop 2) 0).toList)]).bind fun wW=>
         kn (IntKind.wrap .i64 (((V.nth eP 0).toInt)+1),(b:Int),lim,decide (((IntKind.wrap .i64 (((V.nth eP 0).toInt)-(a:Int))):Int)≥(IntKind.wrap .i64 (Int.tdiv (IntKind.wrap .i64 ((b:Int)-(a:Int))) 8))),(V.nth (eP.drop 1) 0).toBool,(V.nth wW 0).toList)
        else
         (CC gE [.int .i64 (IntKind.wrap .i64 (((V.nth eP 0).toInt)+1)),.int .i64 (b:Int),.int .i64 lim,.list ag ((V.nth (eP.drop 2) 0).toList)]).bind fun e7=>
         kn ((a:Int),(V.nth eP 0).toInt,lim,decide (((IntKind.wrap .i64 ((b:Int)-((V.nth eP 0).toInt))):Int)≥(IntKind.wrap .i64 (Int.tdiv (IntKind.wrap .i64 ((b:Int)-(a:Int))) 8))),(V.nth (eP.drop 1) 0).toBool,(V.nth e7 0).toList))=kn ((a2:Int),(b2:Int),lim,uw,ux,eA d2):=by
  obtain ⟨mid,ap,d4,hx⟩: ∃mid ap d4,partition ay d a b p=(mid,ap,d4):=⟨_,_,_,rfl⟩
  obtain ⟨g1,g2,ot,hBa,hBr,age,agf⟩:=round_part wX (partition_holds ay) h1 h2 hb hB hx
  have hc:=afu (a:=a) (b:=b) (pivot:=p) (d:=d) h2 (by omega) hb hs
  rw[hx] at hc
  by_cases hl:mid-a<b-mid
  ·obtain ⟨L,e,l1,l2⟩:=(ih a mid d4 (by omega) g1 (by rw[ot];omega) (by rw[ot];exact hs) hBa).call lim
   obtain ⟨LP,mW⟩:=age _ l1 l2
   refine ⟨mid+1,b,decide (((IntKind.wrap .i64 ((mid:Int)-(a:Int))):Int)≥(IntKind.wrap .i64 (Int.tdiv (IntKind.wrap .i64 ((b:Int)-(a:Int))) 8))),ap,L,by omega,by omega,by rw[l1.1,ot];exact hb,by rw[l1.1,ot];exact hs,LP,mW,fun β kn=> ?_⟩
   ·rw[hc]
    simp only[Option.bind_some,V.bQ,V.qa,V.toInt_int,V.jL,V.mH,List.drop_succ_cons,List.drop_zero]
    rw[aA,if_pos (by rw[lZ g1,lZ (by omega),wrap64 (by omega) (by omega),wrap64 (by omega) (by omega)];omega),e]
    simp only[Option.bind_some,V.bQ,V.mH]
    rw[dG,wrap64 (x:=((mid+1:Nat):Int)) (by omega) (by omega)]
  ·obtain ⟨L,e,l1,l2⟩:=(ih (mid+1) b d4 (by omega) (by omega) (by rw[ot];exact hb) (by rw[ot];exact hs) hBr).call lim
   obtain ⟨LP,mW⟩:=agf _ l1 l2
   refine ⟨a,mid,decide (((IntKind.wrap .i64 ((b:Int)-(mid:Int))):Int)≥(IntKind.wrap .i64 (Int.tdiv (IntKind.wrap .i64 ((b:Int)-(a:Int))) 8))),ap,L,by omega,by omega,by rw[l1.1,ot];omega,by rw[l1.1,ot];exact hs,LP,mW,fun β kn=> ?_⟩
   ·rw[hc]
    simp only[Option.bind_some,V.bQ,V.qa,V.toInt_int,V.jL,V.mH,List.drop_succ_cons,List.drop_zero]
    rw[aA,if_neg (by rw[lZ g1,lZ (by omega),wrap64 (by omega) (by omega),wrap64 (by omega) (by omega)];omega),dG,wrap64 (x:=((mid+1:Nat):Int)) (by omega) (by omega),e]
    simp only[Option.bind_some,V.bQ,V.mH]
 by_cases ha:0<a
 ·by_cases hc:bO d[a-1]! d[p]! <0
  ·obtain ⟨a2,b2,uw,ux,d2,q1,q2,q3,q4,q5,q6,q7⟩:=part
   refine ⟨a2,b2,uw,ux,d2,q1,q2,q3,q4,q5,q6,fun β kn=> ?_⟩
   rw[←q7 β kn]
   unfold sd
   rw[aA,if_pos (by omega),jr ha,wrap64 (by omega) (by omega),jU (i:=a-1) (by omega),jV (by omega),jU (i:=p) (by omega),jV (by omega)]
   simp only[Ed.di,Ed.dj,Ed.dk,gr,Option.bind_some,V.bQ,V.toInt_int]
   rw[gb,aA,if_pos hc]
  ·obtain ⟨mid,d4,hx⟩: ∃mid d4,partitionEqual ay d a b p=(mid,d4):=⟨_,_,rfl⟩
   obtain ⟨g1,nC,ot,hB4,mW⟩:=round_eq wX (partitionEqual_holds ay) ha h1 h2 hb hB (by rw[F6,←propext (EA _ _)];exact hc) hx
   have he:=afw (a:=a) (b:=b) (pivot:=p) (d:=d) h2 (by omega) hb hs
   rw[hx] at he
   refine ⟨mid,b,wb,wp,d4,by omega,nC,by rw[ot];exact hb,by rw[ot];exact hs,hB4,mW,fun β kn=> ?_⟩
   unfold sd
   rw[aA,if_pos (by omega),jr ha,wrap64 (by omega) (by omega),jU (i:=a-1) (by omega),jV (by omega),jU (i:=p) (by omega),jV (by omega)]
   simp only[Ed.di,Ed.dj,Ed.dk,gr,Option.bind_some,V.bQ,V.toInt_int]
   rw[gb,aA,if_neg hc,he]
   rfl
 ·obtain ⟨a2,b2,uw,ux,d2,q1,q2,q3,q4,q5,q6,q7⟩:=part
  refine ⟨a2,b2,uw,ux,d2,q1,q2,q3,q4,q5,q6,fun β kn=> ?_⟩
  rw[←q7 β kn]
  unfold sd
  rw[aA,if_neg (by omega)]
theorem agh: ∀(n a b:Nat) (d:Array Ed),b-a≤n→a≤b→b≤d.size→d.size<1152921504606846976→Below ay a b d→Ga a b d:=by
 intro n
 induction n with
 | zero=>
  intro a b d hn fJ hb hs hB lim wb wp
  have hi:=insertionSort_holds (lt:=ay) wX d a b fJ hb
  refine ⟨_,bS ?_,hi⟩
  show pc CC a b lim wb wp (eA d) (fun y=>some (Sum.inl y)) (fun r=>some (Sum.inr r))=_
  rw[F9,aA,if_pos (by rw[lZ fJ,wrap64 (by omega) (by omega)];omega),TZ hb hs (by omega)]
  rfl
 | succ n ih=>
  intro a b d hn fJ hb hs hB lim wb wp
  by_cases h12:b-a≤12
  ·have hi:=insertionSort_holds (lt:=ay) wX d a b fJ hb
   refine ⟨_,bS ?_,hi⟩
   show pc CC a b lim wb wp (eA d) (fun y=>some (Sum.inl y)) (fun r=>some (Sum.inr r))=_
   rw[F9,aA,if_pos (by rw[lZ fJ,wrap64 (by omega) (by omega)];omega),TZ hb hs (by omega)]
   rfl
  ·have Br:a+12<b:=by omega
   have rC: ¬(((IntKind.wrap .i64 ((b:Int)-(a:Int))):Int)≤12):=by rw[lZ fJ,wrap64 (by omega) (by omega)];omega
   by_cases h0:lim=0
   ·have hi:=heapSort_holds (lt:=ay) wX d a b fJ hb
    refine ⟨_,bS ?_,hi⟩
    show pc CC a b lim wb wp (eA d) (fun y=>some (Sum.inl y)) (fun r=>some (Sum.inr r))=_
    rw[F9,aA,if_neg rC,mI,if_pos h0,aeX (by omega) hb hs]
    rfl
   ·obtain ⟨l1,d1,s1,k1⟩:=aga (lim:=lim) (wb:=wb) (wp:=wp) Br hb hs (IntKind.wrap .i64 ((b:Int)-(a:Int))) (!wb)
    have b1:b≤d1.size:=by rw[s1.1];exact hb
    have z1:d1.size<1152921504606846976:=by rw[s1.1];exact hs
    obtain ⟨p,h,c1,p1,p2⟩:=af3 Br b1 z1
    obtain ⟨q,h2,d2,q1,q2,s2,k2⟩:=agb (lim:=l1) (wb:=wb) (wp:=wp) Br b1 z1 (IntKind.wrap .i64 ((b:Int)-(a:Int))) h (h==2) p1 p2
    have b2:b≤d2.size:=by rw[s2.1];exact b1
    have z2:d2.size<1152921504606846976:=by rw[s2.1];exact z1
    have B2:Below ay a b d2:=(hB.perm hb s1).perm b1 s2
    obtain ⟨t,ht⟩: ∃t:Bool,t=(bif wb then (bif wp then (h2==1) else false) else false):=⟨_,rfl⟩
    obtain ⟨d3,s3,k3⟩:=agc (lim:=l1) (wb:=wb) (wp:=wp) Br b2 z2 B2 (IntKind.wrap .i64 ((b:Int)-(a:Int))) (q:Int) t
    have b3:b≤d3.size:=by rw[s3.1];exact b2
    have z3:d3.size<1152921504606846976:=by rw[s3.1];exact z2
    have B3:Below ay a b d3:=B2.perm b2 s3
    have P3:PermIn a b d d3:=permIn_trans _ _ _ a b (permIn_trans _ _ _ a b s1 s2) s3
    have step: ∀(β:Type) (kn:(Int × Int × Int × Bool × Bool × (List V))→Option β) (kr:(List V)→Option β),pc CC a b lim wb wp (eA d) kn kr=
      me CC a b l1 wb wp (IntKind.wrap .i64 ((b:Int)-(a:Int))) (q:Int) t (eA d2) (cZ (un fun (KX:Bool) (LO:List V)=>kr LO) (fun (mb:List V)=>sd CC a b wb wp l1 q mb kn)):=by
     intro β kn kr
     rw[F9,aA,if_neg rC,mI,if_neg h0,k1]
     simp only[un]
     rw[c1]
     simp only[Option.bind_some,V.bQ,V.qa,V.toInt_int,List.drop_succ_cons,List.drop_zero]
     rw[k2]
     simp only[un]
     rw[ht]
     cases wb
     ·rfl
     ·cases wp
      ·rfl
      ·rfl
    rcases k3 with k3|⟨k3s,k3⟩
    ·obtain ⟨a4,b4,wb4,wp4,d4,r1,r2,r3,r4,r5,r6,r7⟩:=agd Br b3 z3 B3 q1 q2 (fun a2 b2 d2 aR h1 h2 h3 h4=>ih a2 b2 d2 (by omega) h1 h2 h3 h4) wb wp l1
     obtain ⟨R,e,e1,e2⟩:=ih a4 b4 d4 (by omega) r2 r3 r4 r5 l1 wb4 wp4
     obtain ⟨f1,f2⟩:=r6 R e1 e2
     refine ⟨R,(dV ?_).trans e,permIn_trans _ _ _ a b P3 f1,f2⟩
     show pc CC a b lim wb wp (eA d) (fun y=>some (Sum.inl y)) (fun r=>some (Sum.inr r))=_
     rw[step,k3]
     exact r7 _ (fun y=>some (Sum.inl y))
    ·refine ⟨d3,bS ?_,P3,k3s⟩
     show pc CC a b lim wb wp (eA d) (fun y=>some (Sum.inl y)) (fun r=>some (Sum.inr r))=_
     rw[step,k3]
     rfl
theorem agi (l:List Ed) (hs:l.length<1152921504606846976): ∃R:List Ed,CC yT [.list ag (l.map Ed.enc)]=some [.list ag (R.map Ed.enc)]∧R.Perm l∧R.Pairwise (fun x y=> ¬y.lt x):=by
 obtain ⟨L,e1,_⟩:=UK (x:=l.length) (by omega)
 obtain ⟨R,e2,h1,h2⟩:=(agh _ 0 l.toArray.size l.toArray (Nat.le_refl _) (Nat.zero_le _) (Nat.le_refl _) (by simpa using hs) (.inl rfl)).call (L:Int)
 have aZ:R.size=l.length:=by rw[h1.1];simp
 refine ⟨R.toList,afY ?_,?_,?_⟩
 ·unfold UH
  rw[List.length_map,rL (A:=l.length) (by omega),e1]
  simp only[Option.bind_some,V.bQ,V.toInt_int]
  have e3:eA l.toArray=l.map Ed.enc:=by simp[o6]
  rw[e3,show ((l.toArray.size:Nat):Int)=(l.length:Int) by simp,show ((0:Nat):Int)=0 from rfl] at e2
  rw[e2]
  rfl
 ·have h3:=h1.2.2
  rw[show l.toArray.size=R.size from h1.1.symm,Array.extract_size,h1.1,Array.extract_size] at h3
  exact h3
 ·rw[List.pairwise_iff_getElem]
  intro i j hi hj s9
  have h3:=h2 i j (Nat.zero_le _) s9 (by simpa[←aZ] using hj)
  rw[F6] at h3
  have dX:i<R.size:=by simpa using hi
  have gj:j<R.size:=by simpa using hj
  rw[getElem!_pos R i dX,getElem!_pos R j gj] at h3
  simpa using h3
end Go.AM.SL
set_option maxRecDepth 100000
namespace Go.AM
open Go.Proofs
noncomputable abbrev se:Code:=cC Tryd.prog (aw.aW 93)
noncomputable def Bs (C:af) (i x s at':Int) (t57:Bool) (aO aL aT aP:Int) (gF:List V) (ca cb:Int) (ia places:List V) (gp gq:Int) (rows br bd bm bK:List V) {β:Type} (kr:((Int × Int × Int × (List V) × (List V) × (List V)) ⊕ (Int × (List V) × (List V)))→Option β):Option β:=
 bif t57 then
  bif ((ia.length:Int):Int)==512 then
  kr (.inl (3,0,0,([]:List V),([]:List V),([]:List V)))
  else
  bif cR .u64 s&&true then
   bif Nat.ble ((ia.length+([.int .u64 s]:List V).length)*8) bB then
   kr (.inr ((ia.length:Int),ia++([.int .u64 s]:List V),eS (.int .u64 s) (.int .i64 (ia.length:Int)) places))
   else none
  else none
 else
  kr (.inr (at',ia,places))
noncomputable def wZ (C:af) (i aO aL aT aP:Int) (gF:List V) (ca cb gp gq:Int) (br bd bm bK:List V) (x:Int) (ia places rows:List V) {β:Type} (kn:(Int × (List V) × (List V) × (List V))→Option β) (kr:((Int × Int × Int × (List V) × (List V) × (List V)) ⊕ (Int × Bool × (List V) × (List V) × (List V)))→Option β):Option β:=
 bif decide ((x:Int)<aO) then
  bif (decide (0≤i))&&(decide (i<(ia.length:Int))) then
  (ia[(i:Int).toNat]?).bind fun x2=>
  (C rJ [.int .i64 aO,.int .i64 aL,.int .u64 aT,.int .u64 aP,.list ag gF,.int .u64 x2.toInt,.int .i64 x]).bind fun r3=>
  bif cR .u64 ((V.nth r3 0).toInt)&&true then
   Bs C i x ((V.nth r3 0).toInt) ((gK (.int .u64 ((V.nth r3 0).toInt)) places (.int .i64 0)).toInt) (!(fo (.int .u64 ((V.nth r3 0).toInt)) places)) aO aL aT aP gF ca cb ia places gp gq rows br bd bm bK (cZ (un fun (jP:Int)=>un fun (agj:Int)=>un fun (agk:Int)=>un fun (b_7:List V)=>un fun (b_8:List V) (agl:List V)=>
    kr (.inl (jP,agj,agk,b_7,b_8,agl))) (un fun (UL:Int)=>un fun (agm:List V) (agn:List V)=>
    bif Nat.ble ((rows.length+([.int .i64 UL]:List V).length)*8) bB then
    kn (IntKind.wrap .i64 (x+1),agm,agn,rows++([.int .i64 UL]:List V))
    else none))
  else none
  else none
 else
  kr (.inr (x,decide ((x:Int)<aO),ia,places,rows))
noncomputable def uy (C:af) (i aO aL aT aP:Int) (gF:List V) (ca cb gp gq:Int) (br bd bm bK:List V):(Int × (List V) × (List V) × (List V))→Option ((Int × (List V) × (List V) × (List V)) ⊕ ((Int × Int × Int × (List V) × (List V) × (List V)) ⊕ (Int × Bool × (List V) × (List V) × (List V)))):=un fun x=>un fun ia=>un fun places rows=>wZ C i aO aL aT aP gF ca cb gp gq br bd bm bK x ia places rows (fun y=>some (.inl y)) (fun r=>some (.inr r))
noncomputable def Bt (C:af) (aO aL aT aP:Int) (gF:List V) (ca cb gp gq:Int) (bP br:List V) (i:Int) (ia places bd bm:List V) {β:Type} (kn:(Int × (List V) × (List V) × (List V) × (List V))→Option β) (kr:((Int × Int × Int × (List V) × (List V) × (List V)) ⊕ (Int × Bool × (List V) × (List V) × (List V) × (List V)))→Option β):Option β:=
 bif decide ((i:Int)<(ia.length:Int)) then
  (Loop (uy C i aO aL aT aP gF ca cb gp gq bP br bd bm) (0,ia,places,([]:List V))).bind (cZ (un fun (mN:Int)=>un fun (ago:Int)=>un fun (agp:Int)=>un fun (ua:List V)=>un fun (tR:List V) (agq:List V)=>
   kr (.inl (mN,ago,agp,ua,tR,agq))) (un fun (aiM:Int)=>un fun (K7:Bool)=>un fun (LQ:List V)=>un fun (agr:List V) (UM:List V)=>
   bif Nat.ble ((bm.length+([.list ah UM]:List V).length)*24) bB then
   bif (decide (0≤i))&&(decide (i<(LQ.length:Int))) then
    (LQ[(i:Int).toNat]?).bind fun o9=>
    bif Nat.ble ((bd.length+([.bool (((IntKind.wrap .u64 ((BitVec.ofInt (IntKind.bits .u64) o9.toInt&&&BitVec.ofInt (IntKind.bits .u64) aP).toNat)):Int) != 0)]:List V).length)*1) bB then
    kn (IntKind.wrap .i64 (i+1),LQ,agr,bd++([.bool (((IntKind.wrap .u64 ((BitVec.ofInt (IntKind.bits .u64) o9.toInt&&&BitVec.ofInt (IntKind.bits .u64) aP).toNat)):Int) != 0)]:List V),bm++([.list ah UM]:List V))
    else none
   else none
   else none))
 else
  kr (.inr (i,decide ((i:Int)<(ia.length:Int)),ia,places,bd,bm))
noncomputable def w4 (C:af) (aO aL aT aP:Int) (gF:List V) (ca cb gp gq:Int) (bP br:List V):(Int × (List V) × (List V) × (List V) × (List V))→Option ((Int × (List V) × (List V) × (List V) × (List V)) ⊕ ((Int × Int × Int × (List V) × (List V) × (List V)) ⊕ (Int × Bool × (List V) × (List V) × (List V) × (List V)))):=un fun i=>un fun ia=>un fun places=>un fun bd bm=>Bt C aO aL aT aP gF ca cb gp gq bP br i ia places bd bm (fun y=>some (.inl y)) (fun r=>some (.inr r))
noncomputable def UN (C:af):cq:=fun β n ds k=>
 bif Nat.beq n 927 then lO Js [[0,0,0,0,0,0],[1,2,0,6,7,8,9,10,11,12,0,0,15,16,17,18,19,20,21]] (@Bs C) ds k else
 bif Nat.beq n 193 then bu Jt [false,true,false,false,false,false,false,false,false,true,true,false,false,true,false,false,false,false] [[0,0,0,0,0,0],[1,0,0,3,4,5,6,7,8,9,0,0,12,13,0,15,16,17,18]] (@wZ C) ds k else
 bif Nat.beq n 129 then bu Ju [true,false,false,false,false,false,false,false,true,true,false,false,false,false,true,true] [[0,0,0,0,0,0],[0,0,2,3,4,5,6,7,8,0,0,11,12,13,14,0,0]] (@Bt C) ds k else
 none
abbrev LR (C:af) (b:ch):Prop:=cj Tryd.prog aw C (UN C) 93 (cJ Tryd.prog (aw.aW 93)) (aw.sin 93).a8.length b
theorem ags (C:af):LR C (.cond 57 (ar [1,1,1,1,1,0,1,0,0,1,0,0,1,0,1,0,0,1,0,0,1,1,0,1,0] se) (ar [1,1,1,1,1,0,1,0,0,1,0,0,1,0,1,0,0,1,0,0,1,1,0,1,1] se)):=
 mK Js [[0,0,0,0,0,0],[1,2,0,6,7,8,9,10,11,12,0,0,15,16,17,18,19,20,21]] (@Bs C) (by kernel_rfl) (aS (bs:=[]) (by kernel_rfl) av) (aS (bs:=[]) (by kernel_rfl) av) (fun ds=>by kernel_rfl) (fun i β k=>by kernel_rfl) (fun β ds k=>by kernel_rfl)
theorem agt (C:af):LR C (.loop (ar [1,1,1,1,1,0,1,0,0,1,0,0,1,0,1,0,0] se)):=
 bz Jt [false,true,false,false,false,false,false,false,false,true,true,false,false,true,false,false,false,false] [[0,0,0,0,0,0],[1,0,0,3,4,5,6,7,8,9,0,0,12,13,0,15,16,17,18]] (@wZ C) (by kernel_rfl) (aS (bs:=[.cond 57 (ar [1,1,1,1,1,0,1,0,0,1,0,0,1,0,1,0,0,1,0,0,1,1,0,1,0] se) (ar [1,1,1,1,1,0,1,0,0,1,0,0,1,0,1,0,0,1,0,0,1,1,0,1,1] se)]) (by kernel_rfl) (bf (ags C) av)) (fun ds=>by kernel_rfl) (fun i x=>by kernel_rfl) (fun i x β k=>by kernel_rfl) (fun β ds k=>by kernel_rfl)
theorem agu (C:af):LR C (.loop (ar [1,1,1,1,1,0,1,0,0] se)):=
 bz Ju [true,false,false,false,false,false,false,false,true,true,false,false,false,false,true,true] [[0,0,0,0,0,0],[0,0,2,3,4,5,6,7,8,0,0,11,12,13,14,0,0]] (@Bt C) (by kernel_rfl) (aS (bs:=[.loop (ar [1,1,1,1,1,0,1,0,0,1,0,0,1,0,1,0,0] se)]) (by kernel_rfl) (bf (agt C) av)) (fun ds=>by kernel_rfl) (fun i x=>by kernel_rfl) (fun i x β k=>by kernel_rfl) (fun β ds k=>by kernel_rfl)
noncomputable def LU (C:af) (cl cH cm dc:Int) (ct:List V):Option (List V):=
 (C Eb [.int .i64 cl,.int .i64 cH,.int .u64 cm,.int .u64 dc,.list ag ct]).bind fun r1=>
 bif (((V.nth r1 0).toInt):Int) != 0 then
  some [.int .i64 0,.int .i64 0,.int .i64 ((V.nth r1 0).toInt),.list ab ([]:List V),.list aa ([]:List V),.list a9 ([]:List V)]
 else
  bif cR .u64 cm&&true then
  (Loop (w4 C cl cH cm dc ct 0 0 cl 0 ([]:List V) ([]:List V)) (0,([.int .u64 cm]:List V),eS (.int .u64 cm) (.int .i64 0) ([]:List V),([]:List V),([]:List V))).bind (cZ (un fun (KT:Int)=>un fun (agv:Int)=>un fun (agw:Int)=>un fun (agx:List V)=>un fun (agy:List V) (agz:List V)=>
   some [.int .i64 agv,.int .i64 agw,.int .i64 KT,.list ab agx,.list aa agy,.list a9 agz]) (un fun (afn:Int)=>un fun (ae0:Bool)=>un fun (agA:List V)=>un fun (aiN:List V)=>un fun (zU:List V) (K4:List V)=>
   some [.int .i64 cl,.int .i64 0,.int .i64 0,.list ab zU,.list aa K4,.list a9 agA]))
  else none
theorem UO {cl cH cm dc:Int} {ct:List V} {r:Option (List V)} (h:LU CC cl cH cm dc ct=r):CC yV [.int .i64 cl,.int .i64 cH,.int .u64 cm,.int .u64 dc,.list ag ct]=r:=
 bn (key:=93) (L:=UN CC) (bs:=[.loop (ar [1,1,1,1,1,0,1,0,0] se)]) (by kernel_rfl) (bf (agu CC) av) (Eq.trans (by kernel_rfl) h)
end Go.AM
set_option maxRecDepth 100000
namespace Go.AM
open Go.Proofs
noncomputable def UP (C:af) (cl cH cm dc:Int) (ct:List V):Option (List V):=
 bif decide ((cH:Int)>64) then
  some [.int .i64 0,.int .i64 0,.int .i64 3,.list ab ([]:List V),.list aa ([]:List V)]
 else
  (C D2 [.list ag ct]).bind fun r1=>
  (C yV [.int .i64 cl,.int .i64 cH,.int .u64 cm,.int .u64 dc,.list ag ((V.nth r1 0).toList)]).bind fun r2=>
  bif (((V.nth (r2.drop 2) 0).toInt):Int) != 0 then
  some [.int .i64 0,.int .i64 0,.int .i64 ((V.nth (r2.drop 2) 0).toInt),.list ab ([]:List V),.list aa ([]:List V)]
  else
  (C rH [.int .i64 ((V.nth r2 0).toInt),.int .i64 ((V.nth (r2.drop 1) 0).toInt),.list ab ((V.nth (r2.drop 3) 0).toList),.list aa ((V.nth ((r2.drop 3).drop 1) 0).toList)]).bind fun r3=>
  some [.int .i64 ((V.nth r3 0).toInt),.int .i64 ((V.nth (r3.drop 1) 0).toInt),.int .i64 0,.list ab ((V.nth (r3.drop 2) 0).toList),.list aa ((V.nth ((r3.drop 2).drop 1) 0).toList)]
theorem agB {cl cH cm dc:Int} {ct:List V} {r:Option (List V)} (h:UP CC cl cH cm dc ct=r):CC DV [.int .i64 cl,.int .i64 cH,.int .u64 cm,.int .u64 dc,.list ag ct]=r:=
 bn (key:=67) (L:=cT) (bs:=[]) (by kernel_rfl) av (Eq.trans (by kernel_rfl) h)
end Go.AM
set_option maxRecDepth 100000
namespace Go.AM
open Go.Proofs
noncomputable def UQ (C:af) (cl cH cm dc:Int) (ct:List V):Option (List V):=
 (C yW [.int .i64 cl,.int .i64 cH,.int .u64 cm,.int .u64 dc,.list ag ct]).bind fun r1=>
 bif (((V.nth (r1.drop 2) 0).toInt):Int) != 0 then
  some [.int .i64 0,.int .i64 0,.int .i64 ((V.nth (r1.drop 2) 0).toInt),.list ab ([]:List V),.list aa ([]:List V)]
 else
  (C rI [.int .i64 ((V.nth r1 0).toInt),.int .i64 ((V.nth (r1.drop 1) 0).toInt),.list ab ((V.nth (r1.drop 3) 0).toList),.list aa ((V.nth ((r1.drop 3).drop 1) 0).toList)]).bind fun r2=>
  some [.int .i64 ((V.nth r2 0).toInt),.int .i64 ((V.nth (r2.drop 1) 0).toInt),.int .i64 0,.list ab ((V.nth (r2.drop 2) 0).toList),.list aa ((V.nth ((r2.drop 2).drop 1) 0).toList)]
theorem agC {cl cH cm dc:Int} {ct:List V} {r:Option (List V)} (h:UQ CC cl cH cm dc ct=r):CC yS [.int .i64 cl,.int .i64 cH,.int .u64 cm,.int .u64 dc,.list ag ct]=r:=
 bn (key:=79) (L:=cT) (bs:=[]) (by kernel_rfl) av (Eq.trans (by kernel_rfl) h)
end Go.AM
set_option maxRecDepth 100000
namespace Go.AM
open Go.Proofs
noncomputable def LV (C:af) (aO aL aT aP:Int) (bG:List V):Option (List V):=
 (C yT [.list ag bG]).bind fun r1=>
 (C D1 [.list ag ((V.nth r1 0).toList)]).bind fun r2=>
 bif (V.nth r2 0).toBool then
  (C yS [.int .i64 aO,.int .i64 aL,.int .u64 aT,.int .u64 aP,.list ag ((V.nth (r2.drop 1) 0).toList)]).bind fun r3=>
  some [.int .i64 ((V.nth r3 0).toInt),.int .i64 ((V.nth (r3.drop 1) 0).toInt),.int .i64 ((V.nth (r3.drop 2) 0).toInt),.int .i64 aO,.int .i64 aL,.int .u64 aT,.int .u64 aP,.list ag ((V.nth (r2.drop 1) 0).toList),.list ab ((V.nth (r3.drop 3) 0).toList),.list aa ((V.nth ((r3.drop 3).drop 1) 0).toList)]
 else
  (C yS [.int .i64 aO,.int .i64 aL,.int .u64 aT,.int .u64 aP,.list ag ((V.nth (r2.drop 1) 0).toList)]).bind fun r4=>
  some [.int .i64 ((V.nth r4 0).toInt),.int .i64 ((V.nth (r4.drop 1) 0).toInt),.int .i64 ((V.nth (r4.drop 2) 0).toInt),.int .i64 aO,.int .i64 aL,.int .u64 aT,.int .u64 aP,.list ag ((V.nth (r2.drop 1) 0).toList),.list ab ((V.nth (r4.drop 3) 0).toList),.list aa ((V.nth ((r4.drop 3).drop 1) 0).toList)]
theorem UR {aO aL aT aP:Int} {bG:List V} {r:Option (List V)} (h:LV CC aO aL aT aP bG=r):CC tD [.int .i64 aO,.int .i64 aL,.int .u64 aT,.int .u64 aP,.list ag bG]=r:=
 bn (key:=65) (L:=cT) (bs:=[]) (by kernel_rfl) av (Eq.trans (by kernel_rfl) h)
end Go.AM
set_option maxRecDepth 100000
set_option linter.unusedSimpArgs false
namespace Go.AM
open Go.Proofs
section
variable {n:Nf} {L S:Nat} (h:Nat6 n L S)
include h
theorem US {T U:List Nat} {s:Nat} {i:Nat} (hi:i<T.length) (hs:T[i]=s) (ji:s<2^S) {x:Nat} (hx:x<L) (hpx:aV (sn n.E) T s (x+1) <+: U) (hU:(aV (sn n.E) T s (x+1)).length≤512) {c1 c2 c3 c4:Int} {l1 l2 l3 l4:List V}:
  uy CC (i:Int) (L:Int) n.S (n.st:Int) (n.fin:Int) (n.E.map Ed.enc) c1 c2 c3 c4 l1 l2 l3 l4 ((x:Int),U1 (aV (sn n.E) T s x),uM (aV (sn n.E) T s x),(tab x fun j=>nV (U.idxOf (sn n.E s j))))=
   some (.inl (((x+1:Nat):Int),U1 (aV (sn n.E) T s (x+1)),uM (aV (sn n.E) T s (x+1)),(tab (x+1) fun j=>nV (U.idxOf (sn n.E s j))))):=by
 have h6:=h.l6
 have wq:=h.pow
 have oj:=zz (next:=sn n.E) T s x
 have iP:i<(aV (sn n.E) T s x).length:=Nat.lt_of_lt_of_le hi oj.length_le
 have wv:(aV (sn n.E) T s x)[i]=s:=by rw[←oj.getElem hi,hs]
 have hn:=h.next s x
 have eU:=hU
 have k1:cR .u64 ((sn n.E s x:Nat):Int)=true:=v7 (by omega)
 have st:=QV n h.ok h.good (set:=s) (by omega) (x:Int)
 simp only[uy,wZ,un]
 refine bT (dp hx) ?_
 refine (oa (Fu iP)).trans ?_
 rw[wv]
 have st':CC rJ [.int .i64 (L:Int),.int .i64 n.S,.int .u64 (n.st:Int),.int .u64 (n.fin:Int),.list ag (n.E.map Ed.enc),.int .u64 (s:Int),.int .i64 (x:Int)]=some [uV (sn n.E s x)]:=(congrArg (fun z=>CC rJ [.int .i64 z,.int .i64 n.S,.int .u64 (n.st:Int),.int .u64 (n.fin:Int),.list ag (n.E.map Ed.enc),.int .u64 (s:Int),.int .i64 (x:Int)]) h.hL.symm).trans st
 refine bs st' ?_
 refine bT (by simp only[uV,V.bQ,V.toInt_int];rw[k1];rfl) ?_
 simp only[uV,V.bQ,V.toInt_int]
 rw[show (V.int .u64 ((sn n.E s x:Nat):Int))=uV (sn n.E s x) from rfl]
 have e1:=tQ ub (sn n.E s x) (aV (sn n.E) T s x) 0
 unfold Bs
 rw[show (V.int .u64 ((sn n.E s x:Nat):Int))=uV (sn n.E s x) from rfl,show fo (uV (sn n.E s x)) (uM (aV (sn n.E) T s x))=_ from e1]
 have ei:U.idxOf (sn n.E s x)=(cM (aV (sn n.E) T s x) (sn n.E s x)).idxOf (sn n.E s x):=tN hpx tK
 rw[KJ] at ei
 rw[aV,n7] at eU
 by_cases hm:sn n.E s x∈aV (sn n.E) T s x
 ·have e2:=vZ ub (sn n.E s x) (.int .i64 0) (aV (sn n.E) T s x) 0 hm
  rw[Nat.zero_add] at e2
  rw[if_pos hm] at ei
  refine bF (by simpa using hm) ?_
  rw[show gK (uV (sn n.E s x)) (uM (aV (sn n.E) T s x)) (.int .i64 0)=_ from e2,V.toInt_int,←ei]
  simp only[cZ,un]
  refine bT (cap (by rw[dQ];simp;omega) (by omega)) ?_
  rw[cu (by omega),ko,aV]
  unfold cM
  rw[if_pos hm]
  rfl
 ·rw[if_neg hm] at ei eU
  refine bT (by simpa using hm) ?_
  refine bF (by rw[jQ];simp;omega) ?_
  refine bT (by rw[k1];rfl) ?_
  refine bT (cap (by rw[jQ];simp;omega) (by omega)) ?_
  simp only[cZ,un]
  refine bT (cap (by rw[dQ];simp;omega) (by omega)) ?_
  have e2:=v5 ub (sn n.E s x) (aV (sn n.E) T s x) 0 hm
  rw[Nat.zero_add] at e2
  rw[jQ,show eS (uV (sn n.E s x)) _ (uM (aV (sn n.E) T s x))=_ from e2,←ei,cu (by omega),ko,aV]
  unfold cM
  rw[if_neg hm]
  simp[U1,uM,nV,uV]
theorem agD {T U:List Nat} {s:Nat} {i:Nat} (hi:i<T.length) (hs:T[i]=s) (ji:s<2^S) (hp:aV (sn n.E) T s L <+: U) (hU:(aV (sn n.E) T s L).length≤512) {c1 c2 c3 c4:Int} {l1 l2 l3 l4:List V}:
  Loop (uy CC (i:Int) (L:Int) n.S (n.st:Int) (n.fin:Int) (n.E.map Ed.enc) c1 c2 c3 c4 l1 l2 l3 l4) (0,U1 T,uM T,([]:List V))=
   some (.inr ((L:Int),false,U1 (aV (sn n.E) T s L),uM (aV (sn n.E) T s L),(tab L fun x=>nV (U.idxOf (sn n.E s x))))):=by
 refine (ez L (fun x=>((x:Int),U1 (aV (sn n.E) T s x),uM (aV (sn n.E) T s x),(tab x fun j=>nV (U.idxOf (sn n.E s j))))) _ (fun x hx=> ?_) ?_)
 ·have:=(qo (next:=sn n.E) T s (show x+1≤L by omega)).length_le
  exact US h hi hs ji hx ((qo T s (show x+1≤L by omega)).trans hp) (by omega)
 ·simp only[uy,wZ,un]
  refine bF (bt (Nat.le_refl _)) ?_
  rw[bt (Nat.le_refl _)]
theorem agE {T:List Nat} {s:Nat} {i:Nat} (hi:i<T.length) (hs:T[i]=s) (ji:s<2^S) (hT:T.length≤512) (hU:512<(aV (sn n.E) T s L).length) {c1 c2 c3 c4:Int} {l1 l2 l3 l4:List V}:
  Loop (uy CC (i:Int) (L:Int) n.S (n.st:Int) (n.fin:Int) (n.E.map Ed.enc) c1 c2 c3 c4 l1 l2 l3 l4) (0,U1 T,uM T,([]:List V))=
   some (.inl (3,0,0,[],[],[])):=by
 obtain ⟨y,hy,H3,hy2,hy3⟩:=ac3 hT hU
 have h6:=h.l6
 have wq:=h.pow
 refine (Zp (fun x=>((x:Int),U1 (aV (sn n.E) T s x),uM (aV (sn n.E) T s x),(tab x fun j=>nV ((aV (sn n.E) T s y).idxOf (sn n.E s j))))) y (fun x hx=> ?_) ?_)
 ·exact US h hi hs ji (by omega) (qo T s (by omega)) (hy3 (x+1) (by omega))
 ·have oj:=zz (next:=sn n.E) T s y
  have iP:i<(aV (sn n.E) T s y).length:=Nat.lt_of_lt_of_le hi oj.length_le
  have wv:(aV (sn n.E) T s y)[i]=s:=by rw[←oj.getElem hi,hs]
  have hn:=h.next s y
  have k1:cR .u64 ((sn n.E s y:Nat):Int)=true:=v7 (by omega)
  have st:=QV n h.ok h.good (set:=s) (by omega) (y:Int)
  simp only[uy,wZ,un]
  refine bT (dp hy) ?_
  refine (oa (Fu iP)).trans ?_
  rw[wv]
  have st':CC rJ [.int .i64 (L:Int),.int .i64 n.S,.int .u64 (n.st:Int),.int .u64 (n.fin:Int),.list ag (n.E.map Ed.enc),.int .u64 (s:Int),.int .i64 (y:Int)]=some [uV (sn n.E s y)]:=(congrArg (fun z=>CC rJ [.int .i64 z,.int .i64 n.S,.int .u64 (n.st:Int),.int .u64 (n.fin:Int),.list ag (n.E.map Ed.enc),.int .u64 (s:Int),.int .i64 (y:Int)]) h.hL.symm).trans st
  refine bs st' ?_
  refine bT (by simp only[uV,V.bQ,V.toInt_int];rw[k1];rfl) ?_
  simp only[uV,V.bQ,V.toInt_int]
  rw[show (V.int .u64 ((sn n.E s y:Nat):Int))=uV (sn n.E s y) from rfl]
  have e1:=tQ ub (sn n.E s y) (aV (sn n.E) T s y) 0
  unfold Bs
  rw[show fo (uV (sn n.E s y)) (uM (aV (sn n.E) T s y))=_ from e1]
  refine bT (by simpa using hy2) ?_
  refine bT (by rw[jQ];simp;omega) ?_
  rfl
theorem agF {s:Nat} (hs:s<2^S):(((IntKind.wrap .u64 ((BitVec.ofInt (IntKind.bits .u64) (s:Int)&&&BitVec.ofInt (IntKind.bits .u64) (n.fin:Int)).toNat)):Int) != 0)=sf n.fin s:=by
 have hp:=h.pow
 have hf:=h.fin
 rw[u64_and (by omega) (by omega)]
 unfold sf
 rw[Bool.eq_iff_iff]
 simp
theorem LW {i:Nat} (ff:i<(aq L (sn n.E) n.st i).length) (hlen:(aq L (sn n.E) n.st i).length≤512) {U:List Nat} (hp:aq L (sn n.E) n.st (i+1) <+: U) {l1 l2 l3 l4:List V} (hl3:l3.length≤1000) (hl4:l4.length≤1000):
  w4 CC (L:Int) n.S (n.st:Int) (n.fin:Int) (n.E.map Ed.enc) 0 0 (L:Int) 0 l1 l2 ((i:Int),U1 (aq L (sn n.E) n.st i),uM (aq L (sn n.E) n.st i),l3,l4)=
   if 512<(aq L (sn n.E) n.st (i+1)).length then some (.inr (.inl (3,0,0,[],[],[])))
   else some (.inl (((i+1:Nat):Int),U1 (aq L (sn n.E) n.st (i+1)),uM (aq L (sn n.E) n.st (i+1)),l3++[V.bool (sf n.fin (aq L (sn n.E) n.st i)[i])],l4++[V.list ah (tab L fun x=>nV (U.idxOf (sn n.E (aq L (sn n.E) n.st i)[i] x)))])):=by
 have h6:=h.l6
 have hq:=sub_lt h i _ (List.getElem_mem ff)
 have gT:aq L (sn n.E) n.st (i+1)=aV (sn n.E) (aq L (sn n.E) n.st i) (aq L (sn n.E) n.st i)[i] L:=KC (List.getElem?_eq_getElem ff)
 simp only[w4,Bt,un]
 refine bT (decide_eq_true (by rw[jQ];omega)) ?_
 by_cases nP:512<(aq L (sn n.E) n.st (i+1)).length
 ·rw[if_pos nP]
  refine bs (agE h ff rfl hq hlen (by rw[←gT];exact nP)) ?_
  rfl
 ·rw[if_neg nP]
  refine bs (agD h ff rfl hq (U:=U) (by rw[←gT];exact hp) (by rw[←gT];omega)) ?_
  rw[←gT]
  simp only[cZ,un]
  have oj:=Rp (L:=L) (next:=sn n.E) (a0:=n.st) i
  have iP:i<(aq L (sn n.E) n.st (i+1)).length:=Nat.lt_of_lt_of_le ff oj.length_le
  refine bT (cap (by simp;omega) (by omega)) ?_
  refine (oa (Fu iP)).trans ?_
  rw[←oj.getElem ff]
  simp only[uV,V.toInt_int]
  rw[agF h hq]
  refine bT (cap (by simp;omega) (by omega)) ?_
  rw[cu (by omega)]
theorem agG (hn: ¬fM n L S): ∃X,CC yV (jn n [])=some (Fv (eF n L S) 0 (.list a9 X)):=by
 have h6:=h.l6
 have bN:=h.st
 have wq:=h.pow
 have hd:(aq L (sn n.E) n.st (2^S)).length≤2^S:=uc h _
 have hle: ∀i,(aq L (sn n.E) n.st i).length≤(dR n L S).length:=SH hd
 have adr:(dR n L S).length≤512:=by unfold fM at hn;omega
 refine ⟨U1 (dR n L S),UO ?_⟩
 unfold LU
 have hv:=QN n h.ok
 rw[h.code] at hv
 refine bs hv (bF rfl ?_)
 refine bT (by rw[v7 (show n.st<2^64 by omega)];rfl) ?_
 rw[h.hL]
 have key:Loop (w4 CC (L:Int) n.S (n.st:Int) (n.fin:Int) (n.E.map Ed.enc) 0 0 (L:Int) 0 ([]:List V) ([]:List V)) (0,U1 [n.st],uM [n.st],([]:List V),([]:List V))=
   some (.inr (((dR n L S).length:Int),false,U1 (dR n L S),uM (dR n L S),(eF n L S).cN,(eF n L S).cv)):=by
  refine (ez (dR n L S).length (fun i=>((i:Int),U1 (aq L (sn n.E) n.st i),uM (aq L (sn n.E) n.st i),(tab i fun j=>V.bool ((eF n L S).fin j)),(tab i fun j=>fi L ((eF n L S).nx j)))) _ (fun i hi=> ?_) ?_)
  ·have ff:=vU hd hi
   have hiK:i<2^S:=Nat.lt_of_lt_of_le hi hd
   have tT:(aq L (sn n.E) n.st i)[i]=(dR n L S)[i]:=(jR (show i≤2^S by omega)).getElem ff
   have ads:=hle (i+1)
   have adt:=hle i
   have:=LW h ff (by omega) (U:=dR n L S) (jR (by omega)) (l1:=[]) (l2:=[]) (l3:=(tab i fun j=>V.bool ((eF n L S).fin j))) (l4:=(tab i fun j=>fi L ((eF n L S).nx j))) (by rw[dQ];omega) (by rw[dQ];omega)
   rw[if_neg (by omega),tT] at this
   rw[this,ko,ko]
   have e1:(eF n L S).fin i=sf n.fin (dR n L S)[i]:=zE hi
   have e2:fi L ((eF n L S).nx i)= .list ah (tab L fun x=>nV ((dR n L S).idxOf (sn n.E (dR n L S)[i] x))):=by
    unfold fi
    refine congrArg _ (eo fun x hx=> ?_)
    rw[show (eF n L S).nx i x=_ from tM hi hx];rfl
   rw[e1,e2]
  ·simp only[w4,Bt,un]
   rw[show aq L (sn n.E) n.st (dR n L S).length=dR n L S from zF hd,jQ]
   refine bF (bt (Nat.le_refl _)) ?_
   rw[bt (Nat.le_refl _)]
   have e3:(eF n L S).n=(dR n L S).length:=ki
   unfold Da.cN Da.cv
   rw[e3];rfl
 refine bs key ?_
 rfl
theorem agH (hn:fM n L S): ∃X,CC yV (jn n [])=some (Fv zD 3 (.list a9 X)):=by
 have h6:=h.l6
 have bN:=h.st
 have wq:=h.pow
 obtain ⟨m,hm1,nC,hm3⟩:=SJ (SI (show 512<(aq L (sn n.E) n.st (2^S)).length from hn)) (by omega)
 refine ⟨[],UO ?_⟩
 unfold LU
 have hv:=QN n h.ok
 rw[h.code] at hv
 refine bs hv (bF rfl ?_)
 refine bT (by rw[v7 (show n.st<2^64 by omega)];rfl) ?_
 rw[h.hL]
 have key: ∃r,Loop (w4 CC (L:Int) n.S (n.st:Int) (n.fin:Int) (n.E.map Ed.enc) 0 0 (L:Int) 0 ([]:List V) ([]:List V)) (0,U1 [n.st],uM [n.st],([]:List V),([]:List V))=some r∧r=(.inl (3,0,0,[],[],[])):=by
  refine zM (fun i st=> ∃l3 l4:List V,l3.length=i∧l4.length=i∧st=((i:Int),U1 (aq L (sn n.E) n.st i),uM (aq L (sn n.E) n.st i),l3,l4)) _ m 0 _ (fun i _ hi st bN=> ?_) (fun st bN=> ?_) ⟨[],[],rfl,rfl,rfl⟩
  ·obtain ⟨l3,l4,e3,e4,rfl⟩:=bN
   obtain ⟨h1,h2⟩:=nC i (by omega)
   have h3:=(nC (i+1) (by omega)).2
   have:=LW h h1 h2 (List.prefix_refl _) (l1:=[]) (l2:=[]) (l3:=l3) (l4:=l4) (by omega) (by omega)
   rw[if_neg (by omega)] at this
   exact ⟨_,this,_,_,by simp[e3],by simp[e4],rfl⟩
  ·obtain ⟨l3,l4,e3,e4,rfl⟩:=bN
   rw[Nat.zero_add] at*
   obtain ⟨h1,h2⟩:=nC m (by omega)
   have:=LW h h1 h2 (List.prefix_refl _) (l1:=[]) (l2:=[]) (l3:=l3) (l4:=l4) (by omega) (by omega)
   rw[if_pos (by omega)] at this
   exact ⟨_,this,rfl⟩
 obtain ⟨r,h1,rfl⟩:=key
 refine bs h1 ?_
 rfl
end
instance (n:Nf) (L S:Nat):Decidable (fM n L S):=by unfold fM;infer_instance
noncomputable def eG (n:Nf) (L S:Nat):Da:=if fM n L S then zD else minD (eF n L S)
def kA (n:Nf) (L S:Nat):Int:=if fM n L S then 3 else 0
section
variable {n:Nf} {L S:Nat} (h:Nat6 n L S)
include h
theorem UT:CC yS (jn n [])=some (ku (eG n L S) (kA n L S)):=by
 refine agC ?_
 unfold UQ eG kA
 by_cases ho:fM n L S
 ·obtain ⟨X,hX⟩:=adw h ho
  rw[if_pos ho,if_pos ho]
  refine bs hX (bT rfl ?_)
  rfl
 ·obtain ⟨X,hX⟩:=adv h ho
  rw[if_neg ho,if_neg ho]
  refine bs hX (bF rfl ?_)
  refine bs (Fo (ud h ho)) ?_
  rfl
end
def cy (L S st fin:Nat) (l:List Ed):Nf:=⟨L,S,st,fin,o7 l⟩
structure uz (L S st fin:Nat) (l:List Ed):Prop where
 l1:1≤L
 l6:L≤6
 oZ:S≤64
 st:st<2^S
 fin:fin<2^S
 E: ∀e∈l,e.In L S
 len:l.length≤1000000
theorem ni {L S st fin:Nat} {l:List Ed} (h:uz L S st fin l):Nat6 (cy L S st fin l) L S where
 hL:=rfl
 hS:=rfl
 ok:=by
  have uU:=h.l1
  have hl6:=h.l6
  have hs:=h.oZ
  have bN:=h.st
  have mW:=h.fin
  have hp:2^S≤2^64:=Nat.pow_le_pow_right (by omega) hs
  have dO: ∀e∈o7 l,e.In L S:=fun e he=>h.E e (wx.1 he)
  have hlen:=aer (L:=L) (S:=S) (by omega) (by omega) (Lo l) dO
  refine ⟨by simp only[cy];omega,by simp only[cy];omega,by simp only[cy];omega,by simp only[cy];omega,by simp only[cy];omega,by simp only[cy];omega,by simp only[cy];unfold maxLen;omega,fun e he=> ?_⟩
  have:=dO e he
  unfold Ed.In at this
  unfold Ed.Ok
  omega
 code:=by
  have uU:=h.l1
  have hl6:=h.l6
  have hs:=h.oZ
  unfold Nf.code
  rw[if_neg (by simp only[cy];omega),if_neg (by simp only[cy,Int.toNat_natCast];have:=h.st;have:=h.fin;omega),if_pos]
  intro i hi
  have dO: ∀e∈o7 l,e.In L S:=fun e he=>h.E e (wx.1 he)
  unfold Nf.jN
  simp only[cy] at*
  refine ⟨by rw[fL hi];exact dO _ (List.getElem_mem hi),fun h0=> ?_⟩
  rw[fL hi,fL (show i-1<_ by omega)]
  exact List.pairwise_iff_getElem.1 (Lo l) (i-1) i (by omega) hi (by omega)
def LX (m:Da) (e:Int) (n:Nf):List V:=[.int .i64 (m.L:Int),.int .i64 (m.st:Int),.int .i64 e,.int .i64 n.L,.int .i64 n.S,.int .u64 (n.st:Int),.int .u64 (n.fin:Int),.list ag (n.E.map Ed.enc),.list ab m.cN,.list aa m.cv]
section
variable {L S st fin:Nat} {l:List Ed} (h:uz L S st fin l)
include h
theorem agI:CC tD [.int .i64 (L:Int),.int .i64 (S:Int),.int .u64 (st:Int),.int .u64 (fin:Int),.list ag (l.map Ed.enc)]=some (LX (eG (cy L S st fin l) L S) (kA (cy L S st fin l) L S) (cy L S st fin l)):=by
 have hl:=h.len
 obtain ⟨R,e1,p1,s1⟩:=SL.agi l (by omega)
 obtain ⟨b,e2⟩:=TK (l:=R) (by rw[p1.length_eq];exact hl)
 obtain ⟨c1,c2⟩:=aeB s1
 have hc:hY R=o7 l:=Tz c1 (Lo l) fun x=>by rw[c2,wx,p1.mem_iff]
 rw[hc] at e2
 have e3:=UT (ni h)
 refine UR ?_
 unfold LV
 refine bs e1 ?_
 refine bs e2 ?_
 cases b
 ·refine bF rfl ?_
  refine bs e3 ?_
  rfl
 ·refine bT rfl ?_
  refine bs e3 ?_
  rfl
theorem agJ:CC DV [.int .i64 (L:Int),.int .i64 (S:Int),.int .u64 (st:Int),.int .u64 (fin:Int),.list ag (l.map Ed.enc)]=some (ku (eG (cy L S st fin l) L S) (kA (cy L S st fin l) L S)):=by
 have hl:=h.len
 have hs:=h.oZ
 have h6:=ni h
 refine agB ?_
 unfold UP eG kA
 refine bF (decide_eq_false (by omega)) ?_
 refine bs (aew (by omega)) ?_
 by_cases ho:fM (cy L S st fin l) L S
 ·obtain ⟨X,hX⟩:=agH h6 ho
  rw[if_pos ho,if_pos ho]
  refine bs hX (bT rfl ?_)
  rfl
 ·obtain ⟨X,hX⟩:=agG h6 ho
  rw[if_neg ho,if_neg ho]
  refine bs hX (bF rfl ?_)
  refine bs (Lh (ud h6 ho)) ?_
  rfl
end
end Go.AM
set_option maxRecDepth 100000
namespace Go.AM
open Go.Proofs
noncomputable def UU (C:af) (cx cI:Int) (cE dg:List V) (cF cK:Int) (cL dq:List V):Option (List V):=
 (C yJ [.int .i64 cx,.int .i64 cI,.list ab cE,.list aa dg]).bind fun r1=>
 bif (((V.nth r1 0).toInt):Int) != 0 then
  some [.int .i64 ((V.nth r1 0).toInt)]
 else
  (C yJ [.int .i64 cF,.int .i64 cK,.list ab cL,.list aa dq]).bind fun r2=>
  bif (((V.nth r2 0).toInt):Int) != 0 then
  some [.int .i64 ((V.nth r2 0).toInt)]
  else
  bif (cx:Int) != cF then
   some [.int .i64 1]
  else
   some [.int .i64 0]
theorem agK {cx cI:Int} {cE dg:List V} {cF cK:Int} {cL dq:List V} {r:Option (List V)} (h:UU CC cx cI cE dg cF cK cL dq=r):CC yL [.int .i64 cx,.int .i64 cI,.list ab cE,.list aa dg,.int .i64 cF,.int .i64 cK,.list ab cL,.list aa dq]=r:=
 bn (key:=24) (L:=cT) (bs:=[]) (by kernel_rfl) av (Eq.trans (by kernel_rfl) h)
end Go.AM
set_option maxRecDepth 100000
namespace Go.AM
open Go.Proofs
noncomputable abbrev w5:Code:=cC Tryd.prog (aw.aW 41)
noncomputable def Bu (C:af) (t40 dB dU:Int) (gJ gf:List V) (fT fU:Int) (pd ou:List V) (t41:Int) {β:Type} (kn:Int→Option β) (kr:((Bool) ⊕ (Int × Bool))→Option β):Option β:=
 bif decide ((t41:Int)<t40) then
  (idx gJ t41).bind fun x1=>
  (idx pd t41).bind fun x2=>
  bif !(x1.toBool==x2.toBool) then
  kr (.inl false)
  else
  kn (IntKind.wrap .i64 (t41+1))
 else
  kr (.inr (t41,decide ((t41:Int)<t40)))
noncomputable def LY (C:af) (t40 dB dU:Int) (gJ gf:List V) (fT fU:Int) (pd ou:List V):(Int)→Option ((Int) ⊕ ((Bool) ⊕ (Int × Bool))):=fun t41=>Bu C t40 dB dU gJ gf fT fU pd ou t41 (fun y=>some (.inl y)) (fun r=>some (.inr r))
noncomputable def Bv (C:af) (q t58 t59 t80 dB dU:Int) (gJ gf:List V) (fT fU:Int) (pd ou:List V) (t81:Int) {β:Type} (kn:Int→Option β) (kr:((Bool) ⊕ (Int × Bool))→Option β):Option β:=
 bif decide ((t81:Int)<t80) then
  (idx gf q).bind fun x9=>
  (idx x9.toList t81).bind fun gd=>
  (idx ou q).bind fun ey=>
  (idx ey.toList t81).bind fun lQ=>
  bif (gd.toInt:Int) != lQ.toInt then
  kr (.inl false)
  else
  kn (IntKind.wrap .i64 (t81+1))
 else
  kr (.inr (t81,decide ((t81:Int)<t80)))
noncomputable def LZ (C:af) (q t58 t59 t80 dB dU:Int) (gJ gf:List V) (fT fU:Int) (pd ou:List V):(Int)→Option ((Int) ⊕ ((Bool) ⊕ (Int × Bool))):=fun t81=>Bv C q t58 t59 t80 dB dU gJ gf fT fU pd ou t81 (fun y=>some (.inl y)) (fun r=>some (.inr r))
noncomputable def Bw (C:af) (t58 dB dU:Int) (gJ gf:List V) (fT fU:Int) (pd ou:List V) (t59:Int) {β:Type} (kn:Int→Option β) (kr:((Bool) ⊕ (Int × Bool))→Option β):Option β:=
 bif decide ((t59:Int)<t58) then
  (idx gf t59).bind fun x6=>
  (idx ou t59).bind fun x7=>
  bif ((x6.toList.length:Int):Int) != (x7.toList.length:Int) then
  kr (.inl false)
  else
  (idx gf t59).bind fun x8=>
  (Loop (LZ C t59 t58 t59 (x8.toList.length:Int) dB dU gJ gf fT fU pd ou) 0).bind (cZ (fun (mN:Bool)=>
   kr (.inl mN)) (un fun (zy:Int) (adG:Bool)=>
   kn (IntKind.wrap .i64 (t59+1))))
 else
  kr (.inr (t59,decide ((t59:Int)<t58)))
noncomputable def L0 (C:af) (t58 dB dU:Int) (gJ gf:List V) (fT fU:Int) (pd ou:List V):(Int)→Option ((Int) ⊕ ((Bool) ⊕ (Int × Bool))):=fun t59=>Bw C t58 dB dU gJ gf fT fU pd ou t59 (fun y=>some (.inl y)) (fun r=>some (.inr r))
noncomputable def UW (C:af):cq:=fun β n ds k=>
 bif Nat.beq n 65 then bu IX [false,true,false,false,false,false,false,false,false,false] [[0],[1,0,0,3,4,5,6,7,8,9,10]] (@Bu C) ds k else
 bif Nat.beq n 241 then bu IY [false,false,false,false,true,false,false,false,false,false,false,false,false] [[0],[1,2,3,4,0,0,6,7,8,9,10,11,12,13]] (@Bv C) ds k else
 bif Nat.beq n 161 then bu IZ [false,true,false,false,false,false,false,false,false,false] [[0],[1,0,0,3,4,5,6,7,8,9,10]] (@Bw C) ds k else
 none
abbrev L3 (C:af) (b:ch):Prop:=cj Tryd.prog aw C (UW C) 41 (cJ Tryd.prog (aw.aW 41)) (aw.sin 41).a8.length b
theorem agL (C:af):L3 C (.loop (ar [1,1,0,1,0,0] w5)):=
 bz IX [false,true,false,false,false,false,false,false,false,false] [[0],[1,0,0,3,4,5,6,7,8,9,10]] (@Bu C) (by kernel_rfl) (aS (bs:=[]) (by kernel_rfl) av) (fun ds=>by kernel_rfl) (fun i x=>by kernel_rfl) (fun i x β k=>by kernel_rfl) (fun β ds k=>by kernel_rfl)
theorem agM (C:af):L3 C (.loop (ar [1,1,1,0,1,0,0,1,1,0,0,1,1,1,0,0] w5)):=
 bz IY [false,false,false,false,true,false,false,false,false,false,false,false,false] [[0],[1,2,3,4,0,0,6,7,8,9,10,11,12,13]] (@Bv C) (by kernel_rfl) (aS (bs:=[]) (by kernel_rfl) av) (fun ds=>by kernel_rfl) (fun i x=>by kernel_rfl) (fun i x β k=>by kernel_rfl) (fun β ds k=>by kernel_rfl)
theorem agN (C:af):L3 C (.loop (ar [1,1,1,0,1,0,0] w5)):=
 bz IZ [false,true,false,false,false,false,false,false,false,false] [[0],[1,0,0,3,4,5,6,7,8,9,10]] (@Bw C) (by kernel_rfl) (aS (bs:=[.loop (ar [1,1,1,0,1,0,0,1,1,0,0,1,1,1,0,0] w5)]) (by kernel_rfl) (bf (agM C) av)) (fun ds=>by kernel_rfl) (fun i x=>by kernel_rfl) (fun i x β k=>by kernel_rfl) (fun β ds k=>by kernel_rfl)
noncomputable def UX (C:af) (cx cI:Int) (cE dg:List V) (cF cK:Int) (cL dq:List V):Option (List V):=
 bif (cx:Int) != cF then
  some [.bool false]
 else
  bif (cI:Int) != cK then
  some [.bool false]
  else
  bif ((cE.length:Int):Int) != (cL.length:Int) then
   some [.bool false]
  else
   bif ((dg.length:Int):Int) != (dq.length:Int) then
   some [.bool false]
   else
   (Loop (LY C (cE.length:Int) cx cI cE dg cF cK cL dq) 0).bind (cZ (fun (jO:Bool)=>
    some [.bool jO]) (un fun (jP:Int) (lP:Bool)=>
    (Loop (L0 C (dg.length:Int) cx cI cE dg cF cK cL dq) 0).bind (cZ (fun (zT:Bool)=>
     some [.bool zT]) (un fun (agO:Int) (Tk:Bool)=>
     some [.bool true]))))
theorem agP {cx cI:Int} {cE dg:List V} {cF cK:Int} {cL dq:List V} {r:Option (List V)} (h:UX CC cx cI cE dg cF cK cL dq=r):CC rG [.int .i64 cx,.int .i64 cI,.list ab cE,.list aa dg,.int .i64 cF,.int .i64 cK,.list ab cL,.list aa dq]=r:=
 bn (key:=41) (L:=UW CC) (bs:=[.loop (ar [1,1,0,1,0,0] w5),.loop (ar [1,1,1,0,1,0,0] w5)]) (by kernel_rfl) (bf (agL CC) (bf (agN CC) av)) (Eq.trans (by kernel_rfl) h)
end Go.AM
set_option maxRecDepth 100000
set_option linter.unusedSimpArgs false
namespace Go.AM
open Go.Proofs
section
variable {a b:Da} (ha:a.Ok) (hb:b.Ok) (hL:a.L=b.L) {op:Nat}
include ha hb hL
end
theorem UY (m:Da) (hn:m.n≤1000000) (hl:m.L≤1000):CC rG (gn m (cU m))=some [.bool true]:=by
 refine agP ?_
 unfold UX
 refine bF (by simp) (bF (by simp) (bF (by simp) (bF (by simp) ?_)))
 rw[Da.mT]
 refine bs (ez m.n (fun i=>(i:Int)) (.inr ((m.n:Int),false)) (fun i hi=> ?_) ?_) ?_
 ·simp only[LY,Bu]
  refine bT (dp hi) ?_
  refine bs (Da.rP hi) ?_
  refine bs (Da.rP hi) ?_
  refine bF (by simp) ?_
  rw[cu (by omega)]
 ·simp only[LY,Bu]
  refine bF (bt (Nat.le_refl _)) ?_
  rw[bt (Nat.le_refl _)]
 ·simp only[cZ,un]
  rw[Da.RU]
  refine bs (ez m.n (fun i=>(i:Int)) (.inr ((m.n:Int),false)) (fun i hi=> ?_) ?_) ?_
  ·simp only[L0,Bw]
   refine bT (dp hi) ?_
   refine bs (Da.lU hi) ?_
   refine bs (Da.lU hi) ?_
   refine bF (by simp) ?_
   refine bs (Da.lU hi) ?_
   rw[mU,dQ]
   refine bs (ez m.L (fun x=>(x:Int)) (.inr ((m.L:Int),false)) (fun x hx=> ?_) ?_) ?_
   ·simp only[LZ,Bv]
    refine bT (dp hx) ?_
    refine bs (Da.lU hi) ?_
    rw[mU]
    refine bs (od hx) ?_
    refine bs (Da.lU hi) ?_
    rw[mU]
    refine bs (od hx) ?_
    refine bF (by simp) ?_
    rw[cu (by omega)]
   ·simp only[LZ,Bv]
    refine bF (bt (Nat.le_refl _)) ?_
    rw[bt (Nat.le_refl _)]
   ·simp only[cZ,un]
    rw[cu (by omega)]
  ·simp only[L0,Bw]
   refine bF (bt (Nat.le_refl _)) ?_
   rw[bt (Nat.le_refl _)]
  ·rfl
theorem UZ:CC rG (gn zD (cU zD))=some [.bool true]:=UY zD (by simp[zD,Da.n]) (by simp[zD])
theorem Da.Ok.same {m:Da} (h:m.Ok):CC rG (gn m (cU m))=some [.bool true]:=UY m (by have:=h.eh;omega) (by have:=h.l6;omega)
def nj (d e:Df):Int:=if d.val≠0 then d.val else if e.val≠0 then e.val else if d.L≠e.L then 1 else 0
theorem U0 {d e:Df} (hd:d.Ok) (he:e.Ok):CC yL (iX d (iX e []))=some [.int .i64 (nj d e)]:=by
 refine agK ?_
 unfold UU nj
 refine bs (RG hd) ?_
 by_cases h1:d.val=0
 ·rw[if_neg (by simp[h1])]
  refine bF (by simp[h1]) ?_
  refine bs (RG he) ?_
  by_cases h2:e.val=0
  ·rw[if_neg (by simp[h2])]
   refine bF (by simp[h2]) ?_
   by_cases h3:d.L=e.L
   ·rw[if_neg (by simp[h3])]
    exact bF (by simp[h3]) rfl
   ·rw[if_pos h3]
    exact bT (by simpa using h3) rfl
  ·rw[if_pos h2]
   exact bT (by simpa using h2) rfl
 ·rw[if_pos h1]
  exact bT (by simpa using h1) rfl
end Go.AM
set_option maxRecDepth 100000
set_option linter.unusedSimpArgs false
namespace Go.AM
open Go.Proofs
namespace Da
def Bx (a:Da) (k q:Nat):Prop:= ∃w,WL a.L w∧w.length≤k∧a.acc q w=true
def Live (a:Da) (q:Nat):Prop:= ∃w,WL a.L w∧a.acc q w=true
open Classical in
noncomputable def GD (a:Da) (q:Nat):Bool:=decide (a.Live q)
theorem Bx.live {a:Da} {k q:Nat} (h:a.Bx k q):a.Live q:=by obtain ⟨w,h1,_,h3⟩:=h;exact ⟨w,h1,h3⟩
theorem Bx.mono {a:Da} {k m q:Nat} (h:a.Bx k q) (hk:k≤m):a.Bx m q:=by obtain ⟨w,h1,h2,h3⟩:=h;exact ⟨w,h1,by omega,h3⟩
end Da
def bV (n:Nat) (r:Nat→Bool):List V:=tab n fun q=>V.bool (r q)
def upd (r:Nat→Bool) (p:Nat) (b:Bool) (q:Nat):Bool:=if q=p then b else r q
structure LvI (a:Da) (r0 r:Nat→Bool) (c:Bool):Prop where
 good: ∀q,q<a.n→r q=true→a.Live q
 up: ∀q,q<a.n→r0 q=true→r q=true
 yes:c=true→∃q,q<a.n∧r0 q=false∧r q=true
 no:c=false→∀q,q<a.n→r q=r0 q
section
variable {a:Da} (h:a.Ok)
include h
end
section
variable {a:Da} (h:a.Ok)
include h
end
end Go.AM
set_option maxRecDepth 100000
namespace Go.AM
open Go.Proofs
noncomputable def U3 (C:af) (bR lS:Int):Option (List V):=
 bif decide ((lS:Int)>64) then
  some [V.bool true]
 else
  some [V.bool false,.int .i64 bR,.int .i64 lS,.int .u64 0,.int .u64 0,.list ag ([]:List V)]
theorem agQ {bR lS:Int} {r:Option (List V)} (h:U3 CC bR lS=r):CC yP [.int .i64 bR,.int .i64 lS]=r:=
 bn (key:=61) (L:=cT) (bs:=[]) (by kernel_rfl) av (Eq.trans (by kernel_rfl) h)
end Go.AM
set_option maxRecDepth 100000
namespace Go.AM
open Go.Proofs
noncomputable def U4 (C:af) (By letter to aO aL aT aP:Int) (bG:List V):Option (List V):=
 bif Nat.ble ((bG.length+([.agg [.int .i64 By,.int .i64 letter,.int .i64 to]]:List V).length)*24) bB then
  some [.int .i64 aO,.int .i64 aL,.int .u64 aT,.int .u64 aP,.list ag (bG++([.agg [.int .i64 By,.int .i64 letter,.int .i64 to]]:List V))]
 else none
theorem agR {By letter to aO aL aT aP:Int} {bG:List V} {r:Option (List V)} (h:U4 CC By letter to aO aL aT aP bG=r):CC tC [.int .i64 By,.int .i64 letter,.int .i64 to,.int .i64 aO,.int .i64 aL,.int .u64 aT,.int .u64 aP,.list ag bG]=r:=
 bn (key:=62) (L:=cT) (bs:=[]) (by kernel_rfl) av (Eq.trans (by kernel_rfl) h)
end Go.AM
set_option maxRecDepth 100000
namespace Go.AM
open Go.Proofs
noncomputable def U5 (C:af) (q aO aL aT aP:Int) (bG:List V):Option (List V):=
 bif decide (0≤q) then
  some [.int .i64 aO,.int .i64 aL,.int .u64 (IntKind.wrap .u64 ((BitVec.ofInt (IntKind.bits .u64) aT|||BitVec.ofInt (IntKind.bits .u64) (IntKind.wrap .u64 (1*2^(min q.toNat (IntKind.bits .u64))))).toNat)),.int .u64 aP,.list ag bG]
 else none
theorem agS {q aO aL aT aP:Int} {bG:List V} {r:Option (List V)} (h:U5 CC q aO aL aT aP bG=r):CC yQ [.int .i64 q,.int .i64 aO,.int .i64 aL,.int .u64 aT,.int .u64 aP,.list ag bG]=r:=
 bn (key:=63) (L:=cT) (bs:=[]) (by kernel_rfl) av (Eq.trans (by kernel_rfl) h)
end Go.AM
set_option maxRecDepth 100000
namespace Go.AM
open Go.Proofs
noncomputable def U6 (C:af) (q aO aL aT aP:Int) (bG:List V):Option (List V):=
 bif decide (0≤q) then
  some [.int .i64 aO,.int .i64 aL,.int .u64 aT,.int .u64 (IntKind.wrap .u64 ((BitVec.ofInt (IntKind.bits .u64) aP|||BitVec.ofInt (IntKind.bits .u64) (IntKind.wrap .u64 (1*2^(min q.toNat (IntKind.bits .u64))))).toNat)),.list ag bG]
 else none
theorem agT {q aO aL aT aP:Int} {bG:List V} {r:Option (List V)} (h:U6 CC q aO aL aT aP bG=r):CC yR [.int .i64 q,.int .i64 aO,.int .i64 aL,.int .u64 aT,.int .u64 aP,.list ag bG]=r:=
 bn (key:=69) (L:=cT) (bs:=[]) (by kernel_rfl) av (Eq.trans (by kernel_rfl) h)
end Go.AM
set_option maxRecDepth 100000
namespace Go.AM
open Go.Proofs
noncomputable abbrev U7:Code:=cC Tryd.prog (aw.aW 64)
noncomputable def Bz (C:af) (offset:Int) (t8:List V) (t9 t10 aO aL aT aP:Int) (dz:List V) {β:Type} (kn:(Int × Int × Int × Int × Int × (List V))→Option β) (kr:(Int × Bool × Int × Int × Int × Int × (List V))→Option β):Option β:=
 bif decide ((t10:Int)<t9) then
  (idx t8 t10).bind fun x1=>
  bif x1.toBool then
  (C yR [.int .i64 (IntKind.wrap .i64 (t10+offset)),.int .i64 aO,.int .i64 aL,.int .u64 aT,.int .u64 aP,.list ag dz]).bind fun r2=>
  kn (IntKind.wrap .i64 (t10+1),(V.nth r2 0).toInt,(V.nth (r2.drop 1) 0).toInt,(V.nth ((r2.drop 1).drop 1) 0).toInt,(V.nth (((r2.drop 1).drop 1).drop 1) 0).toInt,(V.nth (r2.drop 4) 0).toList)
  else
  kn (IntKind.wrap .i64 (t10+1),aO,aL,aT,aP,dz)
 else
  kr (t10,decide ((t10:Int)<t9),aO,aL,aT,aP,dz)
noncomputable def L4 (C:af) (offset:Int) (t8:List V) (t9:Int):(Int × Int × Int × Int × Int × (List V))→Option ((Int × Int × Int × Int × Int × (List V)) ⊕ (Int × Bool × Int × Int × Int × Int × (List V))):=un fun t10=>un fun aO=>un fun aL=>un fun aT=>un fun aP dz=>Bz C offset t8 t9 t10 aO aL aT aP dz (fun y=>some (.inl y)) (fun r=>some (.inr r))
noncomputable def U8 (C:af):cq:=fun β n ds k=>
 bif Nat.beq n 17 then bu I8 [false,false,false,true,true,true,true,true,true] [[1,2,3,0,0,0,0,0,0,0]] (@Bz C) ds k else
 none
abbrev agU (C:af) (b:ch):Prop:=cj Tryd.prog aw C (U8 C) 64 (cJ Tryd.prog (aw.aW 64)) (aw.sin 64).a8.length b
theorem agV (C:af):agU C (.loop (ar [1,0,0] U7)):=
 bz I8 [false,false,false,true,true,true,true,true,true] [[1,2,3,0,0,0,0,0,0,0]] (@Bz C) (by kernel_rfl) (aS (bs:=[]) (by kernel_rfl) av) (fun ds=>by kernel_rfl) (fun i x=>by kernel_rfl) (fun i x β k=>by kernel_rfl) (fun β ds k=>by kernel_rfl)
noncomputable def U9 (C:af) (final:List V) (offset aO aL aT aP:Int) (bG:List V):Option (List V):=
 (Loop (L4 C offset final (final.length:Int)) (0,aO,aL,aT,aP,bG)).bind (un fun (jO:Int)=>un fun (jP:Bool)=>un fun (agW:Int)=>un fun (L5:Int)=>un fun (sg:Int)=>un fun (BA:Int) (b_9:List V)=>
  some [.int .i64 agW,.int .i64 L5,.int .u64 sg,.int .u64 BA,.list ag b_9])
theorem agX {final:List V} {offset aO aL aT aP:Int} {bG:List V} {r:Option (List V)} (h:U9 CC final offset aO aL aT aP bG=r):CC DU [.list ab final,.int .i64 offset,.int .i64 aO,.int .i64 aL,.int .u64 aT,.int .u64 aP,.list ag bG]=r:=
 bn (key:=64) (L:=U8 CC) (bs:=[.loop (ar [1,0,0] U7)]) (by kernel_rfl) (bf (agV CC) av) (Eq.trans (by kernel_rfl) h)
end Go.AM
set_option maxRecDepth 100000
namespace Go.AM
open Go.Proofs
noncomputable abbrev Gb:Code:=cC Tryd.prog (aw.aW 73)
noncomputable def BB (C:af) (offset p:Int) (t11:List V) (t12 t13:Int) (t18:List V) (t19 t20 aO aL aT aP:Int) (dz:List V) {β:Type} (kn:(Int × Int × Int × Int × Int × (List V))→Option β) (kr:(Int × Bool × Int × Int × Int × Int × (List V))→Option β):Option β:=
 bif decide ((t20:Int)<t19) then
  (idx t18 t20).bind fun x2=>
  (C tC [.int .i64 (IntKind.wrap .i64 (p+offset)),.int .i64 t20,.int .i64 (IntKind.wrap .i64 (x2.toInt+offset)),.int .i64 aO,.int .i64 aL,.int .u64 aT,.int .u64 aP,.list ag dz]).bind fun r3=>
  kn (IntKind.wrap .i64 (t20+1),(V.nth r3 0).toInt,(V.nth (r3.drop 1) 0).toInt,(V.nth ((r3.drop 1).drop 1) 0).toInt,(V.nth (((r3.drop 1).drop 1).drop 1) 0).toInt,(V.nth (r3.drop 4) 0).toList)
 else
  kr (t20,decide ((t20:Int)<t19),aO,aL,aT,aP,dz)
noncomputable def L7 (C:af) (offset p:Int) (t11:List V) (t12 t13:Int) (t18:List V) (t19:Int):(Int × Int × Int × Int × Int × (List V))→Option ((Int × Int × Int × Int × Int × (List V)) ⊕ (Int × Bool × Int × Int × Int × Int × (List V))):=un fun t20=>un fun aO=>un fun aL=>un fun aT=>un fun aP dz=>BB C offset p t11 t12 t13 t18 t19 t20 aO aL aT aP dz (fun y=>some (.inl y)) (fun r=>some (.inr r))
noncomputable def BC (C:af) (offset:Int) (t11:List V) (t12 t13 aO aL aT aP:Int) (dz:List V) {β:Type} (kn:(Int × Int × Int × Int × Int × (List V))→Option β) (kr:(Int × Bool × Int × Int × Int × Int × (List V))→Option β):Option β:=
 bif decide ((t13:Int)<t12) then
  (idx t11 t13).bind fun x1=>
  (Loop (L7 C offset t13 t11 t12 t13 x1.toList (x1.toList.length:Int)) (0,aO,aL,aT,aP,dz)).bind (un fun (jP:Int)=>un fun (lP:Bool)=>un fun (L5:Int)=>un fun (sg:Int)=>un fun (BA:Int)=>un fun (L8:Int) (Ft:List V)=>
   kn (IntKind.wrap .i64 (t13+1),L5,sg,BA,L8,Ft))
 else
  kr (t13,decide ((t13:Int)<t12),aO,aL,aT,aP,dz)
noncomputable def L9 (C:af) (offset:Int) (t11:List V) (t12:Int):(Int × Int × Int × Int × Int × (List V))→Option ((Int × Int × Int × Int × Int × (List V)) ⊕ (Int × Bool × Int × Int × Int × Int × (List V))):=un fun t13=>un fun aO=>un fun aL=>un fun aT=>un fun aP dz=>BC C offset t11 t12 t13 aO aL aT aP dz (fun y=>some (.inl y)) (fun r=>some (.inr r))
noncomputable def Va (C:af):cq:=fun β n ds k=>
 bif Nat.beq n 81 then bu I9 [false,false,false,false,false,false,false,true,true,true,true,true,true] [[1,2,3,4,5,6,7,0,0,0,0,0,0,0]] (@BB C) ds k else
 bif Nat.beq n 33 then bu Ja [false,false,false,true,true,true,true,true,true] [[1,2,3,0,0,0,0,0,0,0]] (@BC C) ds k else
 none
abbrev Vb (C:af) (b:ch):Prop:=cj Tryd.prog aw C (Va C) 73 (cJ Tryd.prog (aw.aW 73)) (aw.sin 73).a8.length b
theorem agY (C:af):Vb C (.loop (ar [1,1,0,0,1,1,0,0,1,1,0,0] Gb)):=
 bz I9 [false,false,false,false,false,false,false,true,true,true,true,true,true] [[1,2,3,4,5,6,7,0,0,0,0,0,0,0]] (@BB C) (by kernel_rfl) (aS (bs:=[]) (by kernel_rfl) av) (fun ds=>by kernel_rfl) (fun i x=>by kernel_rfl) (fun i x β k=>by kernel_rfl) (fun β ds k=>by kernel_rfl)
theorem agZ (C:af):Vb C (.loop (ar [1,1,0,0] Gb)):=
 bz Ja [false,false,false,true,true,true,true,true,true] [[1,2,3,0,0,0,0,0,0,0]] (@BC C) (by kernel_rfl) (aS (bs:=[.loop (ar [1,1,0,0,1,1,0,0,1,1,0,0] Gb)]) (by kernel_rfl) (bf (agY C) av)) (fun ds=>by kernel_rfl) (fun i x=>by kernel_rfl) (fun i x β k=>by kernel_rfl) (fun β ds k=>by kernel_rfl)
noncomputable def Vc (C:af) (aX aY:Int) (aG bc:List V) (offset aO aL aT aP:Int) (bG:List V):Option (List V):=
 (Loop (L9 C offset bc (bc.length:Int)) (0,aO,aL,aT,aP,bG)).bind (un fun (Ld:Int)=>un fun (Ao:Bool)=>un fun (BD:Int)=>un fun (uA:Int)=>un fun (pe:Int)=>un fun (Ma:Int) (tR:List V)=>
  some [.int .i64 BD,.int .i64 uA,.int .u64 pe,.int .u64 Ma,.list ag tR])
theorem ag0 {aX aY:Int} {aG bc:List V} {offset aO aL aT aP:Int} {bG:List V} {r:Option (List V)} (h:Vc CC aX aY aG bc offset aO aL aT aP bG=r):CC DW [.int .i64 aX,.int .i64 aY,.list ab aG,.list aa bc,.int .i64 offset,.int .i64 aO,.int .i64 aL,.int .u64 aT,.int .u64 aP,.list ag bG]=r:=
 bn (key:=73) (L:=Va CC) (bs:=[.loop (ar [1,1,0,0] Gb)]) (by kernel_rfl) (bf (agZ CC) av) (Eq.trans (by kernel_rfl) h)
end Go.AM
set_option maxRecDepth 100000
set_option linter.unusedSimpArgs false
namespace Go.AM
open Go.Proofs
def fy (p x q:Nat):Ed:=⟨(p:Int),(x:Int),(q:Int)⟩
def aN (L S:Nat) (st fin:Nat) (l:List Ed):List V:=[.int .i64 (L:Int),.int .i64 (S:Int),.int .u64 (st:Int),.int .u64 (fin:Int),.list ag (l.map Ed.enc)]
def fm (n:Nat) (g:Nat→List Ed):List Ed:=(List.range n).flatMap g
theorem ag1 {g:Nat→List Ed}:fm 0 g=[]:=rfl
theorem qK {n:Nat} {g:Nat→List Ed}:fm (n+1) g=fm n g++g n:=by simp[fm,List.range_succ]
theorem BE {n:Nat} {g:Nat→List Ed} {e:Ed}:e∈fm n g↔∃i,i<n∧e∈g i:=by simp[fm]
theorem w6 {n k:Nat} {g:Nat→List Ed} (h: ∀i,i<n→(g i).length≤k):(fm n g).length≤n*k:=by
 induction n with
 | zero=>simp[fm]
 | succ n ih=>
  rw[qK,List.length_append,Nat.succ_mul]
  have:=ih fun i hi=>h i (by omega)
  have:=h n (by omega)
  omega
theorem pf {X R:Type} {step:X→Option (X ⊕ R)} (n:Nat) (s:Nat→X) (r:R) {x:X} (hx:x=s 0) (h: ∀i,i<n→step (s i)=some (.inl (s (i+1)))) (he:step (s n)=some (.inr r)):Loop step x=some r:=by rw[hx];exact ez n s r h he
theorem nk {a b:Nat} (h:a+b≤1000000000):IntKind.wrap .i64 ((a:Int)+(b:Int))=((a+b:Nat):Int):=by rw[wrap64 (by omega) (by omega)];omega
theorem ag2 {l:List Ed} {p x q:Nat}:l.map Ed.enc++[V.agg [.int .i64 (p:Int),.int .i64 (x:Int),.int .i64 (q:Int)]]=(l++[fy p x q]).map Ed.enc:=by simp[fy,Ed.enc]
section
variable {L S st fin:Nat} {l:List Ed}
theorem Gc {p x q:Nat} (h:l.length≤1000000):CC tC [.int .i64 (p:Int),.int .i64 (x:Int),.int .i64 (q:Int),.int .i64 (L:Int),.int .i64 (S:Int),.int .u64 (st:Int),.int .u64 (fin:Int),.list ag (l.map Ed.enc)]=some (aN L S st fin (l++[fy p x q])):=by
 refine agR ?_
 unfold U4
 refine bT (cap (by simp;omega) (by omega)) ?_
 rw[ag2];rfl
theorem Vd {q:Nat} (hq:q<64) (hs:st<2^64):CC yQ [.int .i64 (q:Int),.int .i64 (L:Int),.int .i64 (S:Int),.int .u64 (st:Int),.int .u64 (fin:Int),.list ag (l.map Ed.enc)]=some (aN L S (st|||2^q) fin l):=by
 refine agS ?_
 unfold U5
 refine bT (decide_eq_true (by omega)) ?_
 rw[Int.toNat_natCast,zb hq,u64_or hs (Nat.pow_lt_pow_right (by omega) hq)];rfl
theorem Ve {q:Nat} (hq:q<64) (hs:fin<2^64):CC yR [.int .i64 (q:Int),.int .i64 (L:Int),.int .i64 (S:Int),.int .u64 (st:Int),.int .u64 (fin:Int),.list ag (l.map Ed.enc)]=some (aN L S st (fin|||2^q) l):=by
 refine agT ?_
 unfold U6
 refine bT (decide_eq_true (by omega)) ?_
 rw[Int.toNat_natCast,zb hq,u64_or hs (Nat.pow_lt_pow_right (by omega) hq)];rfl
theorem Vf (h:S≤64):CC yP [.int .i64 (L:Int),.int .i64 (S:Int)]=some (.bool false::aN L S 0 0 []):=by
 refine agQ ?_
 unfold U3
 exact bF (decide_eq_false (by omega)) rfl
def iW (fin:Nat) (f:Nat→Bool) (off:Nat):Nat→Nat
 | 0=>fin
 | i+1=>if f i=true then iW fin f off i|||2^(i+off) else iW fin f off i
theorem Gd {f:Nat→Bool} {off k:Nat} (hf:fin<2^k): ∀{n:Nat},n+off≤k→iW fin f off n<2^k
 | 0,_=>hf
 | n+1,h=>by
  unfold iW
  have ih:=Gd (f:=f) (off:=off) hf (n:=n) (by omega)
  split
  ·exact Nat.or_lt_two_pow ih (Nat.pow_lt_pow_right (by omega) (by omega))
  ·exact ih
theorem ag3 {n off:Nat} {f:Nat→Bool} (ho:n+off≤64) (hs:fin<2^64):CC DU [.list ab (bV n f),.int .i64 (off:Int),.int .i64 (L:Int),.int .i64 (S:Int),.int .u64 (st:Int),.int .u64 (fin:Int),.list ag (l.map Ed.enc)]=some (aN L S st (iW fin f off n) l):=by
 refine agX ?_
 unfold U9
 rw[show (bV n f).length=n from dQ]
 refine bs (ez n (fun i=>((i:Int),(L:Int),(S:Int),(st:Int),(iW fin f off i:Int),l.map Ed.enc)) ((n:Int),false,(L:Int),(S:Int),(st:Int),(iW fin f off n:Int),l.map Ed.enc) (fun i hi=> ?_) ?_) ?_
 ·simp only[L4,Bz,un]
  refine bT (dp hi) ?_
  refine bs (n9 hi) ?_
  have aR:=Gd (f:=f) (off:=off) hs (n:=i) (by omega)
  cases hf:f i with
  | true=>
   refine bT rfl ?_
   rw[nk (by omega)]
   refine bs (Ve (by omega) aR) ?_
   rw[cu (by omega),show iW fin f off (i+1)=iW fin f off i|||2^(i+off) from if_pos hf]
   rfl
  | false=>
   refine bF rfl ?_
   rw[cu (by omega),show iW fin f off (i+1)=iW fin f off i from if_neg (by rw[hf];simp)]
 ·simp only[L4,Bz,un]
  refine bF (bt (Nat.le_refl _)) ?_
  rw[bt (Nat.le_refl _)]
 ·rfl
def sh (a:Da) (off p:Nat):List Ed:=tab a.L fun x=>fy (p+off) x (a.nx p x+off)
def ju (a:Da) (off:Nat):List Ed:=fm a.n (sh a off)
theorem ag4 {a:Da} {off:Nat} {e:Ed}:e∈ju a off↔∃p x,p<a.n∧x<a.L∧e=fy (p+off) x (a.nx p x+off):=by
 unfold ju sh
 rw[BE]
 constructor
 ·rintro ⟨p,hp,he⟩
  obtain ⟨x,hx,rfl⟩:=zL.1 he
  exact ⟨p,x,hp,hx,rfl⟩
 ·rintro ⟨p,x,hp,hx,rfl⟩
  exact ⟨p,hp,zL.2 ⟨x,hx,rfl⟩⟩
theorem Mb {a:Da} (h:a.Ok) {off:Nat} {n:Nat}:(fm n (sh a off)).length≤n*6:=w6 fun p _=>by unfold sh;rw[dQ];exact h.l6
theorem ag5 {a:Da} (h:a.Ok) {off:Nat} (ho:off≤1000) (hl:l.length≤100000):CC DW (gn a [.int .i64 (off:Int),.int .i64 (L:Int),.int .i64 (S:Int),.int .u64 (st:Int),.int .u64 (fin:Int),.list ag (l.map Ed.enc)])=some (aN L S st fin (l++ju a off)):=by
 have hn:=h.eh
 have h6:=h.l6
 refine ag0 ?_
 unfold Vc
 rw[show a.cv.length=a.n from dQ]
 refine bs (pf a.n (fun i=>((i:Int),(L:Int),(S:Int),(st:Int),(fin:Int),(l++fm i (sh a off)).map Ed.enc)) ((a.n:Int),false,(L:Int),(S:Int),(st:Int),(fin:Int),(l++ju a off).map Ed.enc) (by rw[ag1,List.append_nil];rfl) (fun p hp=> ?_) ?_) ?_
 ·have hlen:=Mb h (off:=off) (n:=p)
  simp only[L9,BC,un]
  refine bT (dp hp) ?_
  refine bs (n9 hp) ?_
  rw[show (fi a.L (a.nx p)).toList=tab a.L fun x=>nV (a.nx p x) from rfl,dQ]
  refine bs (pf a.L (fun i=>((i:Int),(L:Int),(S:Int),(st:Int),(fin:Int),((l++fm p (sh a off))++tab i fun x=>fy (p+off) x (a.nx p x+off)).map Ed.enc)) ((a.L:Int),false,(L:Int),(S:Int),(st:Int),(fin:Int),((l++fm p (sh a off))++sh a off p).map Ed.enc) (by rw[RJ,List.append_nil];rfl) (fun x hx=> ?_) ?_) ?_
  ·have hq:=h.ej hp hx
   simp only[L7,BB,un]
   refine bT (dp hx) ?_
   refine bs (n9 hx) ?_
   rw[show (nV (a.nx p x)).toInt=((a.nx p x:Nat):Int) from rfl,nk (by omega),nk (by omega)]
   refine bs (Gc (by rw[List.length_append,List.length_append,dQ];omega)) ?_
   rw[cu (by omega),ko,←List.append_assoc]
   rfl
  ·simp only[L7,BB,un]
   refine bF (bt (Nat.le_refl _)) ?_
   rw[bt (Nat.le_refl _)]
   rfl
  ·simp only[un]
   rw[cu (by omega),qK,←List.append_assoc]
 ·simp only[L9,BC,un]
  refine bF (bt (Nat.le_refl _)) ?_
  rw[bt (Nat.le_refl _)]
  rfl
 ·rfl
end
end Go.AM
