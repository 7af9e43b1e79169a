/-
  Functions of uA program, lifted to plain data.
-/
import Derived.Test.YtmcdbnalaobmpaaDoorP5
set_option linter.unusedVariables false
set_option linter.unusedSimpArgs false
set_option maxRecDepth 100000
namespace Go.AM
open Go.Proofs
noncomputable def TQ (C:ag) (kX kY kZ qp qq qs:Int):Option (List V):=
 (C qk [.int .i64 kX,.int .i64 qp]).bind fun r1=>
 (C qk [.int .i64 kY,.int .i64 qq]).bind fun r2=>
 (C qk [.int .i64 kZ,.int .i64 qs]).bind fun r3=>
 (C yX [.list ah ([.int .i64 ((V.nth r1 0).toInt),.int .i64 ((V.nth r2 0).toInt),.int .i64 ((V.nth r3 0).toInt)]:List V)]).bind fun r4=>
 some [.int .i64 ((V.nth r4 0).toInt)]
theorem aeR {kX kY kZ qp qq qs:Int} {r:Option (List V)} (h:TQ CC kX kY kZ qp qq qs=r):CC br [.int .i64 kX,.int .i64 kY,.int .i64 kZ,.int .i64 qp,.int .i64 qq,.int .i64 qs]=r:=
 bj (key:=88) (L:=cT) (bs:=[]) (by kernel_rfl) av (Eq.trans (by kernel_rfl) h)
end Go.AM
set_option maxRecDepth 100000
set_option linter.unusedSimpArgs false
namespace Go.AM
open Go.Proofs
theorem gr (a b:Ed):CC br [.int .i64 a.f,.int .i64 a.l,.int .i64 a.t,.int .i64 b.f,.int .i64 b.l,.int .i64 b.t]=some [.int .i64 (bN a b)]:=by
 refine aeR ?_
 unfold TQ
 refine bs (vT _ _) ?_
 refine bs (vT _ _) ?_
 refine bs (vT _ _) ?_
 refine bs (QP _ _ _) ?_
 rfl
end Go.AM
set_option maxRecDepth 100000
namespace Go.AM
open Go.Proofs
noncomputable abbrev FN:Code:=cx Tryd.prog (aw.aU 170)
noncomputable def wE (C:ag) (a b' i j:Int) (ai:List V) {β:Type} (kn:(Int × (List V))→Option β) (kr:(Int × Bool × (List V))→Option β):Option β:=
 bif decide ((j:Int)>a) then
  bif (decide (0≤j))&&(decide (j<(ai.length:Int))) then
  (ai[(j:Int).toNat]?).bind fun x1=>
  bif (decide (0≤(IntKind.wrap .i64 (j-1))))&&(decide ((IntKind.wrap .i64 (j-1))<(ai.length:Int))) then
   (ai[(IntKind.wrap .i64 (j-1):Int).toNat]?).bind fun x2=>
   (C br [.int .i64 ((x1.cell 0).toInt),.int .i64 ((x1.cell 1).toInt),.int .i64 ((x1.cell 2).toInt),.int .i64 ((x2.cell 0).toInt),.int .i64 ((x2.cell 1).toInt),.int .i64 ((x2.cell 2).toInt)]).bind fun r3=>
   bif decide ((((V.nth r3 0).toInt):Int)<0) then
   bif (decide (0≤(IntKind.wrap .i64 (j-1))))&&(decide ((IntKind.wrap .i64 (j-1))<(ai.length:Int))) then
    (ai[(IntKind.wrap .i64 (j-1):Int).toNat]?).bind fun x4=>
    bif (decide (0≤j))&&(decide (j<(ai.length:Int))) then
    (ai[(j:Int).toNat]?).bind fun x5=>
    bif (decide (0≤j))&&(decide (j<(ai.length:Int))) then
     (ai[(j:Int).toNat]?).bind fun x6=>
     bif (decide (0≤(IntKind.wrap .i64 (j-1))))&&(decide ((IntKind.wrap .i64 (j-1))<((ai.set ((j:Int).toNat) (.agg [.int .i64 ((x4.cell 0).toInt),.int .i64 ((x4.cell 1).toInt),.int .i64 ((x4.cell 2).toInt)])).length:Int))) then
     ((ai.set ((j:Int).toNat) (.agg [.int .i64 ((x4.cell 0).toInt),.int .i64 ((x4.cell 1).toInt),.int .i64 ((x4.cell 2).toInt)]))[(IntKind.wrap .i64 (j-1):Int).toNat]?).bind fun x7=>
     kn (IntKind.wrap .i64 (j-1),(ai.set ((j:Int).toNat) (.agg [.int .i64 ((x4.cell 0).toInt),.int .i64 ((x4.cell 1).toInt),.int .i64 ((x4.cell 2).toInt)])).set ((IntKind.wrap .i64 (j-1):Int).toNat) (.agg [.int .i64 ((x5.cell 0).toInt),.int .i64 ((x5.cell 1).toInt),.int .i64 ((x5.cell 2).toInt)]))
     else none
    else none
    else none
   else none
   else
   kr (j,decide ((((V.nth r3 0).toInt):Int)<0),ai)
  else none
  else none
 else
  kr (j,false,ai)
noncomputable def wF (C:ag) (a b' i:Int):(Int × (List V))→Option ((Int × (List V)) ⊕ (Int × Bool × (List V))):=un fun j ai=>wE C a b' i j ai (fun y=>some (.inl y)) (fun r=>some (.inr r))
noncomputable def A1 (C:ag) (a b' i:Int) (ai:List V) {β:Type} (kn:(Int × (List V))→Option β) (kr:(Int × Bool × (List V))→Option β):Option β:=
 bif decide ((i:Int)<b') then
  (Loop (wF C a b' i) (i,ai)).bind (un fun (j_8:Int)=>un fun (pf:Bool) (oy:List V)=>
   kn (IntKind.wrap .i64 (i+1),oy))
 else
  kr (i,decide ((i:Int)<b'),ai)
noncomputable def FO (C:ag) (a b':Int):(Int × (List V))→Option ((Int × (List V)) ⊕ (Int × Bool × (List V))):=un fun i ai=>A1 C a b' i ai (fun y=>some (.inl y)) (fun r=>some (.inr r))
noncomputable def TR (C:ag):ch:=fun β n ds k=>
 bif Nat.beq n 65 then bq J4 [false,false,false,true,true] [[1,2,3,0,0,0]] (@wE C) ds k else
 bif Nat.beq n 17 then bq J5 [false,false,true,true] [[1,2,0,0,0]] (@A1 C) ds k else
 none
abbrev TS (C:ag) (b:cd):Prop:=cf Tryd.prog aw C (TR C) 170 (cG Tryd.prog (aw.aU 170)) (aw.sin 170).aZ.length b
theorem aeS (C:ag):TS C (.loop (ar [1,0,0,1,0,0,1,0,0] FN)):=
 bu J4 [false,false,false,true,true] [[1,2,3,0,0,0]] (@wE C) (by kernel_rfl) (aR (bs:=[]) (by kernel_rfl) av) (fun ds=>by kernel_rfl) (fun i x=>by kernel_rfl) (fun i x β k=>by kernel_rfl) (fun β ds k=>by kernel_rfl)
theorem aeT (C:ag):TS C (.loop (ar [1,0,0] FN)):=
 bu J5 [false,false,true,true] [[1,2,0,0,0]] (@A1 C) (by kernel_rfl) (aR (bs:=[.loop (ar [1,0,0,1,0,0,1,0,0] FN)]) (by kernel_rfl) (bd (aeS C) av)) (fun ds=>by kernel_rfl) (fun i x=>by kernel_rfl) (fun i x β k=>by kernel_rfl) (fun β ds k=>by kernel_rfl)
noncomputable def TT (C:ag) (a b':Int) (ai:List V):Option (List V):=
 (Loop (FO C a b') (IntKind.wrap .i64 (a+1),ai)).bind (un fun (aiG:Int)=>un fun (wq:Bool) (Lw:List V)=>
  some [.list af Lw])
theorem aeU {a b':Int} {ai:List V} {r:Option (List V)} (h:TT CC a b' ai=r):CC Em [.int .i64 a,.int .i64 b',.list af ai]=r:=
 bj (key:=170) (L:=TR CC) (bs:=[.loop (ar [1,0,0] FN)]) (by kernel_rfl) (bd (aeT CC) av) (Eq.trans (by kernel_rfl) h)
end Go.AM
set_option maxRecDepth 100000
namespace Go.AM
open Go.Proofs
noncomputable abbrev wG:Code:=cx Tryd.prog (aw.aU 177)
noncomputable def uf (C:ag) (hi first root child:Int) (t40:Bool) (ai:List V) {β:Type} (kr:(Int)→Option β):Option β:=
 bif t40 then
  kr (IntKind.wrap .i64 (child+1))
 else
  kr child
noncomputable def rW (C:ag) (hi first root:Int) (ai:List V) {β:Type} (kn:(Int × (List V))→Option β) (kr:((Int × Int × Bool × (List V)) ⊕ (Int × Int × Bool × (List V)))→Option β):Option β:=
 bif decide (((IntKind.wrap .i64 ((IntKind.wrap .i64 (root*2))+1)):Int)≥hi) then
  kr (.inl (root,IntKind.wrap .i64 ((IntKind.wrap .i64 (root*2))+1),decide (((IntKind.wrap .i64 ((IntKind.wrap .i64 (root*2))+1)):Int)≥hi),ai))
 else
  bif decide (((IntKind.wrap .i64 ((IntKind.wrap .i64 ((IntKind.wrap .i64 (root*2))+1))+1)):Int)<hi) then
  bif (decide (0≤(IntKind.wrap .i64 (first+(IntKind.wrap .i64 ((IntKind.wrap .i64 (root*2))+1))))))&&(decide ((IntKind.wrap .i64 (first+(IntKind.wrap .i64 ((IntKind.wrap .i64 (root*2))+1))))<(ai.length:Int))) then
   (ai[(IntKind.wrap .i64 (first+(IntKind.wrap .i64 ((IntKind.wrap .i64 (root*2))+1))):Int).toNat]?).bind fun x1=>
   bif (decide (0≤(IntKind.wrap .i64 ((IntKind.wrap .i64 (first+(IntKind.wrap .i64 ((IntKind.wrap .i64 (root*2))+1))))+1))))&&(decide ((IntKind.wrap .i64 ((IntKind.wrap .i64 (first+(IntKind.wrap .i64 ((IntKind.wrap .i64 (root*2))+1))))+1))<(ai.length:Int))) then
   (ai[(IntKind.wrap .i64 ((IntKind.wrap .i64 (first+(IntKind.wrap .i64 ((IntKind.wrap .i64 (root*2))+1))))+1):Int).toNat]?).bind fun x2=>
   (C br [.int .i64 ((x1.cell 0).toInt),.int .i64 ((x1.cell 1).toInt),.int .i64 ((x1.cell 2).toInt),.int .i64 ((x2.cell 0).toInt),.int .i64 ((x2.cell 1).toInt),.int .i64 ((x2.cell 2).toInt)]).bind fun r3=>
   uf C hi first root (IntKind.wrap .i64 ((IntKind.wrap .i64 (root*2))+1)) (decide ((((V.nth r3 0).toInt):Int)<0)) ai (fun (ni:Int)=>
    bif (decide (0≤(IntKind.wrap .i64 (first+root))))&&(decide ((IntKind.wrap .i64 (first+root))<(ai.length:Int))) then
     (ai[(IntKind.wrap .i64 (first+root):Int).toNat]?).bind fun x5=>
     bif (decide (0≤(IntKind.wrap .i64 (first+ni))))&&(decide ((IntKind.wrap .i64 (first+ni))<(ai.length:Int))) then
     (ai[(IntKind.wrap .i64 (first+ni):Int).toNat]?).bind fun x6=>
     (C br [.int .i64 ((x5.cell 0).toInt),.int .i64 ((x5.cell 1).toInt),.int .i64 ((x5.cell 2).toInt),.int .i64 ((x6.cell 0).toInt),.int .i64 ((x6.cell 1).toInt),.int .i64 ((x6.cell 2).toInt)]).bind fun r7=>
     bif !(decide ((((V.nth r7 0).toInt):Int)<0)) then
      kr (.inr (root,ni,!(decide ((((V.nth r7 0).toInt):Int)<0)),ai))
     else
      bif (decide (0≤(IntKind.wrap .i64 (first+ni))))&&(decide ((IntKind.wrap .i64 (first+ni))<(ai.length:Int))) then
      (ai[(IntKind.wrap .i64 (first+ni):Int).toNat]?).bind fun x8=>
      bif (decide (0≤(IntKind.wrap .i64 (first+root))))&&(decide ((IntKind.wrap .i64 (first+root))<(ai.length:Int))) then
       (ai[(IntKind.wrap .i64 (first+root):Int).toNat]?).bind fun x9=>
       bif (decide (0≤(IntKind.wrap .i64 (first+root))))&&(decide ((IntKind.wrap .i64 (first+root))<(ai.length:Int))) then
       (ai[(IntKind.wrap .i64 (first+root):Int).toNat]?).bind fun gG=>
       bif (decide (0≤(IntKind.wrap .i64 (first+ni))))&&(decide ((IntKind.wrap .i64 (first+ni))<((ai.set ((IntKind.wrap .i64 (first+root):Int).toNat) (.agg [.int .i64 ((x8.cell 0).toInt),.int .i64 ((x8.cell 1).toInt),.int .i64 ((x8.cell 2).toInt)])).length:Int))) then
        ((ai.set ((IntKind.wrap .i64 (first+root):Int).toNat) (.agg [.int .i64 ((x8.cell 0).toInt),.int .i64 ((x8.cell 1).toInt),.int .i64 ((x8.cell 2).toInt)]))[(IntKind.wrap .i64 (first+ni):Int).toNat]?).bind fun eY=>
        kn (ni,(ai.set ((IntKind.wrap .i64 (first+root):Int).toNat) (.agg [.int .i64 ((x8.cell 0).toInt),.int .i64 ((x8.cell 1).toInt),.int .i64 ((x8.cell 2).toInt)])).set ((IntKind.wrap .i64 (first+ni):Int).toNat) (.agg [.int .i64 ((x9.cell 0).toInt),.int .i64 ((x9.cell 1).toInt),.int .i64 ((x9.cell 2).toInt)]))
       else none
       else none
      else none
      else none
     else none
    else none)
   else none
  else none
  else
  uf C hi first root (IntKind.wrap .i64 ((IntKind.wrap .i64 (root*2))+1)) false ai (fun (nj:Int)=>
   bif (decide (0≤(IntKind.wrap .i64 (first+root))))&&(decide ((IntKind.wrap .i64 (first+root))<(ai.length:Int))) then
    (ai[(IntKind.wrap .i64 (first+root):Int).toNat]?).bind fun gI=>
    bif (decide (0≤(IntKind.wrap .i64 (first+nj))))&&(decide ((IntKind.wrap .i64 (first+nj))<(ai.length:Int))) then
    (ai[(IntKind.wrap .i64 (first+nj):Int).toNat]?).bind fun gJ=>
    (C br [.int .i64 ((gI.cell 0).toInt),.int .i64 ((gI.cell 1).toInt),.int .i64 ((gI.cell 2).toInt),.int .i64 ((gJ.cell 0).toInt),.int .i64 ((gJ.cell 1).toInt),.int .i64 ((gJ.cell 2).toInt)]).bind fun gf=>
    bif !(decide ((((V.nth gf 0).toInt):Int)<0)) then
     kr (.inr (root,nj,!(decide ((((V.nth gf 0).toInt):Int)<0)),ai))
    else
     bif (decide (0≤(IntKind.wrap .i64 (first+nj))))&&(decide ((IntKind.wrap .i64 (first+nj))<(ai.length:Int))) then
     (ai[(IntKind.wrap .i64 (first+nj):Int).toNat]?).bind fun gu=>
     bif (decide (0≤(IntKind.wrap .i64 (first+root))))&&(decide ((IntKind.wrap .i64 (first+root))<(ai.length:Int))) then
      (ai[(IntKind.wrap .i64 (first+root):Int).toNat]?).bind fun pk=>
      bif (decide (0≤(IntKind.wrap .i64 (first+root))))&&(decide ((IntKind.wrap .i64 (first+root))<(ai.length:Int))) then
      (ai[(IntKind.wrap .i64 (first+root):Int).toNat]?).bind fun rP=>
      bif (decide (0≤(IntKind.wrap .i64 (first+nj))))&&(decide ((IntKind.wrap .i64 (first+nj))<((ai.set ((IntKind.wrap .i64 (first+root):Int).toNat) (.agg [.int .i64 ((gu.cell 0).toInt),.int .i64 ((gu.cell 1).toInt),.int .i64 ((gu.cell 2).toInt)])).length:Int))) then
       ((ai.set ((IntKind.wrap .i64 (first+root):Int).toNat) (.agg [.int .i64 ((gu.cell 0).toInt),.int .i64 ((gu.cell 1).toInt),.int .i64 ((gu.cell 2).toInt)]))[(IntKind.wrap .i64 (first+nj):Int).toNat]?).bind fun lp=>
       kn (nj,(ai.set ((IntKind.wrap .i64 (first+root):Int).toNat) (.agg [.int .i64 ((gu.cell 0).toInt),.int .i64 ((gu.cell 1).toInt),.int .i64 ((gu.cell 2).toInt)])).set ((IntKind.wrap .i64 (first+nj):Int).toNat) (.agg [.int .i64 ((pk.cell 0).toInt),.int .i64 ((pk.cell 1).toInt),.int .i64 ((pk.cell 2).toInt)]))
      else none
      else none
     else none
     else none
    else none
   else none)
noncomputable def oz (C:ag) (hi first:Int):(Int × (List V))→Option ((Int × (List V)) ⊕ ((Int × Int × Bool × (List V)) ⊕ (Int × Int × Bool × (List V)))):=un fun root ai=>rW C hi first root ai (fun y=>some (.inl y)) (fun r=>some (.inr r))
noncomputable def TU (C:ag):ch:=fun β n ds k=>
 bif Nat.beq n 655 then ko Kc [[1,2,3,0,6]] (@uf C) ds k else
 bif Nat.beq n 17 then bq Kd [false,false,true,true] [[1,2,0,0,0,0],[1,2,0,0,0,0]] (@rW C) ds k else
 none
abbrev TV (C:ag) (b:cd):Prop:=cf Tryd.prog aw C (TU C) 177 (cG Tryd.prog (aw.aU 177)) (aw.sin 177).aZ.length b
theorem aeV (C:ag):TV C (.cond 40 (ar [1,0,0,0,1,1,0,1,0] wG) (ar [1,0,0,0,1,1,0,1,1] wG)):=
 kV Kc [[1,2,3,0,6]] (@uf C) (by kernel_rfl) (aR (bs:=[]) (by kernel_rfl) av) (aR (bs:=[]) (by kernel_rfl) av) (fun ds=>by kernel_rfl) (fun i β k=>by kernel_rfl) (fun β ds k=>by kernel_rfl)
theorem aeW (C:ag):TV C (.loop (ar [1,0,0] wG)):=
 bu Kd [false,false,true,true] [[1,2,0,0,0,0],[1,2,0,0,0,0]] (@rW C) (by kernel_rfl) (aR (bs:=[.cond 40 (ar [1,0,0,0,1,1,0,1,0] wG) (ar [1,0,0,0,1,1,0,1,1] wG)]) (by kernel_rfl) (bd (aeV C) av)) (fun ds=>by kernel_rfl) (fun i x=>by kernel_rfl) (fun i x β k=>by kernel_rfl) (fun β ds k=>by kernel_rfl)
noncomputable def TW (C:ag) (lo hi first:Int) (ai:List V):Option (List V):=
 (Loop (oz C hi first) (lo,ai)).bind (cY (un fun (aiH:Int)=>un fun (aiI:Int)=>un fun (ac5:Bool) (aeX:List V)=>
  some [.list af aeX]) (un fun (aiJ:Int)=>un fun (aiK:Int)=>un fun (adt:Bool) (qE:List V)=>
  some [.list af qE]))
theorem aeY {lo hi first:Int} {ai:List V} {r:Option (List V)} (h:TW CC lo hi first ai=r):CC Er [.int .i64 lo,.int .i64 hi,.int .i64 first,.list af ai]=r:=
 bj (key:=177) (L:=TU CC) (bs:=[.loop (ar [1,0,0] wG)]) (by kernel_rfl) (bd (aeW CC) av) (Eq.trans (by kernel_rfl) h)
end Go.AM
set_option maxRecDepth 100000
namespace Go.AM
open Go.Proofs
noncomputable abbrev FP:Code:=cx Tryd.prog (aw.aU 171)
noncomputable def A3 (C:ag) (first lo hi i:Int) (ai:List V) {β:Type} (kn:(Int × (List V))→Option β) (kr:(Int × Bool × (List V))→Option β):Option β:=
 bif decide ((i:Int)≥0) then
  (C Er [.int .i64 i,.int .i64 hi,.int .i64 first,.list af ai]).bind fun r1=>
  kn (IntKind.wrap .i64 (i-1),(V.nth r1 0).toList)
 else
  kr (i,decide ((i:Int)≥0),ai)
noncomputable def FQ (C:ag) (first lo hi:Int):(Int × (List V))→Option ((Int × (List V)) ⊕ (Int × Bool × (List V))):=un fun i ai=>A3 C first lo hi i ai (fun y=>some (.inl y)) (fun r=>some (.inr r))
noncomputable def A4 (C:ag) (first lo i:Int) (ai:List V) {β:Type} (kn:(Int × (List V))→Option β) (kr:(Int × Bool × (List V))→Option β):Option β:=
 bif decide ((i:Int)≥0) then
  bif (decide (0≤(IntKind.wrap .i64 (first+i))))&&(decide ((IntKind.wrap .i64 (first+i))<(ai.length:Int))) then
  (ai[(IntKind.wrap .i64 (first+i):Int).toNat]?).bind fun x5=>
  bif (decide (0≤first))&&(decide (first<(ai.length:Int))) then
   (ai[(first:Int).toNat]?).bind fun x6=>
   bif (decide (0≤first))&&(decide (first<(ai.length:Int))) then
   (ai[(first:Int).toNat]?).bind fun x7=>
   bif (decide (0≤(IntKind.wrap .i64 (first+i))))&&(decide ((IntKind.wrap .i64 (first+i))<((ai.set ((first:Int).toNat) (.agg [.int .i64 ((x5.cell 0).toInt),.int .i64 ((x5.cell 1).toInt),.int .i64 ((x5.cell 2).toInt)])).length:Int))) then
    ((ai.set ((first:Int).toNat) (.agg [.int .i64 ((x5.cell 0).toInt),.int .i64 ((x5.cell 1).toInt),.int .i64 ((x5.cell 2).toInt)]))[(IntKind.wrap .i64 (first+i):Int).toNat]?).bind fun x8=>
    (C Er [.int .i64 lo,.int .i64 i,.int .i64 first,.list af ((ai.set ((first:Int).toNat) (.agg [.int .i64 ((x5.cell 0).toInt),.int .i64 ((x5.cell 1).toInt),.int .i64 ((x5.cell 2).toInt)])).set ((IntKind.wrap .i64 (first+i):Int).toNat) (.agg [.int .i64 ((x6.cell 0).toInt),.int .i64 ((x6.cell 1).toInt),.int .i64 ((x6.cell 2).toInt)]))]).bind fun r9=>
    kn (IntKind.wrap .i64 (i-1),(V.nth r9 0).toList)
   else none
   else none
  else none
  else none
 else
  kr (i,decide ((i:Int)≥0),ai)
noncomputable def FR (C:ag) (first lo:Int):(Int × (List V))→Option ((Int × (List V)) ⊕ (Int × Bool × (List V))):=un fun i ai=>A4 C first lo i ai (fun y=>some (.inl y)) (fun r=>some (.inr r))
noncomputable def TX (C:ag):ch:=fun β n ds k=>
 bif Nat.beq n 65 then bq J6 [false,false,false,true,true] [[1,2,3,0,0,0]] (@A3 C) ds k else
 bif Nat.beq n 129 then bq J7 [false,false,true,true] [[1,2,0,0,0]] (@A4 C) ds k else
 none
abbrev TY (C:ag) (b:cd):Prop:=cf Tryd.prog aw C (TX C) 171 (cG Tryd.prog (aw.aU 171)) (aw.sin 171).aZ.length b
theorem aeZ (C:ag):TY C (.loop (ar [1,1,1,0,1,0,0] FP)):=
 bu J6 [false,false,false,true,true] [[1,2,3,0,0,0]] (@A3 C) (by kernel_rfl) (aR (bs:=[]) (by kernel_rfl) av) (fun ds=>by kernel_rfl) (fun i x=>by kernel_rfl) (fun i x β k=>by kernel_rfl) (fun β ds k=>by kernel_rfl)
theorem ae0 (C:ag):TY C (.loop (ar [1,1,1,1,1,0,0] FP)):=
 bu J7 [false,false,true,true] [[1,2,0,0,0]] (@A4 C) (by kernel_rfl) (aR (bs:=[]) (by kernel_rfl) av) (fun ds=>by kernel_rfl) (fun i x=>by kernel_rfl) (fun i x β k=>by kernel_rfl) (fun β ds k=>by kernel_rfl)
noncomputable def TZ (C:ag) (a b':Int) (ai:List V):Option (List V):=
 (Loop (FQ C a 0 (IntKind.wrap .i64 (b'-a))) (IntKind.wrap .i64 (Int.tdiv (IntKind.wrap .i64 ((IntKind.wrap .i64 (b'-a))-1)) 2),ai)).bind (un fun (i_2:Int)=>un fun (jR:Bool) (ae1:List V)=>
  (Loop (FR C a 0) (IntKind.wrap .i64 ((IntKind.wrap .i64 (b'-a))-1),ae1)).bind (un fun (aiL:Int)=>un fun (FD:Bool) (ml:List V)=>
   some [.list af ml]))
theorem ae2 {a b':Int} {ai:List V} {r:Option (List V)} (h:TZ CC a b' ai=r):CC En [.int .i64 a,.int .i64 b',.list af ai]=r:=
 bj (key:=171) (L:=TX CC) (bs:=[.loop (ar [1,1,1,0,1,0,0] FP),.loop (ar [1,1,1,1,1,0,0] FP)]) (by kernel_rfl) (bd (aeZ CC) (bd (ae0 CC) av)) (Eq.trans (by kernel_rfl) h)
end Go.AM
set_option maxRecDepth 100000
namespace Go.AM
open Go.Proofs
noncomputable abbrev T2:Code:=cx Tryd.prog (aw.aU 179)
noncomputable def wH (C:ag) (i j:Int) (ai:List V) {β:Type} (kn:(Int × Int × (List V))→Option β) (kr:(Int × Int × Bool × (List V))→Option β):Option β:=
 bif decide ((i:Int)<j) then
  bif (decide (0≤j))&&(decide (j<(ai.length:Int))) then
  (ai[(j:Int).toNat]?).bind fun x1=>
  bif (decide (0≤i))&&(decide (i<(ai.length:Int))) then
   (ai[(i:Int).toNat]?).bind fun x2=>
   bif (decide (0≤i))&&(decide (i<(ai.length:Int))) then
   (ai[(i:Int).toNat]?).bind fun x3=>
   bif (decide (0≤j))&&(decide (j<((ai.set ((i:Int).toNat) (.agg [.int .i64 ((x1.cell 0).toInt),.int .i64 ((x1.cell 1).toInt),.int .i64 ((x1.cell 2).toInt)])).length:Int))) then
    ((ai.set ((i:Int).toNat) (.agg [.int .i64 ((x1.cell 0).toInt),.int .i64 ((x1.cell 1).toInt),.int .i64 ((x1.cell 2).toInt)]))[(j:Int).toNat]?).bind fun x4=>
    kn (IntKind.wrap .i64 (i+1),IntKind.wrap .i64 (j-1),(ai.set ((i:Int).toNat) (.agg [.int .i64 ((x1.cell 0).toInt),.int .i64 ((x1.cell 1).toInt),.int .i64 ((x1.cell 2).toInt)])).set ((j:Int).toNat) (.agg [.int .i64 ((x2.cell 0).toInt),.int .i64 ((x2.cell 1).toInt),.int .i64 ((x2.cell 2).toInt)]))
   else none
   else none
  else none
  else none
 else
  kr (i,j,decide ((i:Int)<j),ai)
noncomputable def A5 (C:ag):(Int × Int × (List V))→Option ((Int × Int × (List V)) ⊕ (Int × Int × Bool × (List V))):=un fun i=>un fun j ai=>wH C i j ai (fun y=>some (.inl y)) (fun r=>some (.inr r))
noncomputable def T4 (C:ag):ch:=fun β n ds k=>
 bif Nat.beq n 33 then bq Ke [true,true,true] [[0,0,0,0]] (@wH C) ds k else
 none
abbrev ae3 (C:ag) (b:cd):Prop:=cf Tryd.prog aw C (T4 C) 179 (cG Tryd.prog (aw.aU 179)) (aw.sin 179).aZ.length b
theorem ae4 (C:ag):ae3 C (.loop (ar [1,1,0,0] T2)):=
 bu Ke [true,true,true] [[0,0,0,0]] (@wH C) (by kernel_rfl) (aR (bs:=[]) (by kernel_rfl) av) (fun ds=>by kernel_rfl) (fun i x=>by kernel_rfl) (fun i x β k=>by kernel_rfl) (fun β ds k=>by kernel_rfl)
noncomputable def T6 (C:ag) (a b':Int) (ai:List V):Option (List V):=
 (Loop (A5 C) (a,IntKind.wrap .i64 (b'-1),ai)).bind (un fun (i_5:Int)=>un fun (j_6:Int)=>un fun (kW:Bool) (ae5:List V)=>
  some [.list af ae5])
theorem ae6 {a b':Int} {ai:List V} {r:Option (List V)} (h:T6 CC a b' ai=r):CC IM [.int .i64 a,.int .i64 b',.list af ai]=r:=
 bj (key:=179) (L:=T4 CC) (bs:=[.loop (ar [1,1,0,0] T2)]) (by kernel_rfl) (bd (ae4 CC) av) (Eq.trans (by kernel_rfl) h)
end Go.AM
set_option maxRecDepth 100000
set_option linter.unusedSimpArgs false
set_option maxHeartbeats 4000000
namespace Go.AM.SL
open Go.AM Go.Proofs Go.Sort
def ay (a b:Ed):Bool:=decide (bN a b<0)
theorem rX (a b:Ed):(ay a b=true)=(bN a b<0):=by unfold ay;rw[decide_eq_true_eq]
theorem qG (a b:Ed):((!ay a b)=true)= ¬(bN a b<0):=by unfold ay;simp
abbrev eA (d:Array Ed):List V:=po Ed.enc d
theorem ae7 (a j:Nat) (d:Array Ed):insInner ay a (j+1) d=if j+1>a then (if bN d[j+1]! d[j]! <0 then insInner ay a j (swp d (j+1) j) else d) else d:=by
 rw[TA]
 by_cases h1:j+1>a
 ·rw[if_pos h1];simp only[h1,decide_true,Bool.true_and,rX]
 ·rw[if_neg h1,if_neg (by simp[h1])]
theorem Lx (hi first root:Nat) (d:Array Ed):siftDown ay hi first root d=
  if 2*root+1≥hi then d else
   if 2*root+2<hi then
    (if bN d[first+(2*root+1)]! d[first+(2*root+2)]! <0 then
     (if bN d[first+root]! d[first+(2*root+2)]! <0 then siftDown ay hi first (2*root+2) (swp d (first+root) (first+(2*root+2))) else d)
    else (if bN d[first+root]! d[first+(2*root+1)]! <0 then siftDown ay hi first (2*root+1) (swp d (first+root) (first+(2*root+1))) else d))
   else (if bN d[first+root]! d[first+(2*root+1)]! <0 then siftDown ay hi first (2*root+1) (swp d (first+root) (first+(2*root+1))) else d):=by
 rw[siftDown]
 by_cases h1:2*root+1≥hi
 ·rw[dif_pos h1,if_pos h1]
 rw[dif_neg h1,if_neg h1]
 by_cases h2:2*root+2<hi
 ·rw[if_pos h2]
  by_cases h3:bN d[first+(2*root+1)]! d[first+(2*root+2)]! <0
  ·rw[if_pos h3,if_pos (by simp only[Bool.and_eq_true,decide_eq_true_eq,rX];exact ⟨h2,h3⟩)]
   simp only[qG]
   by_cases h4:bN d[first+root]! d[first+(2*root+2)]! <0
   ·rw[if_neg (not_not_intro h4),dif_pos h2,if_pos h4]
   ·rw[if_pos h4,if_neg h4]
  ·rw[if_neg h3,if_neg (by simp only[Bool.and_eq_true,decide_eq_true_eq,rX];exact fun h=>h3 h.2)]
   simp only[qG]
   by_cases h4:bN d[first+root]! d[first+(2*root+1)]! <0
   ·rw[if_neg (not_not_intro h4),if_pos h4]
   ·rw[if_pos h4,if_neg h4]
 ·rw[if_neg h2,if_neg (by simp only[Bool.and_eq_true,decide_eq_true_eq,rX];exact fun h=>h2 h.1)]
  simp only[qG]
  by_cases h4:bN d[first+root]! d[first+(2*root+1)]! <0
  ·rw[if_neg (not_not_intro h4),if_pos h4]
  ·rw[if_pos h4,if_neg h4]
theorem T7 {a b i:Nat}: ∀(j:Nat) (d:Array Ed),j<d.size→d.size<1152921504606846976→
  ∃j' t,Loop (wF CC a b i) ((j:Int),eA d)=some (j',t,eA (insInner ay a j d))
 | 0,d,hj,hs=>⟨(0:Nat),false,bS (by
   simp (disch:=omega) only[wF,wE,un,aA,if_neg]
   rfl)⟩
 | j+1,d,hj,hs=>by
  obtain ⟨j',t,ih⟩:=T7 (a:=a) (b:=b) (i:=i) j (swp d (j+1) j) (by rw[size_swp];omega) (by rw[size_swp];omega)
  rw[ae7]
  by_cases h1:j+1>a
  ·rw[if_pos h1]
   have e:wF CC a b i (((j+1:Nat):Int),eA d)=if bN d[j+1]! d[j]! <0 then some (.inl ((j:Int),eA (swp d (j+1) j))) else some (.inr (((j+1:Nat):Int),decide (bN d[j+1]! d[j]! <0),eA d)):=by
    simp (disch:=omega) only[wF,wE,un,aA,dt,gd,if_pos,if_neg,wrap64,dF,fT,Int.toNat_natCast,Option.bind_some,fQ,fS,Ed.da,Ed.db,Ed.dc,Ed.re,fR,hZ,Array.size_setIfInBounds,gr,V.bQ,V.toInt_int,cond_true,cond_false,rU]
    rfl
   by_cases h2:bN d[j+1]! d[j]! <0
   ·rw[if_pos h2] at e⊢
    exact ⟨j',t,(dU e).trans ih⟩
   ·rw[if_neg h2] at e⊢
    exact ⟨_,_,bS e⟩
  ·rw[if_neg h1]
   exact ⟨((j+1:Nat):Int),false,bS (by
    simp (disch:=omega) only[wF,wE,un,aA,if_neg])⟩
theorem ae8 {a b:Nat}: ∀(n i:Nat) (d:Array Ed),b-i=n→b≤d.size→d.size<1152921504606846976→
  ∃j' t,Loop (FO CC a b) ((i:Int),eA d)=some (j',t,eA (insOuter ay a b i d)):=by
 intro n
 induction n with
 | zero=>
  intro i d hn hb hs
  rw[insOuter,if_neg (by omega)]
  exact ⟨(i:Int),false,bS (by
   simp (disch:=omega) only[FO,A1,un,qC,cond_false])⟩
 | succ n ih=>
  intro i d hn hb hs
  obtain ⟨j1,t1,h1⟩:=T7 (a:=a) (b:=b) (i:=i) i d (by omega) hs
  obtain ⟨j',t,h2⟩:=ih (i+1) (insInner ay a i d) (by omega) (by rw[Ln];omega) (by rw[Ln];omega)
  rw[insOuter,if_pos (by omega)]
  refine ⟨j',t,(dU ?_).trans h2⟩
  simp (disch:=omega) only[FO,A1,un,aA,if_pos,h1,Option.bind_some,dF,wrap64]
theorem T8 {a b:Nat} {d:Array Ed} (hb:b≤d.size) (hs:d.size<1152921504606846976) (ha:a<1152921504606846976):
  CC Em [.int .i64 (a:Int),.int .i64 (b:Int),.list af (eA d)]=some [.list af (eA (insertionSort ay d a b))]:=by
 refine aeU ?_
 unfold TT
 obtain ⟨j',t,h⟩:=ae8 (a:=a) (b:=b) _ (a+1) d rfl hb hs
 simp (disch:=omega) only[dF,wrap64]
 rw[h]
 rfl
theorem ae9 (hi first:Nat): ∀(n root:Nat) (d:Array Ed),hi-root≤n→root<1152921504606846976→first+hi≤d.size→d.size<1152921504606846976→
  (∃x y z,Loop (oz CC hi first) ((root:Int),eA d)=some (.inl (x,y,z,eA (siftDown ay hi first root d))))∨
  (∃x y z,Loop (oz CC hi first) ((root:Int),eA d)=some (.inr (x,y,z,eA (siftDown ay hi first root d)))):=by
 intro n
 induction n with
 | zero=>
  intro root d hn hr hb hs
  rw[Lx,if_pos (by omega)]
  exact .inl ⟨(root:Int),((root*2+1:Nat):Int),true,bS (by
   simp (disch:=omega) only[oz,rW,un,AP,dF,wrap64];rw[nc (by omega)];rfl)⟩
 | succ n ih=>
  intro root d hn hr hb hs
  by_cases h1:2*root+1≥hi
  ·rw[Lx,if_pos h1]
   exact .inl ⟨(root:Int),((root*2+1:Nat):Int),true,bS (by
    simp (disch:=omega) only[oz,rW,un,AP,dF,wrap64];rw[nc (by omega)];rfl)⟩
  ·have go: ∀c:Nat,c<hi→root<c→(oz CC hi first ((root:Int),eA d)=
      if bN d[first+root]! d[first+c]! <0 then some (.inl ((c:Int),eA (swp d (first+root) (first+c)))) else some (.inr (.inr ((root:Int),(c:Int),true,eA d))))→
     siftDown ay hi first root d=(if bN d[first+root]! d[first+c]! <0 then siftDown ay hi first c (swp d (first+root) (first+c)) else d)→
     ((∃x y z,Loop (oz CC hi first) ((root:Int),eA d)=some (.inl (x,y,z,eA (siftDown ay hi first root d))))∨
     (∃x y z,Loop (oz CC hi first) ((root:Int),eA d)=some (.inr (x,y,z,eA (siftDown ay hi first root d))))):=by
    intro c hc hrc e1 e2
    rw[e2]
    by_cases h3:bN d[first+root]! d[first+c]! <0
    ·rw[if_pos h3] at e1
     rw[if_pos h3,dU e1]
     exact ih c _ (by omega) (by omega) (by rw[size_swp];omega) (by rw[size_swp];omega)
    ·rw[if_neg h3] at e1
     rw[if_neg h3,bS e1]
     exact .inr ⟨_,_,_,rfl⟩
   have e0:=Lx hi first root d
   rw[if_neg h1] at e0
   by_cases h2:2*root+2<hi
   ·rw[if_pos h2] at e0
    by_cases h3:bN d[first+(2*root+1)]! d[first+(2*root+2)]! <0
    ·rw[if_pos h3] at e0
     refine go (2*root+2) (by omega) (by omega) ?_ e0
     rw[Nat.mul_comm 2 root] at h3
     simp (disch:=omega) only[oz,rW,un,AP,dF,fT,wrap64]
     rw[aA,if_neg (by omega),aA,if_pos (by omega)]
     simp (disch:=omega) only[uf,aA,dt,gd,if_pos,if_neg,wrap64,dF,fT,Int.toNat_natCast,Option.bind_some,fQ,fS,Ed.da,Ed.db,Ed.dc,Ed.re,fR,hZ,Array.size_setIfInBounds,gr,V.bQ,V.toInt_int,cond_true,cond_false,Nat.mul_comm 2 root,nc]
     by_cases h4:bN d[first+root]! d[first+(root*2+2)]! <0
     ·simp only[h4,if_true];rfl
     ·simp only[h4,if_false];rfl
    ·rw[if_neg h3] at e0
     refine go (2*root+1) (by omega) (by omega) ?_ e0
     rw[Nat.mul_comm 2 root] at h3
     simp (disch:=omega) only[oz,rW,un,AP,dF,fT,wrap64]
     rw[aA,if_neg (by omega),aA,if_pos (by omega)]
     simp (disch:=omega) only[uf,aA,dt,gd,if_pos,if_neg,wrap64,dF,fT,Int.toNat_natCast,Option.bind_some,fQ,fS,Ed.da,Ed.db,Ed.dc,Ed.re,fR,hZ,Array.size_setIfInBounds,gr,V.bQ,V.toInt_int,cond_true,cond_false,Nat.mul_comm 2 root,qC]
     by_cases h4:bN d[first+root]! d[first+(root*2+1)]! <0
     ·simp only[h4,if_true];rfl
     ·simp only[h4,if_false];rfl
   ·rw[if_neg h2] at e0
    refine go (2*root+1) (by omega) (by omega) ?_ e0
    simp (disch:=omega) only[oz,rW,un,AP,dF,fT,wrap64]
    rw[aA,if_neg (by omega),aA,if_neg (by omega)]
    simp (disch:=omega) only[uf,aA,dt,gd,if_pos,if_neg,wrap64,dF,fT,Int.toNat_natCast,Option.bind_some,fQ,fS,Ed.da,Ed.db,Ed.dc,Ed.re,fR,hZ,Array.size_setIfInBounds,gr,V.bQ,V.toInt_int,cond_true,cond_false,Nat.mul_comm 2 root]
    by_cases h4:bN d[first+root]! d[first+(root*2+1)]! <0
    ·simp only[h4,if_true];rfl
    ·simp only[h4,if_false];rfl
theorem T9 {lo hi first:Nat} {d:Array Ed} (hl:lo<1152921504606846976) (hb:first+hi≤d.size) (hs:d.size<1152921504606846976):
  CC Er [.int .i64 (lo:Int),.int .i64 (hi:Int),.int .i64 (first:Int),.list af (eA d)]=some [.list af (eA (siftDown ay hi first lo d))]:=by
 refine aeY ?_
 unfold TW
 rcases ae9 hi first _ lo d (Nat.le_refl _) hl hb hs with ⟨x,y,z,h⟩|⟨x,y,z,h⟩
 ·rw[h];rfl
 ·rw[h];rfl
theorem Ua {hi first:Nat}: ∀(k:Nat) (d:Array Ed),k<1152921504606846976→first+hi≤d.size→d.size<1152921504606846976→
  ∃x y,Loop (FQ CC first 0 hi) ((k:Int)-1,eA d)=some (x,y,eA (heapBuild ay hi first k d))
 | 0,d,hk,hb,hs=>⟨-1,false,bS (by
   simp (disch:=omega) only[FQ,A3,un,aA,if_neg]
   rfl)⟩
 | k+1,d,hk,hb,hs=>by
  obtain ⟨x,y,ih⟩:=Ua (hi:=hi) (first:=first) k (siftDown ay hi first k d) (by omega) (by rw[AQ _ _ _ _ _ (Nat.le_refl _)];omega) (by rw[AQ _ _ _ _ _ (Nat.le_refl _)];omega)
  refine ⟨x,y,(dU ?_).trans ih⟩
  simp (disch:=omega) only[FQ,A3,un,aA,if_pos,rU,T9,Option.bind_some,V.bQ,V.n8,wrap64]
theorem Ub {first:Nat}: ∀(k:Nat) (d:Array Ed),k<1152921504606846976→first+k≤d.size→d.size<1152921504606846976→
  ∃x y,Loop (FR CC first 0) ((k:Int)-1,eA d)=some (x,y,eA (heapPop ay first k d))
 | 0,d,hk,hb,hs=>⟨-1,false,bS (by
   simp (disch:=omega) only[FR,A4,un,aA,if_neg]
   rfl)⟩
 | k+1,d,hk,hb,hs=>by
  obtain ⟨x,y,ih⟩:=Ub (first:=first) k (siftDown ay k first 0 (swp d first (first+k))) (by omega) (by rw[AQ _ _ _ _ _ (Nat.le_refl _),size_swp];omega) (by rw[AQ _ _ _ _ _ (Nat.le_refl _),size_swp];omega)
  refine ⟨x,y,(dU ?_).trans ih⟩
  have kg:=T9 (lo:=0) (hi:=k) (first:=first) (d:=swp d first (first+k)) (by omega) (by rw[size_swp];omega) (by rw[size_swp];omega)
  unfold swp at kg⊢
  rw[show ((0:Nat):Int)=0 from rfl] at kg
  simp (disch:=omega) only[FR,A4,un,rU,aA,dt,gd,if_pos,if_neg,wrap64,dF,fT,Int.toNat_natCast,Option.bind_some,fQ,fS,Ed.da,Ed.db,Ed.dc,Ed.re,fR,hZ,Array.size_setIfInBounds,gr,V.bQ,V.toInt_int,cond_true,cond_false]
  rw[kg]
  simp (disch:=omega) only[Option.bind_some,V.bQ,V.n8,wrap64]
theorem afa {a b:Nat} {d:Array Ed} (fK:a<b) (hb:b≤d.size) (hs:d.size<1152921504606846976):
  CC En [.int .i64 (a:Int),.int .i64 (b:Int),.list af (eA d)]=some [.list af (eA (heapSort ay d a b))]:=by
 refine ae2 ?_
 unfold TZ
 obtain ⟨x,y,h1⟩:=Ua (hi:=b-a) (first:=a) ((b-a-1)/2+1) d (by omega) (by omega) hs
 obtain ⟨x2,y2,h2⟩:=Ub (first:=a) (b-a) (heapBuild ay (b-a) a ((b-a-1)/2+1) d) (by omega) (by rw[Lo];omega) (by rw[Lo];omega)
 have e1:((((b-a-1)/2+1:Nat):Int)-1)=Int.tdiv (((b-a:Nat):Int)-1) 2:=by
  rw[Int.tdiv_eq_ediv_of_nonneg (by omega)]
  omega
 rw[e1] at h1
 simp (disch:=omega) only[mi,wrap64]
 rw[h1]
 simp only[Option.bind_some,un]
 rw[h2]
 rfl
theorem afb: ∀(n i j:Nat) (d:Array Ed),j-i≤n→j<d.size→d.size<1152921504606846976→
  ∃x y z,Loop (A5 CC) ((i:Int),(j:Int),eA d)=some (x,y,z,eA (reverseLoop i j d)):=by
 intro n
 induction n with
 | zero=>
  intro i j d hn hj hs
  rw[reverseLoop,if_neg (by omega)]
  exact ⟨(i:Int),(j:Int),false,bS (by
   simp (disch:=omega) only[A5,wH,un,qC,cond_false])⟩
 | succ n ih=>
  intro i j d hn hj hs
  rw[reverseLoop]
  by_cases h:i<j
  ·rw[if_pos h]
   obtain ⟨x,y,z,h2⟩:=ih (i+1) (j-1) (swp d i j) (by omega) (by rw[size_swp];omega) (by rw[size_swp];omega)
   refine ⟨x,y,z,(dU ?_).trans h2⟩
   simp (disch:=omega) only[A5,wH,un,aA,dt,gd,if_pos,if_neg,wrap64,dF,fT,Int.toNat_natCast,Option.bind_some,fQ,fS,Ed.da,Ed.db,Ed.dc,Ed.re,fR,hZ,Array.size_setIfInBounds,gr,V.bQ,V.toInt_int,cond_true,cond_false,jv]
   rfl
  ·rw[if_neg h]
   exact ⟨(i:Int),(j:Int),false,bS (by
    simp (disch:=omega) only[A5,wH,un,qC,cond_false])⟩
theorem afc {a b:Nat} {d:Array Ed} (fK:a<b) (hb:b≤d.size) (hs:d.size<1152921504606846976):
  CC IM [.int .i64 (a:Int),.int .i64 (b:Int),.list af (eA d)]=some [.list af (eA (reverseRange d a b))]:=by
 refine ae6 ?_
 unfold T6
 obtain ⟨x,y,z,h⟩:=afb _ a (b-1) d (Nat.le_refl _) (by omega) hs
 simp (disch:=omega) only[jv,wrap64]
 rw[h]
 rfl
end Go.AM.SL
set_option maxRecDepth 100000
namespace Go.AM
open Go.Proofs
noncomputable abbrev pq:Code:=cx Tryd.prog (aw.aU 181)
noncomputable def A6 (C:ag) (a j:Int) (ai:List V) (i:Int) {β:Type} (kn:Int→Option β) (kr:(Int × Bool)→Option β):Option β:=
 bif decide ((i:Int)≤j) then
  bif (decide (0≤i))&&(decide (i<(ai.length:Int))) then
  (ai[(i:Int).toNat]?).bind fun x5=>
  bif (decide (0≤a))&&(decide (a<(ai.length:Int))) then
   (ai[(a:Int).toNat]?).bind fun x6=>
   (C br [.int .i64 ((x5.cell 0).toInt),.int .i64 ((x5.cell 1).toInt),.int .i64 ((x5.cell 2).toInt),.int .i64 ((x6.cell 0).toInt),.int .i64 ((x6.cell 1).toInt),.int .i64 ((x6.cell 2).toInt)]).bind fun r7=>
   bif decide ((((V.nth r7 0).toInt):Int)<0) then
   kn (IntKind.wrap .i64 (i+1))
   else
   kr (i,decide ((((V.nth r7 0).toInt):Int)<0))
  else none
  else none
 else
  kr (i,false)
noncomputable def A7 (C:ag) (a j:Int) (ai:List V):(Int)→Option ((Int) ⊕ (Int × Bool)):=fun i=>A6 C a j ai i (fun y=>some (.inl y)) (fun r=>some (.inr r))
noncomputable def wI (C:ag) (a i:Int) (ai:List V) (j:Int) {β:Type} (kn:Int→Option β) (kr:(Int × Bool)→Option β):Option β:=
 bif decide ((i:Int)≤j) then
  bif (decide (0≤j))&&(decide (j<(ai.length:Int))) then
  (ai[(j:Int).toNat]?).bind fun gG=>
  bif (decide (0≤a))&&(decide (a<(ai.length:Int))) then
   (ai[(a:Int).toNat]?).bind fun eY=>
   (C br [.int .i64 ((gG.cell 0).toInt),.int .i64 ((gG.cell 1).toInt),.int .i64 ((gG.cell 2).toInt),.int .i64 ((eY.cell 0).toInt),.int .i64 ((eY.cell 1).toInt),.int .i64 ((eY.cell 2).toInt)]).bind fun kB=>
   bif !(decide ((((V.nth kB 0).toInt):Int)<0)) then
   kn (IntKind.wrap .i64 (j-1))
   else
   kr (j,!(decide ((((V.nth kB 0).toInt):Int)<0)))
  else none
  else none
 else
  kr (j,false)
noncomputable def wJ (C:ag) (a i:Int) (ai:List V):(Int)→Option ((Int) ⊕ (Int × Bool)):=fun j=>wI C a i ai j (fun y=>some (.inl y)) (fun r=>some (.inr r))
noncomputable def A8 (C:ag) (a j:Int) (ai:List V) (i:Int) {β:Type} (kn:Int→Option β) (kr:(Int × Bool)→Option β):Option β:=
 bif decide ((i:Int)≤j) then
  bif (decide (0≤i))&&(decide (i<(ai.length:Int))) then
  (ai[(i:Int).toNat]?).bind fun ln=>
  bif (decide (0≤a))&&(decide (a<(ai.length:Int))) then
   (ai[(a:Int).toNat]?).bind fun pr=>
   (C br [.int .i64 ((ln.cell 0).toInt),.int .i64 ((ln.cell 1).toInt),.int .i64 ((ln.cell 2).toInt),.int .i64 ((pr.cell 0).toInt),.int .i64 ((pr.cell 1).toInt),.int .i64 ((pr.cell 2).toInt)]).bind fun Uc=>
   bif decide ((((V.nth Uc 0).toInt):Int)<0) then
   kn (IntKind.wrap .i64 (i+1))
   else
   kr (i,decide ((((V.nth Uc 0).toInt):Int)<0))
  else none
  else none
 else
  kr (i,false)
noncomputable def A9 (C:ag) (a j:Int) (ai:List V):(Int)→Option ((Int) ⊕ (Int × Bool)):=fun i=>A8 C a j ai i (fun y=>some (.inl y)) (fun r=>some (.inr r))
noncomputable def wK (C:ag) (a i:Int) (ai:List V) (j:Int) {β:Type} (kn:Int→Option β) (kr:(Int × Bool)→Option β):Option β:=
 bif decide ((i:Int)≤j) then
  bif (decide (0≤j))&&(decide (j<(ai.length:Int))) then
  (ai[(j:Int).toNat]?).bind fun ug=>
  bif (decide (0≤a))&&(decide (a<(ai.length:Int))) then
   (ai[(a:Int).toNat]?).bind fun uh=>
   (C br [.int .i64 ((ug.cell 0).toInt),.int .i64 ((ug.cell 1).toInt),.int .i64 ((ug.cell 2).toInt),.int .i64 ((uh.cell 0).toInt),.int .i64 ((uh.cell 1).toInt),.int .i64 ((uh.cell 2).toInt)]).bind fun FT=>
   bif !(decide ((((V.nth FT 0).toInt):Int)<0)) then
   kn (IntKind.wrap .i64 (j-1))
   else
   kr (j,!(decide ((((V.nth FT 0).toInt):Int)<0)))
  else none
  else none
 else
  kr (j,false)
noncomputable def wL (C:ag) (a i:Int) (ai:List V):(Int)→Option ((Int) ⊕ (Int × Bool)):=fun j=>wK C a i ai j (fun y=>some (.inl y)) (fun r=>some (.inr r))
noncomputable def Ba (C:ag) (a i j:Int) (ai:List V) {β:Type} (kn:(Int × Int × (List V))→Option β) (kr:(Int × Int × Bool × (List V))→Option β):Option β:=
 (Loop (A9 C a j ai) i).bind (un fun (ky:Int) (acq:Bool)=>
  (Loop (wL C a ky ai) j).bind (un fun (oA:Int) (afd:Bool)=>
   bif decide ((ky:Int)>oA) then
    kr (ky,oA,decide ((ky:Int)>oA),ai)
   else
    bif (decide (0≤oA))&&(decide (oA<(ai.length:Int))) then
    (ai[(oA:Int).toNat]?).bind fun qH=>
    bif (decide (0≤ky))&&(decide (ky<(ai.length:Int))) then
     (ai[(ky:Int).toNat]?).bind fun Ly=>
     bif (decide (0≤ky))&&(decide (ky<(ai.length:Int))) then
     (ai[(ky:Int).toNat]?).bind fun x35=>
     bif (decide (0≤oA))&&(decide (oA<((ai.set ((ky:Int).toNat) (.agg [.int .i64 ((qH.cell 0).toInt),.int .i64 ((qH.cell 1).toInt),.int .i64 ((qH.cell 2).toInt)])).length:Int))) then
      ((ai.set ((ky:Int).toNat) (.agg [.int .i64 ((qH.cell 0).toInt),.int .i64 ((qH.cell 1).toInt),.int .i64 ((qH.cell 2).toInt)]))[(oA:Int).toNat]?).bind fun x36=>
      kn (IntKind.wrap .i64 (ky+1),IntKind.wrap .i64 (oA-1),(ai.set ((ky:Int).toNat) (.agg [.int .i64 ((qH.cell 0).toInt),.int .i64 ((qH.cell 1).toInt),.int .i64 ((qH.cell 2).toInt)])).set ((oA:Int).toNat) (.agg [.int .i64 ((Ly.cell 0).toInt),.int .i64 ((Ly.cell 1).toInt),.int .i64 ((Ly.cell 2).toInt)]))
     else none
     else none
    else none
    else none))
noncomputable def wM (C:ag) (a:Int):(Int × Int × (List V))→Option ((Int × Int × (List V)) ⊕ (Int × Int × Bool × (List V))):=un fun i=>un fun j ai=>Ba C a i j ai (fun y=>some (.inl y)) (fun r=>some (.inr r))
noncomputable def Ud (C:ag):ch:=fun β n ds k=>
 bif Nat.beq n 49 then bq Kk [false,true,false,false] [[1,0,3,0,4]] (@A6 C) ds k else
 bif Nat.beq n 81 then bq Kl [false,false,true,false] [[1,2,0,0,4]] (@wI C) ds k else
 bif Nat.beq n 209 then bq Km [false,true,false,false] [[1,0,3,0,4]] (@A8 C) ds k else
 bif Nat.beq n 241 then bq Kn [false,false,true,false] [[1,2,0,0,4]] (@wK C) ds k else
 bif Nat.beq n 210 then bq Ko [false,true,true,true] [[1,0,0,0,0]] (@Ba C) ds k else
 none
abbrev Bb (C:ag) (b:cd):Prop:=cf Tryd.prog aw C (Ud C) 181 (cG Tryd.prog (aw.aU 181)) (aw.sin 181).aZ.length b
theorem afe (C:ag):Bb C (.loop (ar [1,1,1,0,0,0] pq)):=
 bu Kk [false,true,false,false] [[1,0,3,0,4]] (@A6 C) (by kernel_rfl) (aR (bs:=[]) (by kernel_rfl) av) (fun ds=>by kernel_rfl) (fun i x=>by kernel_rfl) (fun i x β k=>by kernel_rfl) (fun β ds k=>by kernel_rfl)
theorem aff (C:ag):Bb C (.loop (ar [1,1,1,1,0,0,0] pq)):=
 bu Kl [false,false,true,false] [[1,2,0,0,4]] (@wI C) (by kernel_rfl) (aR (bs:=[]) (by kernel_rfl) av) (fun ds=>by kernel_rfl) (fun i x=>by kernel_rfl) (fun i x β k=>by kernel_rfl) (fun β ds k=>by kernel_rfl)
theorem afg (C:ag):Bb C (.loop (ar [1,1,1,1,1,1,1,1,1,0,0,0,0,0,0,0] pq)):=
 bu Km [false,true,false,false] [[1,0,3,0,4]] (@A8 C) (by kernel_rfl) (aR (bs:=[]) (by kernel_rfl) av) (fun ds=>by kernel_rfl) (fun i x=>by kernel_rfl) (fun i x β k=>by kernel_rfl) (fun β ds k=>by kernel_rfl)
theorem afh (C:ag):Bb C (.loop (ar [1,1,1,1,1,1,1,1,1,0,0,0,0,1,0,0,0] pq)):=
 bu Kn [false,false,true,false] [[1,2,0,0,4]] (@wK C) (by kernel_rfl) (aR (bs:=[]) (by kernel_rfl) av) (fun ds=>by kernel_rfl) (fun i x=>by kernel_rfl) (fun i x β k=>by kernel_rfl) (fun β ds k=>by kernel_rfl)
theorem afi (C:ag):Bb C (.loop (ar [1,1,1,1,1,1,1,1,1,0,0,0] pq)):=
 bu Ko [false,true,true,true] [[1,0,0,0,0]] (@Ba C) (by kernel_rfl) (aR (bs:=[.loop (ar [1,1,1,1,1,1,1,1,1,0,0,0,0,0,0,0] pq),.loop (ar [1,1,1,1,1,1,1,1,1,0,0,0,0,1,0,0,0] pq)]) (by kernel_rfl) (bd (afg C) (bd (afh C) av))) (fun ds=>by kernel_rfl) (fun i x=>by kernel_rfl) (fun i x β k=>by kernel_rfl) (fun β ds k=>by kernel_rfl)
noncomputable def Ue (C:ag) (a b' pivot:Int) (ai:List V):Option (List V):=
 bif (decide (0≤pivot))&&(decide (pivot<(ai.length:Int))) then
  (ai[(pivot:Int).toNat]?).bind fun x1=>
  bif (decide (0≤a))&&(decide (a<(ai.length:Int))) then
  (ai[(a:Int).toNat]?).bind fun x2=>
  bif (decide (0≤a))&&(decide (a<(ai.length:Int))) then
   (ai[(a:Int).toNat]?).bind fun x3=>
   bif (decide (0≤pivot))&&(decide (pivot<((ai.set ((a:Int).toNat) (.agg [.int .i64 ((x1.cell 0).toInt),.int .i64 ((x1.cell 1).toInt),.int .i64 ((x1.cell 2).toInt)])).length:Int))) then
   ((ai.set ((a:Int).toNat) (.agg [.int .i64 ((x1.cell 0).toInt),.int .i64 ((x1.cell 1).toInt),.int .i64 ((x1.cell 2).toInt)]))[(pivot:Int).toNat]?).bind fun x4=>
   (Loop (A7 C a (IntKind.wrap .i64 (b'-1)) ((ai.set ((a:Int).toNat) (.agg [.int .i64 ((x1.cell 0).toInt),.int .i64 ((x1.cell 1).toInt),.int .i64 ((x1.cell 2).toInt)])).set ((pivot:Int).toNat) (.agg [.int .i64 ((x2.cell 0).toInt),.int .i64 ((x2.cell 1).toInt),.int .i64 ((x2.cell 2).toInt)]))) (IntKind.wrap .i64 (a+1))).bind (un fun (ff:Int) (pf:Bool)=>
    (Loop (wJ C a ff ((ai.set ((a:Int).toNat) (.agg [.int .i64 ((x1.cell 0).toInt),.int .i64 ((x1.cell 1).toInt),.int .i64 ((x1.cell 2).toInt)])).set ((pivot:Int).toNat) (.agg [.int .i64 ((x2.cell 0).toInt),.int .i64 ((x2.cell 1).toInt),.int .i64 ((x2.cell 2).toInt)]))) (IntKind.wrap .i64 (b'-1))).bind (un fun (ez:Int) (zB:Bool)=>
     bif decide ((ff:Int)>ez) then
      bif (decide (0≤a))&&(decide (a<(((ai.set ((a:Int).toNat) (.agg [.int .i64 ((x1.cell 0).toInt),.int .i64 ((x1.cell 1).toInt),.int .i64 ((x1.cell 2).toInt)])).set ((pivot:Int).toNat) (.agg [.int .i64 ((x2.cell 0).toInt),.int .i64 ((x2.cell 1).toInt),.int .i64 ((x2.cell 2).toInt)])).length:Int))) then
      (((ai.set ((a:Int).toNat) (.agg [.int .i64 ((x1.cell 0).toInt),.int .i64 ((x1.cell 1).toInt),.int .i64 ((x1.cell 2).toInt)])).set ((pivot:Int).toNat) (.agg [.int .i64 ((x2.cell 0).toInt),.int .i64 ((x2.cell 1).toInt),.int .i64 ((x2.cell 2).toInt)]))[(a:Int).toNat]?).bind fun fU=>
      bif (decide (0≤ez))&&(decide (ez<(((ai.set ((a:Int).toNat) (.agg [.int .i64 ((x1.cell 0).toInt),.int .i64 ((x1.cell 1).toInt),.int .i64 ((x1.cell 2).toInt)])).set ((pivot:Int).toNat) (.agg [.int .i64 ((x2.cell 0).toInt),.int .i64 ((x2.cell 1).toInt),.int .i64 ((x2.cell 2).toInt)])).length:Int))) then
       (((ai.set ((a:Int).toNat) (.agg [.int .i64 ((x1.cell 0).toInt),.int .i64 ((x1.cell 1).toInt),.int .i64 ((x1.cell 2).toInt)])).set ((pivot:Int).toNat) (.agg [.int .i64 ((x2.cell 0).toInt),.int .i64 ((x2.cell 1).toInt),.int .i64 ((x2.cell 2).toInt)]))[(ez:Int).toNat]?).bind fun gu=>
       bif (decide (0≤ez))&&(decide (ez<(((ai.set ((a:Int).toNat) (.agg [.int .i64 ((x1.cell 0).toInt),.int .i64 ((x1.cell 1).toInt),.int .i64 ((x1.cell 2).toInt)])).set ((pivot:Int).toNat) (.agg [.int .i64 ((x2.cell 0).toInt),.int .i64 ((x2.cell 1).toInt),.int .i64 ((x2.cell 2).toInt)])).length:Int))) then
       (((ai.set ((a:Int).toNat) (.agg [.int .i64 ((x1.cell 0).toInt),.int .i64 ((x1.cell 1).toInt),.int .i64 ((x1.cell 2).toInt)])).set ((pivot:Int).toNat) (.agg [.int .i64 ((x2.cell 0).toInt),.int .i64 ((x2.cell 1).toInt),.int .i64 ((x2.cell 2).toInt)]))[(ez:Int).toNat]?).bind fun pk=>
       bif (decide (0≤a))&&(decide (a<((((ai.set ((a:Int).toNat) (.agg [.int .i64 ((x1.cell 0).toInt),.int .i64 ((x1.cell 1).toInt),.int .i64 ((x1.cell 2).toInt)])).set ((pivot:Int).toNat) (.agg [.int .i64 ((x2.cell 0).toInt),.int .i64 ((x2.cell 1).toInt),.int .i64 ((x2.cell 2).toInt)])).set ((ez:Int).toNat) (.agg [.int .i64 ((fU.cell 0).toInt),.int .i64 ((fU.cell 1).toInt),.int .i64 ((fU.cell 2).toInt)])).length:Int))) then
        ((((ai.set ((a:Int).toNat) (.agg [.int .i64 ((x1.cell 0).toInt),.int .i64 ((x1.cell 1).toInt),.int .i64 ((x1.cell 2).toInt)])).set ((pivot:Int).toNat) (.agg [.int .i64 ((x2.cell 0).toInt),.int .i64 ((x2.cell 1).toInt),.int .i64 ((x2.cell 2).toInt)])).set ((ez:Int).toNat) (.agg [.int .i64 ((fU.cell 0).toInt),.int .i64 ((fU.cell 1).toInt),.int .i64 ((fU.cell 2).toInt)]))[(a:Int).toNat]?).bind fun rP=>
        some [.int .i64 ez,.bool true,.list af ((((ai.set ((a:Int).toNat) (.agg [.int .i64 ((x1.cell 0).toInt),.int .i64 ((x1.cell 1).toInt),.int .i64 ((x1.cell 2).toInt)])).set ((pivot:Int).toNat) (.agg [.int .i64 ((x2.cell 0).toInt),.int .i64 ((x2.cell 1).toInt),.int .i64 ((x2.cell 2).toInt)])).set ((ez:Int).toNat) (.agg [.int .i64 ((fU.cell 0).toInt),.int .i64 ((fU.cell 1).toInt),.int .i64 ((fU.cell 2).toInt)])).set ((a:Int).toNat) (.agg [.int .i64 ((gu.cell 0).toInt),.int .i64 ((gu.cell 1).toInt),.int .i64 ((gu.cell 2).toInt)]))]
       else none
       else none
      else none
      else none
     else
      bif (decide (0≤ez))&&(decide (ez<(((ai.set ((a:Int).toNat) (.agg [.int .i64 ((x1.cell 0).toInt),.int .i64 ((x1.cell 1).toInt),.int .i64 ((x1.cell 2).toInt)])).set ((pivot:Int).toNat) (.agg [.int .i64 ((x2.cell 0).toInt),.int .i64 ((x2.cell 1).toInt),.int .i64 ((x2.cell 2).toInt)])).length:Int))) then
      (((ai.set ((a:Int).toNat) (.agg [.int .i64 ((x1.cell 0).toInt),.int .i64 ((x1.cell 1).toInt),.int .i64 ((x1.cell 2).toInt)])).set ((pivot:Int).toNat) (.agg [.int .i64 ((x2.cell 0).toInt),.int .i64 ((x2.cell 1).toInt),.int .i64 ((x2.cell 2).toInt)]))[(ez:Int).toNat]?).bind fun lp=>
      bif (decide (0≤ff))&&(decide (ff<(((ai.set ((a:Int).toNat) (.agg [.int .i64 ((x1.cell 0).toInt),.int .i64 ((x1.cell 1).toInt),.int .i64 ((x1.cell 2).toInt)])).set ((pivot:Int).toNat) (.agg [.int .i64 ((x2.cell 0).toInt),.int .i64 ((x2.cell 1).toInt),.int .i64 ((x2.cell 2).toInt)])).length:Int))) then
       (((ai.set ((a:Int).toNat) (.agg [.int .i64 ((x1.cell 0).toInt),.int .i64 ((x1.cell 1).toInt),.int .i64 ((x1.cell 2).toInt)])).set ((pivot:Int).toNat) (.agg [.int .i64 ((x2.cell 0).toInt),.int .i64 ((x2.cell 1).toInt),.int .i64 ((x2.cell 2).toInt)]))[(ff:Int).toNat]?).bind fun qy=>
       bif (decide (0≤ff))&&(decide (ff<(((ai.set ((a:Int).toNat) (.agg [.int .i64 ((x1.cell 0).toInt),.int .i64 ((x1.cell 1).toInt),.int .i64 ((x1.cell 2).toInt)])).set ((pivot:Int).toNat) (.agg [.int .i64 ((x2.cell 0).toInt),.int .i64 ((x2.cell 1).toInt),.int .i64 ((x2.cell 2).toInt)])).length:Int))) then
       (((ai.set ((a:Int).toNat) (.agg [.int .i64 ((x1.cell 0).toInt),.int .i64 ((x1.cell 1).toInt),.int .i64 ((x1.cell 2).toInt)])).set ((pivot:Int).toNat) (.agg [.int .i64 ((x2.cell 0).toInt),.int .i64 ((x2.cell 1).toInt),.int .i64 ((x2.cell 2).toInt)]))[(ff:Int).toNat]?).bind fun Aq=>
       bif (decide (0≤ez))&&(decide (ez<((((ai.set ((a:Int).toNat) (.agg [.int .i64 ((x1.cell 0).toInt),.int .i64 ((x1.cell 1).toInt),.int .i64 ((x1.cell 2).toInt)])).set ((pivot:Int).toNat) (.agg [.int .i64 ((x2.cell 0).toInt),.int .i64 ((x2.cell 1).toInt),.int .i64 ((x2.cell 2).toInt)])).set ((ff:Int).toNat) (.agg [.int .i64 ((lp.cell 0).toInt),.int .i64 ((lp.cell 1).toInt),.int .i64 ((lp.cell 2).toInt)])).length:Int))) then
        ((((ai.set ((a:Int).toNat) (.agg [.int .i64 ((x1.cell 0).toInt),.int .i64 ((x1.cell 1).toInt),.int .i64 ((x1.cell 2).toInt)])).set ((pivot:Int).toNat) (.agg [.int .i64 ((x2.cell 0).toInt),.int .i64 ((x2.cell 1).toInt),.int .i64 ((x2.cell 2).toInt)])).set ((ff:Int).toNat) (.agg [.int .i64 ((lp.cell 0).toInt),.int .i64 ((lp.cell 1).toInt),.int .i64 ((lp.cell 2).toInt)]))[(ez:Int).toNat]?).bind fun x22=>
        (Loop (wM C a) (IntKind.wrap .i64 (ff+1),IntKind.wrap .i64 (ez-1),(((ai.set ((a:Int).toNat) (.agg [.int .i64 ((x1.cell 0).toInt),.int .i64 ((x1.cell 1).toInt),.int .i64 ((x1.cell 2).toInt)])).set ((pivot:Int).toNat) (.agg [.int .i64 ((x2.cell 0).toInt),.int .i64 ((x2.cell 1).toInt),.int .i64 ((x2.cell 2).toInt)])).set ((ff:Int).toNat) (.agg [.int .i64 ((lp.cell 0).toInt),.int .i64 ((lp.cell 1).toInt),.int .i64 ((lp.cell 2).toInt)])).set ((ez:Int).toNat) (.agg [.int .i64 ((qy.cell 0).toInt),.int .i64 ((qy.cell 1).toInt),.int .i64 ((qy.cell 2).toInt)]))).bind (un fun (aiM:Int)=>un fun (pt:Int)=>un fun (aiN:Bool) (jw:List V)=>
         bif (decide (0≤a))&&(decide (a<(jw.length:Int))) then
         (jw[(a:Int).toNat]?).bind fun mn=>
         bif (decide (0≤pt))&&(decide (pt<(jw.length:Int))) then
          (jw[(pt:Int).toNat]?).bind fun ui=>
          bif (decide (0≤pt))&&(decide (pt<(jw.length:Int))) then
          (jw[(pt:Int).toNat]?).bind fun x43=>
          bif (decide (0≤a))&&(decide (a<((jw.set ((pt:Int).toNat) (.agg [.int .i64 ((mn.cell 0).toInt),.int .i64 ((mn.cell 1).toInt),.int .i64 ((mn.cell 2).toInt)])).length:Int))) then
           ((jw.set ((pt:Int).toNat) (.agg [.int .i64 ((mn.cell 0).toInt),.int .i64 ((mn.cell 1).toInt),.int .i64 ((mn.cell 2).toInt)]))[(a:Int).toNat]?).bind fun x44=>
           some [.int .i64 pt,.bool false,.list af ((jw.set ((pt:Int).toNat) (.agg [.int .i64 ((mn.cell 0).toInt),.int .i64 ((mn.cell 1).toInt),.int .i64 ((mn.cell 2).toInt)])).set ((a:Int).toNat) (.agg [.int .i64 ((ui.cell 0).toInt),.int .i64 ((ui.cell 1).toInt),.int .i64 ((ui.cell 2).toInt)]))]
          else none
          else none
         else none
         else none)
       else none
       else none
      else none
      else none))
   else none
  else none
  else none
 else none
theorem afj {a b' pivot:Int} {ai:List V} {r:Option (List V)} (h:Ue CC a b' pivot ai=r):CC od [.int .i64 a,.int .i64 b',.int .i64 pivot,.list af ai]=r:=
 bj (key:=181) (L:=Ud CC) (bs:=[.loop (ar [1,1,1,0,0,0] pq),.loop (ar [1,1,1,1,0,0,0] pq),.loop (ar [1,1,1,1,1,1,1,1,1,0,0,0] pq)]) (by kernel_rfl) (bd (afe CC) (bd (aff CC) (bd (afi CC) av))) (Eq.trans (by kernel_rfl) h)
end Go.AM
set_option maxRecDepth 100000
namespace Go.AM
open Go.Proofs
noncomputable abbrev wO:Code:=cx Tryd.prog (aw.aU 182)
noncomputable def Bc (C:ag) (a j:Int) (ai:List V) (i:Int) {β:Type} (kn:Int→Option β) (kr:(Int × Bool)→Option β):Option β:=
 bif decide ((i:Int)≤j) then
  bif (decide (0≤a))&&(decide (a<(ai.length:Int))) then
  (ai[(a:Int).toNat]?).bind fun x5=>
  bif (decide (0≤i))&&(decide (i<(ai.length:Int))) then
   (ai[(i:Int).toNat]?).bind fun x6=>
   (C br [.int .i64 ((x5.cell 0).toInt),.int .i64 ((x5.cell 1).toInt),.int .i64 ((x5.cell 2).toInt),.int .i64 ((x6.cell 0).toInt),.int .i64 ((x6.cell 1).toInt),.int .i64 ((x6.cell 2).toInt)]).bind fun r7=>
   bif !(decide ((((V.nth r7 0).toInt):Int)<0)) then
   kn (IntKind.wrap .i64 (i+1))
   else
   kr (i,!(decide ((((V.nth r7 0).toInt):Int)<0)))
  else none
  else none
 else
  kr (i,false)
noncomputable def Bd (C:ag) (a j:Int) (ai:List V):(Int)→Option ((Int) ⊕ (Int × Bool)):=fun i=>Bc C a j ai i (fun y=>some (.inl y)) (fun r=>some (.inr r))
noncomputable def wP (C:ag) (a i:Int) (ai:List V) (j:Int) {β:Type} (kn:Int→Option β) (kr:(Int × Bool)→Option β):Option β:=
 bif decide ((i:Int)≤j) then
  bif (decide (0≤a))&&(decide (a<(ai.length:Int))) then
  (ai[(a:Int).toNat]?).bind fun gG=>
  bif (decide (0≤j))&&(decide (j<(ai.length:Int))) then
   (ai[(j:Int).toNat]?).bind fun eY=>
   (C br [.int .i64 ((gG.cell 0).toInt),.int .i64 ((gG.cell 1).toInt),.int .i64 ((gG.cell 2).toInt),.int .i64 ((eY.cell 0).toInt),.int .i64 ((eY.cell 1).toInt),.int .i64 ((eY.cell 2).toInt)]).bind fun kB=>
   bif decide ((((V.nth kB 0).toInt):Int)<0) then
   kn (IntKind.wrap .i64 (j-1))
   else
   kr (j,decide ((((V.nth kB 0).toInt):Int)<0))
  else none
  else none
 else
  kr (j,false)
noncomputable def wQ (C:ag) (a i:Int) (ai:List V):(Int)→Option ((Int) ⊕ (Int × Bool)):=fun j=>wP C a i ai j (fun y=>some (.inl y)) (fun r=>some (.inr r))
noncomputable def Be (C:ag) (a i j:Int) (ai:List V) {β:Type} (kn:(Int × Int × (List V))→Option β) (kr:(Int × Int × Bool × (List V))→Option β):Option β:=
 (Loop (Bd C a j ai) i).bind (un fun (ff:Int) (pf:Bool)=>
  (Loop (wQ C a ff ai) j).bind (un fun (ez:Int) (zB:Bool)=>
   bif decide ((ff:Int)>ez) then
    kr (ff,ez,decide ((ff:Int)>ez),ai)
   else
    bif (decide (0≤ez))&&(decide (ez<(ai.length:Int))) then
    (ai[(ez:Int).toNat]?).bind fun fU=>
    bif (decide (0≤ff))&&(decide (ff<(ai.length:Int))) then
     (ai[(ff:Int).toNat]?).bind fun gu=>
     bif (decide (0≤ff))&&(decide (ff<(ai.length:Int))) then
     (ai[(ff:Int).toNat]?).bind fun pk=>
     bif (decide (0≤ez))&&(decide (ez<((ai.set ((ff:Int).toNat) (.agg [.int .i64 ((fU.cell 0).toInt),.int .i64 ((fU.cell 1).toInt),.int .i64 ((fU.cell 2).toInt)])).length:Int))) then
      ((ai.set ((ff:Int).toNat) (.agg [.int .i64 ((fU.cell 0).toInt),.int .i64 ((fU.cell 1).toInt),.int .i64 ((fU.cell 2).toInt)]))[(ez:Int).toNat]?).bind fun rP=>
      kn (IntKind.wrap .i64 (ff+1),IntKind.wrap .i64 (ez-1),(ai.set ((ff:Int).toNat) (.agg [.int .i64 ((fU.cell 0).toInt),.int .i64 ((fU.cell 1).toInt),.int .i64 ((fU.cell 2).toInt)])).set ((ez:Int).toNat) (.agg [.int .i64 ((gu.cell 0).toInt),.int .i64 ((gu.cell 1).toInt),.int .i64 ((gu.cell 2).toInt)]))
     else none
     else none
    else none
    else none))
noncomputable def wR (C:ag) (a:Int):(Int × Int × (List V))→Option ((Int × Int × (List V)) ⊕ (Int × Int × Bool × (List V))):=un fun i=>un fun j ai=>Be C a i j ai (fun y=>some (.inl y)) (fun r=>some (.inr r))
noncomputable def Uf (C:ag):ch:=fun β n ds k=>
 bif Nat.beq n 49 then bq Kp [false,true,false,false] [[1,0,3,0,4]] (@Bc C) ds k else
 bif Nat.beq n 81 then bq Kq [false,false,true,false] [[1,2,0,0,4]] (@wP C) ds k else
 bif Nat.beq n 50 then bq Kr [false,true,true,true] [[1,0,0,0,0]] (@Be C) ds k else
 none
abbrev LA (C:ag) (b:cd):Prop:=cf Tryd.prog aw C (Uf C) 182 (cG Tryd.prog (aw.aU 182)) (aw.sin 182).aZ.length b
theorem afk (C:ag):LA C (.loop (ar [1,1,1,0,0,0,0,0,0,0] wO)):=
 bu Kp [false,true,false,false] [[1,0,3,0,4]] (@Bc C) (by kernel_rfl) (aR (bs:=[]) (by kernel_rfl) av) (fun ds=>by kernel_rfl) (fun i x=>by kernel_rfl) (fun i x β k=>by kernel_rfl) (fun β ds k=>by kernel_rfl)
theorem afl (C:ag):LA C (.loop (ar [1,1,1,0,0,0,0,1,0,0,0] wO)):=
 bu Kq [false,false,true,false] [[1,2,0,0,4]] (@wP C) (by kernel_rfl) (aR (bs:=[]) (by kernel_rfl) av) (fun ds=>by kernel_rfl) (fun i x=>by kernel_rfl) (fun i x β k=>by kernel_rfl) (fun β ds k=>by kernel_rfl)
theorem afm (C:ag):LA C (.loop (ar [1,1,1,0,0,0] wO)):=
 bu Kr [false,true,true,true] [[1,0,0,0,0]] (@Be C) (by kernel_rfl) (aR (bs:=[.loop (ar [1,1,1,0,0,0,0,0,0,0] wO),.loop (ar [1,1,1,0,0,0,0,1,0,0,0] wO)]) (by kernel_rfl) (bd (afk C) (bd (afl C) av))) (fun ds=>by kernel_rfl) (fun i x=>by kernel_rfl) (fun i x β k=>by kernel_rfl) (fun β ds k=>by kernel_rfl)
noncomputable def Ug (C:ag) (a b' pivot:Int) (ai:List V):Option (List V):=
 bif (decide (0≤pivot))&&(decide (pivot<(ai.length:Int))) then
  (ai[(pivot:Int).toNat]?).bind fun x1=>
  bif (decide (0≤a))&&(decide (a<(ai.length:Int))) then
  (ai[(a:Int).toNat]?).bind fun x2=>
  bif (decide (0≤a))&&(decide (a<(ai.length:Int))) then
   (ai[(a:Int).toNat]?).bind fun x3=>
   bif (decide (0≤pivot))&&(decide (pivot<((ai.set ((a:Int).toNat) (.agg [.int .i64 ((x1.cell 0).toInt),.int .i64 ((x1.cell 1).toInt),.int .i64 ((x1.cell 2).toInt)])).length:Int))) then
   ((ai.set ((a:Int).toNat) (.agg [.int .i64 ((x1.cell 0).toInt),.int .i64 ((x1.cell 1).toInt),.int .i64 ((x1.cell 2).toInt)]))[(pivot:Int).toNat]?).bind fun x4=>
   (Loop (wR C a) (IntKind.wrap .i64 (a+1),IntKind.wrap .i64 (b'-1),(ai.set ((a:Int).toNat) (.agg [.int .i64 ((x1.cell 0).toInt),.int .i64 ((x1.cell 1).toInt),.int .i64 ((x1.cell 2).toInt)])).set ((pivot:Int).toNat) (.agg [.int .i64 ((x2.cell 0).toInt),.int .i64 ((x2.cell 1).toInt),.int .i64 ((x2.cell 2).toInt)]))).bind (un fun (afn:Int)=>un fun (aiO:Int)=>un fun (aiP:Bool) (afo:List V)=>
    some [.int .i64 afn,.list af afo])
   else none
  else none
  else none
 else none
theorem afp {a b' pivot:Int} {ai:List V} {r:Option (List V)} (h:Ug CC a b' pivot ai=r):CC vS [.int .i64 a,.int .i64 b',.int .i64 pivot,.list af ai]=r:=
 bj (key:=182) (L:=Uf CC) (bs:=[.loop (ar [1,1,1,0,0,0] wO)]) (by kernel_rfl) (bd (afm CC) av) (Eq.trans (by kernel_rfl) h)
end Go.AM
set_option maxRecDepth 100000
namespace Go.AM
open Go.Proofs
noncomputable abbrev nk:Code:=cx Tryd.prog (aw.aU 180)
noncomputable def Bf (C:ag) (a b' j:Int) (ai:List V) (i:Int) {β:Type} (kn:Int→Option β) (kr:(Int × Bool)→Option β):Option β:=
 bif decide ((i:Int)<b') then
  bif (decide (0≤i))&&(decide (i<(ai.length:Int))) then
  (ai[(i:Int).toNat]?).bind fun x1=>
  bif (decide (0≤(IntKind.wrap .i64 (i-1))))&&(decide ((IntKind.wrap .i64 (i-1))<(ai.length:Int))) then
   (ai[(IntKind.wrap .i64 (i-1):Int).toNat]?).bind fun x2=>
   (C br [.int .i64 ((x1.cell 0).toInt),.int .i64 ((x1.cell 1).toInt),.int .i64 ((x1.cell 2).toInt),.int .i64 ((x2.cell 0).toInt),.int .i64 ((x2.cell 1).toInt),.int .i64 ((x2.cell 2).toInt)]).bind fun r3=>
   bif !(decide ((((V.nth r3 0).toInt):Int)<0)) then
   kn (IntKind.wrap .i64 (i+1))
   else
   kr (i,!(decide ((((V.nth r3 0).toInt):Int)<0)))
  else none
  else none
 else
  kr (i,false)
noncomputable def Bg (C:ag) (a b' j:Int) (ai:List V):(Int)→Option ((Int) ⊕ (Int × Bool)):=fun i=>Bf C a b' j ai i (fun y=>some (.inl y)) (fun r=>some (.inr r))
noncomputable def Bh (C:ag) (a b' i j j':Int) (ai:List V) {β:Type} (kn:(Int × (List V))→Option β) (kr:(Int × (List V))→Option β):Option β:=
 bif decide ((j':Int)≥1) then
  bif (decide (0≤j'))&&(decide (j'<(ai.length:Int))) then
  (ai[(j':Int).toNat]?).bind fun gG=>
  bif (decide (0≤(IntKind.wrap .i64 (j'-1))))&&(decide ((IntKind.wrap .i64 (j'-1))<(ai.length:Int))) then
   (ai[(IntKind.wrap .i64 (j'-1):Int).toNat]?).bind fun eY=>
   (C br [.int .i64 ((gG.cell 0).toInt),.int .i64 ((gG.cell 1).toInt),.int .i64 ((gG.cell 2).toInt),.int .i64 ((eY.cell 0).toInt),.int .i64 ((eY.cell 1).toInt),.int .i64 ((eY.cell 2).toInt)]).bind fun kB=>
   bif !(decide ((((V.nth kB 0).toInt):Int)<0)) then
   kr (j',ai)
   else
   bif (decide (0≤(IntKind.wrap .i64 (j'-1))))&&(decide ((IntKind.wrap .i64 (j'-1))<(ai.length:Int))) then
    (ai[(IntKind.wrap .i64 (j'-1):Int).toNat]?).bind fun gI=>
    bif (decide (0≤j'))&&(decide (j'<(ai.length:Int))) then
    (ai[(j':Int).toNat]?).bind fun gJ=>
    bif (decide (0≤j'))&&(decide (j'<(ai.length:Int))) then
     (ai[(j':Int).toNat]?).bind fun fU=>
     bif (decide (0≤(IntKind.wrap .i64 (j'-1))))&&(decide ((IntKind.wrap .i64 (j'-1))<((ai.set ((j':Int).toNat) (.agg [.int .i64 ((gI.cell 0).toInt),.int .i64 ((gI.cell 1).toInt),.int .i64 ((gI.cell 2).toInt)])).length:Int))) then
     ((ai.set ((j':Int).toNat) (.agg [.int .i64 ((gI.cell 0).toInt),.int .i64 ((gI.cell 1).toInt),.int .i64 ((gI.cell 2).toInt)]))[(IntKind.wrap .i64 (j'-1):Int).toNat]?).bind fun gu=>
     kn (IntKind.wrap .i64 (j'-1),(ai.set ((j':Int).toNat) (.agg [.int .i64 ((gI.cell 0).toInt),.int .i64 ((gI.cell 1).toInt),.int .i64 ((gI.cell 2).toInt)])).set ((IntKind.wrap .i64 (j'-1):Int).toNat) (.agg [.int .i64 ((gJ.cell 0).toInt),.int .i64 ((gJ.cell 1).toInt),.int .i64 ((gJ.cell 2).toInt)]))
     else none
    else none
    else none
   else none
  else none
  else none
 else
  kr (j',ai)
noncomputable def Bi (C:ag) (a b' i j:Int):(Int × (List V))→Option ((Int × (List V)) ⊕ (Int × (List V))):=un fun j' ai=>Bh C a b' i j j' ai (fun y=>some (.inl y)) (fun r=>some (.inr r))
noncomputable def FU (C:ag) (a b' i j:Int) (t65:Bool) (ai:List V) {β:Type} (kr:(List V)→Option β):Option β:=
 bif t65 then
  (Loop (Bi C a b' i j) (IntKind.wrap .i64 (i-1),ai)).bind (un fun (aiQ:Int) (afq:List V)=>
   kr afq)
 else
  kr ai
noncomputable def Bj (C:ag) (a b' i j j':Int) (ai:List V) {β:Type} (kn:(Int × (List V))→Option β) (kr:(Int × (List V))→Option β):Option β:=
 bif decide ((j':Int)<b') then
  bif (decide (0≤j'))&&(decide (j'<(ai.length:Int))) then
  (ai[(j':Int).toNat]?).bind fun qy=>
  bif (decide (0≤(IntKind.wrap .i64 (j'-1))))&&(decide ((IntKind.wrap .i64 (j'-1))<(ai.length:Int))) then
   (ai[(IntKind.wrap .i64 (j'-1):Int).toNat]?).bind fun Aq=>
   (C br [.int .i64 ((qy.cell 0).toInt),.int .i64 ((qy.cell 1).toInt),.int .i64 ((qy.cell 2).toInt),.int .i64 ((Aq.cell 0).toInt),.int .i64 ((Aq.cell 1).toInt),.int .i64 ((Aq.cell 2).toInt)]).bind fun jW=>
   bif !(decide ((((V.nth jW 0).toInt):Int)<0)) then
   kr (j',ai)
   else
   bif (decide (0≤(IntKind.wrap .i64 (j'-1))))&&(decide ((IntKind.wrap .i64 (j'-1))<(ai.length:Int))) then
    (ai[(IntKind.wrap .i64 (j'-1):Int).toNat]?).bind fun ln=>
    bif (decide (0≤j'))&&(decide (j'<(ai.length:Int))) then
    (ai[(j':Int).toNat]?).bind fun pr=>
    bif (decide (0≤j'))&&(decide (j'<(ai.length:Int))) then
     (ai[(j':Int).toNat]?).bind fun x25=>
     bif (decide (0≤(IntKind.wrap .i64 (j'-1))))&&(decide ((IntKind.wrap .i64 (j'-1))<((ai.set ((j':Int).toNat) (.agg [.int .i64 ((ln.cell 0).toInt),.int .i64 ((ln.cell 1).toInt),.int .i64 ((ln.cell 2).toInt)])).length:Int))) then
     ((ai.set ((j':Int).toNat) (.agg [.int .i64 ((ln.cell 0).toInt),.int .i64 ((ln.cell 1).toInt),.int .i64 ((ln.cell 2).toInt)]))[(IntKind.wrap .i64 (j'-1):Int).toNat]?).bind fun x26=>
     kn (IntKind.wrap .i64 (j'+1),(ai.set ((j':Int).toNat) (.agg [.int .i64 ((ln.cell 0).toInt),.int .i64 ((ln.cell 1).toInt),.int .i64 ((ln.cell 2).toInt)])).set ((IntKind.wrap .i64 (j'-1):Int).toNat) (.agg [.int .i64 ((pr.cell 0).toInt),.int .i64 ((pr.cell 1).toInt),.int .i64 ((pr.cell 2).toInt)]))
     else none
    else none
    else none
   else none
  else none
  else none
 else
  kr (j',ai)
noncomputable def Bk (C:ag) (a b' i j:Int):(Int × (List V))→Option ((Int × (List V)) ⊕ (Int × (List V))):=un fun j' ai=>Bj C a b' i j j' ai (fun y=>some (.inl y)) (fun r=>some (.inr r))
noncomputable def Bl (C:ag) (a b' i j:Int) (ai:List V) {β:Type} (kn:(Int × Int × (List V))→Option β) (kr:((Bool × (List V)) ⊕ (Int × Int × Bool × (List V)))→Option β):Option β:=
 bif decide ((j:Int)<5) then
  (Loop (Bg C a b' j ai) i).bind (un fun (fp:Int) (la:Bool)=>
   bif (fp:Int)==b' then
   kr (.inl (true,ai))
   else
   bif decide (((IntKind.wrap .i64 (b'-a)):Int)<50) then
    kr (.inl (false,ai))
   else
    bif (decide (0≤(IntKind.wrap .i64 (fp-1))))&&(decide ((IntKind.wrap .i64 (fp-1))<(ai.length:Int))) then
    (ai[(IntKind.wrap .i64 (fp-1):Int).toNat]?).bind fun x6=>
    bif (decide (0≤fp))&&(decide (fp<(ai.length:Int))) then
     (ai[(fp:Int).toNat]?).bind fun x7=>
     bif (decide (0≤fp))&&(decide (fp<(ai.length:Int))) then
     (ai[(fp:Int).toNat]?).bind fun x8=>
     bif (decide (0≤(IntKind.wrap .i64 (fp-1))))&&(decide ((IntKind.wrap .i64 (fp-1))<((ai.set ((fp:Int).toNat) (.agg [.int .i64 ((x6.cell 0).toInt),.int .i64 ((x6.cell 1).toInt),.int .i64 ((x6.cell 2).toInt)])).length:Int))) then
      ((ai.set ((fp:Int).toNat) (.agg [.int .i64 ((x6.cell 0).toInt),.int .i64 ((x6.cell 1).toInt),.int .i64 ((x6.cell 2).toInt)]))[(IntKind.wrap .i64 (fp-1):Int).toNat]?).bind fun x9=>
      FU C a b' fp j (decide (((IntKind.wrap .i64 (fp-a)):Int)≥2)) ((ai.set ((fp:Int).toNat) (.agg [.int .i64 ((x6.cell 0).toInt),.int .i64 ((x6.cell 1).toInt),.int .i64 ((x6.cell 2).toInt)])).set ((IntKind.wrap .i64 (fp-1):Int).toNat) (.agg [.int .i64 ((x7.cell 0).toInt),.int .i64 ((x7.cell 1).toInt),.int .i64 ((x7.cell 2).toInt)])) (fun (Uh:List V)=>
       bif decide (((IntKind.wrap .i64 (b'-fp)):Int)≥2) then
       (Loop (Bk C a b' fp j) (IntKind.wrap .i64 (fp+1),Uh)).bind (un fun (aiR:Int) (afr:List V)=>
        kn (fp,IntKind.wrap .i64 (j+1),afr))
       else
       kn (fp,IntKind.wrap .i64 (j+1),Uh))
     else none
     else none
    else none
    else none)
 else
  kr (.inr (i,j,decide ((j:Int)<5),ai))
noncomputable def rY (C:ag) (a b':Int):(Int × Int × (List V))→Option ((Int × Int × (List V)) ⊕ ((Bool × (List V)) ⊕ (Int × Int × Bool × (List V)))):=un fun i=>un fun j ai=>Bl C a b' i j ai (fun y=>some (.inl y)) (fun r=>some (.inr r))
noncomputable def Ui (C:ag):ch:=fun β n ds k=>
 bif Nat.beq n 81 then bq Kf [false,false,true,false,false] [[1,2,0,4,0,5]] (@Bf C) ds k else
 bif Nat.beq n 225 then bq Kg [false,false,false,false,true,true] [[1,2,3,4,0,0]] (@Bh C) ds k else
 bif Nat.beq n 1055 then ko Kh [[1,2,3,4,0]] (@FU C) ds k else
 bif Nat.beq n 321 then bq Ki [false,false,false,false,true,true] [[1,2,3,4,0,0]] (@Bj C) ds k else
 bif Nat.beq n 49 then bq Kj [false,false,true,true,true] [[0,0],[1,2,0,0,0,0]] (@Bl C) ds k else
 none
abbrev Bm (C:ag) (b:cd):Prop:=cf Tryd.prog aw C (Ui C) 180 (cG Tryd.prog (aw.aU 180)) (aw.sin 180).aZ.length b
theorem afs (C:ag):Bm C (.loop (ar [1,1,0,1,0,0,1,0,0,0,0,0] nk)):=
 bu Kf [false,false,true,false,false] [[1,2,0,4,0,5]] (@Bf C) (by kernel_rfl) (aR (bs:=[]) (by kernel_rfl) av) (fun ds=>by kernel_rfl) (fun i x=>by kernel_rfl) (fun i x β k=>by kernel_rfl) (fun β ds k=>by kernel_rfl)
theorem aft (C:ag):Bm C (.loop (ar [1,1,0,1,0,0,1,0,0,1,1,1,1,0,1,0,1,0,0] nk)):=
 bu Kg [false,false,false,false,true,true] [[1,2,3,4,0,0]] (@Bh C) (by kernel_rfl) (aR (bs:=[]) (by kernel_rfl) av) (fun ds=>by kernel_rfl) (fun i x=>by kernel_rfl) (fun i x β k=>by kernel_rfl) (fun β ds k=>by kernel_rfl)
theorem afu (C:ag):Bm C (.cond 65 (ar [1,1,0,1,0,0,1,0,0,1,1,1,1,0,1,0] nk) (ar [1,1,0,1,0,0,1,0,0,1,1,1,1,0,1,1] nk)):=
 kV Kh [[1,2,3,4,0]] (@FU C) (by kernel_rfl) (aR (bs:=[.loop (ar [1,1,0,1,0,0,1,0,0,1,1,1,1,0,1,0,1,0,0] nk)]) (by kernel_rfl) (bd (aft C) av)) (aR (bs:=[]) (by kernel_rfl) av) (fun ds=>by kernel_rfl) (fun i β k=>by kernel_rfl) (fun β ds k=>by kernel_rfl)
theorem afv (C:ag):Bm C (.loop (ar [1,1,0,1,0,0,1,0,0,1,1,1,1,1,1,0,1,0,0] nk)):=
 bu Ki [false,false,false,false,true,true] [[1,2,3,4,0,0]] (@Bj C) (by kernel_rfl) (aR (bs:=[]) (by kernel_rfl) av) (fun ds=>by kernel_rfl) (fun i x=>by kernel_rfl) (fun i x β k=>by kernel_rfl) (fun β ds k=>by kernel_rfl)
theorem afw (C:ag):Bm C (.loop (ar [1,1,0,1,0,0] nk)):=
 bu Kj [false,false,true,true,true] [[0,0],[1,2,0,0,0,0]] (@Bl C) (by kernel_rfl) (aR (bs:=[.loop (ar [1,1,0,1,0,0,1,0,0,0,0,0] nk),.cond 65 (ar [1,1,0,1,0,0,1,0,0,1,1,1,1,0,1,0] nk) (ar [1,1,0,1,0,0,1,0,0,1,1,1,1,0,1,1] nk),.loop (ar [1,1,0,1,0,0,1,0,0,1,1,1,1,1,1,0,1,0,0] nk)]) (by kernel_rfl) (bd (afs C) (bd (afu C) (bd (afv C) av)))) (fun ds=>by kernel_rfl) (fun i x=>by kernel_rfl) (fun i x β k=>by kernel_rfl) (fun β ds k=>by kernel_rfl)
noncomputable def Uj (C:ag) (a b':Int) (ai:List V):Option (List V):=
 (Loop (rY C a b') (IntKind.wrap .i64 (a+1),0,ai)).bind (cY (un fun (afx:Bool) (afy:List V)=>
  some [.bool afx,.list af afy]) (un fun (afz:Int)=>un fun (aiS:Int)=>un fun (aiT:Bool) (afA:List V)=>
  some [.bool false,.list af afA]))
theorem afB {a b':Int} {ai:List V} {r:Option (List V)} (h:Uj CC a b' ai=r):CC IN [.int .i64 a,.int .i64 b',.list af ai]=r:=
 bj (key:=180) (L:=Ui CC) (bs:=[.loop (ar [1,1,0,1,0,0] nk)]) (by kernel_rfl) (bd (afw CC) av) (Eq.trans (by kernel_rfl) h)
end Go.AM
set_option maxRecDepth 100000
set_option linter.unusedSimpArgs false
set_option maxHeartbeats 4000000
namespace Go.AM.SL
open Go.AM Go.Proofs Go.Sort
theorem wS (p:Ed→Bool) (d:Array Ed) (j i:Nat):scanUp p d j i=if i≤j then (if p d[i]! =true then scanUp p d j (i+1) else i) else i:=by
 conv=>lhs;rw[scanUp]
 by_cases h:i≤j
 ·rw[if_pos h];simp only[h,decide_true,Bool.true_and]
 ·rw[if_neg h,if_neg (by simp[h])]
theorem LB (p:Ed→Bool) (d:Array Ed) (i j:Nat):scanDown p d i (j+1)=if i≤j+1 then (if p d[j+1]! =true then scanDown p d i j else j+1) else j+1:=by
 conv=>lhs;rw[scanDown]
 by_cases h:i≤j+1
 ·rw[if_pos h];simp only[h,decide_true,Bool.true_and]
 ·rw[if_neg h,if_neg (by simp[h])]
theorem FV (d:Array Ed) (b i:Nat):scanSorted ay d b i=if i<b then (if bN d[i]! d[i-1]! <0 then i else scanSorted ay d b (i+1)) else i:=by
 conv=>lhs;rw[scanSorted]
 by_cases h:i<b
 ·rw[if_pos h];simp only[h,decide_true,Bool.true_and,qG]
  by_cases h2:bN d[i]! d[i-1]! <0
  ·rw[if_neg (not_not_intro h2),if_pos h2]
  ·rw[if_pos h2,if_neg h2]
 ·rw[if_neg h,if_neg (by simp[h])]
theorem Uk (j:Nat) (d:Array Ed):shiftDown ay (j+1) d=if bN d[j+1]! d[j]! <0 then shiftDown ay j (swp d (j+1) j) else d:=by
 conv=>lhs;rw[shiftDown]
 simp only[qG]
 by_cases h2:bN d[j+1]! d[j]! <0
 ·rw[if_neg (not_not_intro h2),if_pos h2]
 ·rw[if_pos h2,if_neg h2]
theorem FW (b j:Nat) (d:Array Ed):shiftUp ay b j d=if j<b then (if bN d[j]! d[j-1]! <0 then shiftUp ay b (j+1) (swp d j (j-1)) else d) else d:=by
 conv=>lhs;rw[shiftUp]
 simp only[qG]
 by_cases h:j<b
 ·rw[if_pos h,if_pos h]
  by_cases h2:bN d[j]! d[j-1]! <0
  ·rw[if_neg (not_not_intro h2),if_pos h2]
  ·rw[if_pos h2,if_neg h2]
 ·rw[if_neg h,if_neg h]
theorem afC {a:Nat}: ∀(n i j:Nat) (d:Array Ed),j+1-i≤n→(partLoop ay a i j d).2.size=d.size∧(partLoop ay a i j d).1≤j:=by
 intro n
 induction n with
 | zero=>
  intro i j d hn
  have h1:=scanUp_ge (fun x=>ay x d[a]!) d j i
  have h2:=scanDown_le (fun x=> !ay x d[a]!) d (scanUp (fun x=>ay x d[a]!) d j i) j
  rw[partLoop_eq,if_pos (by omega)]
  exact ⟨rfl,h2⟩
 | succ n ih=>
  intro i j d hn
  rw[partLoop_eq]
  have h1:=scanUp_ge (fun x=>ay x d[a]!) d j i
  have h2:=scanDown_le (fun x=> !ay x d[a]!) d (scanUp (fun x=>ay x d[a]!) d j i) j
  split
  ·exact ⟨rfl,h2⟩
  ·obtain ⟨h3,h4⟩:=ih (scanUp (fun x=>ay x d[a]!) d j i+1) (scanDown (fun x=> !ay x d[a]!) d (scanUp (fun x=>ay x d[a]!) d j i) j-1) (swp d (scanUp (fun x=>ay x d[a]!) d j i) (scanDown (fun x=> !ay x d[a]!) d (scanUp (fun x=>ay x d[a]!) d j i) j)) (by omega)
   exact ⟨by rw[h3,size_swp],by omega⟩
theorem jX {β:Type} {d:Array Ed} {i:Nat} {x y:Option β} (h:i<d.size):(bif (decide (0≤(i:Int)))&&(decide ((i:Int)<((eA d).length:Int))) then x else y)=x:=by
 rw[fQ,dt,aA,if_pos (by omega),aA,if_pos (by omega)]
theorem FX {β:Type} {d:Array Ed} {i k:Nat} {v:V} {x y:Option β} (h:i<d.size):(bif (decide (0≤(i:Int)))&&(decide ((i:Int)<(((eA d).set k v).length:Int))) then x else y)=x:=by
 rw[List.length_set,fQ,dt,aA,if_pos (by omega),aA,if_pos (by omega)]
theorem jY {β:Type} {d:Array Ed} {i:Nat} {f:V→Option β} (h:i<d.size):((eA d)[(i:Int).toNat]?).bind f=f (d[i]!).enc:=by
 rw[Int.toNat_natCast,fS h];rfl
theorem FY {β:Type} {d:Array Ed} {i k:Nat} {v:V} {x:Option β} (h:i<d.size):(((eA d).set k v)[(i:Int).toNat]?).bind (fun _=>x)=x:=by
 rw[Int.toNat_natCast,List.getElem?_eq_getElem (by rw[List.length_set,fQ];exact h)];rfl
theorem qI {β:Type} {d:Array Ed} {i:Nat} {f:V→Option β} (h:i<d.size):((eA d)[i]?).bind f=f (d[i]!).enc:=by
 rw[fS h];rfl
theorem LC {β:Type} {d:Array Ed} {i k:Nat} {v:V} {x:Option β} (h:i<d.size):(((eA d).set k v)[i]?).bind (fun _=>x)=x:=by
 rw[List.getElem?_eq_getElem (by rw[List.length_set,fQ];exact h)];rfl
theorem afD {a j:Nat} {d:Array Ed} (ha:a<d.size) (hj:j<d.size) (hs:d.size<1152921504606846976): ∀(n i:Nat),j+1-i=n→i≤d.size→
  ∃t,Loop (A7 CC a j (eA d)) (i:Int)=some (((scanUp (fun x=>ay x d[a]!) d j i:Nat):Int),t):=by
 intro n
 induction n with
 | zero=>
  intro i hn hi
  rw[wS,if_neg (by omega)]
  exact ⟨false,bS (by simp (disch:=omega) only[A7,A6,aA,if_neg])⟩
 | succ n ih=>
  intro i hn hi
  obtain ⟨t,h⟩:=ih (i+1) (by omega) (by omega)
  rw[wS,if_pos (by omega)]
  have e:A7 CC a j (eA d) (i:Int)=if bN d[i]! d[a]! <0 then some (.inl ((i+1:Nat):Int)) else some (.inr ((i:Int),decide (bN d[i]! d[a]! <0))):=by
   simp (disch:=omega) only[A7,A6,aA,dt,gd,if_pos,if_neg,wrap64,dF,fT,Int.toNat_natCast,Option.bind_some,fQ,fS,Ed.da,Ed.db,Ed.dc,Ed.re,fR,hZ,Array.size_setIfInBounds,gr,V.bQ,V.toInt_int,cond_true,cond_false]
  simp only[rX]
  by_cases h2:bN d[i]! d[a]! <0
  ·rw[if_pos h2] at e
   rw[if_pos h2]
   exact ⟨t,(dU e).trans h⟩
  ·rw[if_neg h2] at e
   rw[if_neg h2]
   exact ⟨_,bS e⟩
theorem Ul {a j:Nat} {d:Array Ed} (ha:a<d.size) (hj:j<d.size) (hs:d.size<1152921504606846976): ∀(n i:Nat),j+1-i=n→i≤d.size→
  ∃t,Loop (A9 CC a j (eA d)) (i:Int)=some (((scanUp (fun x=>ay x d[a]!) d j i:Nat):Int),t):=by
 intro n
 induction n with
 | zero=>
  intro i hn hi
  rw[wS,if_neg (by omega)]
  exact ⟨false,bS (by simp (disch:=omega) only[A9,A8,aA,if_neg])⟩
 | succ n ih=>
  intro i hn hi
  obtain ⟨t,h⟩:=ih (i+1) (by omega) (by omega)
  rw[wS,if_pos (by omega)]
  have e:A9 CC a j (eA d) (i:Int)=if bN d[i]! d[a]! <0 then some (.inl ((i+1:Nat):Int)) else some (.inr ((i:Int),decide (bN d[i]! d[a]! <0))):=by
   simp (disch:=omega) only[A9,A8,aA,dt,gd,if_pos,if_neg,wrap64,dF,fT,Int.toNat_natCast,Option.bind_some,fQ,fS,Ed.da,Ed.db,Ed.dc,Ed.re,fR,hZ,Array.size_setIfInBounds,gr,V.bQ,V.toInt_int,cond_true,cond_false]
  simp only[rX]
  by_cases h2:bN d[i]! d[a]! <0
  ·rw[if_pos h2] at e
   rw[if_pos h2]
   exact ⟨t,(dU e).trans h⟩
  ·rw[if_neg h2] at e
   rw[if_neg h2]
   exact ⟨_,bS e⟩
theorem Um {a i:Nat} {d:Array Ed} (ha:a<d.size) (hi:1≤i) (hs:d.size<1152921504606846976): ∀(j:Nat),j<d.size→
  ∃t,Loop (wJ CC a i (eA d)) (j:Int)=some (((scanDown (fun x=> !ay x d[a]!) d i j:Nat):Int),t)
 | 0,hj=>⟨false,bS (by simp (disch:=omega) only[wJ,wI,aA,if_neg];rfl)⟩
 | j+1,hj=>by
  obtain ⟨t,h⟩:=Um ha hi hs j (by omega)
  rw[LB]
  by_cases h1:i≤j+1
  ·rw[if_pos h1]
   have e:wJ CC a i (eA d) ((j+1:Nat):Int)=if bN d[j+1]! d[a]! <0 then some (.inr (((j+1:Nat):Int),!decide (bN d[j+1]! d[a]! <0))) else some (.inl (j:Int)):=by
    simp (disch:=omega) only[wJ,wI,aA,dt,gd,if_pos,if_neg,wrap64,dF,fT,Int.toNat_natCast,Option.bind_some,fQ,fS,Ed.da,Ed.db,Ed.dc,Ed.re,fR,hZ,Array.size_setIfInBounds,gr,V.bQ,V.toInt_int,cond_true,cond_false,rU]
   simp only[qG]
   by_cases h2:bN d[j+1]! d[a]! <0
   ·rw[if_pos h2] at e
    rw[if_neg (not_not_intro h2)]
    exact ⟨_,bS e⟩
   ·rw[if_neg h2] at e
    rw[if_pos h2]
    exact ⟨t,(dU e).trans h⟩
  ·rw[if_neg h1]
   exact ⟨false,bS (by simp (disch:=omega) only[wJ,wI,aA,if_neg])⟩
theorem LD {a i:Nat} {d:Array Ed} (ha:a<d.size) (hi:1≤i) (hs:d.size<1152921504606846976): ∀(j:Nat),j<d.size→
  ∃t,Loop (wL CC a i (eA d)) (j:Int)=some (((scanDown (fun x=> !ay x d[a]!) d i j:Nat):Int),t)
 | 0,hj=>⟨false,bS (by simp (disch:=omega) only[wL,wK,aA,if_neg];rfl)⟩
 | j+1,hj=>by
  obtain ⟨t,h⟩:=LD ha hi hs j (by omega)
  rw[LB]
  by_cases h1:i≤j+1
  ·rw[if_pos h1]
   have e:wL CC a i (eA d) ((j+1:Nat):Int)=if bN d[j+1]! d[a]! <0 then some (.inr (((j+1:Nat):Int),!decide (bN d[j+1]! d[a]! <0))) else some (.inl (j:Int)):=by
    simp (disch:=omega) only[wL,wK,aA,dt,gd,if_pos,if_neg,wrap64,dF,fT,Int.toNat_natCast,Option.bind_some,fQ,fS,Ed.da,Ed.db,Ed.dc,Ed.re,fR,hZ,Array.size_setIfInBounds,gr,V.bQ,V.toInt_int,cond_true,cond_false,rU]
   simp only[qG]
   by_cases h2:bN d[j+1]! d[a]! <0
   ·rw[if_pos h2] at e
    rw[if_neg (not_not_intro h2)]
    exact ⟨_,bS e⟩
   ·rw[if_neg h2] at e
    rw[if_pos h2]
    exact ⟨t,(dU e).trans h⟩
  ·rw[if_neg h1]
   exact ⟨false,bS (by simp (disch:=omega) only[wL,wK,aA,if_neg])⟩
theorem Un {a j:Nat} {d:Array Ed} (ha:a<d.size) (hj:j<d.size) (hs:d.size<1152921504606846976): ∀(n i:Nat),j+1-i=n→i≤d.size→
  ∃t,Loop (Bd CC a j (eA d)) (i:Int)=some (((scanUp (fun x=> !ay d[a]! x) d j i:Nat):Int),t):=by
 intro n
 induction n with
 | zero=>
  intro i hn hi
  rw[wS,if_neg (by omega)]
  exact ⟨false,bS (by simp (disch:=omega) only[Bd,Bc,aA,if_neg])⟩
 | succ n ih=>
  intro i hn hi
  obtain ⟨t,h⟩:=ih (i+1) (by omega) (by omega)
  rw[wS,if_pos (by omega)]
  have e:Bd CC a j (eA d) (i:Int)=if bN d[a]! d[i]! <0 then some (.inr ((i:Int),!decide (bN d[a]! d[i]! <0))) else some (.inl ((i+1:Nat):Int)):=by
   simp (disch:=omega) only[Bd,Bc,aA,dt,gd,if_pos,if_neg,wrap64,dF,fT,Int.toNat_natCast,Option.bind_some,fQ,fS,Ed.da,Ed.db,Ed.dc,Ed.re,fR,hZ,Array.size_setIfInBounds,gr,V.bQ,V.toInt_int,cond_true,cond_false]
  simp only[qG]
  by_cases h2:bN d[a]! d[i]! <0
  ·rw[if_pos h2] at e
   rw[if_neg (not_not_intro h2)]
   exact ⟨_,bS e⟩
  ·rw[if_neg h2] at e
   rw[if_pos h2]
   exact ⟨t,(dU e).trans h⟩
theorem LF {a i:Nat} {d:Array Ed} (ha:a<d.size) (hi:1≤i) (hs:d.size<1152921504606846976): ∀(j:Nat),j<d.size→
  ∃t,Loop (wQ CC a i (eA d)) (j:Int)=some (((scanDown (fun x=>ay d[a]! x) d i j:Nat):Int),t)
 | 0,hj=>⟨false,bS (by simp (disch:=omega) only[wQ,wP,aA,if_neg];rfl)⟩
 | j+1,hj=>by
  obtain ⟨t,h⟩:=LF ha hi hs j (by omega)
  rw[LB]
  by_cases h1:i≤j+1
  ·rw[if_pos h1]
   have e:wQ CC a i (eA d) ((j+1:Nat):Int)=if bN d[a]! d[j+1]! <0 then some (.inl (j:Int)) else some (.inr (((j+1:Nat):Int),decide (bN d[a]! d[j+1]! <0))):=by
    simp (disch:=omega) only[wQ,wP,aA,dt,gd,if_pos,if_neg,wrap64,dF,fT,Int.toNat_natCast,Option.bind_some,fQ,fS,Ed.da,Ed.db,Ed.dc,Ed.re,fR,hZ,Array.size_setIfInBounds,gr,V.bQ,V.toInt_int,cond_true,cond_false,rU]
   simp only[rX]
   by_cases h2:bN d[a]! d[j+1]! <0
   ·rw[if_pos h2] at e
    rw[if_pos h2]
    exact ⟨t,(dU e).trans h⟩
   ·rw[if_neg h2] at e
    rw[if_neg h2]
    exact ⟨_,bS e⟩
  ·rw[if_neg h1]
   exact ⟨false,bS (by simp (disch:=omega) only[wQ,wP,aA,if_neg])⟩
theorem afE {a:Nat}: ∀(n i j:Nat) (d:Array Ed),j+1-i≤n→1≤i→i≤d.size→a<d.size→j<d.size→d.size<1152921504606846976→
  ∃x z,Loop (wM CC a) ((i:Int),(j:Int),eA d)=some (x,(((partLoop ay a i j d).1:Nat):Int),z,eA (partLoop ay a i j d).2):=by
 intro n
 induction n with
 | zero=>
  intro i j d hn h1 h2 ha hj hs
  obtain ⟨t3,e3⟩:=Ul (a:=a) ha hj hs _ i rfl h2
  have g1:=scanUp_ge (fun x=>ay x d[a]!) d j i
  have g2:=scanDown_le (fun x=> !ay x d[a]!) d (scanUp (fun x=>ay x d[a]!) d j i) j
  obtain ⟨t4,e4⟩:=LD (a:=a) (i:=scanUp (fun x=>ay x d[a]!) d j i) ha (by omega) hs j hj
  rw[partLoop_eq,if_pos (by omega)]
  refine ⟨((scanUp (fun x=>ay x d[a]!) d j i:Nat):Int),true,bS ?_⟩
  simp only[wM,Ba,un]
  rw[e3]
  simp only[Option.bind_some,un]
  rw[e4]
  simp (disch:=omega) only[Option.bind_some,un,nc,cond_true]
 | succ n ih=>
  intro i j d hn h1 h2 ha hj hs
  obtain ⟨t3,e3⟩:=Ul (a:=a) ha hj hs _ i rfl h2
  have g1:=scanUp_ge (fun x=>ay x d[a]!) d j i
  have g2:=scanDown_le (fun x=> !ay x d[a]!) d (scanUp (fun x=>ay x d[a]!) d j i) j
  obtain ⟨t4,e4⟩:=LD (a:=a) (i:=scanUp (fun x=>ay x d[a]!) d j i) ha (by omega) hs j hj
  rw[partLoop_eq]
  have f:wM CC a ((i:Int),(j:Int),eA d)=wM CC a ((i:Int),(j:Int),eA d):=rfl
  conv at f=>rhs;simp only[wM,Ba,un];rw[e3];simp only[Option.bind_some,un];rw[e4];simp only[Option.bind_some,un]
  generalize iS:scanUp (fun x=>ay x d[a]!) d j i=i2 at*
  generalize bU:scanDown (fun x=> !ay x d[a]!) d i2 j=j2 at*
  by_cases h:i2>j2
  ·rw[if_pos h]
   refine ⟨(i2:Int),true,bS (f.trans ?_)⟩
   simp (disch:=omega) only[Option.bind_some,nc,cond_true]
  ·rw[if_neg h]
   obtain ⟨x,z,e⟩:=ih (i2+1) (j2-1) (swp d i2 j2) (by omega) (by omega) (by rw[size_swp];omega) (by rw[size_swp];omega) (by rw[size_swp];omega) (by rw[size_swp];omega)
   refine ⟨x,z,(dU (f.trans ?_)).trans e⟩
   simp (disch:=omega) only[aA,dt,gd,if_pos,if_neg,wrap64,dF,fT,Int.toNat_natCast,Option.bind_some,fQ,fS,Ed.da,Ed.db,Ed.dc,Ed.re,fR,hZ,Array.size_setIfInBounds,gr,V.bQ,V.toInt_int,cond_true,cond_false,jv]
   rfl
theorem afF (d:Array Ed) (a b pivot:Nat):partition ay d a b pivot=
  if scanUp (fun x=>ay x (swp d a pivot)[a]!) (swp d a pivot) (b-1) (a+1)>scanDown (fun x=> !ay x (swp d a pivot)[a]!) (swp d a pivot) (scanUp (fun x=>ay x (swp d a pivot)[a]!) (swp d a pivot) (b-1) (a+1)) (b-1) then
   (scanDown (fun x=> !ay x (swp d a pivot)[a]!) (swp d a pivot) (scanUp (fun x=>ay x (swp d a pivot)[a]!) (swp d a pivot) (b-1) (a+1)) (b-1),true,swp (swp d a pivot) (scanDown (fun x=> !ay x (swp d a pivot)[a]!) (swp d a pivot) (scanUp (fun x=>ay x (swp d a pivot)[a]!) (swp d a pivot) (b-1) (a+1)) (b-1)) a)
  else
   ((partLoop ay a (scanUp (fun x=>ay x (swp d a pivot)[a]!) (swp d a pivot) (b-1) (a+1)+1) (scanDown (fun x=> !ay x (swp d a pivot)[a]!) (swp d a pivot) (scanUp (fun x=>ay x (swp d a pivot)[a]!) (swp d a pivot) (b-1) (a+1)) (b-1)-1) (swp (swp d a pivot) (scanUp (fun x=>ay x (swp d a pivot)[a]!) (swp d a pivot) (b-1) (a+1)) (scanDown (fun x=> !ay x (swp d a pivot)[a]!) (swp d a pivot) (scanUp (fun x=>ay x (swp d a pivot)[a]!) (swp d a pivot) (b-1) (a+1)) (b-1)))).1,false,
    swp (partLoop ay a (scanUp (fun x=>ay x (swp d a pivot)[a]!) (swp d a pivot) (b-1) (a+1)+1) (scanDown (fun x=> !ay x (swp d a pivot)[a]!) (swp d a pivot) (scanUp (fun x=>ay x (swp d a pivot)[a]!) (swp d a pivot) (b-1) (a+1)) (b-1)-1) (swp (swp d a pivot) (scanUp (fun x=>ay x (swp d a pivot)[a]!) (swp d a pivot) (b-1) (a+1)) (scanDown (fun x=> !ay x (swp d a pivot)[a]!) (swp d a pivot) (scanUp (fun x=>ay x (swp d a pivot)[a]!) (swp d a pivot) (b-1) (a+1)) (b-1)))).2
    (partLoop ay a (scanUp (fun x=>ay x (swp d a pivot)[a]!) (swp d a pivot) (b-1) (a+1)+1) (scanDown (fun x=> !ay x (swp d a pivot)[a]!) (swp d a pivot) (scanUp (fun x=>ay x (swp d a pivot)[a]!) (swp d a pivot) (b-1) (a+1)) (b-1)-1) (swp (swp d a pivot) (scanUp (fun x=>ay x (swp d a pivot)[a]!) (swp d a pivot) (b-1) (a+1)) (scanDown (fun x=> !ay x (swp d a pivot)[a]!) (swp d a pivot) (scanUp (fun x=>ay x (swp d a pivot)[a]!) (swp d a pivot) (b-1) (a+1)) (b-1)))).1 a):=rfl
theorem wU (d:Array Ed) (i j:Nat):eA ((d.setIfInBounds i d[j]!).setIfInBounds j d[i]!)=eA (swp d i j):=rfl
theorem afG {a b pivot:Nat} {d:Array Ed} (hp:pivot<b) (fK:a<b) (hb:b≤d.size) (hs:d.size<1152921504606846976):
  CC od [.int .i64 (a:Int),.int .i64 (b:Int),.int .i64 (pivot:Int),.list af (eA d)]=
   some [.int .i64 ((partition ay d a b pivot).1:Int),.bool (partition ay d a b pivot).2.1,.list af (eA (partition ay d a b pivot).2.2)]:=by
 refine afj ?_
 unfold Ue
 have z1:(swp d a pivot).size=d.size:=size_swp ..
 obtain ⟨t1,e1⟩:=afD (a:=a) (j:=b-1) (d:=swp d a pivot) (by omega) (by omega) (by omega) _ (a+1) rfl (by omega)
 have g1:=scanUp_ge (fun x=>ay x (swp d a pivot)[a]!) (swp d a pivot) (b-1) (a+1)
 have g2:=scanDown_le (fun x=> !ay x (swp d a pivot)[a]!) (swp d a pivot) (scanUp (fun x=>ay x (swp d a pivot)[a]!) (swp d a pivot) (b-1) (a+1)) (b-1)
 obtain ⟨t2,e2⟩:=Um (a:=a) (i:=scanUp (fun x=>ay x (swp d a pivot)[a]!) (swp d a pivot) (b-1) (a+1)) (d:=swp d a pivot) (by omega) (by omega) (by omega) (b-1) (by omega)
 have e0:=afF d a b pivot
 rw[jX (i:=pivot) (by omega),jY (by omega),jX (i:=a) (by omega),jY (by omega),jX (i:=a) (by omega),jY (by omega),FX (i:=pivot) (by omega),FY (by omega)]
 simp only[Ed.da,Ed.db,Ed.dc,Ed.re,Int.toNat_natCast,fR,wU]
 simp (disch:=omega) only[jv,dF,wrap64]
 rw[e1]
 simp only[Option.bind_some,un]
 rw[e2]
 simp only[Option.bind_some,un]
 generalize iS:scanUp (fun x=>ay x (swp d a pivot)[a]!) (swp d a pivot) (b-1) (a+1)=i2 at*
 generalize bU:scanDown (fun x=> !ay x (swp d a pivot)[a]!) (swp d a pivot) i2 (b-1)=j2 at*
 generalize swp d a pivot=d1 at*
 by_cases h:i2>j2
 ·rw[if_pos h] at e0
  rw[e0,aA,if_pos (by omega)]
  rw[jX (i:=a) (by omega)];(first|rw[jY (by omega)]|rw[qI (by omega)]);rw[jX (i:=j2) (by omega)];(first|rw[jY (by omega)]|rw[qI (by omega)]);rw[jX (i:=j2) (by omega)];(first|rw[jY (by omega)]|rw[qI (by omega)]);rw[FX (i:=a) (by omega)];(first|rw[FY (by omega)]|rw[LC (by omega)])
  simp only[Ed.da,Ed.db,Ed.dc,Ed.re,Int.toNat_natCast,fR,wU]
 ·rw[if_neg h] at e0
  rw[e0,aA,if_neg (by omega)]
  have z2:(swp d1 i2 j2).size=d1.size:=size_swp ..
  obtain ⟨x,z,e5⟩:=afE (a:=a) _ (i2+1) (j2-1) (swp d1 i2 j2) (Nat.le_refl _) (by omega) (by omega) (by omega) (by omega) (by omega)
  obtain ⟨q1,q2⟩:=afC (a:=a) _ (i2+1) (j2-1) (swp d1 i2 j2) (Nat.le_refl _)
  rw[jX (i:=j2) (by omega)];(first|rw[jY (by omega)]|rw[qI (by omega)]);rw[jX (i:=i2) (by omega)];(first|rw[jY (by omega)]|rw[qI (by omega)]);rw[jX (i:=i2) (by omega)];(first|rw[jY (by omega)]|rw[qI (by omega)]);rw[FX (i:=j2) (by omega)];(first|rw[FY (by omega)]|rw[LC (by omega)])
  simp only[Ed.da,Ed.db,Ed.dc,Ed.re,Int.toNat_natCast,fR,wU]
  simp (disch:=omega) only[jv,dF,wrap64]
  rw[e5]
  generalize partLoop ay a (i2+1) (j2-1) (swp d1 i2 j2)=r at*
  simp only[Option.bind_some,un]
  rw[jX (i:=a) (by omega)];(first|rw[jY (by omega)]|rw[qI (by omega)]);rw[jX (i:=r.1) (by omega)];(first|rw[jY (by omega)]|rw[qI (by omega)]);rw[jX (i:=r.1) (by omega)];(first|rw[jY (by omega)]|rw[qI (by omega)]);rw[FX (i:=a) (by omega)];(first|rw[FY (by omega)]|rw[LC (by omega)])
  simp only[Ed.da,Ed.db,Ed.dc,Ed.re,Int.toNat_natCast,fR,wU]
theorem afH {a:Nat}: ∀(n i j:Nat) (d:Array Ed),j+1-i≤n→1≤i→i≤d.size→a<d.size→j<d.size→d.size<1152921504606846976→
  ∃x z,Loop (wR CC a) ((i:Int),(j:Int),eA d)=some ((((partEqLoop ay a i j d).1:Nat):Int),x,z,eA (partEqLoop ay a i j d).2):=by
 intro n
 induction n with
 | zero=>
  intro i j d hn h1 h2 ha hj hs
  obtain ⟨t3,e3⟩:=Un (a:=a) ha hj hs _ i rfl h2
  have g1:=scanUp_ge (fun x=> !ay d[a]! x) d j i
  have g2:=scanDown_le (fun x=>ay d[a]! x) d (scanUp (fun x=> !ay d[a]! x) d j i) j
  obtain ⟨t4,e4⟩:=LF (a:=a) (i:=scanUp (fun x=> !ay d[a]! x) d j i) ha (by omega) hs j hj
  rw[partEqLoop_eq,if_pos (by omega)]
  refine ⟨((scanDown (fun x=>ay d[a]! x) d (scanUp (fun x=> !ay d[a]! x) d j i) j:Nat):Int),true,bS ?_⟩
  simp only[wR,Be,un]
  rw[e3]
  simp only[Option.bind_some,un]
  rw[e4]
  simp (disch:=omega) only[Option.bind_some,un,nc,cond_true]
 | succ n ih=>
  intro i j d hn h1 h2 ha hj hs
  obtain ⟨t3,e3⟩:=Un (a:=a) ha hj hs _ i rfl h2
  have g1:=scanUp_ge (fun x=> !ay d[a]! x) d j i
  have g2:=scanDown_le (fun x=>ay d[a]! x) d (scanUp (fun x=> !ay d[a]! x) d j i) j
  obtain ⟨t4,e4⟩:=LF (a:=a) (i:=scanUp (fun x=> !ay d[a]! x) d j i) ha (by omega) hs j hj
  rw[partEqLoop_eq]
  have f:wR CC a ((i:Int),(j:Int),eA d)=wR CC a ((i:Int),(j:Int),eA d):=rfl
  conv at f=>rhs;simp only[wR,Be,un];rw[e3];simp only[Option.bind_some,un];rw[e4];simp only[Option.bind_some,un]
  generalize iS:scanUp (fun x=> !ay d[a]! x) d j i=i2 at*
  generalize bU:scanDown (fun x=>ay d[a]! x) d i2 j=j2 at*
  by_cases h:i2>j2
  ·rw[if_pos h]
   refine ⟨(j2:Int),true,bS (f.trans ?_)⟩
   simp (disch:=omega) only[Option.bind_some,nc,cond_true]
  ·rw[if_neg h]
   obtain ⟨x,z,e⟩:=ih (i2+1) (j2-1) (swp d i2 j2) (by omega) (by omega) (by rw[size_swp];omega) (by rw[size_swp];omega) (by rw[size_swp];omega) (by rw[size_swp];omega)
   refine ⟨x,z,(dU (f.trans ?_)).trans e⟩
   simp (disch:=omega) only[aA,dt,gd,if_pos,if_neg,wrap64,dF,fT,Int.toNat_natCast,Option.bind_some,fQ,fS,Ed.da,Ed.db,Ed.dc,Ed.re,fR,hZ,Array.size_setIfInBounds,gr,V.bQ,V.toInt_int,cond_true,cond_false,jv]
   rfl
theorem afI {a b pivot:Nat} {d:Array Ed} (hp:pivot<b) (fK:a<b) (hb:b≤d.size) (hs:d.size<1152921504606846976):
  CC vS [.int .i64 (a:Int),.int .i64 (b:Int),.int .i64 (pivot:Int),.list af (eA d)]=
   some [.int .i64 ((partitionEqual ay d a b pivot).1:Int),.list af (eA (partitionEqual ay d a b pivot).2)]:=by
 refine afp ?_
 unfold Ug
 have z1:(swp d a pivot).size=d.size:=size_swp ..
 obtain ⟨x,z,e⟩:=afH (a:=a) _ (a+1) (b-1) (swp d a pivot) (Nat.le_refl _) (by omega) (by omega) (by omega) (by omega) (by omega)
 simp (disch:=omega) only[aA,dt,if_pos,fQ,fS,Int.toNat_natCast,Option.bind_some,Ed.da,Ed.db,Ed.dc,Ed.re,fR,hZ,Array.size_setIfInBounds,jv,dF,wrap64,wU]
 rw[e]
 rfl
theorem afJ {a b j:Nat} {d:Array Ed} (hb:b≤d.size) (hs:d.size<1152921504606846976): ∀(n i:Nat),b-i=n→1≤i→i≤b→
  ∃t,Loop (Bg CC a b j (eA d)) (i:Int)=some (((scanSorted ay d b i:Nat):Int),t):=by
 intro n
 induction n with
 | zero=>
  intro i hn h1 hi
  rw[FV,if_neg (by omega)]
  exact ⟨false,bS (by simp (disch:=omega) only[Bg,Bf,aA,if_neg])⟩
 | succ n ih=>
  intro i hn h1 hi
  obtain ⟨t,h⟩:=ih (i+1) (by omega) (by omega) (by omega)
  rw[FV,if_pos (by omega)]
  have e:Bg CC a b j (eA d) (i:Int)=if bN d[i]! d[i-1]! <0 then some (.inr ((i:Int),!decide (bN d[i]! d[i-1]! <0))) else some (.inl ((i+1:Nat):Int)):=by
   simp (disch:=omega) only[Bg,Bf,jv,aA,dt,gd,if_pos,if_neg,wrap64,dF,fT,Int.toNat_natCast,Option.bind_some,fQ,fS,Ed.da,Ed.db,Ed.dc,Ed.re,fR,hZ,Array.size_setIfInBounds,gr,V.bQ,V.toInt_int,cond_true,cond_false]
  by_cases h2:bN d[i]! d[i-1]! <0
  ·rw[if_pos h2] at e⊢
   exact ⟨_,bS e⟩
  ·rw[if_neg h2] at e⊢
   exact ⟨t,(dU e).trans h⟩
theorem Uo: ∀(j:Nat) (d:Array Ed),(shiftDown ay j d).size=d.size
 | 0,_=>rfl
 | j+1,d=>by
  rw[Uk]
  split
  ·rw[Uo j,size_swp]
  ·rfl
theorem afK {b:Nat}: ∀(n j:Nat) (d:Array Ed),b-j=n→(shiftUp ay b j d).size=d.size:=by
 intro n
 induction n with
 | zero=>intro j d h;rw[FW,if_neg (by omega)]
 | succ n ih=>
  intro j d h
  rw[FW,if_pos (by omega)]
  split
  ·rw[ih _ _ (by omega),size_swp]
  ·rfl
theorem Up {a b i k:Nat}: ∀(j:Nat) (d:Array Ed),j<d.size→d.size<1152921504606846976→
  ∃t,Loop (Bi CC a b i k) ((j:Int),eA d)=some (t,eA (shiftDown ay j d))
 | 0,d,hj,hs=>⟨(0:Nat),bS (by
   simp (disch:=omega) only[Bi,Bh,un,aA,if_neg]
   rfl)⟩
 | j+1,d,hj,hs=>by
  obtain ⟨t,ih⟩:=Up (a:=a) (b:=b) (i:=i) (k:=k) j (swp d (j+1) j) (by rw[size_swp];omega) (by rw[size_swp];omega)
  rw[Uk]
  have e:Bi CC a b i k (((j+1:Nat):Int),eA d)=if bN d[j+1]! d[j]! <0 then some (.inl ((j:Int),eA (swp d (j+1) j))) else some (.inr (((j+1:Nat):Int),eA d)):=by
   simp (disch:=omega) only[Bi,Bh,un,aA,dt,gd,if_pos,if_neg,wrap64,dF,fT,Int.toNat_natCast,Option.bind_some,fQ,fS,Ed.da,Ed.db,Ed.dc,Ed.re,fR,hZ,Array.size_setIfInBounds,gr,V.bQ,V.toInt_int,cond_true,cond_false,rU]
   rfl
  by_cases h2:bN d[j+1]! d[j]! <0
  ·rw[if_pos h2] at e⊢
   exact ⟨t,(dU e).trans ih⟩
  ·rw[if_neg h2] at e⊢
   exact ⟨_,bS e⟩
theorem afL {a b i k:Nat}: ∀(n j:Nat) (d:Array Ed),b-j=n→1≤j→j≤b→b≤d.size→d.size<1152921504606846976→
  ∃t,Loop (Bk CC a b i k) ((j:Int),eA d)=some (t,eA (shiftUp ay b j d)):=by
 intro n
 induction n with
 | zero=>
  intro j d hn h1 hj hb hs
  rw[FW,if_neg (by omega)]
  exact ⟨(j:Int),bS (by
   simp (disch:=omega) only[Bk,Bj,un,aA,if_neg])⟩
 | succ n ih=>
  intro j d hn h1 hj hb hs
  obtain ⟨t,h⟩:=ih (j+1) (swp d j (j-1)) (by omega) (by omega) (by omega) (by rw[size_swp];omega) (by rw[size_swp];omega)
  rw[FW,if_pos (by omega)]
  have e:Bk CC a b i k ((j:Int),eA d)=if bN d[j]! d[j-1]! <0 then some (.inl (((j+1:Nat):Int),eA (swp d j (j-1)))) else some (.inr ((j:Int),eA d)):=by
   simp (disch:=omega) only[Bk,Bj,un,jv,aA,dt,gd,if_pos,if_neg,wrap64,dF,fT,Int.toNat_natCast,Option.bind_some,fQ,fS,Ed.da,Ed.db,Ed.dc,Ed.re,fR,hZ,Array.size_setIfInBounds,gr,V.bQ,V.toInt_int,cond_true,cond_false]
   rfl
  by_cases h2:bN d[j]! d[j-1]! <0
  ·rw[if_pos h2] at e⊢
   exact ⟨t,(dU e).trans h⟩
  ·rw[if_neg h2] at e⊢
   exact ⟨_,bS e⟩
theorem afM {d:Array Ed} {b:Nat}: ∀(n i:Nat),b-i=n→i≤b→i≤scanSorted ay d b i∧scanSorted ay d b i≤b:=by
 intro n
 induction n with
 | zero=>intro i hn hi;rw[FV,if_neg (by omega)];omega
 | succ n ih=>
  intro i hn hi
  rw[FV,if_pos (by omega)]
  obtain ⟨h1,h2⟩:=ih (i+1) (by omega) (by omega)
  split<;>omega
theorem afN {a b:Nat}: ∀(s i:Nat) (d:Array Ed),s≤5→a<i→i≤b→b≤d.size→d.size<1152921504606846976→
  (Loop (rY CC a b) ((i:Int),((5-s:Nat):Int),eA d)=some (.inl ((partialIns ay a b s i d).2,eA (partialIns ay a b s i d).1)))∨
  (∃x y z,(partialIns ay a b s i d).2=false∧Loop (rY CC a b) ((i:Int),((5-s:Nat):Int),eA d)=some (.inr (x,y,z,eA (partialIns ay a b s i d).1))):=by
 intro s
 induction s with
 | zero=>
  intro i d hs5 hi LG hb hs
  refine .inr ⟨(i:Int),((5:Nat):Int),false,rfl,bS ?_⟩
  simp (disch:=omega) only[rY,Bl,un,qC,cond_false]
  rfl
 | succ s ih=>
  intro i d hs5 hi LG hb hs
  obtain ⟨t1,e1⟩:=afJ (a:=a) (j:=5-(s+1)) hb hs _ i rfl (by omega) LG
  obtain ⟨q1,q2⟩:=afM (d:=d) _ i rfl LG
  rw[partialIns_succ]
  have f:rY CC a b ((i:Int),((5-(s+1):Nat):Int),eA d)=rY CC a b ((i:Int),((5-(s+1):Nat):Int),eA d):=rfl
  conv at f=>rhs;simp only[rY,Bl,un];rw[aA,if_pos (by omega),e1];simp only[Option.bind_some,un]
  generalize scanSorted ay d b i=k at*
  by_cases h1:k=b
  ·rw[if_pos h1]
   left
   refine bS (f.trans ?_)
   rw[mQ,if_pos (by omega)]
  ·rw[if_neg h1]
   by_cases h2:b-a<50
   ·rw[if_pos h2]
    left
    refine bS (f.trans ?_)
    rw[mQ,if_neg (by omega),wrap64 (by omega) (by omega),aA,if_pos (by omega)]
   ·rw[if_neg h2]
    have z1:(swp d k (k-1)).size=d.size:=size_swp ..
    have z2:(fixDown ay a k (swp d k (k-1))).size=d.size:=by
     unfold fixDown
     split
     ·rw[Uo,z1]
     ·exact z1
    have z3:(fixUp ay b k (fixDown ay a k (swp d k (k-1)))).size=d.size:=by
     unfold fixUp
     split
     ·rw[afK _ _ _ rfl,z2]
     ·exact z2
    obtain ⟨t2,e2⟩:=Up (a:=a) (b:=b) (i:=k) (k:=5-(s+1)) (k-1) (swp d k (k-1)) (by omega) (by omega)
    obtain ⟨t4,e4⟩:=afL (a:=a) (b:=b) (i:=k) (k:=5-(s+1)) _ (k+1) (fixDown ay a k (swp d k (k-1))) rfl (by omega) (by omega) (by omega) (by omega)
    have e5:rY CC a b ((i:Int),((5-(s+1):Nat):Int),eA d)=some (.inl ((k:Int),((5-s:Nat):Int),eA (fixUp ay b k (fixDown ay a k (swp d k (k-1)))))):=by
     refine f.trans ?_
     rw[mQ,if_neg (by omega),wrap64 (by omega) (by omega),aA,if_neg (by omega)]
     simp (disch:=omega) only[aA,dt,if_pos,fQ,fS,Int.toNat_natCast,Option.bind_some,Ed.da,Ed.db,Ed.dc,Ed.re,fR,hZ,Array.size_setIfInBounds,jv,dF,mi,wrap64,wU,FU]
     rw[show 5-(s+1)+1=5-s by omega]
     unfold fixDown at e4⊢
     unfold fixUp
     have c1:(((k-a:Nat):Int)≥2)=(k-a≥2):=propext (by omega)
     have c2:(((b-k:Nat):Int)≥2)=(b-k≥2):=propext (by omega)
     simp only[c1,c2]
     by_cases g1:k-a≥2
     ·by_cases g2:b-k≥2
      ·simp only[g1,g2,if_true,e2,Option.bind_some,un] at e4⊢
       rw[e4]
       rfl
      ·simp only[g1,g2,if_true,if_false,e2,Option.bind_some,un]
     ·by_cases g2:b-k≥2
      ·simp only[g1,g2,if_true,if_false] at e4⊢
       rw[e4]
       rfl
      ·exact absurd (show b-k≥2 by omega) g2
    rw[dU e5]
    exact ih k _ (by omega) (by omega) (by omega) (by omega) (by omega)
theorem Uq {a b:Nat} {d:Array Ed} (fK:a<b) (hb:b≤d.size) (hs:d.size<1152921504606846976):
  CC IN [.int .i64 (a:Int),.int .i64 (b:Int),.list af (eA d)]=
   some [.bool (partialInsertionSort ay d a b).2,.list af (eA (partialInsertionSort ay d a b).1)]:=by
 refine afB ?_
 unfold Uj
 simp (disch:=omega) only[dF,wrap64]
 rcases afN (a:=a) (b:=b) 5 (a+1) d (Nat.le_refl _) (by omega) (by omega) hb hs with h|⟨x,y,z,h0,h⟩
 ·rw[show ((5-5:Nat):Int)=0 from rfl] at h
  rw[h]
  rfl
 ·rw[show ((5-5:Nat):Int)=0 from rfl] at h
  rw[h]
  unfold partialInsertionSort
  rw[h0]
  rfl
end Go.AM.SL
set_option maxRecDepth 100000
namespace Go.AM
open Go.Proofs
noncomputable abbrev rZ:Code:=cx Tryd.prog (aw.aU 173)
noncomputable def Bn (C:ag) (data:List V) (i j k':Int) (t36:Bool) (gK:Int) {β:Type} (kr:(Int × Int × Int × Int)→Option β):Option β:=
 bif t36 then
  (C zb [.list af data,.int .i64 i,.int .i64 gK]).bind fun r1=>
  (C zb [.list af data,.int .i64 j,.int .i64 ((V.nth (r1.drop 1) 0).toInt)]).bind fun r2=>
  (C zb [.list af data,.int .i64 k',.int .i64 ((V.nth (r2.drop 1) 0).toInt)]).bind fun r3=>
  kr ((V.nth r1 0).toInt,(V.nth r2 0).toInt,(V.nth r3 0).toInt,(V.nth (r3.drop 1) 0).toInt)
 else
  kr (i,j,k',gK)
noncomputable def Bo (C:ag) (data:List V) (l i j k':Int) (t34:Bool) (gK:Int) {β:Type} (kr:(Int × Int)→Option β):Option β:=
 bif t34 then
  Bn C data i j k' (decide ((l:Int)≥50)) gK (un fun (fp:Int)=>un fun (j_5:Int)=>un fun (k_6:Int) (afO:Int)=>
   (C Ep [.list af data,.int .i64 fp,.int .i64 j_5,.int .i64 k_6,.int .i64 afO]).bind fun r8=>
   kr ((V.nth r8 0).toInt,(V.nth (r8.drop 1) 0).toInt))
 else
  kr (j,gK)
noncomputable def Ur (C:ag):ch:=fun β n ds k=>
 bif Nat.beq n 591 then ko Ka [[1,0,0,0,0]] (@Bn C) ds k else
 bif Nat.beq n 559 then ko Kb [[0,0]] (@Bo C) ds k else
 none
abbrev Us (C:ag) (b:cd):Prop:=cf Tryd.prog aw C (Ur C) 173 (cG Tryd.prog (aw.aU 173)) (aw.sin 173).aZ.length b
theorem afP (C:ag):Us C (.cond 36 (ar [1,1,1,1,1,1,0,1,0,0,1,0] rZ) (ar [1,1,1,1,1,1,0,1,0,0,1,1] rZ)):=
 kV Ka [[1,0,0,0,0]] (@Bn C) (by kernel_rfl) (aR (bs:=[]) (by kernel_rfl) av) (aR (bs:=[]) (by kernel_rfl) av) (fun ds=>by kernel_rfl) (fun i β k=>by kernel_rfl) (fun β ds k=>by kernel_rfl)
theorem afQ (C:ag):Us C (.cond 34 (ar [1,1,1,1,1,1,0,1,0] rZ) (ar [1,1,1,1,1,1,0,1,1] rZ)):=
 kV Kb [[0,0]] (@Bo C) (by kernel_rfl) (aR (bs:=[.cond 36 (ar [1,1,1,1,1,1,0,1,0,0,1,0] rZ) (ar [1,1,1,1,1,1,0,1,0,0,1,1] rZ)]) (by kernel_rfl) (bd (afP C) av)) (aR (bs:=[]) (by kernel_rfl) av) (fun ds=>by kernel_rfl) (fun i β k=>by kernel_rfl) (fun β ds k=>by kernel_rfl)
noncomputable def LH (C:ag) (data:List V) (a b':Int):Option (List V):=
 Bo C data (IntKind.wrap .i64 (b'-a)) (IntKind.wrap .i64 (a+(IntKind.wrap .i64 (1*(IntKind.wrap .i64 (Int.tdiv (IntKind.wrap .i64 (b'-a)) 4)))))) (IntKind.wrap .i64 (a+(IntKind.wrap .i64 (2*(IntKind.wrap .i64 (Int.tdiv (IntKind.wrap .i64 (b'-a)) 4)))))) (IntKind.wrap .i64 (a+(IntKind.wrap .i64 (3*(IntKind.wrap .i64 (Int.tdiv (IntKind.wrap .i64 (b'-a)) 4)))))) (decide (((IntKind.wrap .i64 (b'-a)):Int)≥8)) 0 (un fun (LI:Int) (Ut:Int)=>
  bif (Ut:Int)==0 then
   some [.int .i64 LI,.int .i64 1]
  else
   bif (Ut:Int)==12 then
   some [.int .i64 LI,.int .i64 2]
   else
   some [.int .i64 LI,.int .i64 0])
theorem Uu {data:List V} {a b':Int} {r:Option (List V)} (h:LH CC data a b'=r):CC Eo [.list af data,.int .i64 a,.int .i64 b']=r:=
 bj (key:=173) (L:=Ur CC) (bs:=[.cond 34 (ar [1,1,1,1,1,1,0,1,0] rZ) (ar [1,1,1,1,1,1,0,1,1] rZ)]) (by kernel_rfl) (bd (afQ CC) av) (Eq.trans (by kernel_rfl) h)
end Go.AM
set_option maxRecDepth 100000
namespace Go.AM
open Go.Proofs
noncomputable def Uv (C:ag) (data:List V) (a b' c gK:Int):Option (List V):=
 (C zc [.list af data,.int .i64 a,.int .i64 b',.int .i64 gK]).bind fun r1=>
 (C zc [.list af data,.int .i64 ((V.nth (r1.drop 1) 0).toInt),.int .i64 c,.int .i64 ((V.nth (r1.drop 2) 0).toInt)]).bind fun r2=>
 (C zc [.list af data,.int .i64 ((V.nth r1 0).toInt),.int .i64 ((V.nth r2 0).toInt),.int .i64 ((V.nth (r2.drop 2) 0).toInt)]).bind fun r3=>
 some [.int .i64 ((V.nth (r3.drop 1) 0).toInt),.int .i64 ((V.nth (r3.drop 2) 0).toInt)]
theorem afR {data:List V} {a b' c gK:Int} {r:Option (List V)} (h:Uv CC data a b' c gK=r):CC Ep [.list af data,.int .i64 a,.int .i64 b',.int .i64 c,.int .i64 gK]=r:=
 bj (key:=175) (L:=cT) (bs:=[]) (by kernel_rfl) av (Eq.trans (by kernel_rfl) h)
end Go.AM
set_option maxRecDepth 100000
namespace Go.AM
open Go.Proofs
noncomputable def LJ (C:ag) (data:List V) (a b' gK:Int):Option (List V):=
 (idx data b').bind fun x1=>
 (idx data a).bind fun x2=>
 (C br [.int .i64 ((x1.cell 0).toInt),.int .i64 ((x1.cell 1).toInt),.int .i64 ((x1.cell 2).toInt),.int .i64 ((x2.cell 0).toInt),.int .i64 ((x2.cell 1).toInt),.int .i64 ((x2.cell 2).toInt)]).bind fun r3=>
 bif decide ((((V.nth r3 0).toInt):Int)<0) then
  some [.int .i64 b',.int .i64 a,.int .i64 (IntKind.wrap .i64 (gK+1))]
 else
  some [.int .i64 a,.int .i64 b',.int .i64 gK]
theorem Uw {data:List V} {a b' gK:Int} {r:Option (List V)} (h:LJ CC data a b' gK=r):CC zc [.list af data,.int .i64 a,.int .i64 b',.int .i64 gK]=r:=
 bj (key:=176) (L:=cT) (bs:=[]) (by kernel_rfl) av (Eq.trans (by kernel_rfl) h)
end Go.AM
set_option maxRecDepth 100000
namespace Go.AM
open Go.Proofs
noncomputable def Ux (C:ag) (data:List V) (a gK:Int):Option (List V):=
 (C Ep [.list af data,.int .i64 (IntKind.wrap .i64 (a-1)),.int .i64 a,.int .i64 (IntKind.wrap .i64 (a+1)),.int .i64 gK]).bind fun r1=>
 some [.int .i64 ((V.nth r1 0).toInt),.int .i64 ((V.nth (r1.drop 1) 0).toInt)]
theorem afS {data:List V} {a gK:Int} {r:Option (List V)} (h:Ux CC data a gK=r):CC zb [.list af data,.int .i64 a,.int .i64 gK]=r:=
 bj (key:=174) (L:=cT) (bs:=[]) (by kernel_rfl) av (Eq.trans (by kernel_rfl) h)
end Go.AM
set_option maxRecDepth 100000
namespace Go.AM
open Go.Proofs
noncomputable abbrev wV:Code:=cx Tryd.prog (aw.aU 172)
noncomputable def FZ (C:ag) (a length wW jx other:Int) (t45:Bool) (ai:List V) (Bp:Int) {β:Type} (kr:(Int)→Option β):Option β:=
 bif t45 then
  kr (IntKind.wrap .i64 (other-length))
 else
  kr other
noncomputable def Bq (C:ag) (a length wW jx:Int) (ai:List V) (Bp:Int) {β:Type} (kn:(Int × (List V) × Int)→Option β) (kr:(Int × Bool × (List V) × Int)→Option β):Option β:=
 bif decide ((jx:Int)≤(IntKind.wrap .i64 ((IntKind.wrap .i64 (a+(IntKind.wrap .i64 (2*(IntKind.wrap .i64 (Int.tdiv length 4))))))+1))) then
  (C El [.int .u64 Bp]).bind fun r2=>
  FZ C a length wW jx (IntKind.wrap .i64 (IntKind.wrap .u64 ((BitVec.ofInt (IntKind.bits .u64) ((V.nth r2 0).toInt)&&&BitVec.ofInt (IntKind.bits .u64) (IntKind.wrap .u64 (wW-1))).toNat))) (decide (((IntKind.wrap .i64 (IntKind.wrap .u64 ((BitVec.ofInt (IntKind.bits .u64) ((V.nth r2 0).toInt)&&&BitVec.ofInt (IntKind.bits .u64) (IntKind.wrap .u64 (wW-1))).toNat))):Int)≥length)) ai ((V.nth (r2.drop 1) 0).toInt) (fun (uj:Int)=>
   bif (decide (0≤(IntKind.wrap .i64 (a+uj))))&&(decide ((IntKind.wrap .i64 (a+uj))<(ai.length:Int))) then
   (ai[(IntKind.wrap .i64 (a+uj):Int).toNat]?).bind fun x4=>
   bif (decide (0≤jx))&&(decide (jx<(ai.length:Int))) then
    (ai[(jx:Int).toNat]?).bind fun x5=>
    bif (decide (0≤jx))&&(decide (jx<(ai.length:Int))) then
    (ai[(jx:Int).toNat]?).bind fun x6=>
    bif (decide (0≤(IntKind.wrap .i64 (a+uj))))&&(decide ((IntKind.wrap .i64 (a+uj))<((ai.set ((jx:Int).toNat) (.agg [.int .i64 ((x4.cell 0).toInt),.int .i64 ((x4.cell 1).toInt),.int .i64 ((x4.cell 2).toInt)])).length:Int))) then
     ((ai.set ((jx:Int).toNat) (.agg [.int .i64 ((x4.cell 0).toInt),.int .i64 ((x4.cell 1).toInt),.int .i64 ((x4.cell 2).toInt)]))[(IntKind.wrap .i64 (a+uj):Int).toNat]?).bind fun x7=>
     kn (IntKind.wrap .i64 (jx+1),(ai.set ((jx:Int).toNat) (.agg [.int .i64 ((x4.cell 0).toInt),.int .i64 ((x4.cell 1).toInt),.int .i64 ((x4.cell 2).toInt)])).set ((IntKind.wrap .i64 (a+uj):Int).toNat) (.agg [.int .i64 ((x5.cell 0).toInt),.int .i64 ((x5.cell 1).toInt),.int .i64 ((x5.cell 2).toInt)]),(V.nth (r2.drop 1) 0).toInt)
    else none
    else none
   else none
   else none)
 else
  kr (jx,decide ((jx:Int)≤(IntKind.wrap .i64 ((IntKind.wrap .i64 (a+(IntKind.wrap .i64 (2*(IntKind.wrap .i64 (Int.tdiv length 4))))))+1))),ai,Bp)
noncomputable def F0 (C:ag) (a length wW:Int):(Int × (List V) × Int)→Option ((Int × (List V) × Int) ⊕ (Int × Bool × (List V) × Int)):=un fun jx=>un fun ai Bp=>Bq C a length wW jx ai Bp (fun y=>some (.inl y)) (fun r=>some (.inr r))
noncomputable def Uy (C:ag):ch:=fun β n ds k=>
 bif Nat.beq n 735 then ko J8 [[1,2,3,4,0,7,8]] (@FZ C) ds k else
 bif Nat.beq n 81 then bq J9 [false,false,false,true,true,true] [[1,2,3,0,0,0,0]] (@Bq C) ds k else
 none
abbrev Uz (C:ag) (b:cd):Prop:=cf Tryd.prog aw C (Uy C) 172 (cG Tryd.prog (aw.aU 172)) (aw.sin 172).aZ.length b
theorem afT (C:ag):Uz C (.cond 45 (ar [1,1,0,1,1,1,0,0,1,0,0,1,0,1,0] wV) (ar [1,1,0,1,1,1,0,0,1,0,0,1,0,1,1] wV)):=
 kV J8 [[1,2,3,4,0,7,8]] (@FZ C) (by kernel_rfl) (aR (bs:=[]) (by kernel_rfl) av) (aR (bs:=[]) (by kernel_rfl) av) (fun ds=>by kernel_rfl) (fun i β k=>by kernel_rfl) (fun β ds k=>by kernel_rfl)
theorem afU (C:ag):Uz C (.loop (ar [1,1,0,1,1,1,0,0] wV)):=
 bu J9 [false,false,false,true,true,true] [[1,2,3,0,0,0,0]] (@Bq C) (by kernel_rfl) (aR (bs:=[.cond 45 (ar [1,1,0,1,1,1,0,0,1,0,0,1,0,1,0] wV) (ar [1,1,0,1,1,1,0,0,1,0,0,1,0,1,1] wV)]) (by kernel_rfl) (bd (afT C) av)) (fun ds=>by kernel_rfl) (fun i x=>by kernel_rfl) (fun i x β k=>by kernel_rfl) (fun β ds k=>by kernel_rfl)
noncomputable def UA (C:ag) (a b':Int) (ai:List V):Option (List V):=
 bif decide (((IntKind.wrap .i64 (b'-a)):Int)≥8) then
  (C Ek [.int .i64 (IntKind.wrap .i64 (b'-a))]).bind fun r1=>
  (Loop (F0 C a (IntKind.wrap .i64 (b'-a)) ((V.nth r1 0).toInt)) (IntKind.wrap .i64 ((IntKind.wrap .i64 (a+(IntKind.wrap .i64 (2*(IntKind.wrap .i64 (Int.tdiv (IntKind.wrap .i64 (b'-a)) 4))))))-1),ai,IntKind.wrap .u64 (IntKind.wrap .i64 (b'-a)))).bind (un fun (aiU:Int)=>un fun (pf:Bool)=>un fun (oy:List V) (aiV:Int)=>
   some [.list af oy])
 else
  some [.list af ai]
theorem afV {a b':Int} {ai:List V} {r:Option (List V)} (h:UA CC a b' ai=r):CC IL [.int .i64 a,.int .i64 b',.list af ai]=r:=
 bj (key:=172) (L:=Uy CC) (bs:=[.loop (ar [1,1,0,1,1,1,0,0] wV)]) (by kernel_rfl) (bd (afU CC) av) (Eq.trans (by kernel_rfl) h)
end Go.AM
set_option maxRecDepth 100000
namespace Go.AM
open Go.Proofs
noncomputable def UB (C:ag) (iI:Int):Option (List V):=
 some [.int .u64 (IntKind.wrap .u64 ((BitVec.ofInt (IntKind.bits .u64) (IntKind.wrap .u64 ((BitVec.ofInt (IntKind.bits .u64) (IntKind.wrap .u64 ((BitVec.ofInt (IntKind.bits .u64) iI ^^^ BitVec.ofInt (IntKind.bits .u64) (IntKind.wrap .u64 (iI*2^(min (13:Int).toNat (IntKind.bits .u64))))).toNat)) ^^^ BitVec.ofInt (IntKind.bits .u64) (Int.fdiv (IntKind.wrap .u64 ((BitVec.ofInt (IntKind.bits .u64) iI ^^^ BitVec.ofInt (IntKind.bits .u64) (IntKind.wrap .u64 (iI*2^(min (13:Int).toNat (IntKind.bits .u64))))).toNat)) (2^(min (7:Int).toNat (IntKind.bits .u64))))).toNat)) ^^^ BitVec.ofInt (IntKind.bits .u64) (IntKind.wrap .u64 ((IntKind.wrap .u64 ((BitVec.ofInt (IntKind.bits .u64) (IntKind.wrap .u64 ((BitVec.ofInt (IntKind.bits .u64) iI ^^^ BitVec.ofInt (IntKind.bits .u64) (IntKind.wrap .u64 (iI*2^(min (13:Int).toNat (IntKind.bits .u64))))).toNat)) ^^^ BitVec.ofInt (IntKind.bits .u64) (Int.fdiv (IntKind.wrap .u64 ((BitVec.ofInt (IntKind.bits .u64) iI ^^^ BitVec.ofInt (IntKind.bits .u64) (IntKind.wrap .u64 (iI*2^(min (13:Int).toNat (IntKind.bits .u64))))).toNat)) (2^(min (7:Int).toNat (IntKind.bits .u64))))).toNat))*2^(min (17:Int).toNat (IntKind.bits .u64))))).toNat)),.int .u64 (IntKind.wrap .u64 ((BitVec.ofInt (IntKind.bits .u64) (IntKind.wrap .u64 ((BitVec.ofInt (IntKind.bits .u64) (IntKind.wrap .u64 ((BitVec.ofInt (IntKind.bits .u64) iI ^^^ BitVec.ofInt (IntKind.bits .u64) (IntKind.wrap .u64 (iI*2^(min (13:Int).toNat (IntKind.bits .u64))))).toNat)) ^^^ BitVec.ofInt (IntKind.bits .u64) (Int.fdiv (IntKind.wrap .u64 ((BitVec.ofInt (IntKind.bits .u64) iI ^^^ BitVec.ofInt (IntKind.bits .u64) (IntKind.wrap .u64 (iI*2^(min (13:Int).toNat (IntKind.bits .u64))))).toNat)) (2^(min (7:Int).toNat (IntKind.bits .u64))))).toNat)) ^^^ BitVec.ofInt (IntKind.bits .u64) (IntKind.wrap .u64 ((IntKind.wrap .u64 ((BitVec.ofInt (IntKind.bits .u64) (IntKind.wrap .u64 ((BitVec.ofInt (IntKind.bits .u64) iI ^^^ BitVec.ofInt (IntKind.bits .u64) (IntKind.wrap .u64 (iI*2^(min (13:Int).toNat (IntKind.bits .u64))))).toNat)) ^^^ BitVec.ofInt (IntKind.bits .u64) (Int.fdiv (IntKind.wrap .u64 ((BitVec.ofInt (IntKind.bits .u64) iI ^^^ BitVec.ofInt (IntKind.bits .u64) (IntKind.wrap .u64 (iI*2^(min (13:Int).toNat (IntKind.bits .u64))))).toNat)) (2^(min (7:Int).toNat (IntKind.bits .u64))))).toNat))*2^(min (17:Int).toNat (IntKind.bits .u64))))).toNat))]
theorem afW {iI:Int} {r:Option (List V)} (h:UB CC iI=r):CC El [.int .u64 iI]=r:=
 bj (key:=143) (L:=cT) (bs:=[]) (by kernel_rfl) av (Eq.trans (by kernel_rfl) h)
end Go.AM
set_option maxRecDepth 100000
namespace Go.AM
open Go.Proofs
noncomputable def UC (C:ag) (length:Int):Option (List V):=
 (C y5 [.int .u64 (IntKind.wrap .u64 length)]).bind fun r1=>
 bif decide (0≤((V.nth r1 0).toInt)) then
  some [.int .u64 (IntKind.wrap .u64 (1*2^(min ((V.nth r1 0).toInt).toNat (IntKind.bits .u64))))]
 else none
theorem afX {length:Int} {r:Option (List V)} (h:UC CC length=r):CC Ek [.int .i64 length]=r:=
 bj (key:=142) (L:=cT) (bs:=[]) (by kernel_rfl) av (Eq.trans (by kernel_rfl) h)
end Go.AM
set_option maxRecDepth 100000
namespace Go.AM
open Go.Proofs
noncomputable def UD (C:ag) (x:Int):Option (List V):=
 (C Eg [.int .u64 x]).bind fun r1=>
 some [.int .i64 ((V.nth r1 0).toInt)]
theorem afY {x:Int} {r:Option (List V)} (h:UD CC x=r):CC y5 [.int .u64 x]=r:=
 bj (key:=111) (L:=cT) (bs:=[]) (by kernel_rfl) av (Eq.trans (by kernel_rfl) h)
end Go.AM
set_option maxRecDepth 100000
namespace Go.AM
open Go.Proofs
noncomputable abbrev sa:Code:=cx Tryd.prog (aw.aU 134)
noncomputable def uk (C:ag) (x n:Int) (t4:Bool) {β:Type} (kr:(Int × Int)→Option β):Option β:=
 bif t4 then
  kr (Int.fdiv x (2^(min (32:Int).toNat (IntKind.bits .u64))),32)
 else
  kr (x,n)
noncomputable def um (C:ag) (x n:Int) (t8:Bool) {β:Type} (kr:(Int × Int)→Option β):Option β:=
 bif t8 then
  kr (Int.fdiv x (2^(min (16:Int).toNat (IntKind.bits .u64))),IntKind.wrap .i64 (n+16))
 else
  kr (x,n)
noncomputable def UE (C:ag):ch:=fun β n ds k=>
 bif Nat.beq n 79 then ko JX [[0,0]] (@uk C) ds k else
 bif Nat.beq n 143 then ko JY [[0,0]] (@um C) ds k else
 none
abbrev UF (C:ag) (b:cd):Prop:=cf Tryd.prog aw C (UE C) 134 (cG Tryd.prog (aw.aU 134)) (aw.sin 134).aZ.length b
theorem afZ (C:ag):UF C (.cond 4 (ar [1,0,1,0] sa) (ar [1,0,1,1] sa)):=
 kV JX [[0,0]] (@uk C) (by kernel_rfl) (aR (bs:=[]) (by kernel_rfl) av) (aR (bs:=[]) (by kernel_rfl) av) (fun ds=>by kernel_rfl) (fun i β k=>by kernel_rfl) (fun β ds k=>by kernel_rfl)
theorem af0 (C:ag):UF C (.cond 8 (ar [1,1,0,1,0] sa) (ar [1,1,0,1,1] sa)):=
 kV JY [[0,0]] (@um C) (by kernel_rfl) (aR (bs:=[]) (by kernel_rfl) av) (aR (bs:=[]) (by kernel_rfl) av) (fun ds=>by kernel_rfl) (fun i β k=>by kernel_rfl) (fun β ds k=>by kernel_rfl)
noncomputable def af1 (C:ag) (x:Int):Option (List V):=
 uk C x 0 (decide ((x:Int)≥4294967296)) (un fun (sb:Int) (cq:Int)=>
  um C sb cq (decide ((sb:Int)≥65536)) (un fun (Br:Int) (cv:Int)=>
   bif decide ((Br:Int)≥256) then
    (bif decide (0≤(IntKind.wrap .u8 (Int.fdiv Br (2^(min (8:Int).toNat (IntKind.bits .u64)))))) then (([0,1,2,2,3,3,3,3,4,4,4,4,4,4,4,4,5,5,5,5,5,5,5,5,5,5,5,5,5,5,5,5,6,6,6,6,6,6,6,6,6,6,6,6,6,6,6,6,6,6,6,6,6,6,6,6,6,6,6,6,6,6,6,6,7,7,7,7,7,7,7,7,7,7,7,7,7,7,7,7,7,7,7,7,7,7,7,7,7,7,7,7,7,7,7,7,7,7,7,7,7,7,7,7,7,7,7,7,7,7,7,7,7,7,7,7,7,7,7,7,7,7,7,7,7,7,7,7,8,8,8,8,8,8,8,8,8,8,8,8,8,8,8,8,8,8,8,8,8,8,8,8,8,8,8,8,8,8,8,8,8,8,8,8,8,8,8,8,8,8,8,8,8,8,8,8,8,8,8,8,8,8,8,8,8,8,8,8,8,8,8,8,8,8,8,8,8,8,8,8,8,8,8,8,8,8,8,8,8,8,8,8,8,8,8,8,8,8,8,8,8,8,8,8,8,8,8,8,8,8,8,8,8,8,8,8,8,8,8,8,8,8,8,8,8,8,8,8,8,8,8,8,8,8,8,8]:List UInt8)[(IntKind.wrap .u8 (Int.fdiv Br (2^(min (8:Int).toNat (IntKind.bits .u64)))):Int).toNat]?).map fun b=>V.int .u8 b.toNat else none).bind fun x5=>
    some [.int .i64 (IntKind.wrap .i64 ((IntKind.wrap .i64 (cv+8))+(IntKind.wrap .i64 x5.toInt)))]
   else
    (bif decide (0≤(IntKind.wrap .u8 Br)) then (([0,1,2,2,3,3,3,3,4,4,4,4,4,4,4,4,5,5,5,5,5,5,5,5,5,5,5,5,5,5,5,5,6,6,6,6,6,6,6,6,6,6,6,6,6,6,6,6,6,6,6,6,6,6,6,6,6,6,6,6,6,6,6,6,7,7,7,7,7,7,7,7,7,7,7,7,7,7,7,7,7,7,7,7,7,7,7,7,7,7,7,7,7,7,7,7,7,7,7,7,7,7,7,7,7,7,7,7,7,7,7,7,7,7,7,7,7,7,7,7,7,7,7,7,7,7,7,7,8,8,8,8,8,8,8,8,8,8,8,8,8,8,8,8,8,8,8,8,8,8,8,8,8,8,8,8,8,8,8,8,8,8,8,8,8,8,8,8,8,8,8,8,8,8,8,8,8,8,8,8,8,8,8,8,8,8,8,8,8,8,8,8,8,8,8,8,8,8,8,8,8,8,8,8,8,8,8,8,8,8,8,8,8,8,8,8,8,8,8,8,8,8,8,8,8,8,8,8,8,8,8,8,8,8,8,8,8,8,8,8,8,8,8,8,8,8,8,8,8,8,8,8,8,8,8,8]:List UInt8)[(IntKind.wrap .u8 Br:Int).toNat]?).map fun b=>V.int .u8 b.toNat else none).bind fun x6=>
    some [.int .i64 (IntKind.wrap .i64 (cv+(IntKind.wrap .i64 x6.toInt)))]))
theorem UG {x:Int} {r:Option (List V)} (h:af1 CC x=r):CC Eg [.int .u64 x]=r:=
 bj (key:=134) (L:=UE CC) (bs:=[.cond 4 (ar [1,0,1,0] sa) (ar [1,0,1,1] sa),.cond 8 (ar [1,1,0,1,0] sa) (ar [1,1,0,1,1] sa)]) (by kernel_rfl) (bd (afZ CC) (bd (af0 CC) av)) (Eq.trans (by kernel_rfl) h)
end Go.AM
set_option maxRecDepth 100000
namespace Go.AM
open Go.Proofs
noncomputable abbrev lB:Code:=cx Tryd.prog (aw.aU 169)
noncomputable def wX (C:ag) (a b' iZ:Int) (eQ fg:Bool) (length:Int) (t39:Bool) (ai:List V) {β:Type} (kr:(Int × (List V))→Option β):Option β:=
 bif t39 then
  (C IL [.int .i64 a,.int .i64 b',.list af ai]).bind fun r3=>
  kr (IntKind.wrap .i64 (iZ-1),(V.nth r3 0).toList)
 else
  kr (iZ,ai)
noncomputable def wY (C:ag) (a b' iZ:Int) (eQ fg:Bool) (length pivot hint:Int) (t56:Bool) (ai:List V) {β:Type} (kr:(Int × Int × (List V))→Option β):Option β:=
 bif t56 then
  (C IM [.int .i64 a,.int .i64 b',.list af ai]).bind fun r7=>
  kr (IntKind.wrap .i64 ((IntKind.wrap .i64 (b'-1))-(IntKind.wrap .i64 (pivot-a))),1,(V.nth r7 0).toList)
 else
  kr (pivot,hint,ai)
noncomputable def mo (C:ag) (a b' iZ:Int) (eQ fg:Bool) (length pivot:Int) (t75:Bool) (ai:List V) {β:Type} (kr:((Bool × (List V)) ⊕ (List V))→Option β):Option β:=
 bif t75 then
  (C IN [.int .i64 a,.int .i64 b',.list af ai]).bind fun F3=>
  bif (V.nth F3 0).toBool then
  kr (.inl ((V.nth F3 0).toBool,(V.nth (F3.drop 1) 0).toList))
  else
  kr (.inr ((V.nth (F3.drop 1) 0).toList))
 else
  kr (.inr ai)
noncomputable def pw (C:ag) (a b' iZ:Int) (eQ fg:Bool) (ai:List V) {β:Type} (kn:(Int × Int × Int × Bool × Bool × (List V))→Option β) (kr:(List V)→Option β):Option β:=
 bif decide (((IntKind.wrap .i64 (b'-a)):Int)≤12) then
  (C Em [.int .i64 a,.int .i64 b',.list af ai]).bind fun r1=>
  kr ((V.nth r1 0).toList)
 else
  bif (iZ:Int)==0 then
  (C En [.int .i64 a,.int .i64 b',.list af ai]).bind fun r2=>
  kr ((V.nth r2 0).toList)
  else
  wX C a b' iZ eQ fg (IntKind.wrap .i64 (b'-a)) (!eQ) ai (un fun (cJ:Int) (Bs:List V)=>
   (C Eo [.list af Bs,.int .i64 a,.int .i64 b']).bind fun r6=>
   wY C a b' cJ eQ fg (IntKind.wrap .i64 (b'-a)) ((V.nth r6 0).toInt) ((V.nth (r6.drop 1) 0).toInt) ((((V.nth (r6.drop 1) 0).toInt):Int)==2) Bs (un fun (dQ:Int)=>un fun (LL:Int) (oy:List V)=>
    bif eQ then
     bif fg then
     mo C a b' cJ eQ fg (IntKind.wrap .i64 (b'-a)) dQ ((LL:Int)==1) oy (cY (un fun (wq:Bool) (Lw:List V)=>
      kr Lw) (fun (uo:List V)=>
      bif decide ((a:Int)>0) then
       bif (decide (0≤(IntKind.wrap .i64 (a-1))))&&(decide ((IntKind.wrap .i64 (a-1))<(uo.length:Int))) then
       (uo[(IntKind.wrap .i64 (a-1):Int).toNat]?).bind fun fU=>
       bif (decide (0≤dQ))&&(decide (dQ<(uo.length:Int))) then
        (uo[(dQ:Int).toNat]?).bind fun gu=>
        (C br [.int .i64 ((fU.cell 0).toInt),.int .i64 ((fU.cell 1).toInt),.int .i64 ((fU.cell 2).toInt),.int .i64 ((gu.cell 0).toInt),.int .i64 ((gu.cell 1).toInt),.int .i64 ((gu.cell 2).toInt)]).bind fun eP=>
        bif !(decide ((((V.nth eP 0).toInt):Int)<0)) then
        (C vS [.int .i64 a,.int .i64 b',.int .i64 dQ,.list af uo]).bind fun wZ=>
        kn ((V.nth wZ 0).toInt,b',cJ,eQ,fg,(V.nth (wZ.drop 1) 0).toList)
        else
        (C od [.int .i64 a,.int .i64 b',.int .i64 dQ,.list af uo]).bind fun fV=>
        bif decide (((IntKind.wrap .i64 (((V.nth fV 0).toInt)-a)):Int)<(IntKind.wrap .i64 (b'-((V.nth fV 0).toInt)))) then
         (C gF [.int .i64 a,.int .i64 ((V.nth fV 0).toInt),.int .i64 cJ,.list af ((V.nth (fV.drop 2) 0).toList)]).bind fun ic=>
         kn (IntKind.wrap .i64 (((V.nth fV 0).toInt)+1),b',cJ,decide (((IntKind.wrap .i64 (((V.nth fV 0).toInt)-a)):Int)≥(IntKind.wrap .i64 (Int.tdiv (IntKind.wrap .i64 (b'-a)) 8))),(V.nth (fV.drop 1) 0).toBool,(V.nth ic 0).toList)
        else
         (C gF [.int .i64 (IntKind.wrap .i64 (((V.nth fV 0).toInt)+1)),.int .i64 b',.int .i64 cJ,.list af ((V.nth (fV.drop 2) 0).toList)]).bind fun kD=>
         kn (a,(V.nth fV 0).toInt,cJ,decide (((IntKind.wrap .i64 (b'-((V.nth fV 0).toInt))):Int)≥(IntKind.wrap .i64 (Int.tdiv (IntKind.wrap .i64 (b'-a)) 8))),(V.nth (fV.drop 1) 0).toBool,(V.nth kD 0).toList)
       else none
       else none
      else
       (C od [.int .i64 a,.int .i64 b',.int .i64 dQ,.list af uo]).bind fun jW=>
       bif decide (((IntKind.wrap .i64 (((V.nth jW 0).toInt)-a)):Int)<(IntKind.wrap .i64 (b'-((V.nth jW 0).toInt)))) then
       (C gF [.int .i64 a,.int .i64 ((V.nth jW 0).toInt),.int .i64 cJ,.list af ((V.nth (jW.drop 2) 0).toList)]).bind fun r23=>
       kn (IntKind.wrap .i64 (((V.nth jW 0).toInt)+1),b',cJ,decide (((IntKind.wrap .i64 (((V.nth jW 0).toInt)-a)):Int)≥(IntKind.wrap .i64 (Int.tdiv (IntKind.wrap .i64 (b'-a)) 8))),(V.nth (jW.drop 1) 0).toBool,(V.nth r23 0).toList)
       else
       (C gF [.int .i64 (IntKind.wrap .i64 (((V.nth jW 0).toInt)+1)),.int .i64 b',.int .i64 cJ,.list af ((V.nth (jW.drop 2) 0).toList)]).bind fun r24=>
       kn (a,(V.nth jW 0).toInt,cJ,decide (((IntKind.wrap .i64 (b'-((V.nth jW 0).toInt))):Int)≥(IntKind.wrap .i64 (Int.tdiv (IntKind.wrap .i64 (b'-a)) 8))),(V.nth (jW.drop 1) 0).toBool,(V.nth r24 0).toList)))
     else
     mo C a b' cJ eQ fg (IntKind.wrap .i64 (b'-a)) dQ false oy (cY (un fun (K0:Bool) (af2:List V)=>
      kr af2) (fun (qE:List V)=>
      bif decide ((a:Int)>0) then
       bif (decide (0≤(IntKind.wrap .i64 (a-1))))&&(decide ((IntKind.wrap .i64 (a-1))<(qE.length:Int))) then
       (qE[(IntKind.wrap .i64 (a-1):Int).toNat]?).bind fun ug=>
       bif (decide (0≤dQ))&&(decide (dQ<(qE.length:Int))) then
        (qE[(dQ:Int).toNat]?).bind fun uh=>
        (C br [.int .i64 ((ug.cell 0).toInt),.int .i64 ((ug.cell 1).toInt),.int .i64 ((ug.cell 2).toInt),.int .i64 ((uh.cell 0).toInt),.int .i64 ((uh.cell 1).toInt),.int .i64 ((uh.cell 2).toInt)]).bind fun FT=>
        bif !(decide ((((V.nth FT 0).toInt):Int)<0)) then
        (C vS [.int .i64 a,.int .i64 b',.int .i64 dQ,.list af qE]).bind fun UH=>
        kn ((V.nth UH 0).toInt,b',cJ,eQ,fg,(V.nth (UH.drop 1) 0).toList)
        else
        (C od [.int .i64 a,.int .i64 b',.int .i64 dQ,.list af qE]).bind fun nn=>
        bif decide (((IntKind.wrap .i64 (((V.nth nn 0).toInt)-a)):Int)<(IntKind.wrap .i64 (b'-((V.nth nn 0).toInt)))) then
         (C gF [.int .i64 a,.int .i64 ((V.nth nn 0).toInt),.int .i64 cJ,.list af ((V.nth (nn.drop 2) 0).toList)]).bind fun r33=>
         kn (IntKind.wrap .i64 (((V.nth nn 0).toInt)+1),b',cJ,decide (((IntKind.wrap .i64 (((V.nth nn 0).toInt)-a)):Int)≥(IntKind.wrap .i64 (Int.tdiv (IntKind.wrap .i64 (b'-a)) 8))),(V.nth (nn.drop 1) 0).toBool,(V.nth r33 0).toList)
        else
         (C gF [.int .i64 (IntKind.wrap .i64 (((V.nth nn 0).toInt)+1)),.int .i64 b',.int .i64 cJ,.list af ((V.nth (nn.drop 2) 0).toList)]).bind fun r34=>
         kn (a,(V.nth nn 0).toInt,cJ,decide (((IntKind.wrap .i64 (b'-((V.nth nn 0).toInt))):Int)≥(IntKind.wrap .i64 (Int.tdiv (IntKind.wrap .i64 (b'-a)) 8))),(V.nth (nn.drop 1) 0).toBool,(V.nth r34 0).toList)
       else none
       else none
      else
       (C od [.int .i64 a,.int .i64 b',.int .i64 dQ,.list af qE]).bind fun np=>
       bif decide (((IntKind.wrap .i64 (((V.nth np 0).toInt)-a)):Int)<(IntKind.wrap .i64 (b'-((V.nth np 0).toInt)))) then
       (C gF [.int .i64 a,.int .i64 ((V.nth np 0).toInt),.int .i64 cJ,.list af ((V.nth (np.drop 2) 0).toList)]).bind fun r36=>
       kn (IntKind.wrap .i64 (((V.nth np 0).toInt)+1),b',cJ,decide (((IntKind.wrap .i64 (((V.nth np 0).toInt)-a)):Int)≥(IntKind.wrap .i64 (Int.tdiv (IntKind.wrap .i64 (b'-a)) 8))),(V.nth (np.drop 1) 0).toBool,(V.nth r36 0).toList)
       else
       (C gF [.int .i64 (IntKind.wrap .i64 (((V.nth np 0).toInt)+1)),.int .i64 b',.int .i64 cJ,.list af ((V.nth (np.drop 2) 0).toList)]).bind fun r37=>
       kn (a,(V.nth np 0).toInt,cJ,decide (((IntKind.wrap .i64 (b'-((V.nth np 0).toInt))):Int)≥(IntKind.wrap .i64 (Int.tdiv (IntKind.wrap .i64 (b'-a)) 8))),(V.nth (np.drop 1) 0).toBool,(V.nth r37 0).toList)))
    else
     mo C a b' cJ eQ fg (IntKind.wrap .i64 (b'-a)) dQ false oy (cY (un fun (aiW:Bool) (af3:List V)=>
      kr af3) (fun (jw:List V)=>
      bif decide ((a:Int)>0) then
      bif (decide (0≤(IntKind.wrap .i64 (a-1))))&&(decide ((IntKind.wrap .i64 (a-1))<(jw.length:Int))) then
       (jw[(IntKind.wrap .i64 (a-1):Int).toNat]?).bind fun mn=>
       bif (decide (0≤dQ))&&(decide (dQ<(jw.length:Int))) then
       (jw[(dQ:Int).toNat]?).bind fun ui=>
       (C br [.int .i64 ((mn.cell 0).toInt),.int .i64 ((mn.cell 1).toInt),.int .i64 ((mn.cell 2).toInt),.int .i64 ((ui.cell 0).toInt),.int .i64 ((ui.cell 1).toInt),.int .i64 ((ui.cell 2).toInt)]).bind fun r43=>
       bif !(decide ((((V.nth r43 0).toInt):Int)<0)) then
        (C vS [.int .i64 a,.int .i64 b',.int .i64 dQ,.list af jw]).bind fun UI=>
        kn ((V.nth UI 0).toInt,b',cJ,eQ,fg,(V.nth (UI.drop 1) 0).toList)
       else
        (C od [.int .i64 a,.int .i64 b',.int .i64 dQ,.list af jw]).bind fun nq=>
        bif decide (((IntKind.wrap .i64 (((V.nth nq 0).toInt)-a)):Int)<(IntKind.wrap .i64 (b'-((V.nth nq 0).toInt)))) then
        (C gF [.int .i64 a,.int .i64 ((V.nth nq 0).toInt),.int .i64 cJ,.list af ((V.nth (nq.drop 2) 0).toList)]).bind fun r46=>
        kn (IntKind.wrap .i64 (((V.nth nq 0).toInt)+1),b',cJ,decide (((IntKind.wrap .i64 (((V.nth nq 0).toInt)-a)):Int)≥(IntKind.wrap .i64 (Int.tdiv (IntKind.wrap .i64 (b'-a)) 8))),(V.nth (nq.drop 1) 0).toBool,(V.nth r46 0).toList)
        else
        (C gF [.int .i64 (IntKind.wrap .i64 (((V.nth nq 0).toInt)+1)),.int .i64 b',.int .i64 cJ,.list af ((V.nth (nq.drop 2) 0).toList)]).bind fun r47=>
        kn (a,(V.nth nq 0).toInt,cJ,decide (((IntKind.wrap .i64 (b'-((V.nth nq 0).toInt))):Int)≥(IntKind.wrap .i64 (Int.tdiv (IntKind.wrap .i64 (b'-a)) 8))),(V.nth (nq.drop 1) 0).toBool,(V.nth r47 0).toList)
       else none
      else none
      else
      (C od [.int .i64 a,.int .i64 b',.int .i64 dQ,.list af jw]).bind fun nr=>
      bif decide (((IntKind.wrap .i64 (((V.nth nr 0).toInt)-a)):Int)<(IntKind.wrap .i64 (b'-((V.nth nr 0).toInt)))) then
       (C gF [.int .i64 a,.int .i64 ((V.nth nr 0).toInt),.int .i64 cJ,.list af ((V.nth (nr.drop 2) 0).toList)]).bind fun r49=>
       kn (IntKind.wrap .i64 (((V.nth nr 0).toInt)+1),b',cJ,decide (((IntKind.wrap .i64 (((V.nth nr 0).toInt)-a)):Int)≥(IntKind.wrap .i64 (Int.tdiv (IntKind.wrap .i64 (b'-a)) 8))),(V.nth (nr.drop 1) 0).toBool,(V.nth r49 0).toList)
      else
       (C gF [.int .i64 (IntKind.wrap .i64 (((V.nth nr 0).toInt)+1)),.int .i64 b',.int .i64 cJ,.list af ((V.nth (nr.drop 2) 0).toList)]).bind fun r50=>
       kn (a,(V.nth nr 0).toInt,cJ,decide (((IntKind.wrap .i64 (b'-((V.nth nr 0).toInt))):Int)≥(IntKind.wrap .i64 (Int.tdiv (IntKind.wrap .i64 (b'-a)) 8))),(V.nth (nr.drop 1) 0).toBool,(V.nth r50 0).toList)))))
noncomputable def UJ (C:ag):(Int × Int × Int × Bool × Bool × (List V))→Option ((Int × Int × Int × Bool × Bool × (List V)) ⊕ (List V)):=un fun a=>un fun b'=>un fun iZ=>un fun eQ=>un fun fg ai=>pw C a b' iZ eQ fg ai (fun y=>some (.inl y)) (fun r=>some (.inr r))
noncomputable def UK (C:ag):ch:=fun β n ds k=>
 bif Nat.beq n 639 then ko J0 [[1,2,0,4,5,6,0]] (@wX C) ds k else
 bif Nat.beq n 911 then ko J1 [[1,2,3,4,5,6,0,0,0]] (@wY C) ds k else
 bif Nat.beq n 1215 then ko J2 [[1,2,3,4,5,6,7,0,0],[1,2,3,4,5,6,7,0]] (@mo C) ds k else
 bif Nat.beq n 33 then bq J3 [true,true,true,true,true,true] [[0]] (@pw C) ds k else
 none
abbrev F4 (C:ag) (b:cd):Prop:=cf Tryd.prog aw C (UK C) 169 (cG Tryd.prog (aw.aU 169)) (aw.sin 169).aZ.length b
theorem af4 (C:ag):F4 C (.cond 39 (ar [1,1,0,0,0,1,1,1,0,1,0] lB) (ar [1,1,0,0,0,1,1,1,0,1,1] lB)):=
 kV J0 [[1,2,0,4,5,6,0]] (@wX C) (by kernel_rfl) (aR (bs:=[]) (by kernel_rfl) av) (aR (bs:=[]) (by kernel_rfl) av) (fun ds=>by kernel_rfl) (fun i β k=>by kernel_rfl) (fun β ds k=>by kernel_rfl)
theorem af5 (C:ag):F4 C (.cond 56 (ar [1,1,0,0,0,1,1,1,1,1,0,1,0] lB) (ar [1,1,0,0,0,1,1,1,1,1,0,1,1] lB)):=
 kV J1 [[1,2,3,4,5,6,0,0,0]] (@wY C) (by kernel_rfl) (aR (bs:=[]) (by kernel_rfl) av) (aR (bs:=[]) (by kernel_rfl) av) (fun ds=>by kernel_rfl) (fun i β k=>by kernel_rfl) (fun β ds k=>by kernel_rfl)
theorem af6 (C:ag):F4 C (.cond 75 (ar [1,1,0,0,0,1,1,1,1,1,1,0,1,0] lB) (ar [1,1,0,0,0,1,1,1,1,1,1,0,1,1] lB)):=
 kV J2 [[1,2,3,4,5,6,7,0,0],[1,2,3,4,5,6,7,0]] (@mo C) (by kernel_rfl) (aR (bs:=[]) (by kernel_rfl) av) (aR (bs:=[]) (by kernel_rfl) av) (fun ds=>by kernel_rfl) (fun i β k=>by kernel_rfl) (fun β ds k=>by kernel_rfl)
theorem af7 (C:ag):F4 C (.loop (ar [1,1,0,0] lB)):=
 bu J3 [true,true,true,true,true,true] [[0]] (@pw C) (by kernel_rfl) (aR (bs:=[.cond 39 (ar [1,1,0,0,0,1,1,1,0,1,0] lB) (ar [1,1,0,0,0,1,1,1,0,1,1] lB),.cond 56 (ar [1,1,0,0,0,1,1,1,1,1,0,1,0] lB) (ar [1,1,0,0,0,1,1,1,1,1,0,1,1] lB),.cond 75 (ar [1,1,0,0,0,1,1,1,1,1,1,0,1,0] lB) (ar [1,1,0,0,0,1,1,1,1,1,1,0,1,1] lB)]) (by kernel_rfl) (bd (af4 C) (bd (af5 C) (bd (af6 C) av)))) (fun ds=>by kernel_rfl) (fun i x=>by kernel_rfl) (fun i x β k=>by kernel_rfl) (fun β ds k=>by kernel_rfl)
noncomputable def UL (C:ag) (a b' iZ:Int) (ai:List V):Option (List V):=
 (Loop (UJ C) (a,b',iZ,true,true,ai)).bind (fun (af8:List V)=>
  some [.list af af8])
theorem af9 {a b' iZ:Int} {ai:List V} {r:Option (List V)} (h:UL CC a b' iZ ai=r):CC gF [.int .i64 a,.int .i64 b',.int .i64 iZ,.list af ai]=r:=
 bj (key:=169) (L:=UK CC) (bs:=[.loop (ar [1,1,0,0] lB)]) (by kernel_rfl) (bd (af7 CC) av) (Eq.trans (by kernel_rfl) h)
end Go.AM
set_option maxRecDepth 100000
namespace Go.AM
open Go.Proofs
noncomputable def UM (C:ag) (xs:List V):Option (List V):=
 (C y5 [.int .u64 (IntKind.wrap .u64 (xs.length:Int))]).bind fun r1=>
 (C gF [.int .i64 0,.int .i64 (xs.length:Int),.int .i64 ((V.nth r1 0).toInt),.list af xs]).bind fun r2=>
 some [.list af ((V.nth r2 0).toList)]
theorem aga {xs:List V} {r:Option (List V)} (h:UM CC xs=r):CC yW [.list af xs]=r:=
 bj (key:=87) (L:=cT) (bs:=[]) (by kernel_rfl) av (Eq.trans (by kernel_rfl) h)
end Go.AM
set_option maxRecDepth 100000
set_option linter.unusedSimpArgs false
set_option maxHeartbeats 4000000
namespace Go.AM.SL
open Go.AM Go.Proofs Go.Sort
theorem UN (a b:Ed):(ay a b=true)=(a.lt b):=by rw[rX,propext (EA a b)]
theorem F5 (a b:Ed):(ay a b=false)= ¬(a.lt b):=by rw[←UN];simp
theorem w4:SWO ay where
 irrefl x:=by rw[F5];unfold Ed.lt;omega
 trans x y z:=by simp only[UN];unfold Ed.lt;omega
 ntrans x y z:=by simp only[F5];unfold Ed.lt;omega
def F6:List UInt8:=([0,1,2,2,3,3,3,3,4,4,4,4,4,4,4,4,5,5,5,5,5,5,5,5,5,5,5,5,5,5,5,5,6,6,6,6,6,6,6,6,6,6,6,6,6,6,6,6,6,6,6,6,6,6,6,6,6,6,6,6,6,6,6,6,7,7,7,7,7,7,7,7,7,7,7,7,7,7,7,7,7,7,7,7,7,7,7,7,7,7,7,7,7,7,7,7,7,7,7,7,7,7,7,7,7,7,7,7,7,7,7,7,7,7,7,7,7,7,7,7,7,7,7,7,7,7,7,7,8,8,8,8,8,8,8,8,8,8,8,8,8,8,8,8,8,8,8,8,8,8,8,8,8,8,8,8,8,8,8,8,8,8,8,8,8,8,8,8,8,8,8,8,8,8,8,8,8,8,8,8,8,8,8,8,8,8,8,8,8,8,8,8,8,8,8,8,8,8,8,8,8,8,8,8,8,8,8,8,8,8,8,8,8,8,8,8,8,8,8,8,8,8,8,8,8,8,8,8,8,8,8,8,8,8,8,8,8,8,8,8,8,8,8,8,8,8,8,8,8,8,8,8,8,8,8,8]:List UInt8)
theorem agb:(List.range 256).all (fun y=>match F6[y]? with|some b=>decide (b.toNat≤8)&&(Nat.beq y 0||(decide (1≤b.toNat)&&decide (2^(b.toNat-1)≤y)))|none=>false)=true:=by decide+kernel
theorem UO {y:Nat} (h:y<256): ∃b,F6[y]? =some b∧b.toNat≤8∧(0<y→1≤b.toNat∧2^(b.toNat-1)≤y):=by
 have:=List.all_eq_true.1 agb y (List.mem_range.2 h)
 cases hb:F6[y]? with
 | none=>rw[hb] at this;cases this
 | some b=>
  rw[hb] at this
  simp only[Bool.and_eq_true,Bool.or_eq_true,decide_eq_true_eq] at this
  refine ⟨b,rfl,this.1,fun hy=> ?_⟩
  rcases this.2 with h2|h2
  ·have:=Nat.eq_of_beq_eq_true h2;omega
  ·exact h2
theorem LM {y t k:Nat} (h:2^(t-1)≤y/2^k) (ht:1≤t):2^(t+k-1)≤y:=by
 have e:t+k-1=(t-1)+k:=by omega
 rw[e,Nat.pow_add]
 exact Nat.le_trans (Nat.mul_le_mul_right _ h) (Nat.div_mul_le_self _ _)
noncomputable def w5 (y n:Int):Option (List V):=
(bif decide ((y:Int)≥256) then
    (bif decide (0≤(IntKind.wrap .u8 (Int.fdiv y (2^(min (8:Int).toNat (IntKind.bits .u64)))))) then (([0,1,2,2,3,3,3,3,4,4,4,4,4,4,4,4,5,5,5,5,5,5,5,5,5,5,5,5,5,5,5,5,6,6,6,6,6,6,6,6,6,6,6,6,6,6,6,6,6,6,6,6,6,6,6,6,6,6,6,6,6,6,6,6,7,7,7,7,7,7,7,7,7,7,7,7,7,7,7,7,7,7,7,7,7,7,7,7,7,7,7,7,7,7,7,7,7,7,7,7,7,7,7,7,7,7,7,7,7,7,7,7,7,7,7,7,7,7,7,7,7,7,7,7,7,7,7,7,8,8,8,8,8,8,8,8,8,8,8,8,8,8,8,8,8,8,8,8,8,8,8,8,8,8,8,8,8,8,8,8,8,8,8,8,8,8,8,8,8,8,8,8,8,8,8,8,8,8,8,8,8,8,8,8,8,8,8,8,8,8,8,8,8,8,8,8,8,8,8,8,8,8,8,8,8,8,8,8,8,8,8,8,8,8,8,8,8,8,8,8,8,8,8,8,8,8,8,8,8,8,8,8,8,8,8,8,8,8,8,8,8,8,8,8,8,8,8,8,8,8,8,8,8,8,8,8]:List UInt8)[(IntKind.wrap .u8 (Int.fdiv y (2^(min (8:Int).toNat (IntKind.bits .u64)))):Int).toNat]?).map fun b=>V.int .u8 b.toNat else none).bind fun x5=>
    some [V.int .i64 (IntKind.wrap .i64 ((IntKind.wrap .i64 (n+8))+(IntKind.wrap .i64 x5.toInt)))]
   else
    (bif decide (0≤(IntKind.wrap .u8 y)) then (([0,1,2,2,3,3,3,3,4,4,4,4,4,4,4,4,5,5,5,5,5,5,5,5,5,5,5,5,5,5,5,5,6,6,6,6,6,6,6,6,6,6,6,6,6,6,6,6,6,6,6,6,6,6,6,6,6,6,6,6,6,6,6,6,7,7,7,7,7,7,7,7,7,7,7,7,7,7,7,7,7,7,7,7,7,7,7,7,7,7,7,7,7,7,7,7,7,7,7,7,7,7,7,7,7,7,7,7,7,7,7,7,7,7,7,7,7,7,7,7,7,7,7,7,7,7,7,7,8,8,8,8,8,8,8,8,8,8,8,8,8,8,8,8,8,8,8,8,8,8,8,8,8,8,8,8,8,8,8,8,8,8,8,8,8,8,8,8,8,8,8,8,8,8,8,8,8,8,8,8,8,8,8,8,8,8,8,8,8,8,8,8,8,8,8,8,8,8,8,8,8,8,8,8,8,8,8,8,8,8,8,8,8,8,8,8,8,8,8,8,8,8,8,8,8,8,8,8,8,8,8,8,8,8,8,8,8,8,8,8,8,8,8,8,8,8,8,8,8,8,8,8,8,8,8,8]:List UInt8)[(IntKind.wrap .u8 y:Int).toNat]?).map fun b=>V.int .u8 b.toNat else none).bind fun x6=>
    some [V.int .i64 (IntKind.wrap .i64 (n+(IntKind.wrap .i64 x6.toInt)))])
theorem agc {x:Nat} (h:x<2^64): ∃L:Nat,CC Eg [.int .u64 (x:Int)]=some [.int .i64 (L:Int)]∧L≤64∧(0<x→1≤L∧2^(L-1)≤x):=by
 have last: ∀y n:Nat,y<65536→n≤48→∃t:Nat,
   w5 (y:Int) (n:Int)=some [V.int .i64 ((n+t:Nat):Int)]∧t≤16∧(0<y→1≤t∧2^(t-1)≤y):=by
  intro y n hy hn
  unfold w5
  rw[show ([0,1,2,2,3,3,3,3,4,4,4,4,4,4,4,4,5,5,5,5,5,5,5,5,5,5,5,5,5,5,5,5,6,6,6,6,6,6,6,6,6,6,6,6,6,6,6,6,6,6,6,6,6,6,6,6,6,6,6,6,6,6,6,6,7,7,7,7,7,7,7,7,7,7,7,7,7,7,7,7,7,7,7,7,7,7,7,7,7,7,7,7,7,7,7,7,7,7,7,7,7,7,7,7,7,7,7,7,7,7,7,7,7,7,7,7,7,7,7,7,7,7,7,7,7,7,7,7,8,8,8,8,8,8,8,8,8,8,8,8,8,8,8,8,8,8,8,8,8,8,8,8,8,8,8,8,8,8,8,8,8,8,8,8,8,8,8,8,8,8,8,8,8,8,8,8,8,8,8,8,8,8,8,8,8,8,8,8,8,8,8,8,8,8,8,8,8,8,8,8,8,8,8,8,8,8,8,8,8,8,8,8,8,8,8,8,8,8,8,8,8,8,8,8,8,8,8,8,8,8,8,8,8,8,8,8,8,8,8,8,8,8,8,8,8,8,8,8,8,8,8,8,8,8,8,8]:List UInt8)=F6 from rfl]
  by_cases h1:y≥256
  ·have e:Int.fdiv (y:Int) (2^(min (8:Int).toNat (IntKind.bits .u64)))=((y/2^8:Nat):Int):=zf (m:=8) (by omega)
   obtain ⟨b,hb,b1,b2⟩:=UO (y:=y/2^8) (by omega)
   refine ⟨b.toNat+8,?_,by omega,fun _=> ?_⟩
   ·rw[e,aA,if_pos (by omega),It (by omega) (by omega),aA,if_pos (by omega),Int.toNat_natCast,hb]
    simp only[Option.map_some,Option.bind_some,V.toInt_int]
    simp (disch:=omega) only[wrap64]
    congr 3
    omega
   ·obtain ⟨b3,b4⟩:=b2 (by omega)
    exact ⟨by omega,LM b4 b3⟩
  ·obtain ⟨b,hb,b1,b2⟩:=UO (y:=y) (by omega)
   refine ⟨b.toNat,?_,by omega,b2⟩
   rw[aA,if_neg (by omega),It (by omega) (by omega),aA,if_pos (by omega),Int.toNat_natCast,hb]
   simp (disch:=omega) only[Option.map_some,Option.bind_some,V.toInt_int,wrap64]
   congr 3
 have mid: ∀y n:Nat,y<4294967296→n≤32→∃t:Nat,∀F:Int→Int→Option (List V),
   (∀y n:Nat,y<65536→n≤48→∃t:Nat,F (y:Int) (n:Int)=some [V.int .i64 ((n+t:Nat):Int)]∧t≤16∧(0<y→1≤t∧2^(t-1)≤y))→
   ∃t:Nat,um CC (y:Int) (n:Int) (decide (((y:Int):Int)≥65536)) (un F)=some [V.int .i64 ((n+t:Nat):Int)]∧t≤32∧(0<y→1≤t∧2^(t-1)≤y):=by
  intro y n hy hn
  refine ⟨0,fun F hF=> ?_⟩
  unfold um
  by_cases h1:y≥65536
  ·have e:Int.fdiv (y:Int) (2^(min (16:Int).toNat (IntKind.bits .u64)))=((y/2^16:Nat):Int):=zf (m:=16) (by omega)
   rw[aA,if_pos (by omega),e,wrap64 (by omega) (by omega)]
   obtain ⟨t,h2,h3,h4⟩:=hF (y/2^16) (n+16) (by omega) (by omega)
   refine ⟨t+16,?_,by omega,fun _=> ?_⟩
   ·rw[show ((n:Int)+16)=((n+16:Nat):Int) by omega]
    simp only[un]
    rw[h2]
    congr 3
    omega
   ·obtain ⟨b3,b4⟩:=h4 (by omega)
    exact ⟨by omega,LM b4 b3⟩
  ·rw[aA,if_neg (by omega)]
   obtain ⟨t,h2,h3,h4⟩:=hF y n (by omega) (by omega)
   exact ⟨t,h2,by omega,h4⟩
 by_cases h1:x≥4294967296
 ·have e:Int.fdiv (x:Int) (2^(min (32:Int).toNat (IntKind.bits .u64)))=((x/2^32:Nat):Int):=zf (m:=32) (by omega)
  obtain ⟨_,hm⟩:=mid (x/2^32) 32 (by omega) (by omega)
  obtain ⟨t,h2,h3,h4⟩:=hm w5 last
  refine ⟨32+t,UG ?_,by omega,fun _=> ?_⟩
  ·show uk CC (x:Int) 0 (decide (((x:Int):Int)≥4294967296)) (un fun (sb:Int) (cq:Int)=>um CC sb cq (decide ((sb:Int)≥65536)) (un w5))=_
   unfold uk
   rw[aA,if_pos (by omega),e]
   exact h2
  ·obtain ⟨b3,b4⟩:=h4 (by omega)
   rw[Nat.add_comm 32 t]
   exact ⟨by omega,LM b4 b3⟩
 ·obtain ⟨_,hm⟩:=mid x 0 (by omega) (by omega)
  obtain ⟨t,h2,h3,h4⟩:=hm w5 last
  refine ⟨t,UG ?_,by omega,h4⟩
  show uk CC (x:Int) 0 (decide (((x:Int):Int)≥4294967296)) (un fun (sb:Int) (cq:Int)=>um CC sb cq (decide ((sb:Int)≥65536)) (un w5))=_
  unfold uk
  rw[aA,if_neg (by omega)]
  rw[Nat.zero_add] at h2
  exact h2
theorem UP {x:Nat} (h:x<2^64): ∃L:Nat,CC y5 [.int .u64 (x:Int)]=some [.int .i64 (L:Int)]∧L≤64∧(0<x→1≤L∧2^(L-1)≤x):=by
 obtain ⟨L,h1,h2⟩:=agc h
 refine ⟨L,afY ?_,h2⟩
 unfold UD
 rw[h1]
 rfl
theorem agd {x:Nat} (h0:0<x) (h:x<1152921504606846976): ∃M:Nat,CC Ek [.int .i64 (x:Int)]=some [.int .u64 (M:Int)]∧1≤M∧M≤2*x:=by
 obtain ⟨L,h1,h2,h3⟩:=UP (x:=x) (by omega)
 obtain ⟨h4,h5⟩:=h3 h0
 have e:2^L=2*2^(L-1):=by
  obtain ⟨k,rfl⟩: ∃k,L=k+1:=⟨L-1,by omega⟩
  rw[Nat.pow_succ];simp only[Nat.add_sub_cancel];omega
 have hL:L<64:=by
  by_cases hx:L<64
  ·exact hx
  ·have:2^63≤2^(L-1):=Nat.pow_le_pow_right (by omega) (by omega)
   omega
 refine ⟨2^L,afX ?_,Nat.pos_of_ne_zero (by simp),by omega⟩
 unfold UC
 rw[oe (A:=x) (by omega),h1]
 simp only[Option.bind_some,V.bQ,V.toInt_int]
 rw[aA,if_pos (by omega),Int.toNat_natCast,ze hL]
theorem age (r:Int): ∃R:Nat,CC El [.int .u64 r]=some [.int .u64 (R:Int),.int .u64 (R:Int)]∧R<2^64:=by
 have h: ∀n:Int,∃R:Nat,IntKind.wrap .u64 n=(R:Int)∧R<2^64:=fun n=>⟨(IntKind.wrap .u64 n).toNat,by rw[wrap_u64];omega,by rw[wrap_u64];omega⟩
 obtain ⟨R,h1,h2⟩:=h _
 exact ⟨R,afW (by unfold UB;rw[h1]),h2⟩
theorem F7 {d:Array Ed} {i:Nat} (h:i<d.size):idx (eA d) (i:Int)=some (d[i]!).enc:=by rw[DH,fS h]
theorem LN {d:Array Ed} {a b:Nat} {s:Int} (ha:a<d.size) (hb:b<d.size): ∃(x y:Nat) (s':Int),CC zc [.list af (eA d),.int .i64 (a:Int),.int .i64 (b:Int),.int .i64 s]=some [.int .i64 (x:Int),.int .i64 (y:Int),.int .i64 s']∧(x=a∧y=b∨x=b∧y=a):=by
 by_cases h:bN d[b]! d[a]! <0
 ·refine ⟨b,a,_,Uw (by unfold LJ;rw[F7 hb,F7 ha];simp only[Option.bind_some,Ed.da,Ed.db,Ed.dc,gr,V.bQ,V.toInt_int];rw[aA,if_pos h]),.inr ⟨rfl,rfl⟩⟩
 ·refine ⟨a,b,_,Uw (by unfold LJ;rw[F7 hb,F7 ha];simp only[Option.bind_some,Ed.da,Ed.db,Ed.dc,gr,V.bQ,V.toInt_int];rw[aA,if_neg h]),.inl ⟨rfl,rfl⟩⟩
theorem LO {d:Array Ed} {a b c:Nat} {s:Int} (ha:a<d.size) (hb:b<d.size) (hc:c<d.size): ∃(m:Nat) (s':Int),CC Ep [.list af (eA d),.int .i64 (a:Int),.int .i64 (b:Int),.int .i64 (c:Int),.int .i64 s]=some [.int .i64 (m:Int),.int .i64 s']∧(m=a∨m=b∨m=c):=by
 obtain ⟨x1,y1,s1,e1,o1⟩:=LN (s:=s) ha hb
 obtain ⟨x2,y2,s2,e2,o2⟩:=LN (d:=d) (a:=y1) (b:=c) (s:=s1) (by omega) hc
 obtain ⟨x3,y3,s3,e3,o3⟩:=LN (d:=d) (a:=x1) (b:=x2) (s:=s2) (by omega) (by omega)
 refine ⟨y3,s3,afR ?_,by omega⟩
 unfold Uv
 rw[e1]
 simp only[Option.bind_some,V.bQ,V.qf,V.toInt_int,List.drop_succ_cons,List.drop_zero]
 rw[e2]
 simp only[Option.bind_some,V.bQ,V.qf,V.toInt_int,List.drop_succ_cons,List.drop_zero]
 rw[e3]
 rfl
theorem LP {d:Array Ed} {a:Nat} {s:Int} (h1:1≤a) (ha:a+1<d.size) (hs:d.size<1152921504606846976): ∃(m:Nat) (s':Int),CC zb [.list af (eA d),.int .i64 (a:Int),.int .i64 s]=some [.int .i64 (m:Int),.int .i64 s']∧a≤m+1∧m≤a+1:=by
 obtain ⟨m,s',e,o⟩:=LO (d:=d) (a:=a-1) (b:=a) (c:=a+1) (s:=s) (by omega) (by omega) (by omega)
 refine ⟨m,s',afS ?_,by omega,by omega⟩
 unfold Ux
 simp (disch:=omega) only[jv,dF,wrap64]
 rw[e]
 rfl
theorem LQ (n:Nat):Int.tdiv (n:Int) 4=((n/4:Nat):Int):=by
 have:=divC n 4
 exact this
theorem mulC (k n:Nat):((k:Nat):Int)*(n:Int)=((k*n:Nat):Int):=(Int.natCast_mul k n).symm
theorem agf {d:Array Ed} {a b:Nat} (fK:a+12<b) (hb:b≤d.size) (hs:d.size<1152921504606846976): ∃(p:Nat) (h:Int),CC Eo [.list af (eA d),.int .i64 (a:Int),.int .i64 (b:Int)]=some [.int .i64 (p:Int),.int .i64 h]∧a≤p∧p<b:=by
 have fin: ∀(p:Nat) (s:Int),∃h:Int,(bif (s:Int)==0 then some [V.int .i64 (p:Int),V.int .i64 1] else bif (s:Int)==12 then some [V.int .i64 (p:Int),V.int .i64 2] else some [V.int .i64 (p:Int),V.int .i64 0])=some [V.int .i64 (p:Int),V.int .i64 h]:=by
  intro p s
  rw[mQ]
  split
  ·exact ⟨1,rfl⟩
  ·rw[mQ]
   split
   ·exact ⟨2,rfl⟩
   ·exact ⟨0,rfl⟩
 have e1:IntKind.wrap .i64 ((b:Int)-(a:Int))=((b-a:Nat):Int):=by rw[mi (by omega),wrap64 (by omega) (by omega)]
 have e2:IntKind.wrap .i64 (Int.tdiv ((b-a:Nat):Int) 4)=(((b-a)/4:Nat):Int):=by rw[LQ,wrap64 (by omega) (by omega)]
 have e3: ∀k:Nat,k≤3→IntKind.wrap .i64 ((a:Int)+IntKind.wrap .i64 ((k:Int)*(((b-a)/4:Nat):Int)))=((a+k*((b-a)/4):Nat):Int):=by
  intro k hk
  have rC:k*((b-a)/4)≤3*((b-a)/4):=Nat.mul_le_mul_right _ hk
  simp (disch:=omega) only[mulC,wrap64,fT]
 have LR:=e3 1 (by omega)
 have sc:=e3 2 (by omega)
 have LU:=e3 3 (by omega)
 rw[show ((1:Nat):Int)=1 from rfl] at LR
 rw[show ((2:Nat):Int)=2 from rfl] at sc
 rw[show ((3:Nat):Int)=3 from rfl] at LU
 by_cases h50:b-a≥50
 ·obtain ⟨m1,s1,q1,r1⟩:=LP (d:=d) (a:=a+1*((b-a)/4)) (s:=0) (by omega) (by omega) hs
  obtain ⟨m2,s2,q2,r2⟩:=LP (d:=d) (a:=a+2*((b-a)/4)) (s:=s1) (by omega) (by omega) hs
  obtain ⟨m3,s3,q3,r3⟩:=LP (d:=d) (a:=a+3*((b-a)/4)) (s:=s2) (by omega) (by omega) hs
  obtain ⟨m,s,q,r⟩:=LO (d:=d) (a:=m1) (b:=m2) (c:=m3) (s:=s3) (by omega) (by omega) (by omega)
  obtain ⟨h,hf⟩:=fin m s
  refine ⟨m,h,Uu ?_,by omega,by omega⟩
  unfold LH Bo Bn
  rw[e1,e2,LR,sc,LU,nc (by omega),cond_true,nc (by omega),cond_true,q1]
  simp only[Option.bind_some,V.bQ,V.qf,V.toInt_int,List.drop_succ_cons,List.drop_zero]
  rw[q2]
  simp only[Option.bind_some,V.bQ,V.qf,V.toInt_int,List.drop_succ_cons,List.drop_zero]
  rw[q3]
  simp only[Option.bind_some,V.bQ,V.qf,V.toInt_int,List.drop_succ_cons,List.drop_zero,un]
  rw[q]
  exact hf
 ·obtain ⟨m,s,q,r⟩:=LO (d:=d) (a:=a+1*((b-a)/4)) (b:=a+2*((b-a)/4)) (c:=a+3*((b-a)/4)) (s:=0) (by omega) (by omega) (by omega)
  obtain ⟨h,hf⟩:=fin m s
  refine ⟨m,h,Uu ?_,by omega,by omega⟩
  unfold LH Bo Bn
  rw[e1,e2,LR,sc,LU,nc (by omega),cond_true,qC (by omega),cond_false]
  simp only[un]
  rw[q]
  exact hf
theorem agh {a b M:Nat} (hM1:1≤M) (hM:M≤2*(b-a)) (h8:8≤b-a) (hB:b<1152921504606846976): ∀(n i:Nat) (d:Array Ed) (r:Int),a+2*((b-a)/4)+2-i=n→a≤i→b≤d.size→d.size<1152921504606846976→
  ∃x y z R,Loop (F0 CC a (b-a:Nat) M) ((i:Int),eA d,r)=some (x,y,eA R,z)∧PermIn a b d R:=by
 have e2:IntKind.wrap .i64 (Int.tdiv ((b-a:Nat):Int) 4)=(((b-a)/4:Nat):Int):=by rw[LQ,wrap64 (by omega) (by omega)]
 have sc:IntKind.wrap .i64 ((a:Int)+IntKind.wrap .i64 (2*(((b-a)/4:Nat):Int)))=((a+2*((b-a)/4):Nat):Int):=by
  have:=mulC 2 ((b-a)/4)
  rw[show ((2:Nat):Int)=2 from rfl] at this
  rw[this]
  simp (disch:=omega) only[wrap64,fT]
 intro n
 induction n with
 | zero=>
  intro i d r hn hi hb hs
  refine ⟨(i:Int),false,r,d,bS ?_,permIn_refl _ _ _⟩
  simp only[F0,Bq,un]
  rw[e2,sc,dF,wrap64 (by omega) (by omega),qC (by omega),cond_false]
 | succ n ih=>
  intro i d r hn hi hb hs
  obtain ⟨R1,q1,q2⟩:=age r
  obtain ⟨o,ho,mE⟩: ∃o:Nat,(o=if R1&&&(M-1)≥b-a then (R1&&&(M-1))-(b-a) else R1&&&(M-1))∧o<b-a:=by
   refine ⟨_,rfl,?_⟩
   have:R1&&&(M-1)≤M-1:=Nat.and_le_right
   split<;>omega
  have hand:R1&&&(M-1)≤M-1:=Nat.and_le_right
  have hP:=swp_permIn (α:=Ed) d a b i (a+o) hi (by omega) (by omega) (by omega) hb
  obtain ⟨x,y,z,R,e,hR⟩:=ih (i+1) (swp d i (a+o)) (R1:Int) (by omega) (by omega) (by rw[size_swp];exact hb) (by rw[size_swp];exact hs)
  refine ⟨x,y,z,R,(dU ?_).trans e,permIn_trans _ _ _ a b hP hR⟩
  simp only[F0,Bq,un]
  rw[e2,sc,dF,wrap64 (x:=((a+2*((b-a)/4)+1:Nat):Int)) (by omega) (by omega),nc (by omega),cond_true,q1]
  simp only[Option.bind_some,V.bQ,V.qf,V.toInt_int,List.drop_succ_cons,List.drop_zero]
  have e5:IntKind.wrap .u64 ((M:Int)-1)=((M-1:Nat):Int):=by rw[jv hM1,oe (by omega)]
  rw[e5,u64_and q2 (by omega),wrap64 (x:=((R1&&&(M-1):Nat):Int)) (by omega) (by omega)]
  have fin: ∀k:Int,k=(o:Int)→(bif (decide (0≤(IntKind.wrap .i64 ((a:Int)+k))))&&(decide ((IntKind.wrap .i64 ((a:Int)+k))<((eA d).length:Int))) then
   ((eA d)[(IntKind.wrap .i64 ((a:Int)+k):Int).toNat]?).bind fun x4=>
   bif (decide (0≤(i:Int)))&&(decide ((i:Int)<((eA d).length:Int))) then
    ((eA d)[((i:Int):Int).toNat]?).bind fun x5=>
    bif (decide (0≤(i:Int)))&&(decide ((i:Int)<((eA d).length:Int))) then
    ((eA d)[((i:Int):Int).toNat]?).bind fun x6=>
    bif (decide (0≤(IntKind.wrap .i64 ((a:Int)+k))))&&(decide ((IntKind.wrap .i64 ((a:Int)+k))<(((eA d).set (((i:Int):Int).toNat) (.agg [.int .i64 ((x4.cell 0).toInt),.int .i64 ((x4.cell 1).toInt),.int .i64 ((x4.cell 2).toInt)])).length:Int))) then
     (((eA d).set (((i:Int):Int).toNat) (.agg [.int .i64 ((x4.cell 0).toInt),.int .i64 ((x4.cell 1).toInt),.int .i64 ((x4.cell 2).toInt)]))[(IntKind.wrap .i64 ((a:Int)+k):Int).toNat]?).bind fun x7=>
     some (.inl (IntKind.wrap .i64 ((i:Int)+1),((eA d).set (((i:Int):Int).toNat) (.agg [.int .i64 ((x4.cell 0).toInt),.int .i64 ((x4.cell 1).toInt),.int .i64 ((x4.cell 2).toInt)])).set ((IntKind.wrap .i64 ((a:Int)+k):Int).toNat) (.agg [.int .i64 ((x5.cell 0).toInt),.int .i64 ((x5.cell 1).toInt),.int .i64 ((x5.cell 2).toInt)]),(R1:Int)))
    else none
    else none
   else none
   else none:Option ((Int × List V × Int) ⊕ (Int × Bool × List V × Int)))=some (.inl (((i+1:Nat):Int),eA (swp d i (a+o)),(R1:Int))):=by
   intro k hk
   subst hk
   simp (disch:=omega) only[aA,dt,gd,if_pos,if_neg,wrap64,dF,fT,Int.toNat_natCast,Option.bind_some,fQ,fS,Ed.da,Ed.db,Ed.dc,Ed.re,fR,hZ,Array.size_setIfInBounds,gr,V.bQ,V.toInt_int,cond_true,cond_false]
   rfl
  unfold FZ
  by_cases h:R1&&&(M-1)≥b-a
  ·rw[if_pos h] at ho
   rw[nc (by omega),cond_true]
   exact fin _ (by rw[mi (by omega),wrap64 (by omega) (by omega)];omega)
  ·rw[if_neg h] at ho
   rw[qC (by omega),cond_false]
   exact fin _ (by omega)
theorem agi {a b:Nat} {d:Array Ed} (fK:a+12<b) (hb:b≤d.size) (hs:d.size<1152921504606846976): ∃R,CC IL [.int .i64 (a:Int),.int .i64 (b:Int),.list af (eA d)]=some [.list af (eA R)]∧PermIn a b d R:=by
 obtain ⟨M,q1,q2,q3⟩:=agd (x:=b-a) (by omega) (by omega)
 have e1:IntKind.wrap .i64 ((b:Int)-(a:Int))=((b-a:Nat):Int):=by rw[mi (by omega),wrap64 (by omega) (by omega)]
 have e2:IntKind.wrap .i64 (Int.tdiv ((b-a:Nat):Int) 4)=(((b-a)/4:Nat):Int):=by rw[LQ,wrap64 (by omega) (by omega)]
 have sc:IntKind.wrap .i64 ((a:Int)+IntKind.wrap .i64 (2*(((b-a)/4:Nat):Int)))=((a+2*((b-a)/4):Nat):Int):=by
  have:=mulC 2 ((b-a)/4)
  rw[show ((2:Nat):Int)=2 from rfl] at this
  rw[this]
  simp (disch:=omega) only[wrap64,fT]
 obtain ⟨x,y,z,R,e,hR⟩:=agh (a:=a) (b:=b) (M:=M) q2 q3 (by omega) (by omega) _ (a+2*((b-a)/4)-1) d (IntKind.wrap .u64 ((b-a:Nat):Int)) rfl (by omega) hb hs
 refine ⟨R,afV ?_,hR⟩
 unfold UA
 rw[e1,aA,if_pos (by omega),q1]
 simp only[Option.bind_some,V.bQ,V.toInt_int]
 rw[e2,sc,jv (by omega),wrap64 (x:=((a+2*((b-a)/4)-1:Nat):Int)) (by omega) (by omega),e]
 rfl
noncomputable def sd (C:ag) (a b':Int) (eQ fg:Bool) (cJ dQ:Int) (ml:List V) {β:Type} (kn:(Int × Int × Int × Bool × Bool × (List V))→Option β):Option β:=
      bif decide ((a:Int)>0) then
       bif (decide (0≤(IntKind.wrap .i64 (a-1))))&&(decide ((IntKind.wrap .i64 (a-1))<(ml.length:Int))) then
       (ml[(IntKind.wrap .i64 (a-1):Int).toNat]?).bind fun gI=>
       bif (decide (0≤dQ))&&(decide (dQ<(ml.length:Int))) then
        (ml[(dQ:Int).toNat]?).bind fun gJ=>
        (C br [.int .i64 ((gI.cell 0).toInt),.int .i64 ((gI.cell 1).toInt),.int .i64 ((gI.cell 2).toInt),.int .i64 ((gJ.cell 0).toInt),.int .i64 ((gJ.cell 1).toInt),.int .i64 ((gJ.cell 2).toInt)]).bind fun gf=>
        bif !(decide ((((V.nth gf 0).toInt):Int)<0)) then
        (C vS [.int .i64 a,.int .i64 b',.int .i64 dQ,.list af ml]).bind fun ju=>
        kn ((V.nth ju 0).toInt,b',cJ,eQ,fg,(V.nth (ju.drop 1) 0).toList)
        else
        (C od [.int .i64 a,.int .i64 b',.int .i64 dQ,.list af ml]).bind fun eP=>
        bif decide (((IntKind.wrap .i64 (((V.nth eP 0).toInt)-a)):Int)<(IntKind.wrap .i64 (b'-((V.nth eP 0).toInt)))) then
         (C gF [.int .i64 a,.int .i64 ((V.nth eP 0).toInt),.int .i64 cJ,.list af ((V.nth (eP.drop 2) 0).toList)]).bind fun wZ=>
         kn (IntKind.wrap .i64 (((V.nth eP 0).toInt)+1),b',cJ,decide (((IntKind.wrap .i64 (((V.nth eP 0).toInt)-a)):Int)≥(IntKind.wrap .i64 (Int.tdiv (IntKind.wrap .i64 (b'-a)) 8))),(V.nth (eP.drop 1) 0).toBool,(V.nth wZ 0).toList)
        else
         (C gF [.int .i64 (IntKind.wrap .i64 (((V.nth eP 0).toInt)+1)),.int .i64 b',.int .i64 cJ,.list af ((V.nth (eP.drop 2) 0).toList)]).bind fun fV=>
         kn (a,(V.nth eP 0).toInt,cJ,decide (((IntKind.wrap .i64 (b'-((V.nth eP 0).toInt))):Int)≥(IntKind.wrap .i64 (Int.tdiv (IntKind.wrap .i64 (b'-a)) 8))),(V.nth (eP.drop 1) 0).toBool,(V.nth fV 0).toList)
       else none
       else none
      else
       (C od [.int .i64 a,.int .i64 b',.int .i64 dQ,.list af ml]).bind fun ic=>
       bif decide (((IntKind.wrap .i64 (((V.nth ic 0).toInt)-a)):Int)<(IntKind.wrap .i64 (b'-((V.nth ic 0).toInt)))) then
       (C gF [.int .i64 a,.int .i64 ((V.nth ic 0).toInt),.int .i64 cJ,.list af ((V.nth (ic.drop 2) 0).toList)]).bind fun kD=>
       kn (IntKind.wrap .i64 (((V.nth ic 0).toInt)+1),b',cJ,decide (((IntKind.wrap .i64 (((V.nth ic 0).toInt)-a)):Int)≥(IntKind.wrap .i64 (Int.tdiv (IntKind.wrap .i64 (b'-a)) 8))),(V.nth (ic.drop 1) 0).toBool,(V.nth kD 0).toList)
       else
       (C gF [.int .i64 (IntKind.wrap .i64 (((V.nth ic 0).toInt)+1)),.int .i64 b',.int .i64 cJ,.list af ((V.nth (ic.drop 2) 0).toList)]).bind fun jW=>
       kn (a,(V.nth ic 0).toInt,cJ,decide (((IntKind.wrap .i64 (b'-((V.nth ic 0).toInt))):Int)≥(IntKind.wrap .i64 (Int.tdiv (IntKind.wrap .i64 (b'-a)) 8))),(V.nth (ic.drop 1) 0).toBool,(V.nth jW 0).toList)
theorem F8 (C:ag) (a b' iZ:Int) (eQ fg:Bool) (ai:List V) {β:Type} (kn:(Int × Int × Int × Bool × Bool × (List V))→Option β) (kr:(List V)→Option β):
  pw C a b' iZ eQ fg ai kn kr=
 bif decide (((IntKind.wrap .i64 (b'-a)):Int)≤12) then
  (C Em [.int .i64 a,.int .i64 b',.list af ai]).bind fun r1=>
  kr ((V.nth r1 0).toList)
 else
  bif (iZ:Int)==0 then
  (C En [.int .i64 a,.int .i64 b',.list af ai]).bind fun r2=>
  kr ((V.nth r2 0).toList)
  else
  wX C a b' iZ eQ fg (IntKind.wrap .i64 (b'-a)) (!eQ) ai (un fun (cJ:Int) (Bs:List V)=>
   (C Eo [.list af Bs,.int .i64 a,.int .i64 b']).bind fun r6=>
   wY C a b' cJ eQ fg (IntKind.wrap .i64 (b'-a)) ((V.nth r6 0).toInt) ((V.nth (r6.drop 1) 0).toInt) ((((V.nth (r6.drop 1) 0).toInt):Int)==2) Bs (un fun (dQ:Int)=>un fun (LL:Int) (oy:List V)=>
    bif eQ then
     bif fg then
     mo C a b' cJ eQ fg (IntKind.wrap .i64 (b'-a)) dQ ((LL:Int)==1) oy (cY (un fun (SH:Bool) (LV:List V)=>
      kr LV) (fun (ml:List V)=>sd C a b' eQ fg cJ dQ ml kn))
     else
     mo C a b' cJ eQ fg (IntKind.wrap .i64 (b'-a)) dQ false oy (cY (un fun (aiX:Bool) (agj:List V)=>
      kr agj) (fun (agk:List V)=>sd C a b' eQ fg cJ dQ agk kn))
    else
     mo C a b' cJ eQ fg (IntKind.wrap .i64 (b'-a)) dQ false oy (cY (un fun (aiY:Bool) (agl:List V)=>
      kr agl) (fun (agm:List V)=>sd C a b' eQ fg cJ dQ agm kn)))):=rfl
section
variable {a b:Nat} {lim:Int} {wb wp:Bool}
theorem agn {d:Array Ed} (fK:a+12<b) (hb:b≤d.size) (hs:d.size<1152921504606846976) (len:Int) (t:Bool): ∃(l1:Int) (d1:Array Ed),PermIn a b d d1∧∀(β:Type) (kr:(Int × List V)→Option β),wX CC a b lim wb wp len t (eA d) kr=kr (l1,eA d1):=by
 cases t with
 | true=>
  obtain ⟨R,e,hR⟩:=agi fK hb hs
  refine ⟨IntKind.wrap .i64 (lim-1),R,hR,fun β kr=> ?_⟩
  unfold wX
  rw[cond_true,e]
  rfl
 | false=>exact ⟨lim,d,permIn_refl _ _ _,fun β kr=>rfl⟩
theorem ago {d:Array Ed} (fK:a+12<b) (hb:b≤d.size) (hs:d.size<1152921504606846976) (len h:Int) (t:Bool) {p:Nat} (h1:a≤p) (h2:p<b): ∃(p2:Nat) (h2:Int) (d1:Array Ed),a≤p2∧p2<b∧PermIn a b d d1∧∀(β:Type) (kr:(Int × Int × List V)→Option β),wY CC a b lim wb wp len p h t (eA d) kr=kr ((p2:Int),h2,eA d1):=by
 cases t with
 | true=>
  refine ⟨b-1-(p-a),1,reverseRange d a b,by omega,by omega,reverseRange_holds d a b (by omega) hb,fun β kr=> ?_⟩
  unfold wY
  rw[cond_true,afc (by omega) hb hs]
  simp (disch:=omega) only[Option.bind_some,V.bQ,V.n8,jv,mi,wrap64]
 | false=>exact ⟨p,h,d,h1,h2,permIn_refl _ _ _,fun β kr=>rfl⟩
theorem agp {d:Array Ed} (fK:a+12<b) (hb:b≤d.size) (hs:d.size<1152921504606846976) (hB:Below ay a b d) (len p:Int) (t:Bool): ∃d1:Array Ed,PermIn a b d d1∧
  ((∀(β:Type) (kr:((Bool × List V) ⊕ List V)→Option β),mo CC a b lim wb wp len p t (eA d) kr=kr (.inr (eA d1)))∨
  (SortedIn ay a b d1∧∀(β:Type) (kr:((Bool × List V) ⊕ List V)→Option β),mo CC a b lim wb wp len p t (eA d) kr=kr (.inl (true,eA d1)))):=by
 cases t with
 | true=>
  have hp:=partialInsertionSort_holds (lt:=ay) w4 d a b (by omega) hb hB
  refine ⟨_,hp.1,?_⟩
  cases h:(partialInsertionSort ay d a b).2 with
  | true=>
   refine .inr ⟨hp.2 h,fun β kr=> ?_⟩
   unfold mo
   rw[cond_true,Uq (by omega) hb hs,h]
   rfl
  | false=>
   refine .inl fun β kr=> ?_
   unfold mo
   rw[cond_true,Uq (by omega) hb hs,h]
   rfl
 | false=>exact ⟨d,permIn_refl _ _ _,.inl fun β kr=>rfl⟩
end
def F9 (a b:Nat) (d:Array Ed):Prop:= ∀(lim:Int) (wb wp:Bool),∃R,Loop (UJ CC) ((a:Int),(b:Int),lim,wb,wp,eA d)=some (eA R)∧PermIn a b d R∧SortedIn ay a b R
theorem F9.call {a b:Nat} {d:Array Ed} (h:F9 a b d) (lim:Int): ∃R,CC gF [.int .i64 (a:Int),.int .i64 (b:Int),.int .i64 lim,.list af (eA d)]=some [.list af (eA R)]∧PermIn a b d R∧SortedIn ay a b R:=by
 obtain ⟨R,e,h1,h2⟩:=h lim true true
 refine ⟨R,af9 ?_,h1,h2⟩
 unfold UL
 rw[e]
 rfl
theorem agq {a b p:Nat} {d:Array Ed} (fK:a+12<b) (hb:b≤d.size) (hs:d.size<1152921504606846976) (hB:Below ay a b d) (h1:a≤p) (h2:p<b)
  (ih: ∀(a2 b2:Nat) (d2:Array Ed),b2-a2<b-a→a2≤b2→b2≤d2.size→d2.size<1152921504606846976→Below ay a2 b2 d2→F9 a2 b2 d2) (wb wp:Bool) (lim:Int):
  ∃(a2 b2:Nat) (uq ur:Bool) (d2:Array Ed),b2-a2<b-a∧a2≤b2∧b2≤d2.size∧d2.size<1152921504606846976∧Below ay a2 b2 d2∧
   (∀R,PermIn a2 b2 d2 R→SortedIn ay a2 b2 R→PermIn a b d R∧SortedIn ay a b R)∧
   ∀(β:Type) (kn:(Int × Int × Int × Bool × Bool × (List V))→Option β),sd CC a b wb wp lim p (eA d) kn=kn ((a2:Int),(b2:Int),lim,uq,ur,eA d2):=by
 have part: ∃(a2 b2:Nat) (uq ur:Bool) (d2:Array Ed),b2-a2<b-a∧a2≤b2∧b2≤d2.size∧d2.size<1152921504606846976∧Below ay a2 b2 d2∧
   (∀R,PermIn a2 b2 d2 R→SortedIn ay a2 b2 R→PermIn a b d R∧SortedIn ay a b R)∧
   ∀(β:Type) (kn:(Int × Int × Int × Bool × Bool × (List V))→Option β),
    ((CC od [.int .i64 (a:Int),.int .i64 (b:Int),.int .i64 (p:Int),.list af (eA d)]).bind fun eP=>
        bif decide (((IntKind.wrap .i64 (((V.nth eP 0).toInt)-(a:Int))):Int)<(IntKind.wrap .i64 ((b:Int)-((V.nth eP 0).toInt)))) then
         (CC gF [.int .i64 (a:Int),.int .i64 ((V.nth eP 0).toInt),.int .i64 lim,.list af ((V.nth (eP.drop 2) 0).toList)]).bind fun wZ=>
         kn (IntKind.wrap .i64 (((V.nth eP 0).toInt)+1),(b:Int),lim,decide (((IntKind.wrap .i64 (((V.nth eP 0).toInt)-(a:Int))):Int)≥(IntKind.wrap .i64 (Int.tdiv (IntKind.wrap .i64 ((b:Int)-(a:Int))) 8))),(V.nth (eP.drop 1) 0).toBool,(V.nth wZ 0).toList)
        else
         (CC gF [.int .i64 (IntKind.wrap .i64 (((V.nth eP 0).toInt)+1)),.int .i64 (b:Int),.int .i64 lim,.list af ((V.nth (eP.drop 2) 0).toList)]).bind fun fV=>
         kn ((a:Int),(V.nth eP 0).toInt,lim,decide (((IntKind.wrap .i64 ((b:Int)-((V.nth eP 0).toInt))):Int)≥(IntKind.wrap .i64 (Int.tdiv (IntKind.wrap .i64 ((b:Int)-(a:Int))) 8))),(V.nth (eP.drop 1) 0).toBool,(V.nth fV 0).toList))=kn ((a2:Int),(b2:Int),lim,uq,ur,eA d2):=by
  obtain ⟨mid,ap,d4,hx⟩: ∃mid ap d4,partition ay d a b p=(mid,ap,d4):=⟨_,_,_,rfl⟩
  obtain ⟨g1,g2,oB,hBa,hBr,agr,ags⟩:=round_part w4 (partition_holds ay) h1 h2 hb hB hx
  have hc:=afG (a:=a) (b:=b) (pivot:=p) (d:=d) h2 (by omega) hb hs
  rw[hx] at hc
  by_cases hl:mid-a<b-mid
  ·obtain ⟨L,e,l1,l2⟩:=(ih a mid d4 (by omega) g1 (by rw[oB];omega) (by rw[oB];exact hs) hBa).call lim
   obtain ⟨LW,na⟩:=agr _ l1 l2
   refine ⟨mid+1,b,decide (((IntKind.wrap .i64 ((mid:Int)-(a:Int))):Int)≥(IntKind.wrap .i64 (Int.tdiv (IntKind.wrap .i64 ((b:Int)-(a:Int))) 8))),ap,L,by omega,by omega,by rw[l1.1,oB];exact hb,by rw[l1.1,oB];exact hs,LW,na,fun β kn=> ?_⟩
   ·rw[hc]
    simp only[Option.bind_some,V.bQ,V.qf,V.toInt_int,V.mP,V.n8,List.drop_succ_cons,List.drop_zero]
    rw[aA,if_pos (by rw[mi g1,mi (by omega),wrap64 (by omega) (by omega),wrap64 (by omega) (by omega)];omega),e]
    simp only[Option.bind_some,V.bQ,V.n8]
    rw[dF,wrap64 (x:=((mid+1:Nat):Int)) (by omega) (by omega)]
  ·obtain ⟨L,e,l1,l2⟩:=(ih (mid+1) b d4 (by omega) (by omega) (by rw[oB];exact hb) (by rw[oB];exact hs) hBr).call lim
   obtain ⟨LW,na⟩:=ags _ l1 l2
   refine ⟨a,mid,decide (((IntKind.wrap .i64 ((b:Int)-(mid:Int))):Int)≥(IntKind.wrap .i64 (Int.tdiv (IntKind.wrap .i64 ((b:Int)-(a:Int))) 8))),ap,L,by omega,by omega,by rw[l1.1,oB];omega,by rw[l1.1,oB];exact hs,LW,na,fun β kn=> ?_⟩
   ·rw[hc]
    simp only[Option.bind_some,V.bQ,V.qf,V.toInt_int,V.mP,V.n8,List.drop_succ_cons,List.drop_zero]
    rw[aA,if_neg (by rw[mi g1,mi (by omega),wrap64 (by omega) (by omega),wrap64 (by omega) (by omega)];omega),dF,wrap64 (x:=((mid+1:Nat):Int)) (by omega) (by omega),e]
    simp only[Option.bind_some,V.bQ,V.n8]
 by_cases ha:0<a
 ·by_cases hc:bN d[a-1]! d[p]! <0
  ·obtain ⟨a2,b2,uq,ur,d2,q1,q2,q3,q4,q5,q6,q7⟩:=part
   refine ⟨a2,b2,uq,ur,d2,q1,q2,q3,q4,q5,q6,fun β kn=> ?_⟩
   rw[←q7 β kn]
   unfold sd
   rw[aA,if_pos (by omega),jv ha,wrap64 (by omega) (by omega),jX (i:=a-1) (by omega),jY (by omega),jX (i:=p) (by omega),jY (by omega)]
   simp only[Ed.da,Ed.db,Ed.dc,gr,Option.bind_some,V.bQ,V.toInt_int]
   rw[gd,aA,if_pos hc]
  ·obtain ⟨mid,d4,hx⟩: ∃mid d4,partitionEqual ay d a b p=(mid,d4):=⟨_,_,rfl⟩
   obtain ⟨g1,nK,oB,hB4,na⟩:=round_eq w4 (partitionEqual_holds ay) ha h1 h2 hb hB (by rw[F5,←propext (EA _ _)];exact hc) hx
   have he:=afI (a:=a) (b:=b) (pivot:=p) (d:=d) h2 (by omega) hb hs
   rw[hx] at he
   refine ⟨mid,b,wb,wp,d4,by omega,nK,by rw[oB];exact hb,by rw[oB];exact hs,hB4,na,fun β kn=> ?_⟩
   unfold sd
   rw[aA,if_pos (by omega),jv ha,wrap64 (by omega) (by omega),jX (i:=a-1) (by omega),jY (by omega),jX (i:=p) (by omega),jY (by omega)]
   simp only[Ed.da,Ed.db,Ed.dc,gr,Option.bind_some,V.bQ,V.toInt_int]
   rw[gd,aA,if_neg hc,he]
   rfl
 ·obtain ⟨a2,b2,uq,ur,d2,q1,q2,q3,q4,q5,q6,q7⟩:=part
  refine ⟨a2,b2,uq,ur,d2,q1,q2,q3,q4,q5,q6,fun β kn=> ?_⟩
  rw[←q7 β kn]
  unfold sd
  rw[aA,if_neg (by omega)]
theorem agt: ∀(n a b:Nat) (d:Array Ed),b-a≤n→a≤b→b≤d.size→d.size<1152921504606846976→Below ay a b d→F9 a b d:=by
 intro n
 induction n with
 | zero=>
  intro a b d hn fK hb hs hB lim wb wp
  have hi:=insertionSort_holds (lt:=ay) w4 d a b fK hb
  refine ⟨_,bS ?_,hi⟩
  show pw CC a b lim wb wp (eA d) (fun y=>some (Sum.inl y)) (fun r=>some (Sum.inr r))=_
  rw[F8,aA,if_pos (by rw[mi fK,wrap64 (by omega) (by omega)];omega),T8 hb hs (by omega)]
  rfl
 | succ n ih=>
  intro a b d hn fK hb hs hB lim wb wp
  by_cases h12:b-a≤12
  ·have hi:=insertionSort_holds (lt:=ay) w4 d a b fK hb
   refine ⟨_,bS ?_,hi⟩
   show pw CC a b lim wb wp (eA d) (fun y=>some (Sum.inl y)) (fun r=>some (Sum.inr r))=_
   rw[F8,aA,if_pos (by rw[mi fK,wrap64 (by omega) (by omega)];omega),T8 hb hs (by omega)]
   rfl
  ·have Bt:a+12<b:=by omega
   have rB: ¬(((IntKind.wrap .i64 ((b:Int)-(a:Int))):Int)≤12):=by rw[mi fK,wrap64 (by omega) (by omega)];omega
   by_cases h0:lim=0
   ·have hi:=heapSort_holds (lt:=ay) w4 d a b fK hb
    refine ⟨_,bS ?_,hi⟩
    show pw CC a b lim wb wp (eA d) (fun y=>some (Sum.inl y)) (fun r=>some (Sum.inr r))=_
    rw[F8,aA,if_neg rB,mQ,if_pos h0,afa (by omega) hb hs]
    rfl
   ·obtain ⟨l1,d1,s1,k1⟩:=agn (lim:=lim) (wb:=wb) (wp:=wp) Bt hb hs (IntKind.wrap .i64 ((b:Int)-(a:Int))) (!wb)
    have b1:b≤d1.size:=by rw[s1.1];exact hb
    have z1:d1.size<1152921504606846976:=by rw[s1.1];exact hs
    obtain ⟨p,h,c1,p1,p2⟩:=agf Bt b1 z1
    obtain ⟨q,h2,d2,q1,q2,s2,k2⟩:=ago (lim:=l1) (wb:=wb) (wp:=wp) Bt b1 z1 (IntKind.wrap .i64 ((b:Int)-(a:Int))) h (h==2) p1 p2
    have b2:b≤d2.size:=by rw[s2.1];exact b1
    have z2:d2.size<1152921504606846976:=by rw[s2.1];exact z1
    have B2:Below ay a b d2:=(hB.perm hb s1).perm b1 s2
    obtain ⟨t,ht⟩: ∃t:Bool,t=(bif wb then (bif wp then (h2==1) else false) else false):=⟨_,rfl⟩
    obtain ⟨d3,s3,k3⟩:=agp (lim:=l1) (wb:=wb) (wp:=wp) Bt b2 z2 B2 (IntKind.wrap .i64 ((b:Int)-(a:Int))) (q:Int) t
    have b3:b≤d3.size:=by rw[s3.1];exact b2
    have z3:d3.size<1152921504606846976:=by rw[s3.1];exact z2
    have B3:Below ay a b d3:=B2.perm b2 s3
    have P3:PermIn a b d d3:=permIn_trans _ _ _ a b (permIn_trans _ _ _ a b s1 s2) s3
    have step: ∀(β:Type) (kn:(Int × Int × Int × Bool × Bool × (List V))→Option β) (kr:(List V)→Option β),pw CC a b lim wb wp (eA d) kn kr=
      mo CC a b l1 wb wp (IntKind.wrap .i64 ((b:Int)-(a:Int))) (q:Int) t (eA d2) (cY (un fun (SH:Bool) (LV:List V)=>kr LV) (fun (ml:List V)=>sd CC a b wb wp l1 q ml kn)):=by
     intro β kn kr
     rw[F8,aA,if_neg rB,mQ,if_neg h0,k1]
     simp only[un]
     rw[c1]
     simp only[Option.bind_some,V.bQ,V.qf,V.toInt_int,List.drop_succ_cons,List.drop_zero]
     rw[k2]
     simp only[un]
     rw[ht]
     cases wb
     ·rfl
     ·cases wp
      ·rfl
      ·rfl
    rcases k3 with k3|⟨k3s,k3⟩
    ·obtain ⟨a4,b4,wb4,wp4,d4,r1,r2,r3,r4,r5,r6,r7⟩:=agq Bt b3 z3 B3 q1 q2 (fun a2 b2 d2 aS h1 h2 h3 h4=>ih a2 b2 d2 (by omega) h1 h2 h3 h4) wb wp l1
     obtain ⟨R,e,e1,e2⟩:=ih a4 b4 d4 (by omega) r2 r3 r4 r5 l1 wb4 wp4
     obtain ⟨f1,f2⟩:=r6 R e1 e2
     refine ⟨R,(dU ?_).trans e,permIn_trans _ _ _ a b P3 f1,f2⟩
     show pw CC a b lim wb wp (eA d) (fun y=>some (Sum.inl y)) (fun r=>some (Sum.inr r))=_
     rw[step,k3]
     exact r7 _ (fun y=>some (Sum.inl y))
    ·refine ⟨d3,bS ?_,P3,k3s⟩
     show pw CC a b lim wb wp (eA d) (fun y=>some (Sum.inl y)) (fun r=>some (Sum.inr r))=_
     rw[step,k3]
     rfl
theorem agu (l:List Ed) (hs:l.length<1152921504606846976): ∃R:List Ed,CC yW [.list af (l.map Ed.enc)]=some [.list af (R.map Ed.enc)]∧R.Perm l∧R.Pairwise (fun x y=> ¬y.lt x):=by
 obtain ⟨L,e1,_⟩:=UP (x:=l.length) (by omega)
 obtain ⟨R,e2,h1,h2⟩:=(agt _ 0 l.toArray.size l.toArray (Nat.le_refl _) (Nat.zero_le _) (Nat.le_refl _) (by simpa using hs) (.inl rfl)).call (L:Int)
 have a8:R.size=l.length:=by rw[h1.1];simp
 refine ⟨R.toList,aga ?_,?_,?_⟩
 ·unfold UM
  rw[List.length_map,oe (A:=l.length) (by omega),e1]
  simp only[Option.bind_some,V.bQ,V.toInt_int]
  have e3:eA l.toArray=l.map Ed.enc:=by simp[po]
  rw[e3,show ((l.toArray.size:Nat):Int)=(l.length:Int) by simp,show ((0:Nat):Int)=0 from rfl] at e2
  rw[e2]
  rfl
 ·have h3:=h1.2.2
  rw[show l.toArray.size=R.size from h1.1.symm,Array.extract_size,h1.1,Array.extract_size] at h3
  exact h3
 ·rw[List.pairwise_iff_getElem]
  intro i j hi hj s9
  have h3:=h2 i j (Nat.zero_le _) s9 (by simpa[←a8] using hj)
  rw[F5] at h3
  have dW:i<R.size:=by simpa using hi
  have gk:j<R.size:=by simpa using hj
  rw[getElem!_pos R i dW,getElem!_pos R j gk] at h3
  simpa using h3
end Go.AM.SL
set_option maxRecDepth 100000
namespace Go.AM
open Go.Proofs
noncomputable abbrev se:Code:=cx Tryd.prog (aw.aU 93)
noncomputable def Bu (C:ag) (i x s at':Int) (t57:Bool) (aM aJ aP aO:Int) (fM:List V) (bO bP:Int) (ig places:List V) (gp gq:Int) (rows bB bx bC cw:List V) {β:Type} (kr:((Int × Int × Int × (List V) × (List V) × (List V)) ⊕ (Int × (List V) × (List V)))→Option β):Option β:=
 bif t57 then
  bif ((ig.length:Int):Int)==512 then
  kr (.inl (3,0,0,([]:List V),([]:List V),([]:List V)))
  else
  bif cR .u64 s&&true then
   bif Nat.ble ((ig.length+([.int .u64 s]:List V).length)*8) bA then
   kr (.inr ((ig.length:Int),ig++([.int .u64 s]:List V),eS (.int .u64 s) (.int .i64 (ig.length:Int)) places))
   else none
  else none
 else
  kr (.inr (at',ig,places))
noncomputable def w6 (C:ag) (i aM aJ aP aO:Int) (fM:List V) (bO bP gp gq:Int) (bB bx bC cw:List V) (x:Int) (ig places rows:List V) {β:Type} (kn:(Int × (List V) × (List V) × (List V))→Option β) (kr:((Int × Int × Int × (List V) × (List V) × (List V)) ⊕ (Int × Bool × (List V) × (List V) × (List V)))→Option β):Option β:=
 bif decide ((x:Int)<aM) then
  bif (decide (0≤i))&&(decide (i<(ig.length:Int))) then
  (ig[(i:Int).toNat]?).bind fun x2=>
  (C rH [.int .i64 aM,.int .i64 aJ,.int .u64 aP,.int .u64 aO,.list af fM,.int .u64 x2.toInt,.int .i64 x]).bind fun r3=>
  bif cR .u64 ((V.nth r3 0).toInt)&&true then
   Bu C i x ((V.nth r3 0).toInt) ((gL (.int .u64 ((V.nth r3 0).toInt)) places (.int .i64 0)).toInt) (!(fu (.int .u64 ((V.nth r3 0).toInt)) places)) aM aJ aP aO fM bO bP ig places gp gq rows bB bx bC cw (cY (un fun (js:Int)=>un fun (agv:Int)=>un fun (agw:Int)=>un fun (b_7:List V)=>un fun (b_8:List V) (agx:List V)=>
    kr (.inl (js,agv,agw,b_7,b_8,agx))) (un fun (UQ:Int)=>un fun (agy:List V) (agz:List V)=>
    bif Nat.ble ((rows.length+([.int .i64 UQ]:List V).length)*8) bA then
    kn (IntKind.wrap .i64 (x+1),agy,agz,rows++([.int .i64 UQ]:List V))
    else none))
  else none
  else none
 else
  kr (.inr (x,decide ((x:Int)<aM),ig,places,rows))
noncomputable def uu (C:ag) (i aM aJ aP aO:Int) (fM:List V) (bO bP gp gq:Int) (bB bx bC cw:List V):(Int × (List V) × (List V) × (List V))→Option ((Int × (List V) × (List V) × (List V)) ⊕ ((Int × Int × Int × (List V) × (List V) × (List V)) ⊕ (Int × Bool × (List V) × (List V) × (List V)))):=un fun x=>un fun ig=>un fun places rows=>w6 C i aM aJ aP aO fM bO bP gp gq bB bx bC cw x ig places rows (fun y=>some (.inl y)) (fun r=>some (.inr r))
noncomputable def Bv (C:ag) (aM aJ aP aO:Int) (fM:List V) (bO bP gp gq:Int) (bZ bB:List V) (i:Int) (ig places bx bC:List V) {β:Type} (kn:(Int × (List V) × (List V) × (List V) × (List V))→Option β) (kr:((Int × Int × Int × (List V) × (List V) × (List V)) ⊕ (Int × Bool × (List V) × (List V) × (List V) × (List V)))→Option β):Option β:=
 bif decide ((i:Int)<(ig.length:Int)) then
  (Loop (uu C i aM aJ aP aO fM bO bP gp gq bZ bB bx bC) (0,ig,places,([]:List V))).bind (cY (un fun (oj:Int)=>un fun (agA:Int)=>un fun (agB:Int)=>un fun (La:List V)=>un fun (pj:List V) (agC:List V)=>
   kr (.inl (oj,agA,agB,La,pj,agC))) (un fun (aiZ:Int)=>un fun (adZ:Bool)=>un fun (LX:List V)=>un fun (agD:List V) (UR:List V)=>
   bif Nat.ble ((bC.length+([.list ah UR]:List V).length)*24) bA then
   bif (decide (0≤i))&&(decide (i<(LX.length:Int))) then
    (LX[(i:Int).toNat]?).bind fun pr=>
    bif Nat.ble ((bx.length+([.bool (((IntKind.wrap .u64 ((BitVec.ofInt (IntKind.bits .u64) pr.toInt&&&BitVec.ofInt (IntKind.bits .u64) aO).toNat)):Int) != 0)]:List V).length)*1) bA then
    kn (IntKind.wrap .i64 (i+1),LX,agD,bx++([.bool (((IntKind.wrap .u64 ((BitVec.ofInt (IntKind.bits .u64) pr.toInt&&&BitVec.ofInt (IntKind.bits .u64) aO).toNat)):Int) != 0)]:List V),bC++([.list ah UR]:List V))
    else none
   else none
   else none))
 else
  kr (.inr (i,decide ((i:Int)<(ig.length:Int)),ig,places,bx,bC))
noncomputable def w7 (C:ag) (aM aJ aP aO:Int) (fM:List V) (bO bP gp gq:Int) (bZ bB:List V):(Int × (List V) × (List V) × (List V) × (List V))→Option ((Int × (List V) × (List V) × (List V) × (List V)) ⊕ ((Int × Int × Int × (List V) × (List V) × (List V)) ⊕ (Int × Bool × (List V) × (List V) × (List V) × (List V)))):=un fun i=>un fun ig=>un fun places=>un fun bx bC=>Bv C aM aJ aP aO fM bO bP gp gq bZ bB i ig places bx bC (fun y=>some (.inl y)) (fun r=>some (.inr r))
noncomputable def US (C:ag):ch:=fun β n ds k=>
 bif Nat.beq n 927 then ko Jz [[0,0,0,0,0,0],[1,2,0,6,7,8,9,10,11,12,0,0,15,16,17,18,19,20,21]] (@Bu C) ds k else
 bif Nat.beq n 193 then bq JA [false,true,false,false,false,false,false,false,false,true,true,false,false,true,false,false,false,false] [[0,0,0,0,0,0],[1,0,0,3,4,5,6,7,8,9,0,0,12,13,0,15,16,17,18]] (@w6 C) ds k else
 bif Nat.beq n 129 then bq JB [true,false,false,false,false,false,false,false,true,true,false,false,false,false,true,true] [[0,0,0,0,0,0],[0,0,2,3,4,5,6,7,8,0,0,11,12,13,14,0,0]] (@Bv C) ds k else
 none
abbrev LY (C:ag) (b:cd):Prop:=cf Tryd.prog aw C (US C) 93 (cG Tryd.prog (aw.aU 93)) (aw.sin 93).aZ.length b
theorem agE (C:ag):LY C (.cond 57 (ar [1,1,1,1,1,0,1,0,0,1,0,0,1,0,1,0,0,1,0,0,1,1,0,1,0] se) (ar [1,1,1,1,1,0,1,0,0,1,0,0,1,0,1,0,0,1,0,0,1,1,0,1,1] se)):=
 kV Jz [[0,0,0,0,0,0],[1,2,0,6,7,8,9,10,11,12,0,0,15,16,17,18,19,20,21]] (@Bu C) (by kernel_rfl) (aR (bs:=[]) (by kernel_rfl) av) (aR (bs:=[]) (by kernel_rfl) av) (fun ds=>by kernel_rfl) (fun i β k=>by kernel_rfl) (fun β ds k=>by kernel_rfl)
theorem agF (C:ag):LY C (.loop (ar [1,1,1,1,1,0,1,0,0,1,0,0,1,0,1,0,0] se)):=
 bu JA [false,true,false,false,false,false,false,false,false,true,true,false,false,true,false,false,false,false] [[0,0,0,0,0,0],[1,0,0,3,4,5,6,7,8,9,0,0,12,13,0,15,16,17,18]] (@w6 C) (by kernel_rfl) (aR (bs:=[.cond 57 (ar [1,1,1,1,1,0,1,0,0,1,0,0,1,0,1,0,0,1,0,0,1,1,0,1,0] se) (ar [1,1,1,1,1,0,1,0,0,1,0,0,1,0,1,0,0,1,0,0,1,1,0,1,1] se)]) (by kernel_rfl) (bd (agE C) av)) (fun ds=>by kernel_rfl) (fun i x=>by kernel_rfl) (fun i x β k=>by kernel_rfl) (fun β ds k=>by kernel_rfl)
theorem agG (C:ag):LY C (.loop (ar [1,1,1,1,1,0,1,0,0] se)):=
 bu JB [true,false,false,false,false,false,false,false,true,true,false,false,false,false,true,true] [[0,0,0,0,0,0],[0,0,2,3,4,5,6,7,8,0,0,11,12,13,14,0,0]] (@Bv C) (by kernel_rfl) (aR (bs:=[.loop (ar [1,1,1,1,1,0,1,0,0,1,0,0,1,0,1,0,0] se)]) (by kernel_rfl) (bd (agF C) av)) (fun ds=>by kernel_rfl) (fun i x=>by kernel_rfl) (fun i x β k=>by kernel_rfl) (fun β ds k=>by kernel_rfl)
noncomputable def LZ (C:ag) (cp cK cq dh:Int) (cv:List V):Option (List V):=
 (C Eb [.int .i64 cp,.int .i64 cK,.int .u64 cq,.int .u64 dh,.list af cv]).bind fun r1=>
 bif (((V.nth r1 0).toInt):Int) != 0 then
  some [.int .i64 0,.int .i64 0,.int .i64 ((V.nth r1 0).toInt),.list ab ([]:List V),.list ae ([]:List V),.list a9 ([]:List V)]
 else
  bif cR .u64 cq&&true then
  (Loop (w7 C cp cK cq dh cv 0 0 cp 0 ([]:List V) ([]:List V)) (0,([.int .u64 cq]:List V),eS (.int .u64 cq) (.int .i64 0) ([]:List V),([]:List V),([]:List V))).bind (cY (un fun (K0:Int)=>un fun (agH:Int)=>un fun (agI:Int)=>un fun (agJ:List V)=>un fun (agK:List V) (agL:List V)=>
   some [.int .i64 agH,.int .i64 agI,.int .i64 K0,.list ab agJ,.list ae agK,.list a9 agL]) (un fun (afz:Int)=>un fun (afd:Bool)=>un fun (agM:List V)=>un fun (ai0:List V)=>un fun (zX:List V) (Lc:List V)=>
   some [.int .i64 cp,.int .i64 0,.int .i64 0,.list ab zX,.list ae Lc,.list a9 agM]))
  else none
theorem UT {cp cK cq dh:Int} {cv:List V} {r:Option (List V)} (h:LZ CC cp cK cq dh cv=r):CC yY [.int .i64 cp,.int .i64 cK,.int .u64 cq,.int .u64 dh,.list af cv]=r:=
 bj (key:=93) (L:=US CC) (bs:=[.loop (ar [1,1,1,1,1,0,1,0,0] se)]) (by kernel_rfl) (bd (agG CC) av) (Eq.trans (by kernel_rfl) h)
end Go.AM
set_option maxRecDepth 100000
namespace Go.AM
open Go.Proofs
noncomputable def UU (C:ag) (cp cK cq dh:Int) (cv:List V):Option (List V):=
 bif decide ((cK:Int)>64) then
  some [.int .i64 0,.int .i64 0,.int .i64 3,.list ab ([]:List V),.list ae ([]:List V)]
 else
  (C D2 [.list af cv]).bind fun r1=>
  (C yY [.int .i64 cp,.int .i64 cK,.int .u64 cq,.int .u64 dh,.list af ((V.nth r1 0).toList)]).bind fun r2=>
  bif (((V.nth (r2.drop 2) 0).toInt):Int) != 0 then
  some [.int .i64 0,.int .i64 0,.int .i64 ((V.nth (r2.drop 2) 0).toInt),.list ab ([]:List V),.list ae ([]:List V)]
  else
  (C vM [.int .i64 ((V.nth r2 0).toInt),.int .i64 ((V.nth (r2.drop 1) 0).toInt),.list ab ((V.nth (r2.drop 3) 0).toList),.list ae ((V.nth ((r2.drop 3).drop 1) 0).toList)]).bind fun r3=>
  some [.int .i64 ((V.nth r3 0).toInt),.int .i64 ((V.nth (r3.drop 1) 0).toInt),.int .i64 0,.list ab ((V.nth (r3.drop 2) 0).toList),.list ae ((V.nth ((r3.drop 2).drop 1) 0).toList)]
theorem agN {cp cK cq dh:Int} {cv:List V} {r:Option (List V)} (h:UU CC cp cK cq dh cv=r):CC DU [.int .i64 cp,.int .i64 cK,.int .u64 cq,.int .u64 dh,.list af cv]=r:=
 bj (key:=67) (L:=cT) (bs:=[]) (by kernel_rfl) av (Eq.trans (by kernel_rfl) h)
end Go.AM
set_option maxRecDepth 100000
namespace Go.AM
open Go.Proofs
noncomputable def UW (C:ag) (cp cK cq dh:Int) (cv:List V):Option (List V):=
 (C yZ [.int .i64 cp,.int .i64 cK,.int .u64 cq,.int .u64 dh,.list af cv]).bind fun r1=>
 bif (((V.nth (r1.drop 2) 0).toInt):Int) != 0 then
  some [.int .i64 0,.int .i64 0,.int .i64 ((V.nth (r1.drop 2) 0).toInt),.list ab ([]:List V),.list ae ([]:List V)]
 else
  (C rF [.int .i64 ((V.nth r1 0).toInt),.int .i64 ((V.nth (r1.drop 1) 0).toInt),.list ab ((V.nth (r1.drop 3) 0).toList),.list ae ((V.nth ((r1.drop 3).drop 1) 0).toList)]).bind fun r2=>
  some [.int .i64 ((V.nth r2 0).toInt),.int .i64 ((V.nth (r2.drop 1) 0).toInt),.int .i64 0,.list ab ((V.nth (r2.drop 2) 0).toList),.list ae ((V.nth ((r2.drop 2).drop 1) 0).toList)]
theorem agO {cp cK cq dh:Int} {cv:List V} {r:Option (List V)} (h:UW CC cp cK cq dh cv=r):CC yV [.int .i64 cp,.int .i64 cK,.int .u64 cq,.int .u64 dh,.list af cv]=r:=
 bj (key:=79) (L:=cT) (bs:=[]) (by kernel_rfl) av (Eq.trans (by kernel_rfl) h)
end Go.AM
set_option maxRecDepth 100000
namespace Go.AM
open Go.Proofs
noncomputable def L0 (C:ag) (aM aJ aP aO:Int) (bw:List V):Option (List V):=
 (C yW [.list af bw]).bind fun r1=>
 (C D1 [.list af ((V.nth r1 0).toList)]).bind fun r2=>
 bif (V.nth r2 0).toBool then
  (C yV [.int .i64 aM,.int .i64 aJ,.int .u64 aP,.int .u64 aO,.list af ((V.nth (r2.drop 1) 0).toList)]).bind fun r3=>
  some [.int .i64 ((V.nth r3 0).toInt),.int .i64 ((V.nth (r3.drop 1) 0).toInt),.int .i64 ((V.nth (r3.drop 2) 0).toInt),.int .i64 aM,.int .i64 aJ,.int .u64 aP,.int .u64 aO,.list af ((V.nth (r2.drop 1) 0).toList),.list ab ((V.nth (r3.drop 3) 0).toList),.list ae ((V.nth ((r3.drop 3).drop 1) 0).toList)]
 else
  (C yV [.int .i64 aM,.int .i64 aJ,.int .u64 aP,.int .u64 aO,.list af ((V.nth (r2.drop 1) 0).toList)]).bind fun r4=>
  some [.int .i64 ((V.nth r4 0).toInt),.int .i64 ((V.nth (r4.drop 1) 0).toInt),.int .i64 ((V.nth (r4.drop 2) 0).toInt),.int .i64 aM,.int .i64 aJ,.int .u64 aP,.int .u64 aO,.list af ((V.nth (r2.drop 1) 0).toList),.list ab ((V.nth (r4.drop 3) 0).toList),.list ae ((V.nth ((r4.drop 3).drop 1) 0).toList)]
theorem UX {aM aJ aP aO:Int} {bw:List V} {r:Option (List V)} (h:L0 CC aM aJ aP aO bw=r):CC rG [.int .i64 aM,.int .i64 aJ,.int .u64 aP,.int .u64 aO,.list af bw]=r:=
 bj (key:=65) (L:=cT) (bs:=[]) (by kernel_rfl) av (Eq.trans (by kernel_rfl) h)
end Go.AM
set_option maxRecDepth 100000
set_option linter.unusedSimpArgs false
namespace Go.AM
open Go.Proofs
section
variable {n:Nf} {L S:Nat} (h:Nat6 n L S)
include h
theorem UY {T U:List Nat} {s:Nat} {i:Nat} (hi:i<T.length) (hs:T[i]=s) (iT:s<2^S) {x:Nat} (hx:x<L) (hpx:aW (sn n.E) T s (x+1) <+: U) (hU:(aW (sn n.E) T s (x+1)).length≤512) {c1 c2 c3 c4:Int} {l1 l2 l3 l4:List V}:
  uu CC (i:Int) (L:Int) n.S (n.st:Int) (n.fin:Int) (n.E.map Ed.enc) c1 c2 c3 c4 l1 l2 l3 l4 ((x:Int),U1 (aW (sn n.E) T s x),uM (aW (sn n.E) T s x),(tab x fun j=>nV (U.idxOf (sn n.E s j))))=
   some (.inl (((x+1:Nat):Int),U1 (aW (sn n.E) T s (x+1)),uM (aW (sn n.E) T s (x+1)),(tab (x+1) fun j=>nV (U.idxOf (sn n.E s j))))):=by
 have h6:=h.l6
 have wy:=h.pow
 have ox:=zC (next:=sn n.E) T s x
 have iS:i<(aW (sn n.E) T s x).length:=Nat.lt_of_lt_of_le hi ox.length_le
 have wA:(aW (sn n.E) T s x)[i]=s:=by rw[←ox.getElem hi,hs]
 have hn:=h.next s x
 have eU:=hU
 have k1:cR .u64 ((sn n.E s x:Nat):Int)=true:=v9 (by omega)
 have st:=Q2 n h.ok h.good (set:=s) (by omega) (x:Int)
 simp only[uu,w6,un]
 refine bT (dm hx) ?_
 refine (lY (Fs iS)).trans ?_
 rw[wA]
 have st':CC rH [.int .i64 (L:Int),.int .i64 n.S,.int .u64 (n.st:Int),.int .u64 (n.fin:Int),.list af (n.E.map Ed.enc),.int .u64 (s:Int),.int .i64 (x:Int)]=some [uV (sn n.E s x)]:=(congrArg (fun z=>CC rH [.int .i64 z,.int .i64 n.S,.int .u64 (n.st:Int),.int .u64 (n.fin:Int),.list af (n.E.map Ed.enc),.int .u64 (s:Int),.int .i64 (x:Int)]) h.hL.symm).trans st
 refine bs st' ?_
 refine bT (by simp only[uV,V.bQ,V.toInt_int];rw[k1];rfl) ?_
 simp only[uV,V.bQ,V.toInt_int]
 rw[show (V.int .u64 ((sn n.E s x:Nat):Int))=uV (sn n.E s x) from rfl]
 have e1:=tP tY (sn n.E s x) (aW (sn n.E) T s x) 0
 unfold Bu
 rw[show (V.int .u64 ((sn n.E s x:Nat):Int))=uV (sn n.E s x) from rfl,show fu (uV (sn n.E s x)) (uM (aW (sn n.E) T s x))=_ from e1]
 have ei:U.idxOf (sn n.E s x)=(cN (aW (sn n.E) T s x) (sn n.E s x)).idxOf (sn n.E s x):=tM hpx tJ
 rw[KQ] at ei
 rw[aW,oo] at eU
 by_cases hm:sn n.E s x∈aW (sn n.E) T s x
 ·have e2:=v7 tY (sn n.E s x) (.int .i64 0) (aW (sn n.E) T s x) 0 hm
  rw[Nat.zero_add] at e2
  rw[if_pos hm] at ei
  refine bF (by simpa using hm) ?_
  rw[show gL (uV (sn n.E s x)) (uM (aW (sn n.E) T s x)) (.int .i64 0)=_ from e2,V.toInt_int,←ei]
  simp only[cY,un]
  refine bT (cap (by rw[dA];simp;omega) (by omega)) ?_
  rw[cz (by omega),jU,aW]
  unfold cN
  rw[if_pos hm]
  rfl
 ·rw[if_neg hm] at ei eU
  refine bT (by simpa using hm) ?_
  refine bF (by rw[jS];simp;omega) ?_
  refine bT (by rw[k1];rfl) ?_
  refine bT (cap (by rw[jS];simp;omega) (by omega)) ?_
  simp only[cY,un]
  refine bT (cap (by rw[dA];simp;omega) (by omega)) ?_
  have e2:=v8 tY (sn n.E s x) (aW (sn n.E) T s x) 0 hm
  rw[Nat.zero_add] at e2
  rw[jS,show eS (uV (sn n.E s x)) _ (uM (aW (sn n.E) T s x))=_ from e2,←ei,cz (by omega),jU,aW]
  unfold cN
  rw[if_neg hm]
  simp[U1,uM,nV,uV]
theorem agP {T U:List Nat} {s:Nat} {i:Nat} (hi:i<T.length) (hs:T[i]=s) (iT:s<2^S) (hp:aW (sn n.E) T s L <+: U) (hU:(aW (sn n.E) T s L).length≤512) {c1 c2 c3 c4:Int} {l1 l2 l3 l4:List V}:
  Loop (uu CC (i:Int) (L:Int) n.S (n.st:Int) (n.fin:Int) (n.E.map Ed.enc) c1 c2 c3 c4 l1 l2 l3 l4) (0,U1 T,uM T,([]:List V))=
   some (.inr ((L:Int),false,U1 (aW (sn n.E) T s L),uM (aW (sn n.E) T s L),(tab L fun x=>nV (U.idxOf (sn n.E s x))))):=by
 refine (ej L (fun x=>((x:Int),U1 (aW (sn n.E) T s x),uM (aW (sn n.E) T s x),(tab x fun j=>nV (U.idxOf (sn n.E s j))))) _ (fun x hx=> ?_) ?_)
 ·have:=(qt (next:=sn n.E) T s (show x+1≤L by omega)).length_le
  exact UY h hi hs iT hx ((qt T s (show x+1≤L by omega)).trans hp) (by omega)
 ·simp only[uu,w6,un]
  refine bF (bp (Nat.le_refl _)) ?_
  rw[bp (Nat.le_refl _)]
theorem agQ {T:List Nat} {s:Nat} {i:Nat} (hi:i<T.length) (hs:T[i]=s) (iT:s<2^S) (hT:T.length≤512) (hU:512<(aW (sn n.E) T s L).length) {c1 c2 c3 c4:Int} {l1 l2 l3 l4:List V}:
  Loop (uu CC (i:Int) (L:Int) n.S (n.st:Int) (n.fin:Int) (n.E.map Ed.enc) c1 c2 c3 c4 l1 l2 l3 l4) (0,U1 T,uM T,([]:List V))=
   some (.inl (3,0,0,[],[],[])):=by
 obtain ⟨y,hy,H8,hy2,hy3⟩:=adj hT hU
 have h6:=h.l6
 have wy:=h.pow
 refine (ZF (fun x=>((x:Int),U1 (aW (sn n.E) T s x),uM (aW (sn n.E) T s x),(tab x fun j=>nV ((aW (sn n.E) T s y).idxOf (sn n.E s j))))) y (fun x hx=> ?_) ?_)
 ·exact UY h hi hs iT (by omega) (qt T s (by omega)) (hy3 (x+1) (by omega))
 ·have ox:=zC (next:=sn n.E) T s y
  have iS:i<(aW (sn n.E) T s y).length:=Nat.lt_of_lt_of_le hi ox.length_le
  have wA:(aW (sn n.E) T s y)[i]=s:=by rw[←ox.getElem hi,hs]
  have hn:=h.next s y
  have k1:cR .u64 ((sn n.E s y:Nat):Int)=true:=v9 (by omega)
  have st:=Q2 n h.ok h.good (set:=s) (by omega) (y:Int)
  simp only[uu,w6,un]
  refine bT (dm hy) ?_
  refine (lY (Fs iS)).trans ?_
  rw[wA]
  have st':CC rH [.int .i64 (L:Int),.int .i64 n.S,.int .u64 (n.st:Int),.int .u64 (n.fin:Int),.list af (n.E.map Ed.enc),.int .u64 (s:Int),.int .i64 (y:Int)]=some [uV (sn n.E s y)]:=(congrArg (fun z=>CC rH [.int .i64 z,.int .i64 n.S,.int .u64 (n.st:Int),.int .u64 (n.fin:Int),.list af (n.E.map Ed.enc),.int .u64 (s:Int),.int .i64 (y:Int)]) h.hL.symm).trans st
  refine bs st' ?_
  refine bT (by simp only[uV,V.bQ,V.toInt_int];rw[k1];rfl) ?_
  simp only[uV,V.bQ,V.toInt_int]
  rw[show (V.int .u64 ((sn n.E s y:Nat):Int))=uV (sn n.E s y) from rfl]
  have e1:=tP tY (sn n.E s y) (aW (sn n.E) T s y) 0
  unfold Bu
  rw[show fu (uV (sn n.E s y)) (uM (aW (sn n.E) T s y))=_ from e1]
  refine bT (by simpa using hy2) ?_
  refine bT (by rw[jS];simp;omega) ?_
  rfl
theorem agR {s:Nat} (hs:s<2^S):(((IntKind.wrap .u64 ((BitVec.ofInt (IntKind.bits .u64) (s:Int)&&&BitVec.ofInt (IntKind.bits .u64) (n.fin:Int)).toNat)):Int) != 0)=sf n.fin s:=by
 have hp:=h.pow
 have hf:=h.fin
 rw[u64_and (by omega) (by omega)]
 unfold sf
 rw[Bool.eq_iff_iff]
 simp
theorem L3 {i:Nat} (fj:i<(aq L (sn n.E) n.st i).length) (hlen:(aq L (sn n.E) n.st i).length≤512) {U:List Nat} (hp:aq L (sn n.E) n.st (i+1) <+: U) {l1 l2 l3 l4:List V} (hl3:l3.length≤1000) (hl4:l4.length≤1000):
  w7 CC (L:Int) n.S (n.st:Int) (n.fin:Int) (n.E.map Ed.enc) 0 0 (L:Int) 0 l1 l2 ((i:Int),U1 (aq L (sn n.E) n.st i),uM (aq L (sn n.E) n.st i),l3,l4)=
   if 512<(aq L (sn n.E) n.st (i+1)).length then some (.inr (.inl (3,0,0,[],[],[])))
   else some (.inl (((i+1:Nat):Int),U1 (aq L (sn n.E) n.st (i+1)),uM (aq L (sn n.E) n.st (i+1)),l3++[V.bool (sf n.fin (aq L (sn n.E) n.st i)[i])],l4++[V.list ah (tab L fun x=>nV (U.idxOf (sn n.E (aq L (sn n.E) n.st i)[i] x)))])):=by
 have h6:=h.l6
 have hq:=sub_lt h i _ (List.getElem_mem fj)
 have gU:aq L (sn n.E) n.st (i+1)=aW (sn n.E) (aq L (sn n.E) n.st i) (aq L (sn n.E) n.st i)[i] L:=KI (List.getElem?_eq_getElem fj)
 simp only[w7,Bv,un]
 refine bT (decide_eq_true (by rw[jS];omega)) ?_
 by_cases nY:512<(aq L (sn n.E) n.st (i+1)).length
 ·rw[if_pos nY]
  refine bs (agQ h fj rfl hq hlen (by rw[←gU];exact nY)) ?_
  rfl
 ·rw[if_neg nY]
  refine bs (agP h fj rfl hq (U:=U) (by rw[←gU];exact hp) (by rw[←gU];omega)) ?_
  rw[←gU]
  simp only[cY,un]
  have ox:=Rw (L:=L) (next:=sn n.E) (a0:=n.st) i
  have iS:i<(aq L (sn n.E) n.st (i+1)).length:=Nat.lt_of_lt_of_le fj ox.length_le
  refine bT (cap (by simp;omega) (by omega)) ?_
  refine (lY (Fs iS)).trans ?_
  rw[←ox.getElem fj]
  simp only[uV,V.toInt_int]
  rw[agR h hq]
  refine bT (cap (by simp;omega) (by omega)) ?_
  rw[cz (by omega)]
theorem agS (hn: ¬fO n L S): ∃X,CC yY (jr n [])=some (Ft (eE n L S) 0 (.list a9 X)):=by
 have h6:=h.l6
 have bJ:=h.st
 have wy:=h.pow
 have hd:(aq L (sn n.E) n.st (2^S)).length≤2^S:=tZ h _
 have hle: ∀i,(aq L (sn n.E) n.st i).length≤(dP n L S).length:=SN hd
 have adF:(dP n L S).length≤512:=by unfold fO at hn;omega
 refine ⟨U1 (dP n L S),UT ?_⟩
 unfold LZ
 have hv:=QU n h.ok
 rw[h.code] at hv
 refine bs hv (bF rfl ?_)
 refine bT (by rw[v9 (show n.st<2^64 by omega)];rfl) ?_
 rw[h.hL]
 have key:Loop (w7 CC (L:Int) n.S (n.st:Int) (n.fin:Int) (n.E.map Ed.enc) 0 0 (L:Int) 0 ([]:List V) ([]:List V)) (0,U1 [n.st],uM [n.st],([]:List V),([]:List V))=
   some (.inr (((dP n L S).length:Int),false,U1 (dP n L S),uM (dP n L S),(eE n L S).cC,(eE n L S).cD)):=by
  refine (ej (dP n L S).length (fun i=>((i:Int),U1 (aq L (sn n.E) n.st i),uM (aq L (sn n.E) n.st i),(tab i fun j=>V.bool ((eE n L S).fin j)),(tab i fun j=>fo L ((eE n L S).nx j)))) _ (fun i hi=> ?_) ?_)
  ·have fj:=vW hd hi
   have hiK:i<2^S:=Nat.lt_of_lt_of_le hi hd
   have tR:(aq L (sn n.E) n.st i)[i]=(dP n L S)[i]:=(jT (show i≤2^S by omega)).getElem fj
   have adG:=hle (i+1)
   have adH:=hle i
   have:=L3 h fj (by omega) (U:=dP n L S) (jT (by omega)) (l1:=[]) (l2:=[]) (l3:=(tab i fun j=>V.bool ((eE n L S).fin j))) (l4:=(tab i fun j=>fo L ((eE n L S).nx j))) (by rw[dA];omega) (by rw[dA];omega)
   rw[if_neg (by omega),tR] at this
   rw[this,jU,jU]
   have e1:(eE n L S).fin i=sf n.fin (dP n L S)[i]:=zH hi
   have e2:fo L ((eE n L S).nx i)= .list ah (tab L fun x=>nV ((dP n L S).idxOf (sn n.E (dP n L S)[i] x))):=by
    unfold fo
    refine congrArg _ (eh fun x hx=> ?_)
    rw[show (eE n L S).nx i x=_ from tL hi hx];rfl
   rw[e1,e2]
  ·simp only[w7,Bv,un]
   rw[show aq L (sn n.E) n.st (dP n L S).length=dP n L S from zI hd,jS]
   refine bF (bp (Nat.le_refl _)) ?_
   rw[bp (Nat.le_refl _)]
   have e3:(eE n L S).n=(dP n L S).length:=kp
   unfold Da.cC Da.cD
   rw[e3];rfl
 refine bs key ?_
 rfl
theorem agT (hn:fO n L S): ∃X,CC yY (jr n [])=some (Ft zD 3 (.list a9 X)):=by
 have h6:=h.l6
 have bJ:=h.st
 have wy:=h.pow
 obtain ⟨m,hm1,nK,hm3⟩:=SP (SO (show 512<(aq L (sn n.E) n.st (2^S)).length from hn)) (by omega)
 refine ⟨[],UT ?_⟩
 unfold LZ
 have hv:=QU n h.ok
 rw[h.code] at hv
 refine bs hv (bF rfl ?_)
 refine bT (by rw[v9 (show n.st<2^64 by omega)];rfl) ?_
 rw[h.hL]
 have key: ∃r,Loop (w7 CC (L:Int) n.S (n.st:Int) (n.fin:Int) (n.E.map Ed.enc) 0 0 (L:Int) 0 ([]:List V) ([]:List V)) (0,U1 [n.st],uM [n.st],([]:List V),([]:List V))=some r∧r=(.inl (3,0,0,[],[],[])):=by
  refine zQ (fun i st=> ∃l3 l4:List V,l3.length=i∧l4.length=i∧st=((i:Int),U1 (aq L (sn n.E) n.st i),uM (aq L (sn n.E) n.st i),l3,l4)) _ m 0 _ (fun i _ hi st bJ=> ?_) (fun st bJ=> ?_) ⟨[],[],rfl,rfl,rfl⟩
  ·obtain ⟨l3,l4,e3,e4,rfl⟩:=bJ
   obtain ⟨h1,h2⟩:=nK i (by omega)
   have h3:=(nK (i+1) (by omega)).2
   have:=L3 h h1 h2 (List.prefix_refl _) (l1:=[]) (l2:=[]) (l3:=l3) (l4:=l4) (by omega) (by omega)
   rw[if_neg (by omega)] at this
   exact ⟨_,this,_,_,by simp[e3],by simp[e4],rfl⟩
  ·obtain ⟨l3,l4,e3,e4,rfl⟩:=bJ
   rw[Nat.zero_add] at*
   obtain ⟨h1,h2⟩:=nK m (by omega)
   have:=L3 h h1 h2 (List.prefix_refl _) (l1:=[]) (l2:=[]) (l3:=l3) (l4:=l4) (by omega) (by omega)
   rw[if_pos (by omega)] at this
   exact ⟨_,this,rfl⟩
 obtain ⟨r,h1,rfl⟩:=key
 refine bs h1 ?_
 rfl
end
instance (n:Nf) (L S:Nat):Decidable (fO n L S):=by unfold fO;infer_instance
noncomputable def e9 (n:Nf) (L S:Nat):Da:=if fO n L S then zD else minD (eE n L S)
def mq (n:Nf) (L S:Nat):Int:=if fO n L S then 3 else 0
section
variable {n:Nf} {L S:Nat} (h:Nat6 n L S)
include h
theorem UZ:CC yV (jr n [])=some (mg (e9 n L S) (mq n L S)):=by
 refine agO ?_
 unfold UW e9 mq
 by_cases ho:fO n L S
 ·obtain ⟨X,hX⟩:=adK h ho
  rw[if_pos ho,if_pos ho]
  refine bs hX (bT rfl ?_)
  rfl
 ·obtain ⟨X,hX⟩:=adJ h ho
  rw[if_neg ho,if_neg ho]
  refine bs hX (bF rfl ?_)
  refine bs (Fm (ua h ho)) ?_
  rfl
end
def cA (L S st fin:Nat) (l:List Ed):Nf:=⟨L,S,st,fin,ng l⟩
structure sg (L S st fin:Nat) (l:List Ed):Prop where
 l1:1≤L
 l6:L≤6
 om:S≤64
 st:st<2^S
 fin:fin<2^S
 E: ∀e∈l,e.In L S
 len:l.length≤1000000
theorem nt {L S st fin:Nat} {l:List Ed} (h:sg L S st fin l):Nat6 (cA L S st fin l) L S where
 hL:=rfl
 hS:=rfl
 ok:=by
  have uS:=h.l1
  have hl6:=h.l6
  have hs:=h.om
  have bJ:=h.st
  have na:=h.fin
  have hp:2^S≤2^64:=Nat.pow_le_pow_right (by omega) hs
  have dN: ∀e∈ng l,e.In L S:=fun e he=>h.E e (rV.1 he)
  have hlen:=aeE (L:=L) (S:=S) (by omega) (by omega) (AX l) dN
  refine ⟨by simp only[cA];omega,by simp only[cA];omega,by simp only[cA];omega,by simp only[cA];omega,by simp only[cA];omega,by simp only[cA];omega,by simp only[cA];unfold maxLen;omega,fun e he=> ?_⟩
  have:=dN e he
  unfold Ed.In at this
  unfold Ed.Ok
  omega
 code:=by
  have uS:=h.l1
  have hl6:=h.l6
  have hs:=h.om
  unfold Nf.code
  rw[if_neg (by simp only[cA];omega),if_neg (by simp only[cA,Int.toNat_natCast];have:=h.st;have:=h.fin;omega),if_pos]
  intro i hi
  have dN: ∀e∈ng l,e.In L S:=fun e he=>h.E e (rV.1 he)
  unfold Nf.jQ
  simp only[cA] at*
  refine ⟨by rw[fN hi];exact dN _ (List.getElem_mem hi),fun h0=> ?_⟩
  rw[fN hi,fN (show i-1<_ by omega)]
  exact List.pairwise_iff_getElem.1 (AX l) (i-1) i (by omega) hi (by omega)
theorem agU {A B:List Ed} (h: ∀x,x∈A↔x∈B):ng A=ng B:=
 Ls (AX A) (AX B) fun x=>by rw[rV,rV,h x]
def L4 (m:Da) (e:Int) (n:Nf):List V:=[.int .i64 (m.L:Int),.int .i64 (m.st:Int),.int .i64 e,.int .i64 n.L,.int .i64 n.S,.int .u64 (n.st:Int),.int .u64 (n.fin:Int),.list af (n.E.map Ed.enc),.list ab m.cC,.list ae m.cD]
section
variable {L S st fin:Nat} {l:List Ed} (h:sg L S st fin l)
include h
theorem agV:CC rG [.int .i64 (L:Int),.int .i64 (S:Int),.int .u64 (st:Int),.int .u64 (fin:Int),.list af (l.map Ed.enc)]=some (L4 (e9 (cA L S st fin l) L S) (mq (cA L S st fin l) L S) (cA L S st fin l)):=by
 have hl:=h.len
 obtain ⟨R,e1,p1,s1⟩:=SL.agu l (by omega)
 obtain ⟨b,e2⟩:=TP (l:=R) (by rw[p1.length_eq];exact hl)
 obtain ⟨c1,c2⟩:=aeO s1
 have hc:ib R=ng l:=Ls c1 (AX l) fun x=>by rw[c2,rV,p1.mem_iff]
 rw[hc] at e2
 have e3:=UZ (nt h)
 refine UX ?_
 unfold L0
 refine bs e1 ?_
 refine bs e2 ?_
 cases b
 ·refine bF rfl ?_
  refine bs e3 ?_
  rfl
 ·refine bT rfl ?_
  refine bs e3 ?_
  rfl
theorem agW:CC DU [.int .i64 (L:Int),.int .i64 (S:Int),.int .u64 (st:Int),.int .u64 (fin:Int),.list af (l.map Ed.enc)]=some (mg (e9 (cA L S st fin l) L S) (mq (cA L S st fin l) L S)):=by
 have hl:=h.len
 have hs:=h.om
 have h6:=nt h
 refine agN ?_
 unfold UU e9 mq
 refine bF (decide_eq_false (by omega)) ?_
 refine bs (aeJ (by omega)) ?_
 by_cases ho:fO (cA L S st fin l) L S
 ·obtain ⟨X,hX⟩:=agT h6 ho
  rw[if_pos ho,if_pos ho]
  refine bs hX (bT rfl ?_)
  rfl
 ·obtain ⟨X,hX⟩:=agS h6 ho
  rw[if_neg ho,if_neg ho]
  refine bs hX (bF rfl ?_)
  refine bs (Lm (ua h6 ho)) ?_
  rfl
end
end Go.AM
set_option maxRecDepth 100000
namespace Go.AM
open Go.Proofs
noncomputable def U0 (C:ag) (b8 ct:Int) (cb cO:List V) (cI cL:Int) (cM dp:List V):Option (List V):=
 (C yN [.int .i64 b8,.int .i64 ct,.list ab cb,.list ae cO]).bind fun r1=>
 bif (((V.nth r1 0).toInt):Int) != 0 then
  some [.int .i64 ((V.nth r1 0).toInt)]
 else
  (C yN [.int .i64 cI,.int .i64 cL,.list ab cM,.list ae dp]).bind fun r2=>
  bif (((V.nth r2 0).toInt):Int) != 0 then
  some [.int .i64 ((V.nth r2 0).toInt)]
  else
  bif (b8:Int) != cI then
   some [.int .i64 1]
  else
   some [.int .i64 0]
theorem agX {b8 ct:Int} {cb cO:List V} {cI cL:Int} {cM dp:List V} {r:Option (List V)} (h:U0 CC b8 ct cb cO cI cL cM dp=r):CC yP [.int .i64 b8,.int .i64 ct,.list ab cb,.list ae cO,.int .i64 cI,.int .i64 cL,.list ab cM,.list ae dp]=r:=
 bj (key:=24) (L:=cT) (bs:=[]) (by kernel_rfl) av (Eq.trans (by kernel_rfl) h)
end Go.AM
set_option maxRecDepth 100000
namespace Go.AM
open Go.Proofs
noncomputable abbrev w8:Code:=cx Tryd.prog (aw.aU 41)
noncomputable def Bw (C:ag) (t40 fa fb:Int) (ij gv:List V) (ik gg:Int) (py oC:List V) (t41:Int) {β:Type} (kn:Int→Option β) (kr:((Bool) ⊕ (Int × Bool))→Option β):Option β:=
 bif decide ((t41:Int)<t40) then
  (idx ij t41).bind fun x1=>
  (idx py t41).bind fun x2=>
  bif !(x1.toBool==x2.toBool) then
  kr (.inl false)
  else
  kn (IntKind.wrap .i64 (t41+1))
 else
  kr (.inr (t41,decide ((t41:Int)<t40)))
noncomputable def L5 (C:ag) (t40 fa fb:Int) (ij gv:List V) (ik gg:Int) (py oC:List V):(Int)→Option ((Int) ⊕ ((Bool) ⊕ (Int × Bool))):=fun t41=>Bw C t40 fa fb ij gv ik gg py oC t41 (fun y=>some (.inl y)) (fun r=>some (.inr r))
noncomputable def Bx (C:ag) (q t58 t59 t80 fa fb:Int) (ij gv:List V) (ik gg:Int) (py oC:List V) (t81:Int) {β:Type} (kn:Int→Option β) (kr:((Bool) ⊕ (Int × Bool))→Option β):Option β:=
 bif decide ((t81:Int)<t80) then
  (idx gv q).bind fun x9=>
  (idx x9.toList t81).bind fun gG=>
  (idx oC q).bind fun eY=>
  (idx eY.toList t81).bind fun lV=>
  bif (gG.toInt:Int) != lV.toInt then
  kr (.inl false)
  else
  kn (IntKind.wrap .i64 (t81+1))
 else
  kr (.inr (t81,decide ((t81:Int)<t80)))
noncomputable def L7 (C:ag) (q t58 t59 t80 fa fb:Int) (ij gv:List V) (ik gg:Int) (py oC:List V):(Int)→Option ((Int) ⊕ ((Bool) ⊕ (Int × Bool))):=fun t81=>Bx C q t58 t59 t80 fa fb ij gv ik gg py oC t81 (fun y=>some (.inl y)) (fun r=>some (.inr r))
noncomputable def By (C:ag) (t58 fa fb:Int) (ij gv:List V) (ik gg:Int) (py oC:List V) (t59:Int) {β:Type} (kn:Int→Option β) (kr:((Bool) ⊕ (Int × Bool))→Option β):Option β:=
 bif decide ((t59:Int)<t58) then
  (idx gv t59).bind fun x6=>
  (idx oC t59).bind fun x7=>
  bif ((x6.toList.length:Int):Int) != (x7.toList.length:Int) then
  kr (.inl false)
  else
  (idx gv t59).bind fun x8=>
  (Loop (L7 C t59 t58 t59 (x8.toList.length:Int) fa fb ij gv ik gg py oC) 0).bind (cY (fun (oj:Bool)=>
   kr (.inl oj)) (un fun (zB:Int) (S8:Bool)=>
   kn (IntKind.wrap .i64 (t59+1))))
 else
  kr (.inr (t59,decide ((t59:Int)<t58)))
noncomputable def L8 (C:ag) (t58 fa fb:Int) (ij gv:List V) (ik gg:Int) (py oC:List V):(Int)→Option ((Int) ⊕ ((Bool) ⊕ (Int × Bool))):=fun t59=>By C t58 fa fb ij gv ik gg py oC t59 (fun y=>some (.inl y)) (fun r=>some (.inr r))
noncomputable def U3 (C:ag):ch:=fun β n ds k=>
 bif Nat.beq n 65 then bq I0 [false,true,false,false,false,false,false,false,false,false] [[0],[1,0,0,3,4,5,6,7,8,9,10]] (@Bw C) ds k else
 bif Nat.beq n 241 then bq I1 [false,false,false,false,true,false,false,false,false,false,false,false,false] [[0],[1,2,3,4,0,0,6,7,8,9,10,11,12,13]] (@Bx C) ds k else
 bif Nat.beq n 161 then bq I4 [false,true,false,false,false,false,false,false,false,false] [[0],[1,0,0,3,4,5,6,7,8,9,10]] (@By C) ds k else
 none
abbrev L9 (C:ag) (b:cd):Prop:=cf Tryd.prog aw C (U3 C) 41 (cG Tryd.prog (aw.aU 41)) (aw.sin 41).aZ.length b
theorem agY (C:ag):L9 C (.loop (ar [1,1,0,1,0,0] w8)):=
 bu I0 [false,true,false,false,false,false,false,false,false,false] [[0],[1,0,0,3,4,5,6,7,8,9,10]] (@Bw C) (by kernel_rfl) (aR (bs:=[]) (by kernel_rfl) av) (fun ds=>by kernel_rfl) (fun i x=>by kernel_rfl) (fun i x β k=>by kernel_rfl) (fun β ds k=>by kernel_rfl)
theorem agZ (C:ag):L9 C (.loop (ar [1,1,1,0,1,0,0,1,1,0,0,1,1,1,0,0] w8)):=
 bu I1 [false,false,false,false,true,false,false,false,false,false,false,false,false] [[0],[1,2,3,4,0,0,6,7,8,9,10,11,12,13]] (@Bx C) (by kernel_rfl) (aR (bs:=[]) (by kernel_rfl) av) (fun ds=>by kernel_rfl) (fun i x=>by kernel_rfl) (fun i x β k=>by kernel_rfl) (fun β ds k=>by kernel_rfl)
theorem ag0 (C:ag):L9 C (.loop (ar [1,1,1,0,1,0,0] w8)):=
 bu I4 [false,true,false,false,false,false,false,false,false,false] [[0],[1,0,0,3,4,5,6,7,8,9,10]] (@By C) (by kernel_rfl) (aR (bs:=[.loop (ar [1,1,1,0,1,0,0,1,1,0,0,1,1,1,0,0] w8)]) (by kernel_rfl) (bd (agZ C) av)) (fun ds=>by kernel_rfl) (fun i x=>by kernel_rfl) (fun i x β k=>by kernel_rfl) (fun β ds k=>by kernel_rfl)
noncomputable def U4 (C:ag) (b8 ct:Int) (cb cO:List V) (cI cL:Int) (cM dp:List V):Option (List V):=
 bif (b8:Int) != cI then
  some [.bool false]
 else
  bif (ct:Int) != cL then
  some [.bool false]
  else
  bif ((cb.length:Int):Int) != (cM.length:Int) then
   some [.bool false]
  else
   bif ((cO.length:Int):Int) != (dp.length:Int) then
   some [.bool false]
   else
   (Loop (L5 C (cb.length:Int) b8 ct cb cO cI cL cM dp) 0).bind (cY (fun (jR:Bool)=>
    some [.bool jR]) (un fun (js:Int) (la:Bool)=>
    (Loop (L8 C (cO.length:Int) b8 ct cb cO cI cL cM dp) 0).bind (cY (fun (wa:Bool)=>
     some [.bool wa]) (un fun (ai1:Int) (Tq:Bool)=>
     some [.bool true]))))
theorem ag1 {b8 ct:Int} {cb cO:List V} {cI cL:Int} {cM dp:List V} {r:Option (List V)} (h:U4 CC b8 ct cb cO cI cL cM dp=r):CC rE [.int .i64 b8,.int .i64 ct,.list ab cb,.list ae cO,.int .i64 cI,.int .i64 cL,.list ab cM,.list ae dp]=r:=
 bj (key:=41) (L:=U3 CC) (bs:=[.loop (ar [1,1,0,1,0,0] w8),.loop (ar [1,1,1,0,1,0,0] w8)]) (by kernel_rfl) (bd (agY CC) (bd (ag0 CC) av)) (Eq.trans (by kernel_rfl) h)
end Go.AM
set_option maxRecDepth 100000
set_option linter.unusedSimpArgs false
namespace Go.AM
open Go.Proofs
section
variable {a b:Da} (ha:a.Ok) (hb:b.Ok) (hL:a.L=b.L) {op:Nat}
include ha hb hL
end
theorem U5 (m:Da) (hn:m.n≤1000000) (hl:m.L≤1000):CC rE (iF m (dv m))=some [.bool true]:=by
 refine ag1 ?_
 unfold U4
 refine bF (by simp) (bF (by simp) (bF (by simp) (bF (by simp) ?_)))
 rw[Da.m7]
 refine bs (ej m.n (fun i=>(i:Int)) (.inr ((m.n:Int),false)) (fun i hi=> ?_) ?_) ?_
 ·simp only[L5,Bw]
  refine bT (dm hi) ?_
  refine bs (Da.rM hi) ?_
  refine bs (Da.rM hi) ?_
  refine bF (by simp) ?_
  rw[cz (by omega)]
 ·simp only[L5,Bw]
  refine bF (bp (Nat.le_refl _)) ?_
  rw[bp (Nat.le_refl _)]
 ·simp only[cY,un]
  rw[Da.R0]
  refine bs (ej m.n (fun i=>(i:Int)) (.inr ((m.n:Int),false)) (fun i hi=> ?_) ?_) ?_
  ·simp only[L8,By]
   refine bT (dm hi) ?_
   refine bs (Da.ma hi) ?_
   refine bs (Da.ma hi) ?_
   refine bF (by simp) ?_
   refine bs (Da.ma hi) ?_
   rw[m8,dA]
   refine bs (ej m.L (fun x=>(x:Int)) (.inr ((m.L:Int),false)) (fun x hx=> ?_) ?_) ?_
   ·simp only[L7,Bx]
    refine bT (dm hx) ?_
    refine bs (Da.ma hi) ?_
    rw[m8]
    refine bs (ou hx) ?_
    refine bs (Da.ma hi) ?_
    rw[m8]
    refine bs (ou hx) ?_
    refine bF (by simp) ?_
    rw[cz (by omega)]
   ·simp only[L7,Bx]
    refine bF (bp (Nat.le_refl _)) ?_
    rw[bp (Nat.le_refl _)]
   ·simp only[cY,un]
    rw[cz (by omega)]
  ·simp only[L8,By]
   refine bF (bp (Nat.le_refl _)) ?_
   rw[bp (Nat.le_refl _)]
  ·rfl
theorem U6:CC rE (iF zD (dv zD))=some [.bool true]:=U5 zD (by simp[zD,Da.n]) (by simp[zD])
theorem Da.Ok.same {m:Da} (h:m.Ok):CC rE (iF m (dv m))=some [.bool true]:=U5 m (by have:=h.ew;omega) (by have:=h.l6;omega)
def nu (d e:Df):Int:=if d.val≠0 then d.val else if e.val≠0 then e.val else if d.L≠e.L then 1 else 0
theorem U7 {d e:Df} (hd:d.Ok) (he:e.Ok):CC yP (jb d (jb e []))=some [.int .i64 (nu d e)]:=by
 refine agX ?_
 unfold U0 nu
 refine bs (RN hd) ?_
 by_cases h1:d.val=0
 ·rw[if_neg (by simp[h1])]
  refine bF (by simp[h1]) ?_
  refine bs (RN he) ?_
  by_cases h2:e.val=0
  ·rw[if_neg (by simp[h2])]
   refine bF (by simp[h2]) ?_
   by_cases h3:d.L=e.L
   ·rw[if_neg (by simp[h3])]
    exact bF (by simp[h3]) rfl
   ·rw[if_pos h3]
    exact bT (by simpa using h3) rfl
  ·rw[if_pos h2]
   exact bT (by simpa using h2) rfl
 ·rw[if_pos h1]
  exact bT (by simpa using h1) rfl
end Go.AM
set_option maxRecDepth 100000
set_option linter.unusedSimpArgs false
namespace Go.AM
open Go.Proofs
namespace Da
def Bz (a:Da) (k q:Nat):Prop:= ∃w,WL a.L w∧w.length≤k∧a.acc q w=true
def Live (a:Da) (q:Nat):Prop:= ∃w,WL a.L w∧a.acc q w=true
open Classical in
noncomputable def GJ (a:Da) (q:Nat):Bool:=decide (a.Live q)
theorem Bz.live {a:Da} {k q:Nat} (h:a.Bz k q):a.Live q:=by obtain ⟨w,h1,_,h3⟩:=h;exact ⟨w,h1,h3⟩
theorem Bz.mono {a:Da} {k m q:Nat} (h:a.Bz k q) (hk:k≤m):a.Bz m q:=by obtain ⟨w,h1,h2,h3⟩:=h;exact ⟨w,h1,by omega,h3⟩
end Da
def bV (n:Nat) (r:Nat→Bool):List V:=tab n fun q=>V.bool (r q)
def upd (r:Nat→Bool) (p:Nat) (b:Bool) (q:Nat):Bool:=if q=p then b else r q
structure LvI (a:Da) (r0 r:Nat→Bool) (c:Bool):Prop where
 good: ∀q,q<a.n→r q=true→a.Live q
 up: ∀q,q<a.n→r0 q=true→r q=true
 yes:c=true→∃q,q<a.n∧r0 q=false∧r q=true
 no:c=false→∀q,q<a.n→r q=r0 q
section
variable {a:Da} (h:a.Ok)
include h
end
section
variable {a:Da} (h:a.Ok)
include h
end
end Go.AM
set_option maxRecDepth 100000
namespace Go.AM
open Go.Proofs
noncomputable def U8 (C:ag) (bR lX:Int):Option (List V):=
 bif decide ((lX:Int)>64) then
  some [V.bool true]
 else
  some [V.bool false,.int .i64 bR,.int .i64 lX,.int .u64 0,.int .u64 0,.list af ([]:List V)]
theorem ag2 {bR lX:Int} {r:Option (List V)} (h:U8 CC bR lX=r):CC yS [.int .i64 bR,.int .i64 lX]=r:=
 bj (key:=61) (L:=cT) (bs:=[]) (by kernel_rfl) av (Eq.trans (by kernel_rfl) h)
end Go.AM
set_option maxRecDepth 100000
namespace Go.AM
open Go.Proofs
noncomputable def U9 (C:ag) (BA letter to aM aJ aP aO:Int) (bw:List V):Option (List V):=
 bif Nat.ble ((bw.length+([.agg [.int .i64 BA,.int .i64 letter,.int .i64 to]]:List V).length)*24) bA then
  some [.int .i64 aM,.int .i64 aJ,.int .u64 aP,.int .u64 aO,.list af (bw++([.agg [.int .i64 BA,.int .i64 letter,.int .i64 to]]:List V))]
 else none
theorem ag3 {BA letter to aM aJ aP aO:Int} {bw:List V} {r:Option (List V)} (h:U9 CC BA letter to aM aJ aP aO bw=r):CC vN [.int .i64 BA,.int .i64 letter,.int .i64 to,.int .i64 aM,.int .i64 aJ,.int .u64 aP,.int .u64 aO,.list af bw]=r:=
 bj (key:=62) (L:=cT) (bs:=[]) (by kernel_rfl) av (Eq.trans (by kernel_rfl) h)
end Go.AM
set_option maxRecDepth 100000
namespace Go.AM
open Go.Proofs
noncomputable def Va (C:ag) (q aM aJ aP aO:Int) (bw:List V):Option (List V):=
 bif decide (0≤q) then
  some [.int .i64 aM,.int .i64 aJ,.int .u64 (IntKind.wrap .u64 ((BitVec.ofInt (IntKind.bits .u64) aP|||BitVec.ofInt (IntKind.bits .u64) (IntKind.wrap .u64 (1*2^(min q.toNat (IntKind.bits .u64))))).toNat)),.int .u64 aO,.list af bw]
 else none
theorem ag4 {q aM aJ aP aO:Int} {bw:List V} {r:Option (List V)} (h:Va CC q aM aJ aP aO bw=r):CC vO [.int .i64 q,.int .i64 aM,.int .i64 aJ,.int .u64 aP,.int .u64 aO,.list af bw]=r:=
 bj (key:=63) (L:=cT) (bs:=[]) (by kernel_rfl) av (Eq.trans (by kernel_rfl) h)
end Go.AM
set_option maxRecDepth 100000
namespace Go.AM
open Go.Proofs
noncomputable def Vb (C:ag) (q aM aJ aP aO:Int) (bw:List V):Option (List V):=
 bif decide (0≤q) then
  some [.int .i64 aM,.int .i64 aJ,.int .u64 aP,.int .u64 (IntKind.wrap .u64 ((BitVec.ofInt (IntKind.bits .u64) aO|||BitVec.ofInt (IntKind.bits .u64) (IntKind.wrap .u64 (1*2^(min q.toNat (IntKind.bits .u64))))).toNat)),.list af bw]
 else none
theorem ag5 {q aM aJ aP aO:Int} {bw:List V} {r:Option (List V)} (h:Vb CC q aM aJ aP aO bw=r):CC DV [.int .i64 q,.int .i64 aM,.int .i64 aJ,.int .u64 aP,.int .u64 aO,.list af bw]=r:=
 bj (key:=69) (L:=cT) (bs:=[]) (by kernel_rfl) av (Eq.trans (by kernel_rfl) h)
end Go.AM
set_option maxRecDepth 100000
namespace Go.AM
open Go.Proofs
noncomputable abbrev Vc:Code:=cx Tryd.prog (aw.aU 64)
noncomputable def BB (C:ag) (offset:Int) (t8:List V) (t9 t10 aM aJ aP aO:Int) (dz:List V) {β:Type} (kn:(Int × Int × Int × Int × Int × (List V))→Option β) (kr:(Int × Bool × Int × Int × Int × Int × (List V))→Option β):Option β:=
 bif decide ((t10:Int)<t9) then
  (idx t8 t10).bind fun x1=>
  bif x1.toBool then
  (C DV [.int .i64 (IntKind.wrap .i64 (t10+offset)),.int .i64 aM,.int .i64 aJ,.int .u64 aP,.int .u64 aO,.list af dz]).bind fun r2=>
  kn (IntKind.wrap .i64 (t10+1),(V.nth r2 0).toInt,(V.nth (r2.drop 1) 0).toInt,(V.nth ((r2.drop 1).drop 1) 0).toInt,(V.nth (((r2.drop 1).drop 1).drop 1) 0).toInt,(V.nth (r2.drop 4) 0).toList)
  else
  kn (IntKind.wrap .i64 (t10+1),aM,aJ,aP,aO,dz)
 else
  kr (t10,decide ((t10:Int)<t9),aM,aJ,aP,aO,dz)
noncomputable def Ma (C:ag) (offset:Int) (t8:List V) (t9:Int):(Int × Int × Int × Int × Int × (List V))→Option ((Int × Int × Int × Int × Int × (List V)) ⊕ (Int × Bool × Int × Int × Int × Int × (List V))):=un fun t10=>un fun aM=>un fun aJ=>un fun aP=>un fun aO dz=>BB C offset t8 t9 t10 aM aJ aP aO dz (fun y=>some (.inl y)) (fun r=>some (.inr r))
noncomputable def Vd (C:ag):ch:=fun β n ds k=>
 bif Nat.beq n 17 then bq Jb [false,false,false,true,true,true,true,true,true] [[1,2,3,0,0,0,0,0,0,0]] (@BB C) ds k else
 none
abbrev ag6 (C:ag) (b:cd):Prop:=cf Tryd.prog aw C (Vd C) 64 (cG Tryd.prog (aw.aU 64)) (aw.sin 64).aZ.length b
theorem ag7 (C:ag):ag6 C (.loop (ar [1,0,0] Vc)):=
 bu Jb [false,false,false,true,true,true,true,true,true] [[1,2,3,0,0,0,0,0,0,0]] (@BB C) (by kernel_rfl) (aR (bs:=[]) (by kernel_rfl) av) (fun ds=>by kernel_rfl) (fun i x=>by kernel_rfl) (fun i x β k=>by kernel_rfl) (fun β ds k=>by kernel_rfl)
noncomputable def Ve (C:ag) (final:List V) (offset aM aJ aP aO:Int) (bw:List V):Option (List V):=
 (Loop (Ma C offset final (final.length:Int)) (0,aM,aJ,aP,aO,bw)).bind (un fun (jR:Int)=>un fun (js:Bool)=>un fun (ag8:Int)=>un fun (BC:Int)=>un fun (uv:Int)=>un fun (uw:Int) (BD:List V)=>
  some [.int .i64 ag8,.int .i64 BC,.int .u64 uv,.int .u64 uw,.list af BD])
theorem ag9 {final:List V} {offset aM aJ aP aO:Int} {bw:List V} {r:Option (List V)} (h:Ve CC final offset aM aJ aP aO bw=r):CC vP [.list ab final,.int .i64 offset,.int .i64 aM,.int .i64 aJ,.int .u64 aP,.int .u64 aO,.list af bw]=r:=
 bj (key:=64) (L:=Vd CC) (bs:=[.loop (ar [1,0,0] Vc)]) (by kernel_rfl) (bd (ag7 CC) av) (Eq.trans (by kernel_rfl) h)
end Go.AM
set_option maxRecDepth 100000
namespace Go.AM
open Go.Proofs
noncomputable abbrev Ga:Code:=cx Tryd.prog (aw.aU 73)
noncomputable def BE (C:ag) (offset p:Int) (t11:List V) (t12 t13:Int) (t18:List V) (t19 t20 aM aJ aP aO:Int) (dz:List V) {β:Type} (kn:(Int × Int × Int × Int × Int × (List V))→Option β) (kr:(Int × Bool × Int × Int × Int × Int × (List V))→Option β):Option β:=
 bif decide ((t20:Int)<t19) then
  (idx t18 t20).bind fun x2=>
  (C vN [.int .i64 (IntKind.wrap .i64 (p+offset)),.int .i64 t20,.int .i64 (IntKind.wrap .i64 (x2.toInt+offset)),.int .i64 aM,.int .i64 aJ,.int .u64 aP,.int .u64 aO,.list af dz]).bind fun r3=>
  kn (IntKind.wrap .i64 (t20+1),(V.nth r3 0).toInt,(V.nth (r3.drop 1) 0).toInt,(V.nth ((r3.drop 1).drop 1) 0).toInt,(V.nth (((r3.drop 1).drop 1).drop 1) 0).toInt,(V.nth (r3.drop 4) 0).toList)
 else
  kr (t20,decide ((t20:Int)<t19),aM,aJ,aP,aO,dz)
noncomputable def Mb (C:ag) (offset p:Int) (t11:List V) (t12 t13:Int) (t18:List V) (t19:Int):(Int × Int × Int × Int × Int × (List V))→Option ((Int × Int × Int × Int × Int × (List V)) ⊕ (Int × Bool × Int × Int × Int × Int × (List V))):=un fun t20=>un fun aM=>un fun aJ=>un fun aP=>un fun aO dz=>BE C offset p t11 t12 t13 t18 t19 t20 aM aJ aP aO dz (fun y=>some (.inl y)) (fun r=>some (.inr r))
noncomputable def BF (C:ag) (offset:Int) (t11:List V) (t12 t13 aM aJ aP aO:Int) (dz:List V) {β:Type} (kn:(Int × Int × Int × Int × Int × (List V))→Option β) (kr:(Int × Bool × Int × Int × Int × Int × (List V))→Option β):Option β:=
 bif decide ((t13:Int)<t12) then
  (idx t11 t13).bind fun x1=>
  (Loop (Mb C offset t13 t11 t12 t13 x1.toList (x1.toList.length:Int)) (0,aM,aJ,aP,aO,dz)).bind (un fun (js:Int)=>un fun (la:Bool)=>un fun (BC:Int)=>un fun (uv:Int)=>un fun (uw:Int)=>un fun (ux:Int) (rQ:List V)=>
   kn (IntKind.wrap .i64 (t13+1),BC,uv,uw,ux,rQ))
 else
  kr (t13,decide ((t13:Int)<t12),aM,aJ,aP,aO,dz)
noncomputable def Mc (C:ag) (offset:Int) (t11:List V) (t12:Int):(Int × Int × Int × Int × Int × (List V))→Option ((Int × Int × Int × Int × Int × (List V)) ⊕ (Int × Bool × Int × Int × Int × Int × (List V))):=un fun t13=>un fun aM=>un fun aJ=>un fun aP=>un fun aO dz=>BF C offset t11 t12 t13 aM aJ aP aO dz (fun y=>some (.inl y)) (fun r=>some (.inr r))
noncomputable def Vf (C:ag):ch:=fun β n ds k=>
 bif Nat.beq n 81 then bq Jf [false,false,false,false,false,false,false,true,true,true,true,true,true] [[1,2,3,4,5,6,7,0,0,0,0,0,0,0]] (@BE C) ds k else
 bif Nat.beq n 33 then bq Jg [false,false,false,true,true,true,true,true,true] [[1,2,3,0,0,0,0,0,0,0]] (@BF C) ds k else
 none
abbrev Vg (C:ag) (b:cd):Prop:=cf Tryd.prog aw C (Vf C) 73 (cG Tryd.prog (aw.aU 73)) (aw.sin 73).aZ.length b
theorem aha (C:ag):Vg C (.loop (ar [1,1,0,0,1,1,0,0,1,1,0,0] Ga)):=
 bu Jf [false,false,false,false,false,false,false,true,true,true,true,true,true] [[1,2,3,4,5,6,7,0,0,0,0,0,0,0]] (@BE C) (by kernel_rfl) (aR (bs:=[]) (by kernel_rfl) av) (fun ds=>by kernel_rfl) (fun i x=>by kernel_rfl) (fun i x β k=>by kernel_rfl) (fun β ds k=>by kernel_rfl)
theorem ahb (C:ag):Vg C (.loop (ar [1,1,0,0] Ga)):=
 bu Jg [false,false,false,true,true,true,true,true,true] [[1,2,3,0,0,0,0,0,0,0]] (@BF C) (by kernel_rfl) (aR (bs:=[.loop (ar [1,1,0,0,1,1,0,0,1,1,0,0] Ga)]) (by kernel_rfl) (bd (aha C) av)) (fun ds=>by kernel_rfl) (fun i x=>by kernel_rfl) (fun i x β k=>by kernel_rfl) (fun β ds k=>by kernel_rfl)
noncomputable def Vh (C:ag) (aX aY:Int) (aG bc:List V) (offset aM aJ aP aO:Int) (bw:List V):Option (List V):=
 (Loop (Mc C offset bc (bc.length:Int)) (0,aM,aJ,aP,aO,bw)).bind (un fun (FD:Int)=>un fun (wq:Bool)=>un fun (ahc:Int)=>un fun (Md:Int)=>un fun (Me:Int)=>un fun (Mf:Int) (pj:List V)=>
  some [.int .i64 ahc,.int .i64 Md,.int .u64 Me,.int .u64 Mf,.list af pj])
theorem ahd {aX aY:Int} {aG bc:List V} {offset aM aJ aP aO:Int} {bw:List V} {r:Option (List V)} (h:Vh CC aX aY aG bc offset aM aJ aP aO bw=r):CC vQ [.int .i64 aX,.int .i64 aY,.list ab aG,.list ae bc,.int .i64 offset,.int .i64 aM,.int .i64 aJ,.int .u64 aP,.int .u64 aO,.list af bw]=r:=
 bj (key:=73) (L:=Vf CC) (bs:=[.loop (ar [1,1,0,0] Ga)]) (by kernel_rfl) (bd (ahb CC) av) (Eq.trans (by kernel_rfl) h)
end Go.AM
set_option maxRecDepth 100000
namespace Go.AM
open Go.Proofs
noncomputable abbrev Vi:Code:=cx Tryd.prog (aw.aU 74)
noncomputable def BG (C:ag) (final:List V) (to t14:Int) (Gb:List V) (t15 aM aJ aP aO:Int) (hY:List V) {β:Type} (kn:(Int × Int × Int × Int × Int × (List V))→Option β) (kr:(Int × Bool × Int × Int × Int × Int × (List V))→Option β):Option β:=
 bif decide ((t15:Int)<t14) then
  bif (decide (0≤t15))&&(decide (t15<(Gb.length:Int))) then
  (Gb[(t15:Int).toNat]?).bind fun x1=>
  bif decide ((((x1.cell 2).toInt):Int)<(final.length:Int)) then
   (idx final ((x1.cell 2).toInt)).bind fun x2=>
   bif x2.toBool then
   (C vN [.int .i64 ((x1.cell 0).toInt),.int .i64 ((x1.cell 1).toInt),.int .i64 to,.int .i64 aM,.int .i64 aJ,.int .u64 aP,.int .u64 aO,.list af hY]).bind fun r3=>
   kn (IntKind.wrap .i64 (t15+1),(V.nth r3 0).toInt,(V.nth (r3.drop 1) 0).toInt,(V.nth ((r3.drop 1).drop 1) 0).toInt,(V.nth (((r3.drop 1).drop 1).drop 1) 0).toInt,(V.nth (r3.drop 4) 0).toList)
   else
   kn (IntKind.wrap .i64 (t15+1),aM,aJ,aP,aO,hY)
  else
   kn (IntKind.wrap .i64 (t15+1),aM,aJ,aP,aO,hY)
  else none
 else
  kr (t15,decide ((t15:Int)<t14),aM,aJ,aP,aO,hY)
noncomputable def Mg (C:ag) (final:List V) (to t14:Int) (Gb:List V):(Int × Int × Int × Int × Int × (List V))→Option ((Int × Int × Int × Int × Int × (List V)) ⊕ (Int × Bool × Int × Int × Int × Int × (List V))):=un fun t15=>un fun aM=>un fun aJ=>un fun aP=>un fun aO hY=>BG C final to t14 Gb t15 aM aJ aP aO hY (fun y=>some (.inl y)) (fun r=>some (.inr r))
noncomputable def Vj (C:ag):ch:=fun β n ds k=>
 bif Nat.beq n 17 then bq Jh [false,false,false,true,true,true,true,true,false,true] [[1,2,3,0,0,0,0,0,0,9,0]] (@BG C) ds k else
 none
abbrev ahe (C:ag) (b:cd):Prop:=cf Tryd.prog aw C (Vj C) 74 (cG Tryd.prog (aw.aU 74)) (aw.sin 74).aZ.length b
theorem ahf (C:ag):ahe C (.loop (ar [1,0,0] Vi)):=
 bu Jh [false,false,false,true,true,true,true,true,false,true] [[1,2,3,0,0,0,0,0,0,9,0]] (@BG C) (by kernel_rfl) (aR (bs:=[]) (by kernel_rfl) av) (fun ds=>by kernel_rfl) (fun i x=>by kernel_rfl) (fun i x β k=>by kernel_rfl) (fun β ds k=>by kernel_rfl)
noncomputable def Vk (C:ag) (final:List V) (to aM aJ aP aO:Int) (bw:List V):Option (List V):=
 bif Nat.ble (bw.length*24) bA then
  (Loop (Mg C final to (bw.length:Int) bw) (0,aM,aJ,aP,aO,bw)).bind (un fun (js:Int)=>un fun (la:Bool)=>un fun (BC:Int)=>un fun (uv:Int)=>un fun (uw:Int)=>un fun (ux:Int) (rQ:List V)=>
   some [.int .i64 BC,.int .i64 uv,.int .u64 uw,.int .u64 ux,.list af rQ])
 else none
theorem ahg {final:List V} {to aM aJ aP aO:Int} {bw:List V} {r:Option (List V)} (h:Vk CC final to aM aJ aP aO bw=r):CC DW [.list ab final,.int .i64 to,.int .i64 aM,.int .i64 aJ,.int .u64 aP,.int .u64 aO,.list af bw]=r:=
 bj (key:=74) (L:=Vj CC) (bs:=[.loop (ar [1,0,0] Vi)]) (by kernel_rfl) (bd (ahf CC) av) (Eq.trans (by kernel_rfl) h)
end Go.AM
