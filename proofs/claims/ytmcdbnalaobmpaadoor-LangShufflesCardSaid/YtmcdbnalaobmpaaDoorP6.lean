/-
  Functions of vr program, lifted to plain data.
-/
import Derived.Test.YtmcdbnalaobmpaaDoorP5
set_option linter.unusedVariables false
set_option linter.unusedSimpArgs false
set_option maxRecDepth 100000
namespace Go.AM
open Go.Proofs
noncomputable abbrev pO:Code:=cI Tryd.prog (ar.aW 181)
noncomputable def BZ (C:ae) (a j:Int) (af:List V) (i:Int) {β:Type} (kn:Int→Option β) (kr:(Int × Bool)→Option β):Option β:=
 bif decide ((i:Int)≤j) then
  bif (decide (0≤i))&&(decide (i<(af.length:Int))) then
  (af[(i:Int).toNat]?).bind fun x5=>
  bif (decide (0≤a))&&(decide (a<(af.length:Int))) then
   (af[(a:Int).toNat]?).bind fun x6=>
   (C bw [.int .i64 ((x5.cell 0).toInt),.int .i64 ((x5.cell 1).toInt),.int .i64 ((x5.cell 2).toInt),.int .i64 ((x6.cell 0).toInt),.int .i64 ((x6.cell 1).toInt),.int .i64 ((x6.cell 2).toInt)]).bind fun r7=>
   bif decide ((((V.nth r7 0).toInt):Int)<0) then
   kn (IntKind.wrap .i64 (i+1))
   else
   kr (i,decide ((((V.nth r7 0).toInt):Int)<0))
  else none
  else none
 else
  kr (i,false)
noncomputable def B0 (C:ae) (a j:Int) (af:List V):(Int)→Option ((Int) ⊕ (Int × Bool)):=fun i=>BZ C a j af i (fun y=>some (.inl y)) (fun r=>some (.inr r))
noncomputable def xC (C:ae) (a i:Int) (af:List V) (j:Int) {β:Type} (kn:Int→Option β) (kr:(Int × Bool)→Option β):Option β:=
 bif decide ((i:Int)≤j) then
  bif (decide (0≤j))&&(decide (j<(af.length:Int))) then
  (af[(j:Int).toNat]?).bind fun gu=>
  bif (decide (0≤a))&&(decide (a<(af.length:Int))) then
   (af[(a:Int).toNat]?).bind fun eJ=>
   (C bw [.int .i64 ((gu.cell 0).toInt),.int .i64 ((gu.cell 1).toInt),.int .i64 ((gu.cell 2).toInt),.int .i64 ((eJ.cell 0).toInt),.int .i64 ((eJ.cell 1).toInt),.int .i64 ((eJ.cell 2).toInt)]).bind fun kR=>
   bif !(decide ((((V.nth kR 0).toInt):Int)<0)) then
   kn (IntKind.wrap .i64 (j-1))
   else
   kr (j,!(decide ((((V.nth kR 0).toInt):Int)<0)))
  else none
  else none
 else
  kr (j,false)
noncomputable def xD (C:ae) (a i:Int) (af:List V):(Int)→Option ((Int) ⊕ (Int × Bool)):=fun j=>xC C a i af j (fun y=>some (.inl y)) (fun r=>some (.inr r))
noncomputable def B1 (C:ae) (a j:Int) (af:List V) (i:Int) {β:Type} (kn:Int→Option β) (kr:(Int × Bool)→Option β):Option β:=
 bif decide ((i:Int)≤j) then
  bif (decide (0≤i))&&(decide (i<(af.length:Int))) then
  (af[(i:Int).toNat]?).bind fun lD=>
  bif (decide (0≤a))&&(decide (a<(af.length:Int))) then
   (af[(a:Int).toNat]?).bind fun pP=>
   (C bw [.int .i64 ((lD.cell 0).toInt),.int .i64 ((lD.cell 1).toInt),.int .i64 ((lD.cell 2).toInt),.int .i64 ((pP.cell 0).toInt),.int .i64 ((pP.cell 1).toInt),.int .i64 ((pP.cell 2).toInt)]).bind fun WK=>
   bif decide ((((V.nth WK 0).toInt):Int)<0) then
   kn (IntKind.wrap .i64 (i+1))
   else
   kr (i,decide ((((V.nth WK 0).toInt):Int)<0))
  else none
  else none
 else
  kr (i,false)
noncomputable def B4 (C:ae) (a j:Int) (af:List V):(Int)→Option ((Int) ⊕ (Int × Bool)):=fun i=>B1 C a j af i (fun y=>some (.inl y)) (fun r=>some (.inr r))
noncomputable def xE (C:ae) (a i:Int) (af:List V) (j:Int) {β:Type} (kn:Int→Option β) (kr:(Int × Bool)→Option β):Option β:=
 bif decide ((i:Int)≤j) then
  bif (decide (0≤j))&&(decide (j<(af.length:Int))) then
  (af[(j:Int).toNat]?).bind fun vd=>
  bif (decide (0≤a))&&(decide (a<(af.length:Int))) then
   (af[(a:Int).toNat]?).bind fun ve=>
   (C bw [.int .i64 ((vd.cell 0).toInt),.int .i64 ((vd.cell 1).toInt),.int .i64 ((vd.cell 2).toInt),.int .i64 ((ve.cell 0).toInt),.int .i64 ((ve.cell 1).toInt),.int .i64 ((ve.cell 2).toInt)]).bind fun G7=>
   bif !(decide ((((V.nth G7 0).toInt):Int)<0)) then
   kn (IntKind.wrap .i64 (j-1))
   else
   kr (j,!(decide ((((V.nth G7 0).toInt):Int)<0)))
  else none
  else none
 else
  kr (j,false)
noncomputable def xF (C:ae) (a i:Int) (af:List V):(Int)→Option ((Int) ⊕ (Int × Bool)):=fun j=>xE C a i af j (fun y=>some (.inl y)) (fun r=>some (.inr r))
noncomputable def B5 (C:ae) (a i j:Int) (af:List V) {β:Type} (kn:(Int × Int × (List V))→Option β) (kr:(Int × Int × Bool × (List V))→Option β):Option β:=
 (Loop (B4 C a j af) i).bind (un fun (kO:Int) (UX:Bool)=>
  (Loop (xF C a kO af) j).bind (un fun (oU:Int) (ahF:Bool)=>
   bif decide ((kO:Int)>oU) then
    kr (kO,oU,decide ((kO:Int)>oU),af)
   else
    bif (decide (0≤oU))&&(decide (oU<(af.length:Int))) then
    (af[(oU:Int).toNat]?).bind fun ry=>
    bif (decide (0≤kO))&&(decide (kO<(af.length:Int))) then
     (af[(kO:Int).toNat]?).bind fun MW=>
     bif (decide (0≤kO))&&(decide (kO<(af.length:Int))) then
     (af[(kO:Int).toNat]?).bind fun x35=>
     bif (decide (0≤oU))&&(decide (oU<((af.set ((kO:Int).toNat) (.agg [.int .i64 ((ry.cell 0).toInt),.int .i64 ((ry.cell 1).toInt),.int .i64 ((ry.cell 2).toInt)])).length:Int))) then
      ((af.set ((kO:Int).toNat) (.agg [.int .i64 ((ry.cell 0).toInt),.int .i64 ((ry.cell 1).toInt),.int .i64 ((ry.cell 2).toInt)]))[(oU:Int).toNat]?).bind fun x36=>
      kn (IntKind.wrap .i64 (kO+1),IntKind.wrap .i64 (oU-1),(af.set ((kO:Int).toNat) (.agg [.int .i64 ((ry.cell 0).toInt),.int .i64 ((ry.cell 1).toInt),.int .i64 ((ry.cell 2).toInt)])).set ((oU:Int).toNat) (.agg [.int .i64 ((MW.cell 0).toInt),.int .i64 ((MW.cell 1).toInt),.int .i64 ((MW.cell 2).toInt)]))
     else none
     else none
    else none
    else none))
noncomputable def xG (C:ae) (a:Int):(Int × Int × (List V))→Option ((Int × Int × (List V)) ⊕ (Int × Int × Bool × (List V))):=un fun i=>un fun j af=>B5 C a i j af (fun y=>some (.inl y)) (fun r=>some (.inr r))
noncomputable def WM (C:ae):cy:=fun β n ds k=>
 bif Nat.beq n 49 then bu LB [false,true,false,false] [[1,0,3,0,4]] (@BZ C) ds k else
 bif Nat.beq n 81 then bu LC [false,false,true,false] [[1,2,0,0,4]] (@xC C) ds k else
 bif Nat.beq n 209 then bu LD [false,true,false,false] [[1,0,3,0,4]] (@B1 C) ds k else
 bif Nat.beq n 241 then bu LF [false,false,true,false] [[1,2,0,0,4]] (@xE C) ds k else
 bif Nat.beq n 210 then bu LG [false,true,true,true] [[1,0,0,0,0]] (@B5 C) ds k else
 none
abbrev B6 (C:ae) (b:ct):Prop:=cu Tryd.prog ar C (WM C) 181 (cP Tryd.prog (ar.aW 181)) (ar.sin 181).a8.length b
theorem ahG (C:ae):B6 C (.loop (ak [1,1,1,0,0,0] pO)):=
 bz LB [false,true,false,false] [[1,0,3,0,4]] (@BZ C) (by kernel_rfl) (aS (bs:=[]) (by kernel_rfl) ao) (fun ds=>by kernel_rfl) (fun i x=>by kernel_rfl) (fun i x β k=>by kernel_rfl) (fun β ds k=>by kernel_rfl)
theorem ahH (C:ae):B6 C (.loop (ak [1,1,1,1,0,0,0] pO)):=
 bz LC [false,false,true,false] [[1,2,0,0,4]] (@xC C) (by kernel_rfl) (aS (bs:=[]) (by kernel_rfl) ao) (fun ds=>by kernel_rfl) (fun i x=>by kernel_rfl) (fun i x β k=>by kernel_rfl) (fun β ds k=>by kernel_rfl)
theorem ahI (C:ae):B6 C (.loop (ak [1,1,1,1,1,1,1,1,1,0,0,0,0,0,0,0] pO)):=
 bz LD [false,true,false,false] [[1,0,3,0,4]] (@B1 C) (by kernel_rfl) (aS (bs:=[]) (by kernel_rfl) ao) (fun ds=>by kernel_rfl) (fun i x=>by kernel_rfl) (fun i x β k=>by kernel_rfl) (fun β ds k=>by kernel_rfl)
theorem ahJ (C:ae):B6 C (.loop (ak [1,1,1,1,1,1,1,1,1,0,0,0,0,1,0,0,0] pO)):=
 bz LF [false,false,true,false] [[1,2,0,0,4]] (@xE C) (by kernel_rfl) (aS (bs:=[]) (by kernel_rfl) ao) (fun ds=>by kernel_rfl) (fun i x=>by kernel_rfl) (fun i x β k=>by kernel_rfl) (fun β ds k=>by kernel_rfl)
theorem ahK (C:ae):B6 C (.loop (ak [1,1,1,1,1,1,1,1,1,0,0,0] pO)):=
 bz LG [false,true,true,true] [[1,0,0,0,0]] (@B5 C) (by kernel_rfl) (aS (bs:=[.loop (ak [1,1,1,1,1,1,1,1,1,0,0,0,0,0,0,0] pO),.loop (ak [1,1,1,1,1,1,1,1,1,0,0,0,0,1,0,0,0] pO)]) (by kernel_rfl) (bd (ahI C) (bd (ahJ C) ao))) (fun ds=>by kernel_rfl) (fun i x=>by kernel_rfl) (fun i x β k=>by kernel_rfl) (fun β ds k=>by kernel_rfl)
noncomputable def WN (C:ae) (a b' pivot:Int) (af:List V):Option (List V):=
 bif (decide (0≤pivot))&&(decide (pivot<(af.length:Int))) then
  (af[(pivot:Int).toNat]?).bind fun x1=>
  bif (decide (0≤a))&&(decide (a<(af.length:Int))) then
  (af[(a:Int).toNat]?).bind fun x2=>
  bif (decide (0≤a))&&(decide (a<(af.length:Int))) then
   (af[(a:Int).toNat]?).bind fun x3=>
   bif (decide (0≤pivot))&&(decide (pivot<((af.set ((a:Int).toNat) (.agg [.int .i64 ((x1.cell 0).toInt),.int .i64 ((x1.cell 1).toInt),.int .i64 ((x1.cell 2).toInt)])).length:Int))) then
   ((af.set ((a:Int).toNat) (.agg [.int .i64 ((x1.cell 0).toInt),.int .i64 ((x1.cell 1).toInt),.int .i64 ((x1.cell 2).toInt)]))[(pivot:Int).toNat]?).bind fun x4=>
   (Loop (B0 C a (IntKind.wrap .i64 (b'-1)) ((af.set ((a:Int).toNat) (.agg [.int .i64 ((x1.cell 0).toInt),.int .i64 ((x1.cell 1).toInt),.int .i64 ((x1.cell 2).toInt)])).set ((pivot:Int).toNat) (.agg [.int .i64 ((x2.cell 0).toInt),.int .i64 ((x2.cell 1).toInt),.int .i64 ((x2.cell 2).toInt)]))) (IntKind.wrap .i64 (a+1))).bind (un fun (fo:Int) (q0:Bool)=>
    (Loop (xD C a fo ((af.set ((a:Int).toNat) (.agg [.int .i64 ((x1.cell 0).toInt),.int .i64 ((x1.cell 1).toInt),.int .i64 ((x1.cell 2).toInt)])).set ((pivot:Int).toNat) (.agg [.int .i64 ((x2.cell 0).toInt),.int .i64 ((x2.cell 1).toInt),.int .i64 ((x2.cell 2).toInt)]))) (IntKind.wrap .i64 (b'-1))).bind (un fun (eM:Int) (Ay:Bool)=>
     bif decide ((fo:Int)>eM) then
      bif (decide (0≤a))&&(decide (a<(((af.set ((a:Int).toNat) (.agg [.int .i64 ((x1.cell 0).toInt),.int .i64 ((x1.cell 1).toInt),.int .i64 ((x1.cell 2).toInt)])).set ((pivot:Int).toNat) (.agg [.int .i64 ((x2.cell 0).toInt),.int .i64 ((x2.cell 1).toInt),.int .i64 ((x2.cell 2).toInt)])).length:Int))) then
      (((af.set ((a:Int).toNat) (.agg [.int .i64 ((x1.cell 0).toInt),.int .i64 ((x1.cell 1).toInt),.int .i64 ((x1.cell 2).toInt)])).set ((pivot:Int).toNat) (.agg [.int .i64 ((x2.cell 0).toInt),.int .i64 ((x2.cell 1).toInt),.int .i64 ((x2.cell 2).toInt)]))[(a:Int).toNat]?).bind fun gh=>
      bif (decide (0≤eM))&&(decide (eM<(((af.set ((a:Int).toNat) (.agg [.int .i64 ((x1.cell 0).toInt),.int .i64 ((x1.cell 1).toInt),.int .i64 ((x1.cell 2).toInt)])).set ((pivot:Int).toNat) (.agg [.int .i64 ((x2.cell 0).toInt),.int .i64 ((x2.cell 1).toInt),.int .i64 ((x2.cell 2).toInt)])).length:Int))) then
       (((af.set ((a:Int).toNat) (.agg [.int .i64 ((x1.cell 0).toInt),.int .i64 ((x1.cell 1).toInt),.int .i64 ((x1.cell 2).toInt)])).set ((pivot:Int).toNat) (.agg [.int .i64 ((x2.cell 0).toInt),.int .i64 ((x2.cell 1).toInt),.int .i64 ((x2.cell 2).toInt)]))[(eM:Int).toNat]?).bind fun gI=>
       bif (decide (0≤eM))&&(decide (eM<(((af.set ((a:Int).toNat) (.agg [.int .i64 ((x1.cell 0).toInt),.int .i64 ((x1.cell 1).toInt),.int .i64 ((x1.cell 2).toInt)])).set ((pivot:Int).toNat) (.agg [.int .i64 ((x2.cell 0).toInt),.int .i64 ((x2.cell 1).toInt),.int .i64 ((x2.cell 2).toInt)])).length:Int))) then
       (((af.set ((a:Int).toNat) (.agg [.int .i64 ((x1.cell 0).toInt),.int .i64 ((x1.cell 1).toInt),.int .i64 ((x1.cell 2).toInt)])).set ((pivot:Int).toNat) (.agg [.int .i64 ((x2.cell 0).toInt),.int .i64 ((x2.cell 1).toInt),.int .i64 ((x2.cell 2).toInt)]))[(eM:Int).toNat]?).bind fun nB=>
       bif (decide (0≤a))&&(decide (a<((((af.set ((a:Int).toNat) (.agg [.int .i64 ((x1.cell 0).toInt),.int .i64 ((x1.cell 1).toInt),.int .i64 ((x1.cell 2).toInt)])).set ((pivot:Int).toNat) (.agg [.int .i64 ((x2.cell 0).toInt),.int .i64 ((x2.cell 1).toInt),.int .i64 ((x2.cell 2).toInt)])).set ((eM:Int).toNat) (.agg [.int .i64 ((gh.cell 0).toInt),.int .i64 ((gh.cell 1).toInt),.int .i64 ((gh.cell 2).toInt)])).length:Int))) then
        ((((af.set ((a:Int).toNat) (.agg [.int .i64 ((x1.cell 0).toInt),.int .i64 ((x1.cell 1).toInt),.int .i64 ((x1.cell 2).toInt)])).set ((pivot:Int).toNat) (.agg [.int .i64 ((x2.cell 0).toInt),.int .i64 ((x2.cell 1).toInt),.int .i64 ((x2.cell 2).toInt)])).set ((eM:Int).toNat) (.agg [.int .i64 ((gh.cell 0).toInt),.int .i64 ((gh.cell 1).toInt),.int .i64 ((gh.cell 2).toInt)]))[(a:Int).toNat]?).bind fun sM=>
        some [.int .i64 eM,.bool true,.list aq ((((af.set ((a:Int).toNat) (.agg [.int .i64 ((x1.cell 0).toInt),.int .i64 ((x1.cell 1).toInt),.int .i64 ((x1.cell 2).toInt)])).set ((pivot:Int).toNat) (.agg [.int .i64 ((x2.cell 0).toInt),.int .i64 ((x2.cell 1).toInt),.int .i64 ((x2.cell 2).toInt)])).set ((eM:Int).toNat) (.agg [.int .i64 ((gh.cell 0).toInt),.int .i64 ((gh.cell 1).toInt),.int .i64 ((gh.cell 2).toInt)])).set ((a:Int).toNat) (.agg [.int .i64 ((gI.cell 0).toInt),.int .i64 ((gI.cell 1).toInt),.int .i64 ((gI.cell 2).toInt)]))]
       else none
       else none
      else none
      else none
     else
      bif (decide (0≤eM))&&(decide (eM<(((af.set ((a:Int).toNat) (.agg [.int .i64 ((x1.cell 0).toInt),.int .i64 ((x1.cell 1).toInt),.int .i64 ((x1.cell 2).toInt)])).set ((pivot:Int).toNat) (.agg [.int .i64 ((x2.cell 0).toInt),.int .i64 ((x2.cell 1).toInt),.int .i64 ((x2.cell 2).toInt)])).length:Int))) then
      (((af.set ((a:Int).toNat) (.agg [.int .i64 ((x1.cell 0).toInt),.int .i64 ((x1.cell 1).toInt),.int .i64 ((x1.cell 2).toInt)])).set ((pivot:Int).toNat) (.agg [.int .i64 ((x2.cell 0).toInt),.int .i64 ((x2.cell 1).toInt),.int .i64 ((x2.cell 2).toInt)]))[(eM:Int).toNat]?).bind fun lE=>
      bif (decide (0≤fo))&&(decide (fo<(((af.set ((a:Int).toNat) (.agg [.int .i64 ((x1.cell 0).toInt),.int .i64 ((x1.cell 1).toInt),.int .i64 ((x1.cell 2).toInt)])).set ((pivot:Int).toNat) (.agg [.int .i64 ((x2.cell 0).toInt),.int .i64 ((x2.cell 1).toInt),.int .i64 ((x2.cell 2).toInt)])).length:Int))) then
       (((af.set ((a:Int).toNat) (.agg [.int .i64 ((x1.cell 0).toInt),.int .i64 ((x1.cell 1).toInt),.int .i64 ((x1.cell 2).toInt)])).set ((pivot:Int).toNat) (.agg [.int .i64 ((x2.cell 0).toInt),.int .i64 ((x2.cell 1).toInt),.int .i64 ((x2.cell 2).toInt)]))[(fo:Int).toNat]?).bind fun rl=>
       bif (decide (0≤fo))&&(decide (fo<(((af.set ((a:Int).toNat) (.agg [.int .i64 ((x1.cell 0).toInt),.int .i64 ((x1.cell 1).toInt),.int .i64 ((x1.cell 2).toInt)])).set ((pivot:Int).toNat) (.agg [.int .i64 ((x2.cell 0).toInt),.int .i64 ((x2.cell 1).toInt),.int .i64 ((x2.cell 2).toInt)])).length:Int))) then
       (((af.set ((a:Int).toNat) (.agg [.int .i64 ((x1.cell 0).toInt),.int .i64 ((x1.cell 1).toInt),.int .i64 ((x1.cell 2).toInt)])).set ((pivot:Int).toNat) (.agg [.int .i64 ((x2.cell 0).toInt),.int .i64 ((x2.cell 1).toInt),.int .i64 ((x2.cell 2).toInt)]))[(fo:Int).toNat]?).bind fun Bl=>
       bif (decide (0≤eM))&&(decide (eM<((((af.set ((a:Int).toNat) (.agg [.int .i64 ((x1.cell 0).toInt),.int .i64 ((x1.cell 1).toInt),.int .i64 ((x1.cell 2).toInt)])).set ((pivot:Int).toNat) (.agg [.int .i64 ((x2.cell 0).toInt),.int .i64 ((x2.cell 1).toInt),.int .i64 ((x2.cell 2).toInt)])).set ((fo:Int).toNat) (.agg [.int .i64 ((lE.cell 0).toInt),.int .i64 ((lE.cell 1).toInt),.int .i64 ((lE.cell 2).toInt)])).length:Int))) then
        ((((af.set ((a:Int).toNat) (.agg [.int .i64 ((x1.cell 0).toInt),.int .i64 ((x1.cell 1).toInt),.int .i64 ((x1.cell 2).toInt)])).set ((pivot:Int).toNat) (.agg [.int .i64 ((x2.cell 0).toInt),.int .i64 ((x2.cell 1).toInt),.int .i64 ((x2.cell 2).toInt)])).set ((fo:Int).toNat) (.agg [.int .i64 ((lE.cell 0).toInt),.int .i64 ((lE.cell 1).toInt),.int .i64 ((lE.cell 2).toInt)]))[(eM:Int).toNat]?).bind fun x22=>
        (Loop (xG C a) (IntKind.wrap .i64 (fo+1),IntKind.wrap .i64 (eM-1),(((af.set ((a:Int).toNat) (.agg [.int .i64 ((x1.cell 0).toInt),.int .i64 ((x1.cell 1).toInt),.int .i64 ((x1.cell 2).toInt)])).set ((pivot:Int).toNat) (.agg [.int .i64 ((x2.cell 0).toInt),.int .i64 ((x2.cell 1).toInt),.int .i64 ((x2.cell 2).toInt)])).set ((fo:Int).toNat) (.agg [.int .i64 ((lE.cell 0).toInt),.int .i64 ((lE.cell 1).toInt),.int .i64 ((lE.cell 2).toInt)])).set ((eM:Int).toNat) (.agg [.int .i64 ((rl.cell 0).toInt),.int .i64 ((rl.cell 1).toInt),.int .i64 ((rl.cell 2).toInt)]))).bind (un fun (ale:Int)=>un fun (pQ:Int)=>un fun (alf:Bool) (jI:List V)=>
         bif (decide (0≤a))&&(decide (a<(jI.length:Int))) then
         (jI[(a:Int).toNat]?).bind fun mG=>
         bif (decide (0≤pQ))&&(decide (pQ<(jI.length:Int))) then
          (jI[(pQ:Int).toNat]?).bind fun vf=>
          bif (decide (0≤pQ))&&(decide (pQ<(jI.length:Int))) then
          (jI[(pQ:Int).toNat]?).bind fun x43=>
          bif (decide (0≤a))&&(decide (a<((jI.set ((pQ:Int).toNat) (.agg [.int .i64 ((mG.cell 0).toInt),.int .i64 ((mG.cell 1).toInt),.int .i64 ((mG.cell 2).toInt)])).length:Int))) then
           ((jI.set ((pQ:Int).toNat) (.agg [.int .i64 ((mG.cell 0).toInt),.int .i64 ((mG.cell 1).toInt),.int .i64 ((mG.cell 2).toInt)]))[(a:Int).toNat]?).bind fun x44=>
           some [.int .i64 pQ,.bool false,.list aq ((jI.set ((pQ:Int).toNat) (.agg [.int .i64 ((mG.cell 0).toInt),.int .i64 ((mG.cell 1).toInt),.int .i64 ((mG.cell 2).toInt)])).set ((a:Int).toNat) (.agg [.int .i64 ((vf.cell 0).toInt),.int .i64 ((vf.cell 1).toInt),.int .i64 ((vf.cell 2).toInt)]))]
          else none
          else none
         else none
         else none)
       else none
       else none
      else none
      else none))
   else none
  else none
  else none
 else none
theorem ahL {a b' pivot:Int} {af:List V} {r:Option (List V)} (h:WN CC a b' pivot af=r):CC oD [.int .i64 a,.int .i64 b',.int .i64 pivot,.list aq af]=r:=
 bn (key:=181) (L:=WM CC) (bs:=[.loop (ak [1,1,1,0,0,0] pO),.loop (ak [1,1,1,1,0,0,0] pO),.loop (ak [1,1,1,1,1,1,1,1,1,0,0,0] pO)]) (by kernel_rfl) (bd (ahG CC) (bd (ahH CC) (bd (ahK CC) ao))) (Eq.trans (by kernel_rfl) h)
noncomputable abbrev xH:Code:=cI Tryd.prog (ar.aW 182)
noncomputable def B7 (C:ae) (a j:Int) (af:List V) (i:Int) {β:Type} (kn:Int→Option β) (kr:(Int × Bool)→Option β):Option β:=
 bif decide ((i:Int)≤j) then
  bif (decide (0≤a))&&(decide (a<(af.length:Int))) then
  (af[(a:Int).toNat]?).bind fun x5=>
  bif (decide (0≤i))&&(decide (i<(af.length:Int))) then
   (af[(i:Int).toNat]?).bind fun x6=>
   (C bw [.int .i64 ((x5.cell 0).toInt),.int .i64 ((x5.cell 1).toInt),.int .i64 ((x5.cell 2).toInt),.int .i64 ((x6.cell 0).toInt),.int .i64 ((x6.cell 1).toInt),.int .i64 ((x6.cell 2).toInt)]).bind fun r7=>
   bif !(decide ((((V.nth r7 0).toInt):Int)<0)) then
   kn (IntKind.wrap .i64 (i+1))
   else
   kr (i,!(decide ((((V.nth r7 0).toInt):Int)<0)))
  else none
  else none
 else
  kr (i,false)
noncomputable def B8 (C:ae) (a j:Int) (af:List V):(Int)→Option ((Int) ⊕ (Int × Bool)):=fun i=>B7 C a j af i (fun y=>some (.inl y)) (fun r=>some (.inr r))
noncomputable def xI (C:ae) (a i:Int) (af:List V) (j:Int) {β:Type} (kn:Int→Option β) (kr:(Int × Bool)→Option β):Option β:=
 bif decide ((i:Int)≤j) then
  bif (decide (0≤a))&&(decide (a<(af.length:Int))) then
  (af[(a:Int).toNat]?).bind fun gu=>
  bif (decide (0≤j))&&(decide (j<(af.length:Int))) then
   (af[(j:Int).toNat]?).bind fun eJ=>
   (C bw [.int .i64 ((gu.cell 0).toInt),.int .i64 ((gu.cell 1).toInt),.int .i64 ((gu.cell 2).toInt),.int .i64 ((eJ.cell 0).toInt),.int .i64 ((eJ.cell 1).toInt),.int .i64 ((eJ.cell 2).toInt)]).bind fun kR=>
   bif decide ((((V.nth kR 0).toInt):Int)<0) then
   kn (IntKind.wrap .i64 (j-1))
   else
   kr (j,decide ((((V.nth kR 0).toInt):Int)<0))
  else none
  else none
 else
  kr (j,false)
noncomputable def xJ (C:ae) (a i:Int) (af:List V):(Int)→Option ((Int) ⊕ (Int × Bool)):=fun j=>xI C a i af j (fun y=>some (.inl y)) (fun r=>some (.inr r))
noncomputable def B9 (C:ae) (a i j:Int) (af:List V) {β:Type} (kn:(Int × Int × (List V))→Option β) (kr:(Int × Int × Bool × (List V))→Option β):Option β:=
 (Loop (B8 C a j af) i).bind (un fun (fo:Int) (q0:Bool)=>
  (Loop (xJ C a fo af) j).bind (un fun (eM:Int) (Ay:Bool)=>
   bif decide ((fo:Int)>eM) then
    kr (fo,eM,decide ((fo:Int)>eM),af)
   else
    bif (decide (0≤eM))&&(decide (eM<(af.length:Int))) then
    (af[(eM:Int).toNat]?).bind fun gh=>
    bif (decide (0≤fo))&&(decide (fo<(af.length:Int))) then
     (af[(fo:Int).toNat]?).bind fun gI=>
     bif (decide (0≤fo))&&(decide (fo<(af.length:Int))) then
     (af[(fo:Int).toNat]?).bind fun nB=>
     bif (decide (0≤eM))&&(decide (eM<((af.set ((fo:Int).toNat) (.agg [.int .i64 ((gh.cell 0).toInt),.int .i64 ((gh.cell 1).toInt),.int .i64 ((gh.cell 2).toInt)])).length:Int))) then
      ((af.set ((fo:Int).toNat) (.agg [.int .i64 ((gh.cell 0).toInt),.int .i64 ((gh.cell 1).toInt),.int .i64 ((gh.cell 2).toInt)]))[(eM:Int).toNat]?).bind fun sM=>
      kn (IntKind.wrap .i64 (fo+1),IntKind.wrap .i64 (eM-1),(af.set ((fo:Int).toNat) (.agg [.int .i64 ((gh.cell 0).toInt),.int .i64 ((gh.cell 1).toInt),.int .i64 ((gh.cell 2).toInt)])).set ((eM:Int).toNat) (.agg [.int .i64 ((gI.cell 0).toInt),.int .i64 ((gI.cell 1).toInt),.int .i64 ((gI.cell 2).toInt)]))
     else none
     else none
    else none
    else none))
noncomputable def xK (C:ae) (a:Int):(Int × Int × (List V))→Option ((Int × Int × (List V)) ⊕ (Int × Int × Bool × (List V))):=un fun i=>un fun j af=>B9 C a i j af (fun y=>some (.inl y)) (fun r=>some (.inr r))
noncomputable def WO (C:ae):cy:=fun β n ds k=>
 bif Nat.beq n 49 then bu LH [false,true,false,false] [[1,0,3,0,4]] (@B7 C) ds k else
 bif Nat.beq n 81 then bu LI [false,false,true,false] [[1,2,0,0,4]] (@xI C) ds k else
 bif Nat.beq n 50 then bu LJ [false,true,true,true] [[1,0,0,0,0]] (@B9 C) ds k else
 none
abbrev MX (C:ae) (b:ct):Prop:=cu Tryd.prog ar C (WO C) 182 (cP Tryd.prog (ar.aW 182)) (ar.sin 182).a8.length b
theorem ahM (C:ae):MX C (.loop (ak [1,1,1,0,0,0,0,0,0,0] xH)):=
 bz LH [false,true,false,false] [[1,0,3,0,4]] (@B7 C) (by kernel_rfl) (aS (bs:=[]) (by kernel_rfl) ao) (fun ds=>by kernel_rfl) (fun i x=>by kernel_rfl) (fun i x β k=>by kernel_rfl) (fun β ds k=>by kernel_rfl)
theorem ahN (C:ae):MX C (.loop (ak [1,1,1,0,0,0,0,1,0,0,0] xH)):=
 bz LI [false,false,true,false] [[1,2,0,0,4]] (@xI C) (by kernel_rfl) (aS (bs:=[]) (by kernel_rfl) ao) (fun ds=>by kernel_rfl) (fun i x=>by kernel_rfl) (fun i x β k=>by kernel_rfl) (fun β ds k=>by kernel_rfl)
theorem ahO (C:ae):MX C (.loop (ak [1,1,1,0,0,0] xH)):=
 bz LJ [false,true,true,true] [[1,0,0,0,0]] (@B9 C) (by kernel_rfl) (aS (bs:=[.loop (ak [1,1,1,0,0,0,0,0,0,0] xH),.loop (ak [1,1,1,0,0,0,0,1,0,0,0] xH)]) (by kernel_rfl) (bd (ahM C) (bd (ahN C) ao))) (fun ds=>by kernel_rfl) (fun i x=>by kernel_rfl) (fun i x β k=>by kernel_rfl) (fun β ds k=>by kernel_rfl)
noncomputable def WQ (C:ae) (a b' pivot:Int) (af:List V):Option (List V):=
 bif (decide (0≤pivot))&&(decide (pivot<(af.length:Int))) then
  (af[(pivot:Int).toNat]?).bind fun x1=>
  bif (decide (0≤a))&&(decide (a<(af.length:Int))) then
  (af[(a:Int).toNat]?).bind fun x2=>
  bif (decide (0≤a))&&(decide (a<(af.length:Int))) then
   (af[(a:Int).toNat]?).bind fun x3=>
   bif (decide (0≤pivot))&&(decide (pivot<((af.set ((a:Int).toNat) (.agg [.int .i64 ((x1.cell 0).toInt),.int .i64 ((x1.cell 1).toInt),.int .i64 ((x1.cell 2).toInt)])).length:Int))) then
   ((af.set ((a:Int).toNat) (.agg [.int .i64 ((x1.cell 0).toInt),.int .i64 ((x1.cell 1).toInt),.int .i64 ((x1.cell 2).toInt)]))[(pivot:Int).toNat]?).bind fun x4=>
   (Loop (xK C a) (IntKind.wrap .i64 (a+1),IntKind.wrap .i64 (b'-1),(af.set ((a:Int).toNat) (.agg [.int .i64 ((x1.cell 0).toInt),.int .i64 ((x1.cell 1).toInt),.int .i64 ((x1.cell 2).toInt)])).set ((pivot:Int).toNat) (.agg [.int .i64 ((x2.cell 0).toInt),.int .i64 ((x2.cell 1).toInt),.int .i64 ((x2.cell 2).toInt)]))).bind (un fun (ahP:Int)=>un fun (alg:Int)=>un fun (ahQ:Bool) (ahR:List V)=>
    some [.int .i64 ahP,.list aq ahR])
   else none
  else none
  else none
 else none
theorem ahS {a b' pivot:Int} {af:List V} {r:Option (List V)} (h:WQ CC a b' pivot af=r):CC wQ [.int .i64 a,.int .i64 b',.int .i64 pivot,.list aq af]=r:=
 bn (key:=182) (L:=WO CC) (bs:=[.loop (ak [1,1,1,0,0,0] xH)]) (by kernel_rfl) (bd (ahO CC) ao) (Eq.trans (by kernel_rfl) h)
noncomputable abbrev nJ:Code:=cI Tryd.prog (ar.aW 180)
noncomputable def Cc (C:ae) (a b' j:Int) (af:List V) (i:Int) {β:Type} (kn:Int→Option β) (kr:(Int × Bool)→Option β):Option β:=
 bif decide ((i:Int)<b') then
  bif (decide (0≤i))&&(decide (i<(af.length:Int))) then
  (af[(i:Int).toNat]?).bind fun x1=>
  bif (decide (0≤(IntKind.wrap .i64 (i-1))))&&(decide ((IntKind.wrap .i64 (i-1))<(af.length:Int))) then
   (af[(IntKind.wrap .i64 (i-1):Int).toNat]?).bind fun x2=>
   (C bw [.int .i64 ((x1.cell 0).toInt),.int .i64 ((x1.cell 1).toInt),.int .i64 ((x1.cell 2).toInt),.int .i64 ((x2.cell 0).toInt),.int .i64 ((x2.cell 1).toInt),.int .i64 ((x2.cell 2).toInt)]).bind fun r3=>
   bif !(decide ((((V.nth r3 0).toInt):Int)<0)) then
   kn (IntKind.wrap .i64 (i+1))
   else
   kr (i,!(decide ((((V.nth r3 0).toInt):Int)<0)))
  else none
  else none
 else
  kr (i,false)
noncomputable def Cd (C:ae) (a b' j:Int) (af:List V):(Int)→Option ((Int) ⊕ (Int × Bool)):=fun i=>Cc C a b' j af i (fun y=>some (.inl y)) (fun r=>some (.inr r))
noncomputable def Ce (C:ae) (a b' i j j':Int) (af:List V) {β:Type} (kn:(Int × (List V))→Option β) (kr:(Int × (List V))→Option β):Option β:=
 bif decide ((j':Int)≥1) then
  bif (decide (0≤j'))&&(decide (j'<(af.length:Int))) then
  (af[(j':Int).toNat]?).bind fun gu=>
  bif (decide (0≤(IntKind.wrap .i64 (j'-1))))&&(decide ((IntKind.wrap .i64 (j'-1))<(af.length:Int))) then
   (af[(IntKind.wrap .i64 (j'-1):Int).toNat]?).bind fun eJ=>
   (C bw [.int .i64 ((gu.cell 0).toInt),.int .i64 ((gu.cell 1).toInt),.int .i64 ((gu.cell 2).toInt),.int .i64 ((eJ.cell 0).toInt),.int .i64 ((eJ.cell 1).toInt),.int .i64 ((eJ.cell 2).toInt)]).bind fun kR=>
   bif !(decide ((((V.nth kR 0).toInt):Int)<0)) then
   kr (j',af)
   else
   bif (decide (0≤(IntKind.wrap .i64 (j'-1))))&&(decide ((IntKind.wrap .i64 (j'-1))<(af.length:Int))) then
    (af[(IntKind.wrap .i64 (j'-1):Int).toNat]?).bind fun gV=>
    bif (decide (0≤j'))&&(decide (j'<(af.length:Int))) then
    (af[(j':Int).toNat]?).bind fun lN=>
    bif (decide (0≤j'))&&(decide (j'<(af.length:Int))) then
     (af[(j':Int).toNat]?).bind fun gh=>
     bif (decide (0≤(IntKind.wrap .i64 (j'-1))))&&(decide ((IntKind.wrap .i64 (j'-1))<((af.set ((j':Int).toNat) (.agg [.int .i64 ((gV.cell 0).toInt),.int .i64 ((gV.cell 1).toInt),.int .i64 ((gV.cell 2).toInt)])).length:Int))) then
     ((af.set ((j':Int).toNat) (.agg [.int .i64 ((gV.cell 0).toInt),.int .i64 ((gV.cell 1).toInt),.int .i64 ((gV.cell 2).toInt)]))[(IntKind.wrap .i64 (j'-1):Int).toNat]?).bind fun gI=>
     kn (IntKind.wrap .i64 (j'-1),(af.set ((j':Int).toNat) (.agg [.int .i64 ((gV.cell 0).toInt),.int .i64 ((gV.cell 1).toInt),.int .i64 ((gV.cell 2).toInt)])).set ((IntKind.wrap .i64 (j'-1):Int).toNat) (.agg [.int .i64 ((lN.cell 0).toInt),.int .i64 ((lN.cell 1).toInt),.int .i64 ((lN.cell 2).toInt)]))
     else none
    else none
    else none
   else none
  else none
  else none
 else
  kr (j',af)
noncomputable def Cf (C:ae) (a b' i j:Int):(Int × (List V))→Option ((Int × (List V)) ⊕ (Int × (List V))):=un fun j' af=>Ce C a b' i j j' af (fun y=>some (.inl y)) (fun r=>some (.inr r))
noncomputable def G8 (C:ae) (a b' i j:Int) (t65:Bool) (af:List V) {β:Type} (kr:(List V)→Option β):Option β:=
 bif t65 then
  (Loop (Cf C a b' i j) (IntKind.wrap .i64 (i-1),af)).bind (un fun (alh:Int) (ahT:List V)=>
   kr ahT)
 else
  kr af
noncomputable def Cg (C:ae) (a b' i j j':Int) (af:List V) {β:Type} (kn:(Int × (List V))→Option β) (kr:(Int × (List V))→Option β):Option β:=
 bif decide ((j':Int)<b') then
  bif (decide (0≤j'))&&(decide (j'<(af.length:Int))) then
  (af[(j':Int).toNat]?).bind fun rl=>
  bif (decide (0≤(IntKind.wrap .i64 (j'-1))))&&(decide ((IntKind.wrap .i64 (j'-1))<(af.length:Int))) then
   (af[(IntKind.wrap .i64 (j'-1):Int).toNat]?).bind fun Bl=>
   (C bw [.int .i64 ((rl.cell 0).toInt),.int .i64 ((rl.cell 1).toInt),.int .i64 ((rl.cell 2).toInt),.int .i64 ((Bl.cell 0).toInt),.int .i64 ((Bl.cell 1).toInt),.int .i64 ((Bl.cell 2).toInt)]).bind fun ki=>
   bif !(decide ((((V.nth ki 0).toInt):Int)<0)) then
   kr (j',af)
   else
   bif (decide (0≤(IntKind.wrap .i64 (j'-1))))&&(decide ((IntKind.wrap .i64 (j'-1))<(af.length:Int))) then
    (af[(IntKind.wrap .i64 (j'-1):Int).toNat]?).bind fun lD=>
    bif (decide (0≤j'))&&(decide (j'<(af.length:Int))) then
    (af[(j':Int).toNat]?).bind fun pP=>
    bif (decide (0≤j'))&&(decide (j'<(af.length:Int))) then
     (af[(j':Int).toNat]?).bind fun x25=>
     bif (decide (0≤(IntKind.wrap .i64 (j'-1))))&&(decide ((IntKind.wrap .i64 (j'-1))<((af.set ((j':Int).toNat) (.agg [.int .i64 ((lD.cell 0).toInt),.int .i64 ((lD.cell 1).toInt),.int .i64 ((lD.cell 2).toInt)])).length:Int))) then
     ((af.set ((j':Int).toNat) (.agg [.int .i64 ((lD.cell 0).toInt),.int .i64 ((lD.cell 1).toInt),.int .i64 ((lD.cell 2).toInt)]))[(IntKind.wrap .i64 (j'-1):Int).toNat]?).bind fun x26=>
     kn (IntKind.wrap .i64 (j'+1),(af.set ((j':Int).toNat) (.agg [.int .i64 ((lD.cell 0).toInt),.int .i64 ((lD.cell 1).toInt),.int .i64 ((lD.cell 2).toInt)])).set ((IntKind.wrap .i64 (j'-1):Int).toNat) (.agg [.int .i64 ((pP.cell 0).toInt),.int .i64 ((pP.cell 1).toInt),.int .i64 ((pP.cell 2).toInt)]))
     else none
    else none
    else none
   else none
  else none
  else none
 else
  kr (j',af)
noncomputable def Ch (C:ae) (a b' i j:Int):(Int × (List V))→Option ((Int × (List V)) ⊕ (Int × (List V))):=un fun j' af=>Cg C a b' i j j' af (fun y=>some (.inl y)) (fun r=>some (.inr r))
noncomputable def Ci (C:ae) (a b' i j:Int) (af:List V) {β:Type} (kn:(Int × Int × (List V))→Option β) (kr:((Bool × (List V)) ⊕ (Int × Int × Bool × (List V)))→Option β):Option β:=
 bif decide ((j:Int)<5) then
  (Loop (Cd C a b' j af) i).bind (un fun (fy:Int) (mo:Bool)=>
   bif (fy:Int)==b' then
   kr (.inl (true,af))
   else
   bif decide (((IntKind.wrap .i64 (b'-a)):Int)<50) then
    kr (.inl (false,af))
   else
    bif (decide (0≤(IntKind.wrap .i64 (fy-1))))&&(decide ((IntKind.wrap .i64 (fy-1))<(af.length:Int))) then
    (af[(IntKind.wrap .i64 (fy-1):Int).toNat]?).bind fun x6=>
    bif (decide (0≤fy))&&(decide (fy<(af.length:Int))) then
     (af[(fy:Int).toNat]?).bind fun x7=>
     bif (decide (0≤fy))&&(decide (fy<(af.length:Int))) then
     (af[(fy:Int).toNat]?).bind fun x8=>
     bif (decide (0≤(IntKind.wrap .i64 (fy-1))))&&(decide ((IntKind.wrap .i64 (fy-1))<((af.set ((fy:Int).toNat) (.agg [.int .i64 ((x6.cell 0).toInt),.int .i64 ((x6.cell 1).toInt),.int .i64 ((x6.cell 2).toInt)])).length:Int))) then
      ((af.set ((fy:Int).toNat) (.agg [.int .i64 ((x6.cell 0).toInt),.int .i64 ((x6.cell 1).toInt),.int .i64 ((x6.cell 2).toInt)]))[(IntKind.wrap .i64 (fy-1):Int).toNat]?).bind fun x9=>
      G8 C a b' fy j (decide (((IntKind.wrap .i64 (fy-a)):Int)≥2)) ((af.set ((fy:Int).toNat) (.agg [.int .i64 ((x6.cell 0).toInt),.int .i64 ((x6.cell 1).toInt),.int .i64 ((x6.cell 2).toInt)])).set ((IntKind.wrap .i64 (fy-1):Int).toNat) (.agg [.int .i64 ((x7.cell 0).toInt),.int .i64 ((x7.cell 1).toInt),.int .i64 ((x7.cell 2).toInt)])) (fun (WR:List V)=>
       bif decide (((IntKind.wrap .i64 (b'-fy)):Int)≥2) then
       (Loop (Ch C a b' fy j) (IntKind.wrap .i64 (fy+1),WR)).bind (un fun (ali:Int) (ahU:List V)=>
        kn (fy,IntKind.wrap .i64 (j+1),ahU))
       else
       kn (fy,IntKind.wrap .i64 (j+1),WR))
     else none
     else none
    else none
    else none)
 else
  kr (.inr (i,j,decide ((j:Int)<5),af))
noncomputable def sV (C:ae) (a b':Int):(Int × Int × (List V))→Option ((Int × Int × (List V)) ⊕ ((Bool × (List V)) ⊕ (Int × Int × Bool × (List V)))):=un fun i=>un fun j af=>Ci C a b' i j af (fun y=>some (.inl y)) (fun r=>some (.inr r))
noncomputable def WS (C:ae):cy:=fun β n ds k=>
 bif Nat.beq n 81 then bu Lv [false,false,true,false,false] [[1,2,0,4,0,5]] (@Cc C) ds k else
 bif Nat.beq n 225 then bu Lw [false,false,false,false,true,true] [[1,2,3,4,0,0]] (@Ce C) ds k else
 bif Nat.beq n 1055 then mi Lx [[1,2,3,4,0]] (@G8 C) ds k else
 bif Nat.beq n 321 then bu Ly [false,false,false,false,true,true] [[1,2,3,4,0,0]] (@Cg C) ds k else
 bif Nat.beq n 49 then bu LA [false,false,true,true,true] [[0,0],[1,2,0,0,0,0]] (@Ci C) ds k else
 none
abbrev Cj (C:ae) (b:ct):Prop:=cu Tryd.prog ar C (WS C) 180 (cP Tryd.prog (ar.aW 180)) (ar.sin 180).a8.length b
theorem ahV (C:ae):Cj C (.loop (ak [1,1,0,1,0,0,1,0,0,0,0,0] nJ)):=
 bz Lv [false,false,true,false,false] [[1,2,0,4,0,5]] (@Cc C) (by kernel_rfl) (aS (bs:=[]) (by kernel_rfl) ao) (fun ds=>by kernel_rfl) (fun i x=>by kernel_rfl) (fun i x β k=>by kernel_rfl) (fun β ds k=>by kernel_rfl)
theorem ahW (C:ae):Cj C (.loop (ak [1,1,0,1,0,0,1,0,0,1,1,1,1,0,1,0,1,0,0] nJ)):=
 bz Lw [false,false,false,false,true,true] [[1,2,3,4,0,0]] (@Ce C) (by kernel_rfl) (aS (bs:=[]) (by kernel_rfl) ao) (fun ds=>by kernel_rfl) (fun i x=>by kernel_rfl) (fun i x β k=>by kernel_rfl) (fun β ds k=>by kernel_rfl)
theorem ahX (C:ae):Cj C (.cond 65 (ak [1,1,0,1,0,0,1,0,0,1,1,1,1,0,1,0] nJ) (ak [1,1,0,1,0,0,1,0,0,1,1,1,1,0,1,1] nJ)):=
 ng Lx [[1,2,3,4,0]] (@G8 C) (by kernel_rfl) (aS (bs:=[.loop (ak [1,1,0,1,0,0,1,0,0,1,1,1,1,0,1,0,1,0,0] nJ)]) (by kernel_rfl) (bd (ahW C) ao)) (aS (bs:=[]) (by kernel_rfl) ao) (fun ds=>by kernel_rfl) (fun i β k=>by kernel_rfl) (fun β ds k=>by kernel_rfl)
theorem ahY (C:ae):Cj C (.loop (ak [1,1,0,1,0,0,1,0,0,1,1,1,1,1,1,0,1,0,0] nJ)):=
 bz Ly [false,false,false,false,true,true] [[1,2,3,4,0,0]] (@Cg C) (by kernel_rfl) (aS (bs:=[]) (by kernel_rfl) ao) (fun ds=>by kernel_rfl) (fun i x=>by kernel_rfl) (fun i x β k=>by kernel_rfl) (fun β ds k=>by kernel_rfl)
theorem ahZ (C:ae):Cj C (.loop (ak [1,1,0,1,0,0] nJ)):=
 bz LA [false,false,true,true,true] [[0,0],[1,2,0,0,0,0]] (@Ci C) (by kernel_rfl) (aS (bs:=[.loop (ak [1,1,0,1,0,0,1,0,0,0,0,0] nJ),.cond 65 (ak [1,1,0,1,0,0,1,0,0,1,1,1,1,0,1,0] nJ) (ak [1,1,0,1,0,0,1,0,0,1,1,1,1,0,1,1] nJ),.loop (ak [1,1,0,1,0,0,1,0,0,1,1,1,1,1,1,0,1,0,0] nJ)]) (by kernel_rfl) (bd (ahV C) (bd (ahX C) (bd (ahY C) ao)))) (fun ds=>by kernel_rfl) (fun i x=>by kernel_rfl) (fun i x β k=>by kernel_rfl) (fun β ds k=>by kernel_rfl)
noncomputable def WU (C:ae) (a b':Int) (af:List V):Option (List V):=
 (Loop (sV C a b') (IntKind.wrap .i64 (a+1),0,af)).bind (di (un fun (ah0:Bool) (ah1:List V)=>
  some [.bool ah0,.list aq ah1]) (un fun (ah2:Int)=>un fun (alj:Int)=>un fun (alk:Bool) (ah3:List V)=>
  some [.bool false,.list aq ah3]))
theorem ah4 {a b':Int} {af:List V} {r:Option (List V)} (h:WU CC a b' af=r):CC JU [.int .i64 a,.int .i64 b',.list aq af]=r:=
 bn (key:=180) (L:=WS CC) (bs:=[.loop (ak [1,1,0,1,0,0] nJ)]) (by kernel_rfl) (bd (ahZ CC) ao) (Eq.trans (by kernel_rfl) h)
end Go.AM
set_option maxRecDepth 100000
set_option maxHeartbeats 4000000
namespace Go.AM.SL
open Go.AM Go.Proofs Go.Sort
theorem xL (p:Ed→Bool) (d:Array Ed) (j i:Nat):scanUp p d j i=if i≤j then (if p d[i]! =true then scanUp p d j (i+1) else i) else i:=by
 conv=>lhs;rw[scanUp]
 by_cases h:i≤j
 ·rw[if_pos h];simp only[h,decide_true,Bool.true_and]
 ·rw[if_neg h,if_neg (by simp[h])]
theorem MY (p:Ed→Bool) (d:Array Ed) (i j:Nat):scanDown p d i (j+1)=if i≤j+1 then (if p d[j+1]! =true then scanDown p d i j else j+1) else j+1:=by
 conv=>lhs;rw[scanDown]
 by_cases h:i≤j+1
 ·rw[if_pos h];simp only[h,decide_true,Bool.true_and]
 ·rw[if_neg h,if_neg (by simp[h])]
theorem G9 (d:Array Ed) (b i:Nat):scanSorted av d b i=if i<b then (if bQ d[i]! d[i-1]! <0 then i else scanSorted av d b (i+1)) else i:=by
 conv=>lhs;rw[scanSorted]
 by_cases h:i<b
 ·rw[if_pos h];simp only[h,decide_true,Bool.true_and,rv]
  by_cases h2:bQ d[i]! d[i-1]! <0
  ·rw[if_neg (not_not_intro h2),if_pos h2]
  ·rw[if_pos h2,if_neg h2]
 ·rw[if_neg h,if_neg (by simp[h])]
theorem WV (j:Nat) (d:Array Ed):shiftDown av (j+1) d=if bQ d[j+1]! d[j]! <0 then shiftDown av j (swp d (j+1) j) else d:=by
 conv=>lhs;rw[shiftDown]
 simp only[rv]
 by_cases h2:bQ d[j+1]! d[j]! <0
 ·rw[if_neg (not_not_intro h2),if_pos h2]
 ·rw[if_pos h2,if_neg h2]
theorem Ha (b j:Nat) (d:Array Ed):shiftUp av b j d=if j<b then (if bQ d[j]! d[j-1]! <0 then shiftUp av b (j+1) (swp d j (j-1)) else d) else d:=by
 conv=>lhs;rw[shiftUp]
 simp only[rv]
 by_cases h:j<b
 ·rw[if_pos h,if_pos h]
  by_cases h2:bQ d[j]! d[j-1]! <0
  ·rw[if_neg (not_not_intro h2),if_pos h2]
  ·rw[if_pos h2,if_neg h2]
 ·rw[if_neg h,if_neg h]
theorem ah5 {a:Nat}: ∀(n i j:Nat) (d:Array Ed),j+1-i≤n→(partLoop av a i j d).2.size=d.size∧(partLoop av a i j d).1≤j:=by
 intro n
 induction n with
 | zero=>
  intro i j d hn
  have h1:=scanUp_ge (fun x=>av x d[a]!) d j i
  have h2:=scanDown_le (fun x=> !av x d[a]!) d (scanUp (fun x=>av x d[a]!) d j i) j
  rw[partLoop_eq,if_pos (by omega)]
  exact ⟨rfl,h2⟩
 | succ n ih=>
  intro i j d hn
  rw[partLoop_eq]
  have h1:=scanUp_ge (fun x=>av x d[a]!) d j i
  have h2:=scanDown_le (fun x=> !av x d[a]!) d (scanUp (fun x=>av x d[a]!) d j i) j
  split
  ·exact ⟨rfl,h2⟩
  ·obtain ⟨h3,h4⟩:=ih (scanUp (fun x=>av x d[a]!) d j i+1) (scanDown (fun x=> !av x d[a]!) d (scanUp (fun x=>av x d[a]!) d j i) j-1) (swp d (scanUp (fun x=>av x d[a]!) d j i) (scanDown (fun x=> !av x d[a]!) d (scanUp (fun x=>av x d[a]!) d j i) j)) (by omega)
   exact ⟨by rw[h3,size_swp],by omega⟩
theorem kj {β:Type} {d:Array Ed} {i:Nat} {x y:Option β} (h:i<d.size):(bif (decide (0≤(i:Int)))&&(decide ((i:Int)<((eA d).length:Int))) then x else y)=x:=by
 rw[gb,dB,az,if_pos (by omega),az,if_pos (by omega)]
theorem Hb {β:Type} {d:Array Ed} {i k:Nat} {v:V} {x y:Option β} (h:i<d.size):(bif (decide (0≤(i:Int)))&&(decide ((i:Int)<(((eA d).set k v).length:Int))) then x else y)=x:=by
 rw[List.length_set,gb,dB,az,if_pos (by omega),az,if_pos (by omega)]
theorem km {β:Type} {d:Array Ed} {i:Nat} {f:V→Option β} (h:i<d.size):((eA d)[(i:Int).toNat]?).bind f=f (d[i]!).enc:=by
 rw[Int.toNat_natCast,gf h];rfl
theorem Hc {β:Type} {d:Array Ed} {i k:Nat} {v:V} {x:Option β} (h:i<d.size):(((eA d).set k v)[(i:Int).toNat]?).bind (fun _=>x)=x:=by
 rw[Int.toNat_natCast,List.getElem?_eq_getElem (by rw[List.length_set,gb];exact h)];rfl
theorem rz {β:Type} {d:Array Ed} {i:Nat} {f:V→Option β} (h:i<d.size):((eA d)[i]?).bind f=f (d[i]!).enc:=by
 rw[gf h];rfl
theorem MZ {β:Type} {d:Array Ed} {i k:Nat} {v:V} {x:Option β} (h:i<d.size):(((eA d).set k v)[i]?).bind (fun _=>x)=x:=by
 rw[List.getElem?_eq_getElem (by rw[List.length_set,gb];exact h)];rfl
theorem ah6 {a j:Nat} {d:Array Ed} (ha:a<d.size) (hj:j<d.size) (hs:d.size<1152921504606846976): ∀(n i:Nat),j+1-i=n→i≤d.size→
  ∃t,Loop (B0 CC a j (eA d)) (i:Int)=some (((scanUp (fun x=>av x d[a]!) d j i:Nat):Int),t):=by
 intro n
 induction n with
 | zero=>
  intro i hn hi
  rw[xL,if_neg (by omega)]
  exact ⟨false,bZ (by simp (disch:=omega) only[B0,BZ,az,if_neg])⟩
 | succ n ih=>
  intro i hn hi
  obtain ⟨t,h⟩:=ih (i+1) (by omega) (by omega)
  rw[xL,if_pos (by omega)]
  have e:B0 CC a j (eA d) (i:Int)=if bQ d[i]! d[a]! <0 then some (.inl ((i+1:Nat):Int)) else some (.inr ((i:Int),decide (bQ d[i]! d[a]! <0))):=by
   simp (disch:=omega) only[B0,BZ,az,dB,gr,if_pos,if_neg,wrap64,dO,gg,Int.toNat_natCast,Option.bind_some,gb,gf,Ed.dr,Ed.dt,Ed.dv,Ed.re,gd,iw,Array.size_setIfInBounds,gH,V.bU,V.toInt_int,cond_true,cond_false]
  simp only[sU]
  by_cases h2:bQ d[i]! d[a]! <0
  ·rw[if_pos h2] at e
   rw[if_pos h2]
   exact ⟨t,(ee e).trans h⟩
  ·rw[if_neg h2] at e
   rw[if_neg h2]
   exact ⟨_,bZ e⟩
theorem WW {a j:Nat} {d:Array Ed} (ha:a<d.size) (hj:j<d.size) (hs:d.size<1152921504606846976): ∀(n i:Nat),j+1-i=n→i≤d.size→
  ∃t,Loop (B4 CC a j (eA d)) (i:Int)=some (((scanUp (fun x=>av x d[a]!) d j i:Nat):Int),t):=by
 intro n
 induction n with
 | zero=>
  intro i hn hi
  rw[xL,if_neg (by omega)]
  exact ⟨false,bZ (by simp (disch:=omega) only[B4,B1,az,if_neg])⟩
 | succ n ih=>
  intro i hn hi
  obtain ⟨t,h⟩:=ih (i+1) (by omega) (by omega)
  rw[xL,if_pos (by omega)]
  have e:B4 CC a j (eA d) (i:Int)=if bQ d[i]! d[a]! <0 then some (.inl ((i+1:Nat):Int)) else some (.inr ((i:Int),decide (bQ d[i]! d[a]! <0))):=by
   simp (disch:=omega) only[B4,B1,az,dB,gr,if_pos,if_neg,wrap64,dO,gg,Int.toNat_natCast,Option.bind_some,gb,gf,Ed.dr,Ed.dt,Ed.dv,Ed.re,gd,iw,Array.size_setIfInBounds,gH,V.bU,V.toInt_int,cond_true,cond_false]
  simp only[sU]
  by_cases h2:bQ d[i]! d[a]! <0
  ·rw[if_pos h2] at e
   rw[if_pos h2]
   exact ⟨t,(ee e).trans h⟩
  ·rw[if_neg h2] at e
   rw[if_neg h2]
   exact ⟨_,bZ e⟩
theorem WX {a i:Nat} {d:Array Ed} (ha:a<d.size) (hi:1≤i) (hs:d.size<1152921504606846976): ∀(j:Nat),j<d.size→
  ∃t,Loop (xD CC a i (eA d)) (j:Int)=some (((scanDown (fun x=> !av x d[a]!) d i j:Nat):Int),t)
 | 0,hj=>⟨false,bZ (by simp (disch:=omega) only[xD,xC,az,if_neg];rfl)⟩
 | j+1,hj=>by
  obtain ⟨t,h⟩:=WX ha hi hs j (by omega)
  rw[MY]
  by_cases h1:i≤j+1
  ·rw[if_pos h1]
   have e:xD CC a i (eA d) ((j+1:Nat):Int)=if bQ d[j+1]! d[a]! <0 then some (.inr (((j+1:Nat):Int),!decide (bQ d[j+1]! d[a]! <0))) else some (.inl (j:Int)):=by
    simp (disch:=omega) only[xD,xC,az,dB,gr,if_pos,if_neg,wrap64,dO,gg,Int.toNat_natCast,Option.bind_some,gb,gf,Ed.dr,Ed.dt,Ed.dv,Ed.re,gd,iw,Array.size_setIfInBounds,gH,V.bU,V.toInt_int,cond_true,cond_false,sQ]
   simp only[rv]
   by_cases h2:bQ d[j+1]! d[a]! <0
   ·rw[if_pos h2] at e
    rw[if_neg (not_not_intro h2)]
    exact ⟨_,bZ e⟩
   ·rw[if_neg h2] at e
    rw[if_pos h2]
    exact ⟨t,(ee e).trans h⟩
  ·rw[if_neg h1]
   exact ⟨false,bZ (by simp (disch:=omega) only[xD,xC,az,if_neg])⟩
theorem M0 {a i:Nat} {d:Array Ed} (ha:a<d.size) (hi:1≤i) (hs:d.size<1152921504606846976): ∀(j:Nat),j<d.size→
  ∃t,Loop (xF CC a i (eA d)) (j:Int)=some (((scanDown (fun x=> !av x d[a]!) d i j:Nat):Int),t)
 | 0,hj=>⟨false,bZ (by simp (disch:=omega) only[xF,xE,az,if_neg];rfl)⟩
 | j+1,hj=>by
  obtain ⟨t,h⟩:=M0 ha hi hs j (by omega)
  rw[MY]
  by_cases h1:i≤j+1
  ·rw[if_pos h1]
   have e:xF CC a i (eA d) ((j+1:Nat):Int)=if bQ d[j+1]! d[a]! <0 then some (.inr (((j+1:Nat):Int),!decide (bQ d[j+1]! d[a]! <0))) else some (.inl (j:Int)):=by
    simp (disch:=omega) only[xF,xE,az,dB,gr,if_pos,if_neg,wrap64,dO,gg,Int.toNat_natCast,Option.bind_some,gb,gf,Ed.dr,Ed.dt,Ed.dv,Ed.re,gd,iw,Array.size_setIfInBounds,gH,V.bU,V.toInt_int,cond_true,cond_false,sQ]
   simp only[rv]
   by_cases h2:bQ d[j+1]! d[a]! <0
   ·rw[if_pos h2] at e
    rw[if_neg (not_not_intro h2)]
    exact ⟨_,bZ e⟩
   ·rw[if_neg h2] at e
    rw[if_pos h2]
    exact ⟨t,(ee e).trans h⟩
  ·rw[if_neg h1]
   exact ⟨false,bZ (by simp (disch:=omega) only[xF,xE,az,if_neg])⟩
theorem WY {a j:Nat} {d:Array Ed} (ha:a<d.size) (hj:j<d.size) (hs:d.size<1152921504606846976): ∀(n i:Nat),j+1-i=n→i≤d.size→
  ∃t,Loop (B8 CC a j (eA d)) (i:Int)=some (((scanUp (fun x=> !av d[a]! x) d j i:Nat):Int),t):=by
 intro n
 induction n with
 | zero=>
  intro i hn hi
  rw[xL,if_neg (by omega)]
  exact ⟨false,bZ (by simp (disch:=omega) only[B8,B7,az,if_neg])⟩
 | succ n ih=>
  intro i hn hi
  obtain ⟨t,h⟩:=ih (i+1) (by omega) (by omega)
  rw[xL,if_pos (by omega)]
  have e:B8 CC a j (eA d) (i:Int)=if bQ d[a]! d[i]! <0 then some (.inr ((i:Int),!decide (bQ d[a]! d[i]! <0))) else some (.inl ((i+1:Nat):Int)):=by
   simp (disch:=omega) only[B8,B7,az,dB,gr,if_pos,if_neg,wrap64,dO,gg,Int.toNat_natCast,Option.bind_some,gb,gf,Ed.dr,Ed.dt,Ed.dv,Ed.re,gd,iw,Array.size_setIfInBounds,gH,V.bU,V.toInt_int,cond_true,cond_false]
  simp only[rv]
  by_cases h2:bQ d[a]! d[i]! <0
  ·rw[if_pos h2] at e
   rw[if_neg (not_not_intro h2)]
   exact ⟨_,bZ e⟩
  ·rw[if_neg h2] at e
   rw[if_pos h2]
   exact ⟨t,(ee e).trans h⟩
theorem M1 {a i:Nat} {d:Array Ed} (ha:a<d.size) (hi:1≤i) (hs:d.size<1152921504606846976): ∀(j:Nat),j<d.size→
  ∃t,Loop (xJ CC a i (eA d)) (j:Int)=some (((scanDown (fun x=>av d[a]! x) d i j:Nat):Int),t)
 | 0,hj=>⟨false,bZ (by simp (disch:=omega) only[xJ,xI,az,if_neg];rfl)⟩
 | j+1,hj=>by
  obtain ⟨t,h⟩:=M1 ha hi hs j (by omega)
  rw[MY]
  by_cases h1:i≤j+1
  ·rw[if_pos h1]
   have e:xJ CC a i (eA d) ((j+1:Nat):Int)=if bQ d[a]! d[j+1]! <0 then some (.inl (j:Int)) else some (.inr (((j+1:Nat):Int),decide (bQ d[a]! d[j+1]! <0))):=by
    simp (disch:=omega) only[xJ,xI,az,dB,gr,if_pos,if_neg,wrap64,dO,gg,Int.toNat_natCast,Option.bind_some,gb,gf,Ed.dr,Ed.dt,Ed.dv,Ed.re,gd,iw,Array.size_setIfInBounds,gH,V.bU,V.toInt_int,cond_true,cond_false,sQ]
   simp only[sU]
   by_cases h2:bQ d[a]! d[j+1]! <0
   ·rw[if_pos h2] at e
    rw[if_pos h2]
    exact ⟨t,(ee e).trans h⟩
   ·rw[if_neg h2] at e
    rw[if_neg h2]
    exact ⟨_,bZ e⟩
  ·rw[if_neg h1]
   exact ⟨false,bZ (by simp (disch:=omega) only[xJ,xI,az,if_neg])⟩
theorem ah7 {a:Nat}: ∀(n i j:Nat) (d:Array Ed),j+1-i≤n→1≤i→i≤d.size→a<d.size→j<d.size→d.size<1152921504606846976→
  ∃x z,Loop (xG CC a) ((i:Int),(j:Int),eA d)=some (x,(((partLoop av a i j d).1:Nat):Int),z,eA (partLoop av a i j d).2):=by
 intro n
 induction n with
 | zero=>
  intro i j d hn h1 h2 ha hj hs
  obtain ⟨t3,e3⟩:=WW (a:=a) ha hj hs _ i rfl h2
  have g1:=scanUp_ge (fun x=>av x d[a]!) d j i
  have g2:=scanDown_le (fun x=> !av x d[a]!) d (scanUp (fun x=>av x d[a]!) d j i) j
  obtain ⟨t4,e4⟩:=M0 (a:=a) (i:=scanUp (fun x=>av x d[a]!) d j i) ha (by omega) hs j hj
  rw[partLoop_eq,if_pos (by omega)]
  refine ⟨((scanUp (fun x=>av x d[a]!) d j i:Nat):Int),true,bZ ?_⟩
  simp only[xG,B5,un]
  rw[e3]
  simp only[Option.bind_some,un]
  rw[e4]
  simp (disch:=omega) only[Option.bind_some,un,nC,cond_true]
 | succ n ih=>
  intro i j d hn h1 h2 ha hj hs
  obtain ⟨t3,e3⟩:=WW (a:=a) ha hj hs _ i rfl h2
  have g1:=scanUp_ge (fun x=>av x d[a]!) d j i
  have g2:=scanDown_le (fun x=> !av x d[a]!) d (scanUp (fun x=>av x d[a]!) d j i) j
  obtain ⟨t4,e4⟩:=M0 (a:=a) (i:=scanUp (fun x=>av x d[a]!) d j i) ha (by omega) hs j hj
  rw[partLoop_eq]
  have f:xG CC a ((i:Int),(j:Int),eA d)=xG CC a ((i:Int),(j:Int),eA d):=rfl
  conv at f=>rhs;simp only[xG,B5,un];rw[e3];simp only[Option.bind_some,un];rw[e4];simp only[Option.bind_some,un]
  generalize jf:scanUp (fun x=>av x d[a]!) d j i=i2 at*
  generalize b6:scanDown (fun x=> !av x d[a]!) d i2 j=j2 at*
  by_cases h:i2>j2
  ·rw[if_pos h]
   refine ⟨(i2:Int),true,bZ (f.trans ?_)⟩
   simp (disch:=omega) only[Option.bind_some,nC,cond_true]
  ·rw[if_neg h]
   obtain ⟨x,z,e⟩:=ih (i2+1) (j2-1) (swp d i2 j2) (by omega) (by omega) (by rw[size_swp];omega) (by rw[size_swp];omega) (by rw[size_swp];omega) (by rw[size_swp];omega)
   refine ⟨x,z,(ee (f.trans ?_)).trans e⟩
   simp (disch:=omega) only[az,dB,gr,if_pos,if_neg,wrap64,dO,gg,Int.toNat_natCast,Option.bind_some,gb,gf,Ed.dr,Ed.dt,Ed.dv,Ed.re,gd,iw,Array.size_setIfInBounds,gH,V.bU,V.toInt_int,cond_true,cond_false,jH]
   rfl
theorem ah8 (d:Array Ed) (a b pivot:Nat):partition av d a b pivot=
  if scanUp (fun x=>av x (swp d a pivot)[a]!) (swp d a pivot) (b-1) (a+1)>scanDown (fun x=> !av x (swp d a pivot)[a]!) (swp d a pivot) (scanUp (fun x=>av x (swp d a pivot)[a]!) (swp d a pivot) (b-1) (a+1)) (b-1) then
   (scanDown (fun x=> !av x (swp d a pivot)[a]!) (swp d a pivot) (scanUp (fun x=>av x (swp d a pivot)[a]!) (swp d a pivot) (b-1) (a+1)) (b-1),true,swp (swp d a pivot) (scanDown (fun x=> !av x (swp d a pivot)[a]!) (swp d a pivot) (scanUp (fun x=>av x (swp d a pivot)[a]!) (swp d a pivot) (b-1) (a+1)) (b-1)) a)
  else
   ((partLoop av a (scanUp (fun x=>av x (swp d a pivot)[a]!) (swp d a pivot) (b-1) (a+1)+1) (scanDown (fun x=> !av x (swp d a pivot)[a]!) (swp d a pivot) (scanUp (fun x=>av x (swp d a pivot)[a]!) (swp d a pivot) (b-1) (a+1)) (b-1)-1) (swp (swp d a pivot) (scanUp (fun x=>av x (swp d a pivot)[a]!) (swp d a pivot) (b-1) (a+1)) (scanDown (fun x=> !av x (swp d a pivot)[a]!) (swp d a pivot) (scanUp (fun x=>av x (swp d a pivot)[a]!) (swp d a pivot) (b-1) (a+1)) (b-1)))).1,false,
    swp (partLoop av a (scanUp (fun x=>av x (swp d a pivot)[a]!) (swp d a pivot) (b-1) (a+1)+1) (scanDown (fun x=> !av x (swp d a pivot)[a]!) (swp d a pivot) (scanUp (fun x=>av x (swp d a pivot)[a]!) (swp d a pivot) (b-1) (a+1)) (b-1)-1) (swp (swp d a pivot) (scanUp (fun x=>av x (swp d a pivot)[a]!) (swp d a pivot) (b-1) (a+1)) (scanDown (fun x=> !av x (swp d a pivot)[a]!) (swp d a pivot) (scanUp (fun x=>av x (swp d a pivot)[a]!) (swp d a pivot) (b-1) (a+1)) (b-1)))).2
    (partLoop av a (scanUp (fun x=>av x (swp d a pivot)[a]!) (swp d a pivot) (b-1) (a+1)+1) (scanDown (fun x=> !av x (swp d a pivot)[a]!) (swp d a pivot) (scanUp (fun x=>av x (swp d a pivot)[a]!) (swp d a pivot) (b-1) (a+1)) (b-1)-1) (swp (swp d a pivot) (scanUp (fun x=>av x (swp d a pivot)[a]!) (swp d a pivot) (b-1) (a+1)) (scanDown (fun x=> !av x (swp d a pivot)[a]!) (swp d a pivot) (scanUp (fun x=>av x (swp d a pivot)[a]!) (swp d a pivot) (b-1) (a+1)) (b-1)))).1 a):=rfl
theorem xM (d:Array Ed) (i j:Nat):eA ((d.setIfInBounds i d[j]!).setIfInBounds j d[i]!)=eA (swp d i j):=rfl
theorem ah9 {a b pivot:Nat} {d:Array Ed} (hp:pivot<b) (fU:a<b) (hb:b≤d.size) (hs:d.size<1152921504606846976):
  CC oD [.int .i64 (a:Int),.int .i64 (b:Int),.int .i64 (pivot:Int),.list aq (eA d)]=
   some [.int .i64 ((partition av d a b pivot).1:Int),.bool (partition av d a b pivot).2.1,.list aq (eA (partition av d a b pivot).2.2)]:=by
 refine ahL ?_
 unfold WN
 have z1:(swp d a pivot).size=d.size:=size_swp ..
 obtain ⟨t1,e1⟩:=ah6 (a:=a) (j:=b-1) (d:=swp d a pivot) (by omega) (by omega) (by omega) _ (a+1) rfl (by omega)
 have g1:=scanUp_ge (fun x=>av x (swp d a pivot)[a]!) (swp d a pivot) (b-1) (a+1)
 have g2:=scanDown_le (fun x=> !av x (swp d a pivot)[a]!) (swp d a pivot) (scanUp (fun x=>av x (swp d a pivot)[a]!) (swp d a pivot) (b-1) (a+1)) (b-1)
 obtain ⟨t2,e2⟩:=WX (a:=a) (i:=scanUp (fun x=>av x (swp d a pivot)[a]!) (swp d a pivot) (b-1) (a+1)) (d:=swp d a pivot) (by omega) (by omega) (by omega) (b-1) (by omega)
 have e0:=ah8 d a b pivot
 rw[kj (i:=pivot) (by omega),km (by omega),kj (i:=a) (by omega),km (by omega),kj (i:=a) (by omega),km (by omega),Hb (i:=pivot) (by omega),Hc (by omega)]
 simp only[Ed.dr,Ed.dt,Ed.dv,Ed.re,Int.toNat_natCast,gd,xM]
 simp (disch:=omega) only[jH,dO,wrap64]
 rw[e1]
 simp only[Option.bind_some,un]
 rw[e2]
 simp only[Option.bind_some,un]
 generalize jf:scanUp (fun x=>av x (swp d a pivot)[a]!) (swp d a pivot) (b-1) (a+1)=i2 at*
 generalize b6:scanDown (fun x=> !av x (swp d a pivot)[a]!) (swp d a pivot) i2 (b-1)=j2 at*
 generalize swp d a pivot=d1 at*
 by_cases h:i2>j2
 ·rw[if_pos h] at e0
  rw[e0,az,if_pos (by omega)]
  rw[kj (i:=a) (by omega)];(first|rw[km (by omega)]|rw[rz (by omega)]);rw[kj (i:=j2) (by omega)];(first|rw[km (by omega)]|rw[rz (by omega)]);rw[kj (i:=j2) (by omega)];(first|rw[km (by omega)]|rw[rz (by omega)]);rw[Hb (i:=a) (by omega)];(first|rw[Hc (by omega)]|rw[MZ (by omega)])
  simp only[Ed.dr,Ed.dt,Ed.dv,Ed.re,Int.toNat_natCast,gd,xM]
 ·rw[if_neg h] at e0
  rw[e0,az,if_neg (by omega)]
  have z2:(swp d1 i2 j2).size=d1.size:=size_swp ..
  obtain ⟨x,z,e5⟩:=ah7 (a:=a) _ (i2+1) (j2-1) (swp d1 i2 j2) (Nat.le_refl _) (by omega) (by omega) (by omega) (by omega) (by omega)
  obtain ⟨q1,q2⟩:=ah5 (a:=a) _ (i2+1) (j2-1) (swp d1 i2 j2) (Nat.le_refl _)
  rw[kj (i:=j2) (by omega)];(first|rw[km (by omega)]|rw[rz (by omega)]);rw[kj (i:=i2) (by omega)];(first|rw[km (by omega)]|rw[rz (by omega)]);rw[kj (i:=i2) (by omega)];(first|rw[km (by omega)]|rw[rz (by omega)]);rw[Hb (i:=j2) (by omega)];(first|rw[Hc (by omega)]|rw[MZ (by omega)])
  simp only[Ed.dr,Ed.dt,Ed.dv,Ed.re,Int.toNat_natCast,gd,xM]
  simp (disch:=omega) only[jH,dO,wrap64]
  rw[e5]
  generalize partLoop av a (i2+1) (j2-1) (swp d1 i2 j2)=r at*
  simp only[Option.bind_some,un]
  rw[kj (i:=a) (by omega)];(first|rw[km (by omega)]|rw[rz (by omega)]);rw[kj (i:=r.1) (by omega)];(first|rw[km (by omega)]|rw[rz (by omega)]);rw[kj (i:=r.1) (by omega)];(first|rw[km (by omega)]|rw[rz (by omega)]);rw[Hb (i:=a) (by omega)];(first|rw[Hc (by omega)]|rw[MZ (by omega)])
  simp only[Ed.dr,Ed.dt,Ed.dv,Ed.re,Int.toNat_natCast,gd,xM]
theorem aia {a:Nat}: ∀(n i j:Nat) (d:Array Ed),j+1-i≤n→1≤i→i≤d.size→a<d.size→j<d.size→d.size<1152921504606846976→
  ∃x z,Loop (xK CC a) ((i:Int),(j:Int),eA d)=some ((((partEqLoop av a i j d).1:Nat):Int),x,z,eA (partEqLoop av a i j d).2):=by
 intro n
 induction n with
 | zero=>
  intro i j d hn h1 h2 ha hj hs
  obtain ⟨t3,e3⟩:=WY (a:=a) ha hj hs _ i rfl h2
  have g1:=scanUp_ge (fun x=> !av d[a]! x) d j i
  have g2:=scanDown_le (fun x=>av d[a]! x) d (scanUp (fun x=> !av d[a]! x) d j i) j
  obtain ⟨t4,e4⟩:=M1 (a:=a) (i:=scanUp (fun x=> !av d[a]! x) d j i) ha (by omega) hs j hj
  rw[partEqLoop_eq,if_pos (by omega)]
  refine ⟨((scanDown (fun x=>av d[a]! x) d (scanUp (fun x=> !av d[a]! x) d j i) j:Nat):Int),true,bZ ?_⟩
  simp only[xK,B9,un]
  rw[e3]
  simp only[Option.bind_some,un]
  rw[e4]
  simp (disch:=omega) only[Option.bind_some,un,nC,cond_true]
 | succ n ih=>
  intro i j d hn h1 h2 ha hj hs
  obtain ⟨t3,e3⟩:=WY (a:=a) ha hj hs _ i rfl h2
  have g1:=scanUp_ge (fun x=> !av d[a]! x) d j i
  have g2:=scanDown_le (fun x=>av d[a]! x) d (scanUp (fun x=> !av d[a]! x) d j i) j
  obtain ⟨t4,e4⟩:=M1 (a:=a) (i:=scanUp (fun x=> !av d[a]! x) d j i) ha (by omega) hs j hj
  rw[partEqLoop_eq]
  have f:xK CC a ((i:Int),(j:Int),eA d)=xK CC a ((i:Int),(j:Int),eA d):=rfl
  conv at f=>rhs;simp only[xK,B9,un];rw[e3];simp only[Option.bind_some,un];rw[e4];simp only[Option.bind_some,un]
  generalize jf:scanUp (fun x=> !av d[a]! x) d j i=i2 at*
  generalize b6:scanDown (fun x=>av d[a]! x) d i2 j=j2 at*
  by_cases h:i2>j2
  ·rw[if_pos h]
   refine ⟨(j2:Int),true,bZ (f.trans ?_)⟩
   simp (disch:=omega) only[Option.bind_some,nC,cond_true]
  ·rw[if_neg h]
   obtain ⟨x,z,e⟩:=ih (i2+1) (j2-1) (swp d i2 j2) (by omega) (by omega) (by rw[size_swp];omega) (by rw[size_swp];omega) (by rw[size_swp];omega) (by rw[size_swp];omega)
   refine ⟨x,z,(ee (f.trans ?_)).trans e⟩
   simp (disch:=omega) only[az,dB,gr,if_pos,if_neg,wrap64,dO,gg,Int.toNat_natCast,Option.bind_some,gb,gf,Ed.dr,Ed.dt,Ed.dv,Ed.re,gd,iw,Array.size_setIfInBounds,gH,V.bU,V.toInt_int,cond_true,cond_false,jH]
   rfl
theorem aib {a b pivot:Nat} {d:Array Ed} (hp:pivot<b) (fU:a<b) (hb:b≤d.size) (hs:d.size<1152921504606846976):
  CC wQ [.int .i64 (a:Int),.int .i64 (b:Int),.int .i64 (pivot:Int),.list aq (eA d)]=
   some [.int .i64 ((partitionEqual av d a b pivot).1:Int),.list aq (eA (partitionEqual av d a b pivot).2)]:=by
 refine ahS ?_
 unfold WQ
 have z1:(swp d a pivot).size=d.size:=size_swp ..
 obtain ⟨x,z,e⟩:=aia (a:=a) _ (a+1) (b-1) (swp d a pivot) (Nat.le_refl _) (by omega) (by omega) (by omega) (by omega) (by omega)
 simp (disch:=omega) only[az,dB,if_pos,gb,gf,Int.toNat_natCast,Option.bind_some,Ed.dr,Ed.dt,Ed.dv,Ed.re,gd,iw,Array.size_setIfInBounds,jH,dO,wrap64,xM]
 rw[e]
 rfl
theorem aic {a b j:Nat} {d:Array Ed} (hb:b≤d.size) (hs:d.size<1152921504606846976): ∀(n i:Nat),b-i=n→1≤i→i≤b→
  ∃t,Loop (Cd CC a b j (eA d)) (i:Int)=some (((scanSorted av d b i:Nat):Int),t):=by
 intro n
 induction n with
 | zero=>
  intro i hn h1 hi
  rw[G9,if_neg (by omega)]
  exact ⟨false,bZ (by simp (disch:=omega) only[Cd,Cc,az,if_neg])⟩
 | succ n ih=>
  intro i hn h1 hi
  obtain ⟨t,h⟩:=ih (i+1) (by omega) (by omega) (by omega)
  rw[G9,if_pos (by omega)]
  have e:Cd CC a b j (eA d) (i:Int)=if bQ d[i]! d[i-1]! <0 then some (.inr ((i:Int),!decide (bQ d[i]! d[i-1]! <0))) else some (.inl ((i+1:Nat):Int)):=by
   simp (disch:=omega) only[Cd,Cc,jH,az,dB,gr,if_pos,if_neg,wrap64,dO,gg,Int.toNat_natCast,Option.bind_some,gb,gf,Ed.dr,Ed.dt,Ed.dv,Ed.re,gd,iw,Array.size_setIfInBounds,gH,V.bU,V.toInt_int,cond_true,cond_false]
  by_cases h2:bQ d[i]! d[i-1]! <0
  ·rw[if_pos h2] at e⊢
   exact ⟨_,bZ e⟩
  ·rw[if_neg h2] at e⊢
   exact ⟨t,(ee e).trans h⟩
theorem WZ: ∀(j:Nat) (d:Array Ed),(shiftDown av j d).size=d.size
 | 0,_=>rfl
 | j+1,d=>by
  rw[WV]
  split
  ·rw[WZ j,size_swp]
  ·rfl
theorem aid {b:Nat}: ∀(n j:Nat) (d:Array Ed),b-j=n→(shiftUp av b j d).size=d.size:=by
 intro n
 induction n with
 | zero=>intro j d h;rw[Ha,if_neg (by omega)]
 | succ n ih=>
  intro j d h
  rw[Ha,if_pos (by omega)]
  split
  ·rw[ih _ _ (by omega),size_swp]
  ·rfl
theorem W0 {a b i k:Nat}: ∀(j:Nat) (d:Array Ed),j<d.size→d.size<1152921504606846976→
  ∃t,Loop (Cf CC a b i k) ((j:Int),eA d)=some (t,eA (shiftDown av j d))
 | 0,d,hj,hs=>⟨(0:Nat),bZ (by
   simp (disch:=omega) only[Cf,Ce,un,az,if_neg]
   rfl)⟩
 | j+1,d,hj,hs=>by
  obtain ⟨t,ih⟩:=W0 (a:=a) (b:=b) (i:=i) (k:=k) j (swp d (j+1) j) (by rw[size_swp];omega) (by rw[size_swp];omega)
  rw[WV]
  have e:Cf CC a b i k (((j+1:Nat):Int),eA d)=if bQ d[j+1]! d[j]! <0 then some (.inl ((j:Int),eA (swp d (j+1) j))) else some (.inr (((j+1:Nat):Int),eA d)):=by
   simp (disch:=omega) only[Cf,Ce,un,az,dB,gr,if_pos,if_neg,wrap64,dO,gg,Int.toNat_natCast,Option.bind_some,gb,gf,Ed.dr,Ed.dt,Ed.dv,Ed.re,gd,iw,Array.size_setIfInBounds,gH,V.bU,V.toInt_int,cond_true,cond_false,sQ]
   rfl
  by_cases h2:bQ d[j+1]! d[j]! <0
  ·rw[if_pos h2] at e⊢
   exact ⟨t,(ee e).trans ih⟩
  ·rw[if_neg h2] at e⊢
   exact ⟨_,bZ e⟩
theorem aie {a b i k:Nat}: ∀(n j:Nat) (d:Array Ed),b-j=n→1≤j→j≤b→b≤d.size→d.size<1152921504606846976→
  ∃t,Loop (Ch CC a b i k) ((j:Int),eA d)=some (t,eA (shiftUp av b j d)):=by
 intro n
 induction n with
 | zero=>
  intro j d hn h1 hj hb hs
  rw[Ha,if_neg (by omega)]
  exact ⟨(j:Int),bZ (by
   simp (disch:=omega) only[Ch,Cg,un,az,if_neg])⟩
 | succ n ih=>
  intro j d hn h1 hj hb hs
  obtain ⟨t,h⟩:=ih (j+1) (swp d j (j-1)) (by omega) (by omega) (by omega) (by rw[size_swp];omega) (by rw[size_swp];omega)
  rw[Ha,if_pos (by omega)]
  have e:Ch CC a b i k ((j:Int),eA d)=if bQ d[j]! d[j-1]! <0 then some (.inl (((j+1:Nat):Int),eA (swp d j (j-1)))) else some (.inr ((j:Int),eA d)):=by
   simp (disch:=omega) only[Ch,Cg,un,jH,az,dB,gr,if_pos,if_neg,wrap64,dO,gg,Int.toNat_natCast,Option.bind_some,gb,gf,Ed.dr,Ed.dt,Ed.dv,Ed.re,gd,iw,Array.size_setIfInBounds,gH,V.bU,V.toInt_int,cond_true,cond_false]
   rfl
  by_cases h2:bQ d[j]! d[j-1]! <0
  ·rw[if_pos h2] at e⊢
   exact ⟨t,(ee e).trans h⟩
  ·rw[if_neg h2] at e⊢
   exact ⟨_,bZ e⟩
theorem aif {d:Array Ed} {b:Nat}: ∀(n i:Nat),b-i=n→i≤b→i≤scanSorted av d b i∧scanSorted av d b i≤b:=by
 intro n
 induction n with
 | zero=>intro i hn hi;rw[G9,if_neg (by omega)];omega
 | succ n ih=>
  intro i hn hi
  rw[G9,if_pos (by omega)]
  obtain ⟨h1,h2⟩:=ih (i+1) (by omega) (by omega)
  split<;>omega
theorem aih {a b:Nat}: ∀(s i:Nat) (d:Array Ed),s≤5→a<i→i≤b→b≤d.size→d.size<1152921504606846976→
  (Loop (sV CC a b) ((i:Int),((5-s:Nat):Int),eA d)=some (.inl ((partialIns av a b s i d).2,eA (partialIns av a b s i d).1)))∨
  (∃x y z,(partialIns av a b s i d).2=false∧Loop (sV CC a b) ((i:Int),((5-s:Nat):Int),eA d)=some (.inr (x,y,z,eA (partialIns av a b s i d).1))):=by
 intro s
 induction s with
 | zero=>
  intro i d hs5 hi M3 hb hs
  refine .inr ⟨(i:Int),((5:Nat):Int),false,rfl,bZ ?_⟩
  simp (disch:=omega) only[sV,Ci,un,rq,cond_false]
  rfl
 | succ s ih=>
  intro i d hs5 hi M3 hb hs
  obtain ⟨t1,e1⟩:=aic (a:=a) (j:=5-(s+1)) hb hs _ i rfl (by omega) M3
  obtain ⟨q1,q2⟩:=aif (d:=d) _ i rfl M3
  rw[partialIns_succ]
  have f:sV CC a b ((i:Int),((5-(s+1):Nat):Int),eA d)=sV CC a b ((i:Int),((5-(s+1):Nat):Int),eA d):=rfl
  conv at f=>rhs;simp only[sV,Ci,un];rw[az,if_pos (by omega),e1];simp only[Option.bind_some,un]
  generalize scanSorted av d b i=k at*
  by_cases h1:k=b
  ·rw[if_pos h1]
   left
   refine bZ (f.trans ?_)
   rw[nd,if_pos (by omega)]
  ·rw[if_neg h1]
   by_cases h2:b-a<50
   ·rw[if_pos h2]
    left
    refine bZ (f.trans ?_)
    rw[nd,if_neg (by omega),wrap64 (by omega) (by omega),az,if_pos (by omega)]
   ·rw[if_neg h2]
    have z1:(swp d k (k-1)).size=d.size:=size_swp ..
    have z2:(fixDown av a k (swp d k (k-1))).size=d.size:=by
     unfold fixDown
     split
     ·rw[WZ,z1]
     ·exact z1
    have z3:(fixUp av b k (fixDown av a k (swp d k (k-1)))).size=d.size:=by
     unfold fixUp
     split
     ·rw[aid _ _ _ rfl,z2]
     ·exact z2
    obtain ⟨t2,e2⟩:=W0 (a:=a) (b:=b) (i:=k) (k:=5-(s+1)) (k-1) (swp d k (k-1)) (by omega) (by omega)
    obtain ⟨t4,e4⟩:=aie (a:=a) (b:=b) (i:=k) (k:=5-(s+1)) _ (k+1) (fixDown av a k (swp d k (k-1))) rfl (by omega) (by omega) (by omega) (by omega)
    have e5:sV CC a b ((i:Int),((5-(s+1):Nat):Int),eA d)=some (.inl ((k:Int),((5-s:Nat):Int),eA (fixUp av b k (fixDown av a k (swp d k (k-1)))))):=by
     refine f.trans ?_
     rw[nd,if_neg (by omega),wrap64 (by omega) (by omega),az,if_neg (by omega)]
     simp (disch:=omega) only[az,dB,if_pos,gb,gf,Int.toNat_natCast,Option.bind_some,Ed.dr,Ed.dt,Ed.dv,Ed.re,gd,iw,Array.size_setIfInBounds,jH,dO,mD,wrap64,xM,G8]
     rw[show 5-(s+1)+1=5-s by omega]
     unfold fixDown at e4⊢
     unfold fixUp
     have c1:(((k-a:Nat):Int)≥2)=(k-a≥2):=propext (by omega)
     have c2:(((b-k:Nat):Int)≥2)=(b-k≥2):=propext (by omega)
     simp only[c1,c2]
     by_cases g1:k-a≥2
     ·by_cases g2:b-k≥2
      ·simp only[g1,g2,if_true,e2,Option.bind_some,un] at e4⊢
       rw[e4]
       rfl
      ·simp only[g1,g2,if_true,if_false,e2,Option.bind_some,un]
     ·by_cases g2:b-k≥2
      ·simp only[g1,g2,if_true,if_false] at e4⊢
       rw[e4]
       rfl
      ·exact absurd (show b-k≥2 by omega) g2
    rw[ee e5]
    exact ih k _ (by omega) (by omega) (by omega) (by omega) (by omega)
theorem W3 {a b:Nat} {d:Array Ed} (fU:a<b) (hb:b≤d.size) (hs:d.size<1152921504606846976):
  CC JU [.int .i64 (a:Int),.int .i64 (b:Int),.list aq (eA d)]=
   some [.bool (partialInsertionSort av d a b).2,.list aq (eA (partialInsertionSort av d a b).1)]:=by
 refine ah4 ?_
 unfold WU
 simp (disch:=omega) only[dO,wrap64]
 rcases aih (a:=a) (b:=b) 5 (a+1) d (Nat.le_refl _) (by omega) (by omega) hb hs with h|⟨x,y,z,h0,h⟩
 ·rw[show ((5-5:Nat):Int)=0 from rfl] at h
  rw[h]
  rfl
 ·rw[show ((5-5:Nat):Int)=0 from rfl] at h
  rw[h]
  unfold partialInsertionSort
  rw[h0]
  rfl
end Go.AM.SL
set_option maxRecDepth 100000
namespace Go.AM
open Go.Proofs
noncomputable abbrev sW:Code:=cI Tryd.prog (ar.aW 173)
noncomputable def Ck (C:ae) (data:List V) (i j k':Int) (t36:Bool) (gW:Int) {β:Type} (kr:(Int × Int × Int × Int)→Option β):Option β:=
 bif t36 then
  (C z0 [.list aq data,.int .i64 i,.int .i64 gW]).bind fun r1=>
  (C z0 [.list aq data,.int .i64 j,.int .i64 ((V.nth (r1.drop 1) 0).toInt)]).bind fun r2=>
  (C z0 [.list aq data,.int .i64 k',.int .i64 ((V.nth (r2.drop 1) 0).toInt)]).bind fun r3=>
  kr ((V.nth r1 0).toInt,(V.nth r2 0).toInt,(V.nth r3 0).toInt,(V.nth (r3.drop 1) 0).toInt)
 else
  kr (i,j,k',gW)
noncomputable def Cl (C:ae) (data:List V) (l i j k':Int) (t34:Bool) (gW:Int) {β:Type} (kr:(Int × Int)→Option β):Option β:=
 bif t34 then
  Ck C data i j k' (decide ((l:Int)≥50)) gW (un fun (fy:Int)=>un fun (j_5:Int)=>un fun (k_6:Int) (aii:Int)=>
   (C Fo [.list aq data,.int .i64 fy,.int .i64 j_5,.int .i64 k_6,.int .i64 aii]).bind fun r8=>
   kr ((V.nth r8 0).toInt,(V.nth (r8.drop 1) 0).toInt))
 else
  kr (j,gW)
noncomputable def W4 (C:ae):cy:=fun β n ds k=>
 bif Nat.beq n 591 then mi Lq [[1,0,0,0,0]] (@Ck C) ds k else
 bif Nat.beq n 559 then mi Lr [[0,0]] (@Cl C) ds k else
 none
abbrev W5 (C:ae) (b:ct):Prop:=cu Tryd.prog ar C (W4 C) 173 (cP Tryd.prog (ar.aW 173)) (ar.sin 173).a8.length b
theorem aij (C:ae):W5 C (.cond 36 (ak [1,1,1,1,1,1,0,1,0,0,1,0] sW) (ak [1,1,1,1,1,1,0,1,0,0,1,1] sW)):=
 ng Lq [[1,0,0,0,0]] (@Ck C) (by kernel_rfl) (aS (bs:=[]) (by kernel_rfl) ao) (aS (bs:=[]) (by kernel_rfl) ao) (fun ds=>by kernel_rfl) (fun i β k=>by kernel_rfl) (fun β ds k=>by kernel_rfl)
theorem aik (C:ae):W5 C (.cond 34 (ak [1,1,1,1,1,1,0,1,0] sW) (ak [1,1,1,1,1,1,0,1,1] sW)):=
 ng Lr [[0,0]] (@Cl C) (by kernel_rfl) (aS (bs:=[.cond 36 (ak [1,1,1,1,1,1,0,1,0,0,1,0] sW) (ak [1,1,1,1,1,1,0,1,0,0,1,1] sW)]) (by kernel_rfl) (bd (aij C) ao)) (aS (bs:=[]) (by kernel_rfl) ao) (fun ds=>by kernel_rfl) (fun i β k=>by kernel_rfl) (fun β ds k=>by kernel_rfl)
noncomputable def M4 (C:ae) (data:List V) (a b':Int):Option (List V):=
 Cl C data (IntKind.wrap .i64 (b'-a)) (IntKind.wrap .i64 (a+(IntKind.wrap .i64 (1*(IntKind.wrap .i64 (Int.tdiv (IntKind.wrap .i64 (b'-a)) 4)))))) (IntKind.wrap .i64 (a+(IntKind.wrap .i64 (2*(IntKind.wrap .i64 (Int.tdiv (IntKind.wrap .i64 (b'-a)) 4)))))) (IntKind.wrap .i64 (a+(IntKind.wrap .i64 (3*(IntKind.wrap .i64 (Int.tdiv (IntKind.wrap .i64 (b'-a)) 4)))))) (decide (((IntKind.wrap .i64 (b'-a)):Int)≥8)) 0 (un fun (M5:Int) (W6:Int)=>
  bif (W6:Int)==0 then
   some [.int .i64 M5,.int .i64 1]
  else
   bif (W6:Int)==12 then
   some [.int .i64 M5,.int .i64 2]
   else
   some [.int .i64 M5,.int .i64 0])
theorem W7 {data:List V} {a b':Int} {r:Option (List V)} (h:M4 CC data a b'=r):CC Fm [.list aq data,.int .i64 a,.int .i64 b']=r:=
 bn (key:=173) (L:=W4 CC) (bs:=[.cond 34 (ak [1,1,1,1,1,1,0,1,0] sW) (ak [1,1,1,1,1,1,0,1,1] sW)]) (by kernel_rfl) (bd (aik CC) ao) (Eq.trans (by kernel_rfl) h)
noncomputable def W8 (C:ae) (data:List V) (a b' c gW:Int):Option (List V):=
 (C z5 [.list aq data,.int .i64 a,.int .i64 b',.int .i64 gW]).bind fun r1=>
 (C z5 [.list aq data,.int .i64 ((V.nth (r1.drop 1) 0).toInt),.int .i64 c,.int .i64 ((V.nth (r1.drop 2) 0).toInt)]).bind fun r2=>
 (C z5 [.list aq data,.int .i64 ((V.nth r1 0).toInt),.int .i64 ((V.nth r2 0).toInt),.int .i64 ((V.nth (r2.drop 2) 0).toInt)]).bind fun r3=>
 some [.int .i64 ((V.nth (r3.drop 1) 0).toInt),.int .i64 ((V.nth (r3.drop 2) 0).toInt)]
theorem ail {data:List V} {a b' c gW:Int} {r:Option (List V)} (h:W8 CC data a b' c gW=r):CC Fo [.list aq data,.int .i64 a,.int .i64 b',.int .i64 c,.int .i64 gW]=r:=
 bn (key:=175) (L:=db) (bs:=[]) (by kernel_rfl) ao (Eq.trans (by kernel_rfl) h)
noncomputable def M6 (C:ae) (data:List V) (a b' gW:Int):Option (List V):=
 (idx data b').bind fun x1=>
 (idx data a).bind fun x2=>
 (C bw [.int .i64 ((x1.cell 0).toInt),.int .i64 ((x1.cell 1).toInt),.int .i64 ((x1.cell 2).toInt),.int .i64 ((x2.cell 0).toInt),.int .i64 ((x2.cell 1).toInt),.int .i64 ((x2.cell 2).toInt)]).bind fun r3=>
 bif decide ((((V.nth r3 0).toInt):Int)<0) then
  some [.int .i64 b',.int .i64 a,.int .i64 (IntKind.wrap .i64 (gW+1))]
 else
  some [.int .i64 a,.int .i64 b',.int .i64 gW]
theorem W9 {data:List V} {a b' gW:Int} {r:Option (List V)} (h:M6 CC data a b' gW=r):CC z5 [.list aq data,.int .i64 a,.int .i64 b',.int .i64 gW]=r:=
 bn (key:=176) (L:=db) (bs:=[]) (by kernel_rfl) ao (Eq.trans (by kernel_rfl) h)
noncomputable def Xa (C:ae) (data:List V) (a gW:Int):Option (List V):=
 (C Fo [.list aq data,.int .i64 (IntKind.wrap .i64 (a-1)),.int .i64 a,.int .i64 (IntKind.wrap .i64 (a+1)),.int .i64 gW]).bind fun r1=>
 some [.int .i64 ((V.nth r1 0).toInt),.int .i64 ((V.nth (r1.drop 1) 0).toInt)]
theorem aim {data:List V} {a gW:Int} {r:Option (List V)} (h:Xa CC data a gW=r):CC z0 [.list aq data,.int .i64 a,.int .i64 gW]=r:=
 bn (key:=174) (L:=db) (bs:=[]) (by kernel_rfl) ao (Eq.trans (by kernel_rfl) h)
noncomputable abbrev xN:Code:=cI Tryd.prog (ar.aW 172)
noncomputable def Hd (C:ae) (a length xO jJ other:Int) (t45:Bool) (af:List V) (Cm:Int) {β:Type} (kr:(Int)→Option β):Option β:=
 bif t45 then
  kr (IntKind.wrap .i64 (other-length))
 else
  kr other
noncomputable def Cn (C:ae) (a length xO jJ:Int) (af:List V) (Cm:Int) {β:Type} (kn:(Int × (List V) × Int)→Option β) (kr:(Int × Bool × (List V) × Int)→Option β):Option β:=
 bif decide ((jJ:Int)≤(IntKind.wrap .i64 ((IntKind.wrap .i64 (a+(IntKind.wrap .i64 (2*(IntKind.wrap .i64 (Int.tdiv length 4))))))+1))) then
  (C Fj [.int .u64 Cm]).bind fun r2=>
  Hd C a length xO jJ (IntKind.wrap .i64 (IntKind.wrap .u64 ((BitVec.ofInt (IntKind.bits .u64) ((V.nth r2 0).toInt)&&&BitVec.ofInt (IntKind.bits .u64) (IntKind.wrap .u64 (xO-1))).toNat))) (decide (((IntKind.wrap .i64 (IntKind.wrap .u64 ((BitVec.ofInt (IntKind.bits .u64) ((V.nth r2 0).toInt)&&&BitVec.ofInt (IntKind.bits .u64) (IntKind.wrap .u64 (xO-1))).toNat))):Int)≥length)) af ((V.nth (r2.drop 1) 0).toInt) (fun (vg:Int)=>
   bif (decide (0≤(IntKind.wrap .i64 (a+vg))))&&(decide ((IntKind.wrap .i64 (a+vg))<(af.length:Int))) then
   (af[(IntKind.wrap .i64 (a+vg):Int).toNat]?).bind fun x4=>
   bif (decide (0≤jJ))&&(decide (jJ<(af.length:Int))) then
    (af[(jJ:Int).toNat]?).bind fun x5=>
    bif (decide (0≤jJ))&&(decide (jJ<(af.length:Int))) then
    (af[(jJ:Int).toNat]?).bind fun x6=>
    bif (decide (0≤(IntKind.wrap .i64 (a+vg))))&&(decide ((IntKind.wrap .i64 (a+vg))<((af.set ((jJ:Int).toNat) (.agg [.int .i64 ((x4.cell 0).toInt),.int .i64 ((x4.cell 1).toInt),.int .i64 ((x4.cell 2).toInt)])).length:Int))) then
     ((af.set ((jJ:Int).toNat) (.agg [.int .i64 ((x4.cell 0).toInt),.int .i64 ((x4.cell 1).toInt),.int .i64 ((x4.cell 2).toInt)]))[(IntKind.wrap .i64 (a+vg):Int).toNat]?).bind fun x7=>
     kn (IntKind.wrap .i64 (jJ+1),(af.set ((jJ:Int).toNat) (.agg [.int .i64 ((x4.cell 0).toInt),.int .i64 ((x4.cell 1).toInt),.int .i64 ((x4.cell 2).toInt)])).set ((IntKind.wrap .i64 (a+vg):Int).toNat) (.agg [.int .i64 ((x5.cell 0).toInt),.int .i64 ((x5.cell 1).toInt),.int .i64 ((x5.cell 2).toInt)]),(V.nth (r2.drop 1) 0).toInt)
    else none
    else none
   else none
   else none)
 else
  kr (jJ,decide ((jJ:Int)≤(IntKind.wrap .i64 ((IntKind.wrap .i64 (a+(IntKind.wrap .i64 (2*(IntKind.wrap .i64 (Int.tdiv length 4))))))+1))),af,Cm)
noncomputable def He (C:ae) (a length xO:Int):(Int × (List V) × Int)→Option ((Int × (List V) × Int) ⊕ (Int × Bool × (List V) × Int)):=un fun jJ=>un fun af Cm=>Cn C a length xO jJ af Cm (fun y=>some (.inl y)) (fun r=>some (.inr r))
noncomputable def Xb (C:ae):cy:=fun β n ds k=>
 bif Nat.beq n 735 then mi Lo [[1,2,3,4,0,7,8]] (@Hd C) ds k else
 bif Nat.beq n 81 then bu Lp [false,false,false,true,true,true] [[1,2,3,0,0,0,0]] (@Cn C) ds k else
 none
abbrev Xc (C:ae) (b:ct):Prop:=cu Tryd.prog ar C (Xb C) 172 (cP Tryd.prog (ar.aW 172)) (ar.sin 172).a8.length b
theorem ain (C:ae):Xc C (.cond 45 (ak [1,1,0,1,1,1,0,0,1,0,0,1,0,1,0] xN) (ak [1,1,0,1,1,1,0,0,1,0,0,1,0,1,1] xN)):=
 ng Lo [[1,2,3,4,0,7,8]] (@Hd C) (by kernel_rfl) (aS (bs:=[]) (by kernel_rfl) ao) (aS (bs:=[]) (by kernel_rfl) ao) (fun ds=>by kernel_rfl) (fun i β k=>by kernel_rfl) (fun β ds k=>by kernel_rfl)
theorem aio (C:ae):Xc C (.loop (ak [1,1,0,1,1,1,0,0] xN)):=
 bz Lp [false,false,false,true,true,true] [[1,2,3,0,0,0,0]] (@Cn C) (by kernel_rfl) (aS (bs:=[.cond 45 (ak [1,1,0,1,1,1,0,0,1,0,0,1,0,1,0] xN) (ak [1,1,0,1,1,1,0,0,1,0,0,1,0,1,1] xN)]) (by kernel_rfl) (bd (ain C) ao)) (fun ds=>by kernel_rfl) (fun i x=>by kernel_rfl) (fun i x β k=>by kernel_rfl) (fun β ds k=>by kernel_rfl)
noncomputable def Xd (C:ae) (a b':Int) (af:List V):Option (List V):=
 bif decide (((IntKind.wrap .i64 (b'-a)):Int)≥8) then
  (C Fi [.int .i64 (IntKind.wrap .i64 (b'-a))]).bind fun r1=>
  (Loop (He C a (IntKind.wrap .i64 (b'-a)) ((V.nth r1 0).toInt)) (IntKind.wrap .i64 ((IntKind.wrap .i64 (a+(IntKind.wrap .i64 (2*(IntKind.wrap .i64 (Int.tdiv (IntKind.wrap .i64 (b'-a)) 4))))))-1),af,IntKind.wrap .u64 (IntKind.wrap .i64 (b'-a)))).bind (un fun (alm:Int)=>un fun (q0:Bool)=>un fun (oS:List V) (aln:Int)=>
   some [.list aq oS])
 else
  some [.list aq af]
theorem aip {a b':Int} {af:List V} {r:Option (List V)} (h:Xd CC a b' af=r):CC JS [.int .i64 a,.int .i64 b',.list aq af]=r:=
 bn (key:=172) (L:=Xb CC) (bs:=[.loop (ak [1,1,0,1,1,1,0,0] xN)]) (by kernel_rfl) (bd (aio CC) ao) (Eq.trans (by kernel_rfl) h)
noncomputable def Xe (C:ae) (iS:Int):Option (List V):=
 some [.int .u64 (IntKind.wrap .u64 ((BitVec.ofInt (IntKind.bits .u64) (IntKind.wrap .u64 ((BitVec.ofInt (IntKind.bits .u64) (IntKind.wrap .u64 ((BitVec.ofInt (IntKind.bits .u64) iS ^^^ BitVec.ofInt (IntKind.bits .u64) (IntKind.wrap .u64 (iS*2^(min (13:Int).toNat (IntKind.bits .u64))))).toNat)) ^^^ BitVec.ofInt (IntKind.bits .u64) (Int.fdiv (IntKind.wrap .u64 ((BitVec.ofInt (IntKind.bits .u64) iS ^^^ BitVec.ofInt (IntKind.bits .u64) (IntKind.wrap .u64 (iS*2^(min (13:Int).toNat (IntKind.bits .u64))))).toNat)) (2^(min (7:Int).toNat (IntKind.bits .u64))))).toNat)) ^^^ BitVec.ofInt (IntKind.bits .u64) (IntKind.wrap .u64 ((IntKind.wrap .u64 ((BitVec.ofInt (IntKind.bits .u64) (IntKind.wrap .u64 ((BitVec.ofInt (IntKind.bits .u64) iS ^^^ BitVec.ofInt (IntKind.bits .u64) (IntKind.wrap .u64 (iS*2^(min (13:Int).toNat (IntKind.bits .u64))))).toNat)) ^^^ BitVec.ofInt (IntKind.bits .u64) (Int.fdiv (IntKind.wrap .u64 ((BitVec.ofInt (IntKind.bits .u64) iS ^^^ BitVec.ofInt (IntKind.bits .u64) (IntKind.wrap .u64 (iS*2^(min (13:Int).toNat (IntKind.bits .u64))))).toNat)) (2^(min (7:Int).toNat (IntKind.bits .u64))))).toNat))*2^(min (17:Int).toNat (IntKind.bits .u64))))).toNat)),.int .u64 (IntKind.wrap .u64 ((BitVec.ofInt (IntKind.bits .u64) (IntKind.wrap .u64 ((BitVec.ofInt (IntKind.bits .u64) (IntKind.wrap .u64 ((BitVec.ofInt (IntKind.bits .u64) iS ^^^ BitVec.ofInt (IntKind.bits .u64) (IntKind.wrap .u64 (iS*2^(min (13:Int).toNat (IntKind.bits .u64))))).toNat)) ^^^ BitVec.ofInt (IntKind.bits .u64) (Int.fdiv (IntKind.wrap .u64 ((BitVec.ofInt (IntKind.bits .u64) iS ^^^ BitVec.ofInt (IntKind.bits .u64) (IntKind.wrap .u64 (iS*2^(min (13:Int).toNat (IntKind.bits .u64))))).toNat)) (2^(min (7:Int).toNat (IntKind.bits .u64))))).toNat)) ^^^ BitVec.ofInt (IntKind.bits .u64) (IntKind.wrap .u64 ((IntKind.wrap .u64 ((BitVec.ofInt (IntKind.bits .u64) (IntKind.wrap .u64 ((BitVec.ofInt (IntKind.bits .u64) iS ^^^ BitVec.ofInt (IntKind.bits .u64) (IntKind.wrap .u64 (iS*2^(min (13:Int).toNat (IntKind.bits .u64))))).toNat)) ^^^ BitVec.ofInt (IntKind.bits .u64) (Int.fdiv (IntKind.wrap .u64 ((BitVec.ofInt (IntKind.bits .u64) iS ^^^ BitVec.ofInt (IntKind.bits .u64) (IntKind.wrap .u64 (iS*2^(min (13:Int).toNat (IntKind.bits .u64))))).toNat)) (2^(min (7:Int).toNat (IntKind.bits .u64))))).toNat))*2^(min (17:Int).toNat (IntKind.bits .u64))))).toNat))]
theorem aiq {iS:Int} {r:Option (List V)} (h:Xe CC iS=r):CC Fj [.int .u64 iS]=r:=
 bn (key:=143) (L:=db) (bs:=[]) (by kernel_rfl) ao (Eq.trans (by kernel_rfl) h)
noncomputable def Xf (C:ae) (length:Int):Option (List V):=
 (C zS [.int .u64 (IntKind.wrap .u64 length)]).bind fun r1=>
 bif decide (0≤((V.nth r1 0).toInt)) then
  some [.int .u64 (IntKind.wrap .u64 (1*2^(min ((V.nth r1 0).toInt).toNat (IntKind.bits .u64))))]
 else none
theorem air {length:Int} {r:Option (List V)} (h:Xf CC length=r):CC Fi [.int .i64 length]=r:=
 bn (key:=142) (L:=db) (bs:=[]) (by kernel_rfl) ao (Eq.trans (by kernel_rfl) h)
noncomputable def Xg (C:ae) (x:Int):Option (List V):=
 (C Fe [.int .u64 x]).bind fun r1=>
 some [.int .i64 ((V.nth r1 0).toInt)]
theorem ais {x:Int} {r:Option (List V)} (h:Xg CC x=r):CC zS [.int .u64 x]=r:=
 bn (key:=111) (L:=db) (bs:=[]) (by kernel_rfl) ao (Eq.trans (by kernel_rfl) h)
noncomputable abbrev sX:Code:=cI Tryd.prog (ar.aW 134)
noncomputable def vh (C:ae) (x n:Int) (t4:Bool) {β:Type} (kr:(Int × Int)→Option β):Option β:=
 bif t4 then
  kr (Int.fdiv x (2^(min (32:Int).toNat (IntKind.bits .u64))),32)
 else
  kr (x,n)
noncomputable def vi (C:ae) (x n:Int) (t8:Bool) {β:Type} (kr:(Int × Int)→Option β):Option β:=
 bif t8 then
  kr (Int.fdiv x (2^(min (16:Int).toNat (IntKind.bits .u64))),IntKind.wrap .i64 (n+16))
 else
  kr (x,n)
noncomputable def Xh (C:ae):cy:=fun β n ds k=>
 bif Nat.beq n 79 then mi Lc [[0,0]] (@vh C) ds k else
 bif Nat.beq n 143 then mi Ld [[0,0]] (@vi C) ds k else
 none
abbrev Xi (C:ae) (b:ct):Prop:=cu Tryd.prog ar C (Xh C) 134 (cP Tryd.prog (ar.aW 134)) (ar.sin 134).a8.length b
theorem ait (C:ae):Xi C (.cond 4 (ak [1,0,1,0] sX) (ak [1,0,1,1] sX)):=
 ng Lc [[0,0]] (@vh C) (by kernel_rfl) (aS (bs:=[]) (by kernel_rfl) ao) (aS (bs:=[]) (by kernel_rfl) ao) (fun ds=>by kernel_rfl) (fun i β k=>by kernel_rfl) (fun β ds k=>by kernel_rfl)
theorem aiu (C:ae):Xi C (.cond 8 (ak [1,1,0,1,0] sX) (ak [1,1,0,1,1] sX)):=
 ng Ld [[0,0]] (@vi C) (by kernel_rfl) (aS (bs:=[]) (by kernel_rfl) ao) (aS (bs:=[]) (by kernel_rfl) ao) (fun ds=>by kernel_rfl) (fun i β k=>by kernel_rfl) (fun β ds k=>by kernel_rfl)
noncomputable def aiv (C:ae) (x:Int):Option (List V):=
 vh C x 0 (decide ((x:Int)≥4294967296)) (un fun (sY:Int) (cw:Int)=>
  vi C sY cw (decide ((sY:Int)≥65536)) (un fun (Co:Int) (cz:Int)=>
   bif decide ((Co:Int)≥256) then
    (bif decide (0≤(IntKind.wrap .u8 (Int.fdiv Co (2^(min (8:Int).toNat (IntKind.bits .u64)))))) then (([0,1,2,2,3,3,3,3,4,4,4,4,4,4,4,4,5,5,5,5,5,5,5,5,5,5,5,5,5,5,5,5,6,6,6,6,6,6,6,6,6,6,6,6,6,6,6,6,6,6,6,6,6,6,6,6,6,6,6,6,6,6,6,6,7,7,7,7,7,7,7,7,7,7,7,7,7,7,7,7,7,7,7,7,7,7,7,7,7,7,7,7,7,7,7,7,7,7,7,7,7,7,7,7,7,7,7,7,7,7,7,7,7,7,7,7,7,7,7,7,7,7,7,7,7,7,7,7,8,8,8,8,8,8,8,8,8,8,8,8,8,8,8,8,8,8,8,8,8,8,8,8,8,8,8,8,8,8,8,8,8,8,8,8,8,8,8,8,8,8,8,8,8,8,8,8,8,8,8,8,8,8,8,8,8,8,8,8,8,8,8,8,8,8,8,8,8,8,8,8,8,8,8,8,8,8,8,8,8,8,8,8,8,8,8,8,8,8,8,8,8,8,8,8,8,8,8,8,8,8,8,8,8,8,8,8,8,8,8,8,8,8,8,8,8,8,8,8,8,8,8,8,8,8,8,8]:List UInt8)[(IntKind.wrap .u8 (Int.fdiv Co (2^(min (8:Int).toNat (IntKind.bits .u64)))):Int).toNat]?).map fun b=>V.int .u8 b.toNat else none).bind fun x5=>
    some [.int .i64 (IntKind.wrap .i64 ((IntKind.wrap .i64 (cz+8))+(IntKind.wrap .i64 x5.toInt)))]
   else
    (bif decide (0≤(IntKind.wrap .u8 Co)) then (([0,1,2,2,3,3,3,3,4,4,4,4,4,4,4,4,5,5,5,5,5,5,5,5,5,5,5,5,5,5,5,5,6,6,6,6,6,6,6,6,6,6,6,6,6,6,6,6,6,6,6,6,6,6,6,6,6,6,6,6,6,6,6,6,7,7,7,7,7,7,7,7,7,7,7,7,7,7,7,7,7,7,7,7,7,7,7,7,7,7,7,7,7,7,7,7,7,7,7,7,7,7,7,7,7,7,7,7,7,7,7,7,7,7,7,7,7,7,7,7,7,7,7,7,7,7,7,7,8,8,8,8,8,8,8,8,8,8,8,8,8,8,8,8,8,8,8,8,8,8,8,8,8,8,8,8,8,8,8,8,8,8,8,8,8,8,8,8,8,8,8,8,8,8,8,8,8,8,8,8,8,8,8,8,8,8,8,8,8,8,8,8,8,8,8,8,8,8,8,8,8,8,8,8,8,8,8,8,8,8,8,8,8,8,8,8,8,8,8,8,8,8,8,8,8,8,8,8,8,8,8,8,8,8,8,8,8,8,8,8,8,8,8,8,8,8,8,8,8,8,8,8,8,8,8,8]:List UInt8)[(IntKind.wrap .u8 Co:Int).toNat]?).map fun b=>V.int .u8 b.toNat else none).bind fun x6=>
    some [.int .i64 (IntKind.wrap .i64 (cz+(IntKind.wrap .i64 x6.toInt)))]))
theorem Xj {x:Int} {r:Option (List V)} (h:aiv CC x=r):CC Fe [.int .u64 x]=r:=
 bn (key:=134) (L:=Xh CC) (bs:=[.cond 4 (ak [1,0,1,0] sX) (ak [1,0,1,1] sX),.cond 8 (ak [1,1,0,1,0] sX) (ak [1,1,0,1,1] sX)]) (by kernel_rfl) (bd (ait CC) (bd (aiu CC) ao)) (Eq.trans (by kernel_rfl) h)
noncomputable abbrev lO:Code:=cI Tryd.prog (ar.aW 169)
noncomputable def xP (C:ae) (a b' jm:Int) (e6 fp:Bool) (length:Int) (t39:Bool) (af:List V) {β:Type} (kr:(Int × (List V))→Option β):Option β:=
 bif t39 then
  (C JS [.int .i64 a,.int .i64 b',.list aq af]).bind fun r3=>
  kr (IntKind.wrap .i64 (jm-1),(V.nth r3 0).toList)
 else
  kr (jm,af)
noncomputable def xQ (C:ae) (a b' jm:Int) (e6 fp:Bool) (length pivot hint:Int) (t56:Bool) (af:List V) {β:Type} (kr:(Int × Int × (List V))→Option β):Option β:=
 bif t56 then
  (C JT [.int .i64 a,.int .i64 b',.list aq af]).bind fun r7=>
  kr (IntKind.wrap .i64 ((IntKind.wrap .i64 (b'-1))-(IntKind.wrap .i64 (pivot-a))),1,(V.nth r7 0).toList)
 else
  kr (pivot,hint,af)
noncomputable def mH (C:ae) (a b' jm:Int) (e6 fp:Bool) (length pivot:Int) (t75:Bool) (af:List V) {β:Type} (kr:((Bool × (List V)) ⊕ (List V))→Option β):Option β:=
 bif t75 then
  (C JU [.int .i64 a,.int .i64 b',.list aq af]).bind fun Hf=>
  bif (V.nth Hf 0).toBool then
  kr (.inl ((V.nth Hf 0).toBool,(V.nth (Hf.drop 1) 0).toList))
  else
  kr (.inr ((V.nth (Hf.drop 1) 0).toList))
 else
  kr (.inr af)
noncomputable def pR (C:ae) (a b' jm:Int) (e6 fp:Bool) (af:List V) {β:Type} (kn:(Int × Int × Int × Bool × Bool × (List V))→Option β) (kr:(List V)→Option β):Option β:=
 bif decide (((IntKind.wrap .i64 (b'-a)):Int)≤12) then
  (C Fk [.int .i64 a,.int .i64 b',.list aq af]).bind fun r1=>
  kr ((V.nth r1 0).toList)
 else
  bif (jm:Int)==0 then
  (C Fl [.int .i64 a,.int .i64 b',.list aq af]).bind fun r2=>
  kr ((V.nth r2 0).toList)
  else
  xP C a b' jm e6 fp (IntKind.wrap .i64 (b'-a)) (!e6) af (un fun (cM:Int) (Cp:List V)=>
   (C Fm [.list aq Cp,.int .i64 a,.int .i64 b']).bind fun r6=>
   xQ C a b' cM e6 fp (IntKind.wrap .i64 (b'-a)) ((V.nth r6 0).toInt) ((V.nth (r6.drop 1) 0).toInt) ((((V.nth (r6.drop 1) 0).toInt):Int)==2) Cp (un fun (eb:Int)=>un fun (M7:Int) (oS:List V)=>
    bif e6 then
     bif fp then
     mH C a b' cM e6 fp (IntKind.wrap .i64 (b'-a)) eb ((M7:Int)==1) oS (di (un fun (Bm:Bool) (MU:List V)=>
      kr MU) (fun (vj:List V)=>
      bif decide ((a:Int)>0) then
       bif (decide (0≤(IntKind.wrap .i64 (a-1))))&&(decide ((IntKind.wrap .i64 (a-1))<(vj.length:Int))) then
       (vj[(IntKind.wrap .i64 (a-1):Int).toNat]?).bind fun gh=>
       bif (decide (0≤eb))&&(decide (eb<(vj.length:Int))) then
        (vj[(eb:Int).toNat]?).bind fun gI=>
        (C bw [.int .i64 ((gh.cell 0).toInt),.int .i64 ((gh.cell 1).toInt),.int .i64 ((gh.cell 2).toInt),.int .i64 ((gI.cell 0).toInt),.int .i64 ((gI.cell 1).toInt),.int .i64 ((gI.cell 2).toInt)]).bind fun eZ=>
        bif !(decide ((((V.nth eZ 0).toInt):Int)<0)) then
        (C wQ [.int .i64 a,.int .i64 b',.int .i64 eb,.list aq vj]).bind fun xR=>
        kn ((V.nth xR 0).toInt,b',cM,e6,fp,(V.nth (xR.drop 1) 0).toList)
        else
        (C oD [.int .i64 a,.int .i64 b',.int .i64 eb,.list aq vj]).bind fun fj=>
        bif decide (((IntKind.wrap .i64 (((V.nth fj 0).toInt)-a)):Int)<(IntKind.wrap .i64 (b'-((V.nth fj 0).toInt)))) then
         (C gS [.int .i64 a,.int .i64 ((V.nth fj 0).toInt),.int .i64 cM,.list aq ((V.nth (fj.drop 2) 0).toList)]).bind fun iA=>
         kn (IntKind.wrap .i64 (((V.nth fj 0).toInt)+1),b',cM,decide (((IntKind.wrap .i64 (((V.nth fj 0).toInt)-a)):Int)≥(IntKind.wrap .i64 (Int.tdiv (IntKind.wrap .i64 (b'-a)) 8))),(V.nth (fj.drop 1) 0).toBool,(V.nth iA 0).toList)
        else
         (C gS [.int .i64 (IntKind.wrap .i64 (((V.nth fj 0).toInt)+1)),.int .i64 b',.int .i64 cM,.list aq ((V.nth (fj.drop 2) 0).toList)]).bind fun rA=>
         kn (a,(V.nth fj 0).toInt,cM,decide (((IntKind.wrap .i64 (b'-((V.nth fj 0).toInt))):Int)≥(IntKind.wrap .i64 (Int.tdiv (IntKind.wrap .i64 (b'-a)) 8))),(V.nth (fj.drop 1) 0).toBool,(V.nth rA 0).toList)
       else none
       else none
      else
       (C oD [.int .i64 a,.int .i64 b',.int .i64 eb,.list aq vj]).bind fun ki=>
       bif decide (((IntKind.wrap .i64 (((V.nth ki 0).toInt)-a)):Int)<(IntKind.wrap .i64 (b'-((V.nth ki 0).toInt)))) then
       (C gS [.int .i64 a,.int .i64 ((V.nth ki 0).toInt),.int .i64 cM,.list aq ((V.nth (ki.drop 2) 0).toList)]).bind fun r23=>
       kn (IntKind.wrap .i64 (((V.nth ki 0).toInt)+1),b',cM,decide (((IntKind.wrap .i64 (((V.nth ki 0).toInt)-a)):Int)≥(IntKind.wrap .i64 (Int.tdiv (IntKind.wrap .i64 (b'-a)) 8))),(V.nth (ki.drop 1) 0).toBool,(V.nth r23 0).toList)
       else
       (C gS [.int .i64 (IntKind.wrap .i64 (((V.nth ki 0).toInt)+1)),.int .i64 b',.int .i64 cM,.list aq ((V.nth (ki.drop 2) 0).toList)]).bind fun r24=>
       kn (a,(V.nth ki 0).toInt,cM,decide (((IntKind.wrap .i64 (b'-((V.nth ki 0).toInt))):Int)≥(IntKind.wrap .i64 (Int.tdiv (IntKind.wrap .i64 (b'-a)) 8))),(V.nth (ki.drop 1) 0).toBool,(V.nth r24 0).toList)))
     else
     mH C a b' cM e6 fp (IntKind.wrap .i64 (b'-a)) eb false oS (di (un fun (Mo:Bool) (aiw:List V)=>
      kr aiw) (fun (ru:List V)=>
      bif decide ((a:Int)>0) then
       bif (decide (0≤(IntKind.wrap .i64 (a-1))))&&(decide ((IntKind.wrap .i64 (a-1))<(ru.length:Int))) then
       (ru[(IntKind.wrap .i64 (a-1):Int).toNat]?).bind fun vd=>
       bif (decide (0≤eb))&&(decide (eb<(ru.length:Int))) then
        (ru[(eb:Int).toNat]?).bind fun ve=>
        (C bw [.int .i64 ((vd.cell 0).toInt),.int .i64 ((vd.cell 1).toInt),.int .i64 ((vd.cell 2).toInt),.int .i64 ((ve.cell 0).toInt),.int .i64 ((ve.cell 1).toInt),.int .i64 ((ve.cell 2).toInt)]).bind fun G7=>
        bif !(decide ((((V.nth G7 0).toInt):Int)<0)) then
        (C wQ [.int .i64 a,.int .i64 b',.int .i64 eb,.list aq ru]).bind fun Xk=>
        kn ((V.nth Xk 0).toInt,b',cM,e6,fp,(V.nth (Xk.drop 1) 0).toList)
        else
        (C oD [.int .i64 a,.int .i64 b',.int .i64 eb,.list aq ru]).bind fun nK=>
        bif decide (((IntKind.wrap .i64 (((V.nth nK 0).toInt)-a)):Int)<(IntKind.wrap .i64 (b'-((V.nth nK 0).toInt)))) then
         (C gS [.int .i64 a,.int .i64 ((V.nth nK 0).toInt),.int .i64 cM,.list aq ((V.nth (nK.drop 2) 0).toList)]).bind fun r33=>
         kn (IntKind.wrap .i64 (((V.nth nK 0).toInt)+1),b',cM,decide (((IntKind.wrap .i64 (((V.nth nK 0).toInt)-a)):Int)≥(IntKind.wrap .i64 (Int.tdiv (IntKind.wrap .i64 (b'-a)) 8))),(V.nth (nK.drop 1) 0).toBool,(V.nth r33 0).toList)
        else
         (C gS [.int .i64 (IntKind.wrap .i64 (((V.nth nK 0).toInt)+1)),.int .i64 b',.int .i64 cM,.list aq ((V.nth (nK.drop 2) 0).toList)]).bind fun vk=>
         kn (a,(V.nth nK 0).toInt,cM,decide (((IntKind.wrap .i64 (b'-((V.nth nK 0).toInt))):Int)≥(IntKind.wrap .i64 (Int.tdiv (IntKind.wrap .i64 (b'-a)) 8))),(V.nth (nK.drop 1) 0).toBool,(V.nth vk 0).toList)
       else none
       else none
      else
       (C oD [.int .i64 a,.int .i64 b',.int .i64 eb,.list aq ru]).bind fun nL=>
       bif decide (((IntKind.wrap .i64 (((V.nth nL 0).toInt)-a)):Int)<(IntKind.wrap .i64 (b'-((V.nth nL 0).toInt)))) then
       (C gS [.int .i64 a,.int .i64 ((V.nth nL 0).toInt),.int .i64 cM,.list aq ((V.nth (nL.drop 2) 0).toList)]).bind fun r36=>
       kn (IntKind.wrap .i64 (((V.nth nL 0).toInt)+1),b',cM,decide (((IntKind.wrap .i64 (((V.nth nL 0).toInt)-a)):Int)≥(IntKind.wrap .i64 (Int.tdiv (IntKind.wrap .i64 (b'-a)) 8))),(V.nth (nL.drop 1) 0).toBool,(V.nth r36 0).toList)
       else
       (C gS [.int .i64 (IntKind.wrap .i64 (((V.nth nL 0).toInt)+1)),.int .i64 b',.int .i64 cM,.list aq ((V.nth (nL.drop 2) 0).toList)]).bind fun r37=>
       kn (a,(V.nth nL 0).toInt,cM,decide (((IntKind.wrap .i64 (b'-((V.nth nL 0).toInt))):Int)≥(IntKind.wrap .i64 (Int.tdiv (IntKind.wrap .i64 (b'-a)) 8))),(V.nth (nL.drop 1) 0).toBool,(V.nth r37 0).toList)))
    else
     mH C a b' cM e6 fp (IntKind.wrap .i64 (b'-a)) eb false oS (di (un fun (alo:Bool) (aix:List V)=>
      kr aix) (fun (jI:List V)=>
      bif decide ((a:Int)>0) then
      bif (decide (0≤(IntKind.wrap .i64 (a-1))))&&(decide ((IntKind.wrap .i64 (a-1))<(jI.length:Int))) then
       (jI[(IntKind.wrap .i64 (a-1):Int).toNat]?).bind fun mG=>
       bif (decide (0≤eb))&&(decide (eb<(jI.length:Int))) then
       (jI[(eb:Int).toNat]?).bind fun vf=>
       (C bw [.int .i64 ((mG.cell 0).toInt),.int .i64 ((mG.cell 1).toInt),.int .i64 ((mG.cell 2).toInt),.int .i64 ((vf.cell 0).toInt),.int .i64 ((vf.cell 1).toInt),.int .i64 ((vf.cell 2).toInt)]).bind fun r43=>
       bif !(decide ((((V.nth r43 0).toInt):Int)<0)) then
        (C wQ [.int .i64 a,.int .i64 b',.int .i64 eb,.list aq jI]).bind fun Xl=>
        kn ((V.nth Xl 0).toInt,b',cM,e6,fp,(V.nth (Xl.drop 1) 0).toList)
       else
        (C oD [.int .i64 a,.int .i64 b',.int .i64 eb,.list aq jI]).bind fun nM=>
        bif decide (((IntKind.wrap .i64 (((V.nth nM 0).toInt)-a)):Int)<(IntKind.wrap .i64 (b'-((V.nth nM 0).toInt)))) then
        (C gS [.int .i64 a,.int .i64 ((V.nth nM 0).toInt),.int .i64 cM,.list aq ((V.nth (nM.drop 2) 0).toList)]).bind fun r46=>
        kn (IntKind.wrap .i64 (((V.nth nM 0).toInt)+1),b',cM,decide (((IntKind.wrap .i64 (((V.nth nM 0).toInt)-a)):Int)≥(IntKind.wrap .i64 (Int.tdiv (IntKind.wrap .i64 (b'-a)) 8))),(V.nth (nM.drop 1) 0).toBool,(V.nth r46 0).toList)
        else
        (C gS [.int .i64 (IntKind.wrap .i64 (((V.nth nM 0).toInt)+1)),.int .i64 b',.int .i64 cM,.list aq ((V.nth (nM.drop 2) 0).toList)]).bind fun r47=>
        kn (a,(V.nth nM 0).toInt,cM,decide (((IntKind.wrap .i64 (b'-((V.nth nM 0).toInt))):Int)≥(IntKind.wrap .i64 (Int.tdiv (IntKind.wrap .i64 (b'-a)) 8))),(V.nth (nM.drop 1) 0).toBool,(V.nth r47 0).toList)
       else none
      else none
      else
      (C oD [.int .i64 a,.int .i64 b',.int .i64 eb,.list aq jI]).bind fun nO=>
      bif decide (((IntKind.wrap .i64 (((V.nth nO 0).toInt)-a)):Int)<(IntKind.wrap .i64 (b'-((V.nth nO 0).toInt)))) then
       (C gS [.int .i64 a,.int .i64 ((V.nth nO 0).toInt),.int .i64 cM,.list aq ((V.nth (nO.drop 2) 0).toList)]).bind fun r49=>
       kn (IntKind.wrap .i64 (((V.nth nO 0).toInt)+1),b',cM,decide (((IntKind.wrap .i64 (((V.nth nO 0).toInt)-a)):Int)≥(IntKind.wrap .i64 (Int.tdiv (IntKind.wrap .i64 (b'-a)) 8))),(V.nth (nO.drop 1) 0).toBool,(V.nth r49 0).toList)
      else
       (C gS [.int .i64 (IntKind.wrap .i64 (((V.nth nO 0).toInt)+1)),.int .i64 b',.int .i64 cM,.list aq ((V.nth (nO.drop 2) 0).toList)]).bind fun r50=>
       kn (a,(V.nth nO 0).toInt,cM,decide (((IntKind.wrap .i64 (b'-((V.nth nO 0).toInt))):Int)≥(IntKind.wrap .i64 (Int.tdiv (IntKind.wrap .i64 (b'-a)) 8))),(V.nth (nO.drop 1) 0).toBool,(V.nth r50 0).toList)))))
noncomputable def Xm (C:ae):(Int × Int × Int × Bool × Bool × (List V))→Option ((Int × Int × Int × Bool × Bool × (List V)) ⊕ (List V)):=un fun a=>un fun b'=>un fun jm=>un fun e6=>un fun fp af=>pR C a b' jm e6 fp af (fun y=>some (.inl y)) (fun r=>some (.inr r))
noncomputable def Xn (C:ae):cy:=fun β n ds k=>
 bif Nat.beq n 639 then mi Lg [[1,2,0,4,5,6,0]] (@xP C) ds k else
 bif Nat.beq n 911 then mi Lh [[1,2,3,4,5,6,0,0,0]] (@xQ C) ds k else
 bif Nat.beq n 1215 then mi Li [[1,2,3,4,5,6,7,0,0],[1,2,3,4,5,6,7,0]] (@mH C) ds k else
 bif Nat.beq n 33 then bu Lj [true,true,true,true,true,true] [[0]] (@pR C) ds k else
 none
abbrev Hg (C:ae) (b:ct):Prop:=cu Tryd.prog ar C (Xn C) 169 (cP Tryd.prog (ar.aW 169)) (ar.sin 169).a8.length b
theorem aiy (C:ae):Hg C (.cond 39 (ak [1,1,0,0,0,1,1,1,0,1,0] lO) (ak [1,1,0,0,0,1,1,1,0,1,1] lO)):=
 ng Lg [[1,2,0,4,5,6,0]] (@xP C) (by kernel_rfl) (aS (bs:=[]) (by kernel_rfl) ao) (aS (bs:=[]) (by kernel_rfl) ao) (fun ds=>by kernel_rfl) (fun i β k=>by kernel_rfl) (fun β ds k=>by kernel_rfl)
theorem aiz (C:ae):Hg C (.cond 56 (ak [1,1,0,0,0,1,1,1,1,1,0,1,0] lO) (ak [1,1,0,0,0,1,1,1,1,1,0,1,1] lO)):=
 ng Lh [[1,2,3,4,5,6,0,0,0]] (@xQ C) (by kernel_rfl) (aS (bs:=[]) (by kernel_rfl) ao) (aS (bs:=[]) (by kernel_rfl) ao) (fun ds=>by kernel_rfl) (fun i β k=>by kernel_rfl) (fun β ds k=>by kernel_rfl)
theorem aiA (C:ae):Hg C (.cond 75 (ak [1,1,0,0,0,1,1,1,1,1,1,0,1,0] lO) (ak [1,1,0,0,0,1,1,1,1,1,1,0,1,1] lO)):=
 ng Li [[1,2,3,4,5,6,7,0,0],[1,2,3,4,5,6,7,0]] (@mH C) (by kernel_rfl) (aS (bs:=[]) (by kernel_rfl) ao) (aS (bs:=[]) (by kernel_rfl) ao) (fun ds=>by kernel_rfl) (fun i β k=>by kernel_rfl) (fun β ds k=>by kernel_rfl)
theorem aiB (C:ae):Hg C (.loop (ak [1,1,0,0] lO)):=
 bz Lj [true,true,true,true,true,true] [[0]] (@pR C) (by kernel_rfl) (aS (bs:=[.cond 39 (ak [1,1,0,0,0,1,1,1,0,1,0] lO) (ak [1,1,0,0,0,1,1,1,0,1,1] lO),.cond 56 (ak [1,1,0,0,0,1,1,1,1,1,0,1,0] lO) (ak [1,1,0,0,0,1,1,1,1,1,0,1,1] lO),.cond 75 (ak [1,1,0,0,0,1,1,1,1,1,1,0,1,0] lO) (ak [1,1,0,0,0,1,1,1,1,1,1,0,1,1] lO)]) (by kernel_rfl) (bd (aiy C) (bd (aiz C) (bd (aiA C) ao)))) (fun ds=>by kernel_rfl) (fun i x=>by kernel_rfl) (fun i x β k=>by kernel_rfl) (fun β ds k=>by kernel_rfl)
noncomputable def Xo (C:ae) (a b' jm:Int) (af:List V):Option (List V):=
 (Loop (Xm C) (a,b',jm,true,true,af)).bind (fun (aiC:List V)=>
  some [.list aq aiC])
theorem aiD {a b' jm:Int} {af:List V} {r:Option (List V)} (h:Xo CC a b' jm af=r):CC gS [.int .i64 a,.int .i64 b',.int .i64 jm,.list aq af]=r:=
 bn (key:=169) (L:=Xn CC) (bs:=[.loop (ak [1,1,0,0] lO)]) (by kernel_rfl) (bd (aiB CC) ao) (Eq.trans (by kernel_rfl) h)
noncomputable def Xp (C:ae) (xs:List V):Option (List V):=
 (C zS [.int .u64 (IntKind.wrap .u64 (xs.length:Int))]).bind fun r1=>
 (C gS [.int .i64 0,.int .i64 (xs.length:Int),.int .i64 ((V.nth r1 0).toInt),.list aq xs]).bind fun r2=>
 some [.list aq ((V.nth r2 0).toList)]
theorem aiE {xs:List V} {r:Option (List V)} (h:Xp CC xs=r):CC zN [.list aq xs]=r:=
 bn (key:=87) (L:=db) (bs:=[]) (by kernel_rfl) ao (Eq.trans (by kernel_rfl) h)
end Go.AM
set_option maxRecDepth 100000
set_option maxHeartbeats 4000000
namespace Go.AM.SL
open Go.AM Go.Proofs Go.Sort
theorem Xq (a b:Ed):(av a b=true)=(a.lt b):=by rw[sU,propext (FM a b)]
theorem Hh (a b:Ed):(av a b=false)= ¬(a.lt b):=by rw[←Xq];simp
theorem xS:SWO av where
 irrefl x:=by rw[Hh];unfold Ed.lt;omega
 trans x y z:=by simp only[Xq];unfold Ed.lt;omega
 ntrans x y z:=by simp only[Hh];unfold Ed.lt;omega
def Hi:List UInt8:=([0,1,2,2,3,3,3,3,4,4,4,4,4,4,4,4,5,5,5,5,5,5,5,5,5,5,5,5,5,5,5,5,6,6,6,6,6,6,6,6,6,6,6,6,6,6,6,6,6,6,6,6,6,6,6,6,6,6,6,6,6,6,6,6,7,7,7,7,7,7,7,7,7,7,7,7,7,7,7,7,7,7,7,7,7,7,7,7,7,7,7,7,7,7,7,7,7,7,7,7,7,7,7,7,7,7,7,7,7,7,7,7,7,7,7,7,7,7,7,7,7,7,7,7,7,7,7,7,8,8,8,8,8,8,8,8,8,8,8,8,8,8,8,8,8,8,8,8,8,8,8,8,8,8,8,8,8,8,8,8,8,8,8,8,8,8,8,8,8,8,8,8,8,8,8,8,8,8,8,8,8,8,8,8,8,8,8,8,8,8,8,8,8,8,8,8,8,8,8,8,8,8,8,8,8,8,8,8,8,8,8,8,8,8,8,8,8,8,8,8,8,8,8,8,8,8,8,8,8,8,8,8,8,8,8,8,8,8,8,8,8,8,8,8,8,8,8,8,8,8,8,8,8,8,8,8]:List UInt8)
theorem aiF:(List.range 256).all (fun y=>match Hi[y]? with|some b=>decide (b.toNat≤8)&&(Nat.beq y 0||(decide (1≤b.toNat)&&decide (2^(b.toNat-1)≤y)))|none=>false)=true:=by decide+kernel
theorem Xr {y:Nat} (h:y<256): ∃b,Hi[y]? =some b∧b.toNat≤8∧(0<y→1≤b.toNat∧2^(b.toNat-1)≤y):=by
 have:=List.all_eq_true.1 aiF y (List.mem_range.2 h)
 cases hb:Hi[y]? with
 | none=>rw[hb] at this;cases this
 | some b=>
  rw[hb] at this
  simp only[Bool.and_eq_true,Bool.or_eq_true,decide_eq_true_eq] at this
  refine ⟨b,rfl,this.1,fun hy=> ?_⟩
  rcases this.2 with h2|h2
  ·have:=Nat.eq_of_beq_eq_true h2;omega
  ·exact h2
theorem M8 {y t k:Nat} (h:2^(t-1)≤y/2^k) (ht:1≤t):2^(t+k-1)≤y:=by
 have e:t+k-1=(t-1)+k:=by omega
 rw[e,Nat.pow_add]
 exact Nat.le_trans (Nat.mul_le_mul_right _ h) (Nat.div_mul_le_self _ _)
noncomputable def xT (y n:Int):Option (List V):=
(bif decide ((y:Int)≥256) then
    (bif decide (0≤(IntKind.wrap .u8 (Int.fdiv y (2^(min (8:Int).toNat (IntKind.bits .u64)))))) then (([0,1,2,2,3,3,3,3,4,4,4,4,4,4,4,4,5,5,5,5,5,5,5,5,5,5,5,5,5,5,5,5,6,6,6,6,6,6,6,6,6,6,6,6,6,6,6,6,6,6,6,6,6,6,6,6,6,6,6,6,6,6,6,6,7,7,7,7,7,7,7,7,7,7,7,7,7,7,7,7,7,7,7,7,7,7,7,7,7,7,7,7,7,7,7,7,7,7,7,7,7,7,7,7,7,7,7,7,7,7,7,7,7,7,7,7,7,7,7,7,7,7,7,7,7,7,7,7,8,8,8,8,8,8,8,8,8,8,8,8,8,8,8,8,8,8,8,8,8,8,8,8,8,8,8,8,8,8,8,8,8,8,8,8,8,8,8,8,8,8,8,8,8,8,8,8,8,8,8,8,8,8,8,8,8,8,8,8,8,8,8,8,8,8,8,8,8,8,8,8,8,8,8,8,8,8,8,8,8,8,8,8,8,8,8,8,8,8,8,8,8,8,8,8,8,8,8,8,8,8,8,8,8,8,8,8,8,8,8,8,8,8,8,8,8,8,8,8,8,8,8,8,8,8,8,8]:List UInt8)[(IntKind.wrap .u8 (Int.fdiv y (2^(min (8:Int).toNat (IntKind.bits .u64)))):Int).toNat]?).map fun b=>V.int .u8 b.toNat else none).bind fun x5=>
    some [V.int .i64 (IntKind.wrap .i64 ((IntKind.wrap .i64 (n+8))+(IntKind.wrap .i64 x5.toInt)))]
   else
    (bif decide (0≤(IntKind.wrap .u8 y)) then (([0,1,2,2,3,3,3,3,4,4,4,4,4,4,4,4,5,5,5,5,5,5,5,5,5,5,5,5,5,5,5,5,6,6,6,6,6,6,6,6,6,6,6,6,6,6,6,6,6,6,6,6,6,6,6,6,6,6,6,6,6,6,6,6,7,7,7,7,7,7,7,7,7,7,7,7,7,7,7,7,7,7,7,7,7,7,7,7,7,7,7,7,7,7,7,7,7,7,7,7,7,7,7,7,7,7,7,7,7,7,7,7,7,7,7,7,7,7,7,7,7,7,7,7,7,7,7,7,8,8,8,8,8,8,8,8,8,8,8,8,8,8,8,8,8,8,8,8,8,8,8,8,8,8,8,8,8,8,8,8,8,8,8,8,8,8,8,8,8,8,8,8,8,8,8,8,8,8,8,8,8,8,8,8,8,8,8,8,8,8,8,8,8,8,8,8,8,8,8,8,8,8,8,8,8,8,8,8,8,8,8,8,8,8,8,8,8,8,8,8,8,8,8,8,8,8,8,8,8,8,8,8,8,8,8,8,8,8,8,8,8,8,8,8,8,8,8,8,8,8,8,8,8,8,8,8]:List UInt8)[(IntKind.wrap .u8 y:Int).toNat]?).map fun b=>V.int .u8 b.toNat else none).bind fun x6=>
    some [V.int .i64 (IntKind.wrap .i64 (n+(IntKind.wrap .i64 x6.toInt)))])
theorem aiG {x:Nat} (h:x<2^64): ∃L:Nat,CC Fe [.int .u64 (x:Int)]=some [.int .i64 (L:Int)]∧L≤64∧(0<x→1≤L∧2^(L-1)≤x):=by
 have last: ∀y n:Nat,y<65536→n≤48→∃t:Nat,
   xT (y:Int) (n:Int)=some [V.int .i64 ((n+t:Nat):Int)]∧t≤16∧(0<y→1≤t∧2^(t-1)≤y):=by
  intro y n hy hn
  unfold xT
  rw[show ([0,1,2,2,3,3,3,3,4,4,4,4,4,4,4,4,5,5,5,5,5,5,5,5,5,5,5,5,5,5,5,5,6,6,6,6,6,6,6,6,6,6,6,6,6,6,6,6,6,6,6,6,6,6,6,6,6,6,6,6,6,6,6,6,7,7,7,7,7,7,7,7,7,7,7,7,7,7,7,7,7,7,7,7,7,7,7,7,7,7,7,7,7,7,7,7,7,7,7,7,7,7,7,7,7,7,7,7,7,7,7,7,7,7,7,7,7,7,7,7,7,7,7,7,7,7,7,7,8,8,8,8,8,8,8,8,8,8,8,8,8,8,8,8,8,8,8,8,8,8,8,8,8,8,8,8,8,8,8,8,8,8,8,8,8,8,8,8,8,8,8,8,8,8,8,8,8,8,8,8,8,8,8,8,8,8,8,8,8,8,8,8,8,8,8,8,8,8,8,8,8,8,8,8,8,8,8,8,8,8,8,8,8,8,8,8,8,8,8,8,8,8,8,8,8,8,8,8,8,8,8,8,8,8,8,8,8,8,8,8,8,8,8,8,8,8,8,8,8,8,8,8,8,8,8,8]:List UInt8)=Hi from rfl]
  by_cases h1:y≥256
  ·have e:Int.fdiv (y:Int) (2^(min (8:Int).toNat (IntKind.bits .u64)))=((y/2^8:Nat):Int):=Ad (m:=8) (by omega)
   obtain ⟨b,hb,b1,b2⟩:=Xr (y:=y/2^8) (by omega)
   refine ⟨b.toNat+8,?_,by omega,fun _=> ?_⟩
   ·rw[e,az,if_pos (by omega),JA (by omega) (by omega),az,if_pos (by omega),Int.toNat_natCast,hb]
    simp only[Option.map_some,Option.bind_some,V.toInt_int]
    simp (disch:=omega) only[wrap64]
    congr 3
    omega
   ·obtain ⟨b3,b4⟩:=b2 (by omega)
    exact ⟨by omega,M8 b4 b3⟩
  ·obtain ⟨b,hb,b1,b2⟩:=Xr (y:=y) (by omega)
   refine ⟨b.toNat,?_,by omega,b2⟩
   rw[az,if_neg (by omega),JA (by omega) (by omega),az,if_pos (by omega),Int.toNat_natCast,hb]
   simp (disch:=omega) only[Option.map_some,Option.bind_some,V.toInt_int,wrap64]
   congr 3
 have mid: ∀y n:Nat,y<4294967296→n≤32→∃t:Nat,∀F:Int→Int→Option (List V),
   (∀y n:Nat,y<65536→n≤48→∃t:Nat,F (y:Int) (n:Int)=some [V.int .i64 ((n+t:Nat):Int)]∧t≤16∧(0<y→1≤t∧2^(t-1)≤y))→
   ∃t:Nat,vi CC (y:Int) (n:Int) (decide (((y:Int):Int)≥65536)) (un F)=some [V.int .i64 ((n+t:Nat):Int)]∧t≤32∧(0<y→1≤t∧2^(t-1)≤y):=by
  intro y n hy hn
  refine ⟨0,fun F hF=> ?_⟩
  unfold vi
  by_cases h1:y≥65536
  ·have e:Int.fdiv (y:Int) (2^(min (16:Int).toNat (IntKind.bits .u64)))=((y/2^16:Nat):Int):=Ad (m:=16) (by omega)
   rw[az,if_pos (by omega),e,wrap64 (by omega) (by omega)]
   obtain ⟨t,h2,h3,h4⟩:=hF (y/2^16) (n+16) (by omega) (by omega)
   refine ⟨t+16,?_,by omega,fun _=> ?_⟩
   ·rw[show ((n:Int)+16)=((n+16:Nat):Int) by omega]
    simp only[un]
    rw[h2]
    congr 3
    omega
   ·obtain ⟨b3,b4⟩:=h4 (by omega)
    exact ⟨by omega,M8 b4 b3⟩
  ·rw[az,if_neg (by omega)]
   obtain ⟨t,h2,h3,h4⟩:=hF y n (by omega) (by omega)
   exact ⟨t,h2,by omega,h4⟩
 by_cases h1:x≥4294967296
 ·have e:Int.fdiv (x:Int) (2^(min (32:Int).toNat (IntKind.bits .u64)))=((x/2^32:Nat):Int):=Ad (m:=32) (by omega)
  obtain ⟨_,hm⟩:=mid (x/2^32) 32 (by omega) (by omega)
  obtain ⟨t,h2,h3,h4⟩:=hm xT last
  refine ⟨32+t,Xj ?_,by omega,fun _=> ?_⟩
  ·show vh CC (x:Int) 0 (decide (((x:Int):Int)≥4294967296)) (un fun (sY:Int) (cw:Int)=>vi CC sY cw (decide ((sY:Int)≥65536)) (un xT))=_
   unfold vh
   rw[az,if_pos (by omega),e]
   exact h2
  ·obtain ⟨b3,b4⟩:=h4 (by omega)
   rw[Nat.add_comm 32 t]
   exact ⟨by omega,M8 b4 b3⟩
 ·obtain ⟨_,hm⟩:=mid x 0 (by omega) (by omega)
  obtain ⟨t,h2,h3,h4⟩:=hm xT last
  refine ⟨t,Xj ?_,by omega,h4⟩
  show vh CC (x:Int) 0 (decide (((x:Int):Int)≥4294967296)) (un fun (sY:Int) (cw:Int)=>vi CC sY cw (decide ((sY:Int)≥65536)) (un xT))=_
  unfold vh
  rw[az,if_neg (by omega)]
  rw[Nat.zero_add] at h2
  exact h2
theorem Xs {x:Nat} (h:x<2^64): ∃L:Nat,CC zS [.int .u64 (x:Int)]=some [.int .i64 (L:Int)]∧L≤64∧(0<x→1≤L∧2^(L-1)≤x):=by
 obtain ⟨L,h1,h2⟩:=aiG h
 refine ⟨L,ais ?_,h2⟩
 unfold Xg
 rw[h1]
 rfl
theorem aiH {x:Nat} (h0:0<x) (h:x<1152921504606846976): ∃M:Nat,CC Fi [.int .i64 (x:Int)]=some [.int .u64 (M:Int)]∧1≤M∧M≤2*x:=by
 obtain ⟨L,h1,h2,h3⟩:=Xs (x:=x) (by omega)
 obtain ⟨h4,h5⟩:=h3 h0
 have e:2^L=2*2^(L-1):=by
  obtain ⟨k,rfl⟩: ∃k,L=k+1:=⟨L-1,by omega⟩
  rw[Nat.pow_succ];simp only[Nat.add_sub_cancel];omega
 have hL:L<64:=by
  by_cases hx:L<64
  ·exact hx
  ·have:2^63≤2^(L-1):=Nat.pow_le_pow_right (by omega) (by omega)
   omega
 refine ⟨2^L,air ?_,Nat.pos_of_ne_zero (by simp),by omega⟩
 unfold Xf
 rw[sG (A:=x) (by omega),h1]
 simp only[Option.bind_some,V.bU,V.toInt_int]
 rw[az,if_pos (by omega),Int.toNat_natCast,Ac hL]
theorem aiI (r:Int): ∃R:Nat,CC Fj [.int .u64 r]=some [.int .u64 (R:Int),.int .u64 (R:Int)]∧R<2^64:=by
 have h: ∀n:Int,∃R:Nat,IntKind.wrap .u64 n=(R:Int)∧R<2^64:=fun n=>⟨(IntKind.wrap .u64 n).toNat,by rw[wrap_u64];omega,by rw[wrap_u64];omega⟩
 obtain ⟨R,h1,h2⟩:=h _
 exact ⟨R,aiq (by unfold Xe;rw[h1]),h2⟩
theorem Hj {d:Array Ed} {i:Nat} (h:i<d.size):idx (eA d) (i:Int)=some (d[i]!).enc:=by rw[EF,gf h]
theorem M9 {d:Array Ed} {a b:Nat} {s:Int} (ha:a<d.size) (hb:b<d.size): ∃(x y:Nat) (s':Int),CC z5 [.list aq (eA d),.int .i64 (a:Int),.int .i64 (b:Int),.int .i64 s]=some [.int .i64 (x:Int),.int .i64 (y:Int),.int .i64 s']∧(x=a∧y=b∨x=b∧y=a):=by
 by_cases h:bQ d[b]! d[a]! <0
 ·refine ⟨b,a,_,W9 (by unfold M6;rw[Hj hb,Hj ha];simp only[Option.bind_some,Ed.dr,Ed.dt,Ed.dv,gH,V.bU,V.toInt_int];rw[az,if_pos h]),.inr ⟨rfl,rfl⟩⟩
 ·refine ⟨a,b,_,W9 (by unfold M6;rw[Hj hb,Hj ha];simp only[Option.bind_some,Ed.dr,Ed.dt,Ed.dv,gH,V.bU,V.toInt_int];rw[az,if_neg h]),.inl ⟨rfl,rfl⟩⟩
theorem Na {d:Array Ed} {a b c:Nat} {s:Int} (ha:a<d.size) (hb:b<d.size) (hc:c<d.size): ∃(m:Nat) (s':Int),CC Fo [.list aq (eA d),.int .i64 (a:Int),.int .i64 (b:Int),.int .i64 (c:Int),.int .i64 s]=some [.int .i64 (m:Int),.int .i64 s']∧(m=a∨m=b∨m=c):=by
 obtain ⟨x1,y1,s1,e1,o1⟩:=M9 (s:=s) ha hb
 obtain ⟨x2,y2,s2,e2,o2⟩:=M9 (d:=d) (a:=y1) (b:=c) (s:=s1) (by omega) hc
 obtain ⟨x3,y3,s3,e3,o3⟩:=M9 (d:=d) (a:=x1) (b:=x2) (s:=s2) (by omega) (by omega)
 refine ⟨y3,s3,ail ?_,by omega⟩
 unfold W8
 rw[e1]
 simp only[Option.bind_some,V.bU,V.qI,V.toInt_int,List.drop_succ_cons,List.drop_zero]
 rw[e2]
 simp only[Option.bind_some,V.bU,V.qI,V.toInt_int,List.drop_succ_cons,List.drop_zero]
 rw[e3]
 rfl
theorem Nb {d:Array Ed} {a:Nat} {s:Int} (h1:1≤a) (ha:a+1<d.size) (hs:d.size<1152921504606846976): ∃(m:Nat) (s':Int),CC z0 [.list aq (eA d),.int .i64 (a:Int),.int .i64 s]=some [.int .i64 (m:Int),.int .i64 s']∧a≤m+1∧m≤a+1:=by
 obtain ⟨m,s',e,o⟩:=Na (d:=d) (a:=a-1) (b:=a) (c:=a+1) (s:=s) (by omega) (by omega) (by omega)
 refine ⟨m,s',aim ?_,by omega,by omega⟩
 unfold Xa
 simp (disch:=omega) only[jH,dO,wrap64]
 rw[e]
 rfl
theorem Nc (n:Nat):Int.tdiv (n:Int) 4=((n/4:Nat):Int):=by
 have:=divC n 4
 exact this
theorem mulC (k n:Nat):((k:Nat):Int)*(n:Int)=((k*n:Nat):Int):=(Int.natCast_mul k n).symm
theorem aiJ {d:Array Ed} {a b:Nat} (fU:a+12<b) (hb:b≤d.size) (hs:d.size<1152921504606846976): ∃(p:Nat) (h:Int),CC Fm [.list aq (eA d),.int .i64 (a:Int),.int .i64 (b:Int)]=some [.int .i64 (p:Int),.int .i64 h]∧a≤p∧p<b:=by
 have fin: ∀(p:Nat) (s:Int),∃h:Int,(bif (s:Int)==0 then some [V.int .i64 (p:Int),V.int .i64 1] else bif (s:Int)==12 then some [V.int .i64 (p:Int),V.int .i64 2] else some [V.int .i64 (p:Int),V.int .i64 0])=some [V.int .i64 (p:Int),V.int .i64 h]:=by
  intro p s
  rw[nd]
  split
  ·exact ⟨1,rfl⟩
  ·rw[nd]
   split
   ·exact ⟨2,rfl⟩
   ·exact ⟨0,rfl⟩
 have e1:IntKind.wrap .i64 ((b:Int)-(a:Int))=((b-a:Nat):Int):=by rw[mD (by omega),wrap64 (by omega) (by omega)]
 have e2:IntKind.wrap .i64 (Int.tdiv ((b-a:Nat):Int) 4)=(((b-a)/4:Nat):Int):=by rw[Nc,wrap64 (by omega) (by omega)]
 have e3: ∀k:Nat,k≤3→IntKind.wrap .i64 ((a:Int)+IntKind.wrap .i64 ((k:Int)*(((b-a)/4:Nat):Int)))=((a+k*((b-a)/4):Nat):Int):=by
  intro k hk
  have su:k*((b-a)/4)≤3*((b-a)/4):=Nat.mul_le_mul_right _ hk
  simp (disch:=omega) only[mulC,wrap64,gg]
 have Nd:=e3 1 (by omega)
 have sZ:=e3 2 (by omega)
 have Ng:=e3 3 (by omega)
 rw[show ((1:Nat):Int)=1 from rfl] at Nd
 rw[show ((2:Nat):Int)=2 from rfl] at sZ
 rw[show ((3:Nat):Int)=3 from rfl] at Ng
 by_cases h50:b-a≥50
 ·obtain ⟨m1,s1,q1,r1⟩:=Nb (d:=d) (a:=a+1*((b-a)/4)) (s:=0) (by omega) (by omega) hs
  obtain ⟨m2,s2,q2,r2⟩:=Nb (d:=d) (a:=a+2*((b-a)/4)) (s:=s1) (by omega) (by omega) hs
  obtain ⟨m3,s3,q3,r3⟩:=Nb (d:=d) (a:=a+3*((b-a)/4)) (s:=s2) (by omega) (by omega) hs
  obtain ⟨m,s,q,r⟩:=Na (d:=d) (a:=m1) (b:=m2) (c:=m3) (s:=s3) (by omega) (by omega) (by omega)
  obtain ⟨h,hf⟩:=fin m s
  refine ⟨m,h,W7 ?_,by omega,by omega⟩
  unfold M4 Cl Ck
  rw[e1,e2,Nd,sZ,Ng,nC (by omega),cond_true,nC (by omega),cond_true,q1]
  simp only[Option.bind_some,V.bU,V.qI,V.toInt_int,List.drop_succ_cons,List.drop_zero]
  rw[q2]
  simp only[Option.bind_some,V.bU,V.qI,V.toInt_int,List.drop_succ_cons,List.drop_zero]
  rw[q3]
  simp only[Option.bind_some,V.bU,V.qI,V.toInt_int,List.drop_succ_cons,List.drop_zero,un]
  rw[q]
  exact hf
 ·obtain ⟨m,s,q,r⟩:=Na (d:=d) (a:=a+1*((b-a)/4)) (b:=a+2*((b-a)/4)) (c:=a+3*((b-a)/4)) (s:=0) (by omega) (by omega) (by omega)
  obtain ⟨h,hf⟩:=fin m s
  refine ⟨m,h,W7 ?_,by omega,by omega⟩
  unfold M4 Cl Ck
  rw[e1,e2,Nd,sZ,Ng,nC (by omega),cond_true,rq (by omega),cond_false]
  simp only[un]
  rw[q]
  exact hf
theorem aiK {a b M:Nat} (hM1:1≤M) (hM:M≤2*(b-a)) (h8:8≤b-a) (hB:b<1152921504606846976): ∀(n i:Nat) (d:Array Ed) (r:Int),a+2*((b-a)/4)+2-i=n→a≤i→b≤d.size→d.size<1152921504606846976→
  ∃x y z R,Loop (He CC a (b-a:Nat) M) ((i:Int),eA d,r)=some (x,y,eA R,z)∧PermIn a b d R:=by
 have e2:IntKind.wrap .i64 (Int.tdiv ((b-a:Nat):Int) 4)=(((b-a)/4:Nat):Int):=by rw[Nc,wrap64 (by omega) (by omega)]
 have sZ:IntKind.wrap .i64 ((a:Int)+IntKind.wrap .i64 (2*(((b-a)/4:Nat):Int)))=((a+2*((b-a)/4):Nat):Int):=by
  have:=mulC 2 ((b-a)/4)
  rw[show ((2:Nat):Int)=2 from rfl] at this
  rw[this]
  simp (disch:=omega) only[wrap64,gg]
 intro n
 induction n with
 | zero=>
  intro i d r hn hi hb hs
  refine ⟨(i:Int),false,r,d,bZ ?_,permIn_refl _ _ _⟩
  simp only[He,Cn,un]
  rw[e2,sZ,dO,wrap64 (by omega) (by omega),rq (by omega),cond_false]
 | succ n ih=>
  intro i d r hn hi hb hs
  obtain ⟨R1,q1,q2⟩:=aiI r
  obtain ⟨o,ho,mT⟩: ∃o:Nat,(o=if R1&&&(M-1)≥b-a then (R1&&&(M-1))-(b-a) else R1&&&(M-1))∧o<b-a:=by
   refine ⟨_,rfl,?_⟩
   have:R1&&&(M-1)≤M-1:=Nat.and_le_right
   split<;>omega
  have hand:R1&&&(M-1)≤M-1:=Nat.and_le_right
  have hP:=swp_permIn (α:=Ed) d a b i (a+o) hi (by omega) (by omega) (by omega) hb
  obtain ⟨x,y,z,R,e,hR⟩:=ih (i+1) (swp d i (a+o)) (R1:Int) (by omega) (by omega) (by rw[size_swp];exact hb) (by rw[size_swp];exact hs)
  refine ⟨x,y,z,R,(ee ?_).trans e,permIn_trans _ _ _ a b hP hR⟩
  simp only[He,Cn,un]
  rw[e2,sZ,dO,wrap64 (x:=((a+2*((b-a)/4)+1:Nat):Int)) (by omega) (by omega),nC (by omega),cond_true,q1]
  simp only[Option.bind_some,V.bU,V.qI,V.toInt_int,List.drop_succ_cons,List.drop_zero]
  have e5:IntKind.wrap .u64 ((M:Int)-1)=((M-1:Nat):Int):=by rw[jH hM1,sG (by omega)]
  rw[e5,u64_and q2 (by omega),wrap64 (x:=((R1&&&(M-1):Nat):Int)) (by omega) (by omega)]
  have fin: ∀k:Int,k=(o:Int)→(bif (decide (0≤(IntKind.wrap .i64 ((a:Int)+k))))&&(decide ((IntKind.wrap .i64 ((a:Int)+k))<((eA d).length:Int))) then
   ((eA d)[(IntKind.wrap .i64 ((a:Int)+k):Int).toNat]?).bind fun x4=>
   bif (decide (0≤(i:Int)))&&(decide ((i:Int)<((eA d).length:Int))) then
    ((eA d)[((i:Int):Int).toNat]?).bind fun x5=>
    bif (decide (0≤(i:Int)))&&(decide ((i:Int)<((eA d).length:Int))) then
    ((eA d)[((i:Int):Int).toNat]?).bind fun x6=>
    bif (decide (0≤(IntKind.wrap .i64 ((a:Int)+k))))&&(decide ((IntKind.wrap .i64 ((a:Int)+k))<(((eA d).set (((i:Int):Int).toNat) (.agg [.int .i64 ((x4.cell 0).toInt),.int .i64 ((x4.cell 1).toInt),.int .i64 ((x4.cell 2).toInt)])).length:Int))) then
     (((eA d).set (((i:Int):Int).toNat) (.agg [.int .i64 ((x4.cell 0).toInt),.int .i64 ((x4.cell 1).toInt),.int .i64 ((x4.cell 2).toInt)]))[(IntKind.wrap .i64 ((a:Int)+k):Int).toNat]?).bind fun x7=>
     some (.inl (IntKind.wrap .i64 ((i:Int)+1),((eA d).set (((i:Int):Int).toNat) (.agg [.int .i64 ((x4.cell 0).toInt),.int .i64 ((x4.cell 1).toInt),.int .i64 ((x4.cell 2).toInt)])).set ((IntKind.wrap .i64 ((a:Int)+k):Int).toNat) (.agg [.int .i64 ((x5.cell 0).toInt),.int .i64 ((x5.cell 1).toInt),.int .i64 ((x5.cell 2).toInt)]),(R1:Int)))
    else none
    else none
   else none
   else none:Option ((Int × List V × Int) ⊕ (Int × Bool × List V × Int)))=some (.inl (((i+1:Nat):Int),eA (swp d i (a+o)),(R1:Int))):=by
   intro k hk
   subst hk
   simp (disch:=omega) only[az,dB,gr,if_pos,if_neg,wrap64,dO,gg,Int.toNat_natCast,Option.bind_some,gb,gf,Ed.dr,Ed.dt,Ed.dv,Ed.re,gd,iw,Array.size_setIfInBounds,gH,V.bU,V.toInt_int,cond_true,cond_false]
   rfl
  unfold Hd
  by_cases h:R1&&&(M-1)≥b-a
  ·rw[if_pos h] at ho
   rw[nC (by omega),cond_true]
   exact fin _ (by rw[mD (by omega),wrap64 (by omega) (by omega)];omega)
  ·rw[if_neg h] at ho
   rw[rq (by omega),cond_false]
   exact fin _ (by omega)
theorem aiL {a b:Nat} {d:Array Ed} (fU:a+12<b) (hb:b≤d.size) (hs:d.size<1152921504606846976): ∃R,CC JS [.int .i64 (a:Int),.int .i64 (b:Int),.list aq (eA d)]=some [.list aq (eA R)]∧PermIn a b d R:=by
 obtain ⟨M,q1,q2,q3⟩:=aiH (x:=b-a) (by omega) (by omega)
 have e1:IntKind.wrap .i64 ((b:Int)-(a:Int))=((b-a:Nat):Int):=by rw[mD (by omega),wrap64 (by omega) (by omega)]
 have e2:IntKind.wrap .i64 (Int.tdiv ((b-a:Nat):Int) 4)=(((b-a)/4:Nat):Int):=by rw[Nc,wrap64 (by omega) (by omega)]
 have sZ:IntKind.wrap .i64 ((a:Int)+IntKind.wrap .i64 (2*(((b-a)/4:Nat):Int)))=((a+2*((b-a)/4):Nat):Int):=by
  have:=mulC 2 ((b-a)/4)
  rw[show ((2:Nat):Int)=2 from rfl] at this
  rw[this]
  simp (disch:=omega) only[wrap64,gg]
 obtain ⟨x,y,z,R,e,hR⟩:=aiK (a:=a) (b:=b) (M:=M) q2 q3 (by omega) (by omega) _ (a+2*((b-a)/4)-1) d (IntKind.wrap .u64 ((b-a:Nat):Int)) rfl (by omega) hb hs
 refine ⟨R,aip ?_,hR⟩
 unfold Xd
 rw[e1,az,if_pos (by omega),q1]
 simp only[Option.bind_some,V.bU,V.toInt_int]
 rw[e2,sZ,jH (by omega),wrap64 (x:=((a+2*((b-a)/4)-1:Nat):Int)) (by omega) (by omega),e]
 rfl
noncomputable def s6 (C:ae) (a b':Int) (e6 fp:Bool) (cM eb:Int) (mF:List V) {β:Type} (kn:(Int × Int × Int × Bool × Bool × (List V))→Option β):Option β:=
      bif decide ((a:Int)>0) then
       bif (decide (0≤(IntKind.wrap .i64 (a-1))))&&(decide ((IntKind.wrap .i64 (a-1))<(mF.length:Int))) then
       (mF[(IntKind.wrap .i64 (a-1):Int).toNat]?).bind fun gV=>
       bif (decide (0≤eb))&&(decide (eb<(mF.length:Int))) then
        (mF[(eb:Int).toNat]?).bind fun lN=>
        (C bw [.int .i64 ((gV.cell 0).toInt),.int .i64 ((gV.cell 1).toInt),.int .i64 ((gV.cell 2).toInt),.int .i64 ((lN.cell 0).toInt),.int .i64 ((lN.cell 1).toInt),.int .i64 ((lN.cell 2).toInt)]).bind fun oO=>
        bif !(decide ((((V.nth oO 0).toInt):Int)<0)) then
        (C wQ [.int .i64 a,.int .i64 b',.int .i64 eb,.list aq mF]).bind fun jG=>
        kn ((V.nth jG 0).toInt,b',cM,e6,fp,(V.nth (jG.drop 1) 0).toList)
        else
        (C oD [.int .i64 a,.int .i64 b',.int .i64 eb,.list aq mF]).bind fun eZ=>
        bif decide (((IntKind.wrap .i64 (((V.nth eZ 0).toInt)-a)):Int)<(IntKind.wrap .i64 (b'-((V.nth eZ 0).toInt)))) then
         (C gS [.int .i64 a,.int .i64 ((V.nth eZ 0).toInt),.int .i64 cM,.list aq ((V.nth (eZ.drop 2) 0).toList)]).bind fun xR=>
         kn (IntKind.wrap .i64 (((V.nth eZ 0).toInt)+1),b',cM,decide (((IntKind.wrap .i64 (((V.nth eZ 0).toInt)-a)):Int)≥(IntKind.wrap .i64 (Int.tdiv (IntKind.wrap .i64 (b'-a)) 8))),(V.nth (eZ.drop 1) 0).toBool,(V.nth xR 0).toList)
        else
         (C gS [.int .i64 (IntKind.wrap .i64 (((V.nth eZ 0).toInt)+1)),.int .i64 b',.int .i64 cM,.list aq ((V.nth (eZ.drop 2) 0).toList)]).bind fun fj=>
         kn (a,(V.nth eZ 0).toInt,cM,decide (((IntKind.wrap .i64 (b'-((V.nth eZ 0).toInt))):Int)≥(IntKind.wrap .i64 (Int.tdiv (IntKind.wrap .i64 (b'-a)) 8))),(V.nth (eZ.drop 1) 0).toBool,(V.nth fj 0).toList)
       else none
       else none
      else
       (C oD [.int .i64 a,.int .i64 b',.int .i64 eb,.list aq mF]).bind fun iA=>
       bif decide (((IntKind.wrap .i64 (((V.nth iA 0).toInt)-a)):Int)<(IntKind.wrap .i64 (b'-((V.nth iA 0).toInt)))) then
       (C gS [.int .i64 a,.int .i64 ((V.nth iA 0).toInt),.int .i64 cM,.list aq ((V.nth (iA.drop 2) 0).toList)]).bind fun rA=>
       kn (IntKind.wrap .i64 (((V.nth iA 0).toInt)+1),b',cM,decide (((IntKind.wrap .i64 (((V.nth iA 0).toInt)-a)):Int)≥(IntKind.wrap .i64 (Int.tdiv (IntKind.wrap .i64 (b'-a)) 8))),(V.nth (iA.drop 1) 0).toBool,(V.nth rA 0).toList)
       else
       (C gS [.int .i64 (IntKind.wrap .i64 (((V.nth iA 0).toInt)+1)),.int .i64 b',.int .i64 cM,.list aq ((V.nth (iA.drop 2) 0).toList)]).bind fun ki=>
       kn (a,(V.nth iA 0).toInt,cM,decide (((IntKind.wrap .i64 (b'-((V.nth iA 0).toInt))):Int)≥(IntKind.wrap .i64 (Int.tdiv (IntKind.wrap .i64 (b'-a)) 8))),(V.nth (iA.drop 1) 0).toBool,(V.nth ki 0).toList)
theorem Hk (C:ae) (a b' jm:Int) (e6 fp:Bool) (af:List V) {β:Type} (kn:(Int × Int × Int × Bool × Bool × (List V))→Option β) (kr:(List V)→Option β):
  pR C a b' jm e6 fp af kn kr=
 bif decide (((IntKind.wrap .i64 (b'-a)):Int)≤12) then
  (C Fk [.int .i64 a,.int .i64 b',.list aq af]).bind fun r1=>
  kr ((V.nth r1 0).toList)
 else
  bif (jm:Int)==0 then
  (C Fl [.int .i64 a,.int .i64 b',.list aq af]).bind fun r2=>
  kr ((V.nth r2 0).toList)
  else
  xP C a b' jm e6 fp (IntKind.wrap .i64 (b'-a)) (!e6) af (un fun (cM:Int) (Cp:List V)=>
   (C Fm [.list aq Cp,.int .i64 a,.int .i64 b']).bind fun r6=>
   xQ C a b' cM e6 fp (IntKind.wrap .i64 (b'-a)) ((V.nth r6 0).toInt) ((V.nth (r6.drop 1) 0).toInt) ((((V.nth (r6.drop 1) 0).toInt):Int)==2) Cp (un fun (eb:Int)=>un fun (M7:Int) (oS:List V)=>
    bif e6 then
     bif fp then
     mH C a b' cM e6 fp (IntKind.wrap .i64 (b'-a)) eb ((M7:Int)==1) oS (di (un fun (Ms:Bool) (Nh:List V)=>
      kr Nh) (fun (mF:List V)=>s6 C a b' e6 fp cM eb mF kn))
     else
     mH C a b' cM e6 fp (IntKind.wrap .i64 (b'-a)) eb false oS (di (un fun (alp:Bool) (aiM:List V)=>
      kr aiM) (fun (aiN:List V)=>s6 C a b' e6 fp cM eb aiN kn))
    else
     mH C a b' cM e6 fp (IntKind.wrap .i64 (b'-a)) eb false oS (di (un fun (alq:Bool) (aiO:List V)=>
      kr aiO) (fun (aiP:List V)=>s6 C a b' e6 fp cM eb aiP kn)))):=rfl
section
variable {a b:Nat} {lim:Int} {wb wp:Bool}
theorem aiQ {d:Array Ed} (fU:a+12<b) (hb:b≤d.size) (hs:d.size<1152921504606846976) (len:Int) (t:Bool): ∃(l1:Int) (d1:Array Ed),PermIn a b d d1∧∀(β:Type) (kr:(Int × List V)→Option β),xP CC a b lim wb wp len t (eA d) kr=kr (l1,eA d1):=by
 cases t with
 | true=>
  obtain ⟨R,e,hR⟩:=aiL fU hb hs
  refine ⟨IntKind.wrap .i64 (lim-1),R,hR,fun β kr=> ?_⟩
  unfold xP
  rw[cond_true,e]
  rfl
 | false=>exact ⟨lim,d,permIn_refl _ _ _,fun β kr=>rfl⟩
theorem aiR {d:Array Ed} (fU:a+12<b) (hb:b≤d.size) (hs:d.size<1152921504606846976) (len h:Int) (t:Bool) {p:Nat} (h1:a≤p) (h2:p<b): ∃(p2:Nat) (h2:Int) (d1:Array Ed),a≤p2∧p2<b∧PermIn a b d d1∧∀(β:Type) (kr:(Int × Int × List V)→Option β),xQ CC a b lim wb wp len p h t (eA d) kr=kr ((p2:Int),h2,eA d1):=by
 cases t with
 | true=>
  refine ⟨b-1-(p-a),1,reverseRange d a b,by omega,by omega,reverseRange_holds d a b (by omega) hb,fun β kr=> ?_⟩
  unfold xQ
  rw[cond_true,ahE (by omega) hb hs]
  simp (disch:=omega) only[Option.bind_some,V.bU,V.nc,jH,mD,wrap64]
 | false=>exact ⟨p,h,d,h1,h2,permIn_refl _ _ _,fun β kr=>rfl⟩
theorem aiS {d:Array Ed} (fU:a+12<b) (hb:b≤d.size) (hs:d.size<1152921504606846976) (hB:Below av a b d) (len p:Int) (t:Bool): ∃d1:Array Ed,PermIn a b d d1∧
  ((∀(β:Type) (kr:((Bool × List V) ⊕ List V)→Option β),mH CC a b lim wb wp len p t (eA d) kr=kr (.inr (eA d1)))∨
  (SortedIn av a b d1∧∀(β:Type) (kr:((Bool × List V) ⊕ List V)→Option β),mH CC a b lim wb wp len p t (eA d) kr=kr (.inl (true,eA d1)))):=by
 cases t with
 | true=>
  have hp:=partialInsertionSort_holds (lt:=av) xS d a b (by omega) hb hB
  refine ⟨_,hp.1,?_⟩
  cases h:(partialInsertionSort av d a b).2 with
  | true=>
   refine .inr ⟨hp.2 h,fun β kr=> ?_⟩
   unfold mH
   rw[cond_true,W3 (by omega) hb hs,h]
   rfl
  | false=>
   refine .inl fun β kr=> ?_
   unfold mH
   rw[cond_true,W3 (by omega) hb hs,h]
   rfl
 | false=>exact ⟨d,permIn_refl _ _ _,.inl fun β kr=>rfl⟩
end
def Hl (a b:Nat) (d:Array Ed):Prop:= ∀(lim:Int) (wb wp:Bool),∃R,Loop (Xm CC) ((a:Int),(b:Int),lim,wb,wp,eA d)=some (eA R)∧PermIn a b d R∧SortedIn av a b R
theorem Hl.call {a b:Nat} {d:Array Ed} (h:Hl a b d) (lim:Int): ∃R,CC gS [.int .i64 (a:Int),.int .i64 (b:Int),.int .i64 lim,.list aq (eA d)]=some [.list aq (eA R)]∧PermIn a b d R∧SortedIn av a b R:=by
 obtain ⟨R,e,h1,h2⟩:=h lim true true
 refine ⟨R,aiD ?_,h1,h2⟩
 unfold Xo
 rw[e]
 rfl
theorem aiT {a b p:Nat} {d:Array Ed} (fU:a+12<b) (hb:b≤d.size) (hs:d.size<1152921504606846976) (hB:Below av a b d) (h1:a≤p) (h2:p<b)
  (ih: ∀(a2 b2:Nat) (d2:Array Ed),b2-a2<b-a→a2≤b2→b2≤d2.size→d2.size<1152921504606846976→Below av a2 b2 d2→Hl a2 b2 d2) (wb wp:Bool) (lim:Int):
  ∃(a2 b2:Nat) (vl vm:Bool) (d2:Array Ed),b2-a2<b-a∧a2≤b2∧b2≤d2.size∧d2.size<1152921504606846976∧Below av a2 b2 d2∧
   (∀R,PermIn a2 b2 d2 R→SortedIn av a2 b2 R→PermIn a b d R∧SortedIn av a b R)∧
   ∀(β:Type) (kn:(Int × Int × Int × Bool × Bool × (List V))→Option β),s6 CC a b wb wp lim p (eA d) kn=kn ((a2:Int),(b2:Int),lim,vl,vm,eA d2):=by
 have part: ∃(a2 b2:Nat) (vl vm:Bool) (d2:Array Ed),b2-a2<b-a∧a2≤b2∧b2≤d2.size∧d2.size<1152921504606846976∧Below av a2 b2 d2∧
   (∀R,PermIn a2 b2 d2 R→SortedIn av a2 b2 R→PermIn a b d R∧SortedIn av a b R)∧
   ∀(β:Type) (kn:(Int × Int × Int × Bool × Bool × (List V))→Option β),
    ((CC oD [.int .i64 (a:Int),.int .i64 (b:Int),.int .i64 (p:Int),.list aq (eA d)]).bind fun eZ=>
        bif decide (((IntKind.wrap .i64 (((V.nth eZ 0).toInt)-(a:Int))):Int)<(IntKind.wrap .i64 ((b:Int)-((V.nth eZ 0).toInt)))) then
         (CC gS [.int .i64 (a:Int),.int .i64 ((V.nth eZ 0).toInt),.int .i64 lim,.list aq ((V.nth (eZ.drop 2) 0).toList)]).bind fun xR=>
         kn (IntKind.wrap .i64 (((V.nth eZ 0).toInt)+1),(b:Int),lim,decide (((IntKind.wrap .i64 (((V.nth eZ 0).toInt)-(a:Int))):Int)≥(IntKind.wrap .i64 (Int.tdiv (IntKind.wrap .i64 ((b:Int)-(a:Int))) 8))),(V.nth (eZ.drop 1) 0).toBool,(V.nth xR 0).toList)
        else
         (CC gS [.int .i64 (IntKind.wrap .i64 (((V.nth eZ 0).toInt)+1)),.int .i64 (b:Int),.int .i64 lim,.list aq ((V.nth (eZ.drop 2) 0).toList)]).bind fun fj=>
         kn ((a:Int),(V.nth eZ 0).toInt,lim,decide (((IntKind.wrap .i64 ((b:Int)-((V.nth eZ 0).toInt))):Int)≥(IntKind.wrap .i64 (Int.tdiv (IntKind.wrap .i64 ((b:Int)-(a:Int))) 8))),(V.nth (eZ.drop 1) 0).toBool,(V.nth fj 0).toList))=kn ((a2:Int),(b2:Int),lim,vl,vm,eA d2):=by
  obtain ⟨mid,ap,d4,hx⟩: ∃mid ap d4,partition av d a b p=(mid,ap,d4):=⟨_,_,_,rfl⟩
  obtain ⟨g1,g2,oV,hBa,hBr,aiU,aiV⟩:=round_part xS (partition_holds av) h1 h2 hb hB hx
  have hc:=ah9 (a:=a) (b:=b) (pivot:=p) (d:=d) h2 (by omega) hb hs
  rw[hx] at hc
  by_cases hl:mid-a<b-mid
  ·obtain ⟨L,e,l1,l2⟩:=(ih a mid d4 (by omega) g1 (by rw[oV];omega) (by rw[oV];exact hs) hBa).call lim
   obtain ⟨Ni,nA⟩:=aiU _ l1 l2
   refine ⟨mid+1,b,decide (((IntKind.wrap .i64 ((mid:Int)-(a:Int))):Int)≥(IntKind.wrap .i64 (Int.tdiv (IntKind.wrap .i64 ((b:Int)-(a:Int))) 8))),ap,L,by omega,by omega,by rw[l1.1,oV];exact hb,by rw[l1.1,oV];exact hs,Ni,nA,fun β kn=> ?_⟩
   ·rw[hc]
    simp only[Option.bind_some,V.bU,V.qI,V.toInt_int,V.j5,V.nc,List.drop_succ_cons,List.drop_zero]
    rw[az,if_pos (by rw[mD g1,mD (by omega),wrap64 (by omega) (by omega),wrap64 (by omega) (by omega)];omega),e]
    simp only[Option.bind_some,V.bU,V.nc]
    rw[dO,wrap64 (x:=((mid+1:Nat):Int)) (by omega) (by omega)]
  ·obtain ⟨L,e,l1,l2⟩:=(ih (mid+1) b d4 (by omega) (by omega) (by rw[oV];exact hb) (by rw[oV];exact hs) hBr).call lim
   obtain ⟨Ni,nA⟩:=aiV _ l1 l2
   refine ⟨a,mid,decide (((IntKind.wrap .i64 ((b:Int)-(mid:Int))):Int)≥(IntKind.wrap .i64 (Int.tdiv (IntKind.wrap .i64 ((b:Int)-(a:Int))) 8))),ap,L,by omega,by omega,by rw[l1.1,oV];omega,by rw[l1.1,oV];exact hs,Ni,nA,fun β kn=> ?_⟩
   ·rw[hc]
    simp only[Option.bind_some,V.bU,V.qI,V.toInt_int,V.j5,V.nc,List.drop_succ_cons,List.drop_zero]
    rw[az,if_neg (by rw[mD g1,mD (by omega),wrap64 (by omega) (by omega),wrap64 (by omega) (by omega)];omega),dO,wrap64 (x:=((mid+1:Nat):Int)) (by omega) (by omega),e]
    simp only[Option.bind_some,V.bU,V.nc]
 by_cases ha:0<a
 ·by_cases hc:bQ d[a-1]! d[p]! <0
  ·obtain ⟨a2,b2,vl,vm,d2,q1,q2,q3,q4,q5,q6,q7⟩:=part
   refine ⟨a2,b2,vl,vm,d2,q1,q2,q3,q4,q5,q6,fun β kn=> ?_⟩
   rw[←q7 β kn]
   unfold s6
   rw[az,if_pos (by omega),jH ha,wrap64 (by omega) (by omega),kj (i:=a-1) (by omega),km (by omega),kj (i:=p) (by omega),km (by omega)]
   simp only[Ed.dr,Ed.dt,Ed.dv,gH,Option.bind_some,V.bU,V.toInt_int]
   rw[gr,az,if_pos hc]
  ·obtain ⟨mid,d4,hx⟩: ∃mid d4,partitionEqual av d a b p=(mid,d4):=⟨_,_,rfl⟩
   obtain ⟨g1,od,oV,hB4,nA⟩:=round_eq xS (partitionEqual_holds av) ha h1 h2 hb hB (by rw[Hh,←propext (FM _ _)];exact hc) hx
   have he:=aib (a:=a) (b:=b) (pivot:=p) (d:=d) h2 (by omega) hb hs
   rw[hx] at he
   refine ⟨mid,b,wb,wp,d4,by omega,od,by rw[oV];exact hb,by rw[oV];exact hs,hB4,nA,fun β kn=> ?_⟩
   unfold s6
   rw[az,if_pos (by omega),jH ha,wrap64 (by omega) (by omega),kj (i:=a-1) (by omega),km (by omega),kj (i:=p) (by omega),km (by omega)]
   simp only[Ed.dr,Ed.dt,Ed.dv,gH,Option.bind_some,V.bU,V.toInt_int]
   rw[gr,az,if_neg hc,he]
   rfl
 ·obtain ⟨a2,b2,vl,vm,d2,q1,q2,q3,q4,q5,q6,q7⟩:=part
  refine ⟨a2,b2,vl,vm,d2,q1,q2,q3,q4,q5,q6,fun β kn=> ?_⟩
  rw[←q7 β kn]
  unfold s6
  rw[az,if_neg (by omega)]
theorem aiW: ∀(n a b:Nat) (d:Array Ed),b-a≤n→a≤b→b≤d.size→d.size<1152921504606846976→Below av a b d→Hl a b d:=by
 intro n
 induction n with
 | zero=>
  intro a b d hn fU hb hs hB lim wb wp
  have hi:=insertionSort_holds (lt:=av) xS d a b fU hb
  refine ⟨_,bZ ?_,hi⟩
  show pR CC a b lim wb wp (eA d) (fun y=>some (Sum.inl y)) (fun r=>some (Sum.inr r))=_
  rw[Hk,az,if_pos (by rw[mD fU,wrap64 (by omega) (by omega)];omega),WG hb hs (by omega)]
  rfl
 | succ n ih=>
  intro a b d hn fU hb hs hB lim wb wp
  by_cases h12:b-a≤12
  ·have hi:=insertionSort_holds (lt:=av) xS d a b fU hb
   refine ⟨_,bZ ?_,hi⟩
   show pR CC a b lim wb wp (eA d) (fun y=>some (Sum.inl y)) (fun r=>some (Sum.inr r))=_
   rw[Hk,az,if_pos (by rw[mD fU,wrap64 (by omega) (by omega)];omega),WG hb hs (by omega)]
   rfl
  ·have Cq:a+12<b:=by omega
   have sq: ¬(((IntKind.wrap .i64 ((b:Int)-(a:Int))):Int)≤12):=by rw[mD fU,wrap64 (by omega) (by omega)];omega
   by_cases h0:lim=0
   ·have hi:=heapSort_holds (lt:=av) xS d a b fU hb
    refine ⟨_,bZ ?_,hi⟩
    show pR CC a b lim wb wp (eA d) (fun y=>some (Sum.inl y)) (fun r=>some (Sum.inr r))=_
    rw[Hk,az,if_neg sq,nd,if_pos h0,ahC (by omega) hb hs]
    rfl
   ·obtain ⟨l1,d1,s1,k1⟩:=aiQ (lim:=lim) (wb:=wb) (wp:=wp) Cq hb hs (IntKind.wrap .i64 ((b:Int)-(a:Int))) (!wb)
    have b1:b≤d1.size:=by rw[s1.1];exact hb
    have z1:d1.size<1152921504606846976:=by rw[s1.1];exact hs
    obtain ⟨p,h,c1,p1,p2⟩:=aiJ Cq b1 z1
    obtain ⟨q,h2,d2,q1,q2,s2,k2⟩:=aiR (lim:=l1) (wb:=wb) (wp:=wp) Cq b1 z1 (IntKind.wrap .i64 ((b:Int)-(a:Int))) h (h==2) p1 p2
    have b2:b≤d2.size:=by rw[s2.1];exact b1
    have z2:d2.size<1152921504606846976:=by rw[s2.1];exact z1
    have B2:Below av a b d2:=(hB.perm hb s1).perm b1 s2
    obtain ⟨t,ht⟩: ∃t:Bool,t=(bif wb then (bif wp then (h2==1) else false) else false):=⟨_,rfl⟩
    obtain ⟨d3,s3,k3⟩:=aiS (lim:=l1) (wb:=wb) (wp:=wp) Cq b2 z2 B2 (IntKind.wrap .i64 ((b:Int)-(a:Int))) (q:Int) t
    have b3:b≤d3.size:=by rw[s3.1];exact b2
    have z3:d3.size<1152921504606846976:=by rw[s3.1];exact z2
    have B3:Below av a b d3:=B2.perm b2 s3
    have P3:PermIn a b d d3:=permIn_trans _ _ _ a b (permIn_trans _ _ _ a b s1 s2) s3
    have step: ∀(β:Type) (kn:(Int × Int × Int × Bool × Bool × (List V))→Option β) (kr:(List V)→Option β),pR CC a b lim wb wp (eA d) kn kr=
      mH CC a b l1 wb wp (IntKind.wrap .i64 ((b:Int)-(a:Int))) (q:Int) t (eA d2) (di (un fun (Ms:Bool) (Nh:List V)=>kr Nh) (fun (mF:List V)=>s6 CC a b wb wp l1 q mF kn)):=by
     intro β kn kr
     rw[Hk,az,if_neg sq,nd,if_neg h0,k1]
     simp only[un]
     rw[c1]
     simp only[Option.bind_some,V.bU,V.qI,V.toInt_int,List.drop_succ_cons,List.drop_zero]
     rw[k2]
     simp only[un]
     rw[ht]
     cases wb
     ·rfl
     ·cases wp
      ·rfl
      ·rfl
    rcases k3 with k3|⟨k3s,k3⟩
    ·obtain ⟨a4,b4,wb4,wp4,d4,r1,r2,r3,r4,r5,r6,r7⟩:=aiT Cq b3 z3 B3 q1 q2 (fun a2 b2 d2 aR h1 h2 h3 h4=>ih a2 b2 d2 (by omega) h1 h2 h3 h4) wb wp l1
     obtain ⟨R,e,e1,e2⟩:=ih a4 b4 d4 (by omega) r2 r3 r4 r5 l1 wb4 wp4
     obtain ⟨f1,f2⟩:=r6 R e1 e2
     refine ⟨R,(ee ?_).trans e,permIn_trans _ _ _ a b P3 f1,f2⟩
     show pR CC a b lim wb wp (eA d) (fun y=>some (Sum.inl y)) (fun r=>some (Sum.inr r))=_
     rw[step,k3]
     exact r7 _ (fun y=>some (Sum.inl y))
    ·refine ⟨d3,bZ ?_,P3,k3s⟩
     show pR CC a b lim wb wp (eA d) (fun y=>some (Sum.inl y)) (fun r=>some (Sum.inr r))=_
     rw[step,k3]
     rfl
theorem aiX (l:List Ed) (hs:l.length<1152921504606846976): ∃R:List Ed,CC zN [.list aq (l.map Ed.enc)]=some [.list aq (R.map Ed.enc)]∧R.Perm l∧R.Pairwise (fun x y=> ¬y.lt x):=by
 obtain ⟨L,e1,_⟩:=Xs (x:=l.length) (by omega)
 obtain ⟨R,e2,h1,h2⟩:=(aiW _ 0 l.toArray.size l.toArray (Nat.le_refl _) (Nat.zero_le _) (Nat.le_refl _) (by simpa using hs) (.inl rfl)).call (L:Int)
 have aZ:R.size=l.length:=by rw[h1.1];simp
 refine ⟨R.toList,aiE ?_,?_,?_⟩
 ·unfold Xp
  rw[List.length_map,sG (A:=l.length) (by omega),e1]
  simp only[Option.bind_some,V.bU,V.toInt_int]
  have e3:eA l.toArray=l.map Ed.enc:=by simp[pM]
  rw[e3,show ((l.toArray.size:Nat):Int)=(l.length:Int) by simp,show ((0:Nat):Int)=0 from rfl] at e2
  rw[e2]
  rfl
 ·have h3:=h1.2.2
  rw[show l.toArray.size=R.size from h1.1.symm,Array.extract_size,h1.1,Array.extract_size] at h3
  exact h3
 ·rw[List.pairwise_iff_getElem]
  intro i j hi hj tS
  have h3:=h2 i j (Nat.zero_le _) tS (by simpa[←aZ] using hj)
  rw[Hh] at h3
  have ej:i<R.size:=by simpa using hi
  have gA:j<R.size:=by simpa using hj
  rw[getElem!_pos R i ej,getElem!_pos R j gA] at h3
  simpa using h3
end Go.AM.SL
set_option maxRecDepth 100000
namespace Go.AM
open Go.Proofs
noncomputable abbrev s7:Code:=cI Tryd.prog (ar.aW 93)
noncomputable def Cr (C:ae) (i x s at':Int) (t57:Bool) (aO aK aT aP:Int) (gT:List V) (cj cl:Int) (iB places:List V) (gF gG:Int) (rows br bc bm bM:List V) {β:Type} (kr:((Int × Int × Int × (List V) × (List V) × (List V)) ⊕ (Int × (List V) × (List V)))→Option β):Option β:=
 bif t57 then
  bif ((iB.length:Int):Int)==512 then
  kr (.inl (3,0,0,([]:List V),([]:List V),([]:List V)))
  else
  bif cZ .u64 s&&true then
   bif Nat.ble ((iB.length+([.int .u64 s]:List V).length)*8) bC then
   kr (.inr ((iB.length:Int),iB++([.int .u64 s]:List V),e8 (.int .u64 s) (.int .i64 (iB.length:Int)) places))
   else none
  else none
 else
  kr (.inr (at',iB,places))
noncomputable def xU (C:ae) (i aO aK aT aP:Int) (gT:List V) (cj cl gF gG:Int) (br bc bm bM:List V) (x:Int) (iB places rows:List V) {β:Type} (kn:(Int × (List V) × (List V) × (List V))→Option β) (kr:((Int × Int × Int × (List V) × (List V) × (List V)) ⊕ (Int × Bool × (List V) × (List V) × (List V)))→Option β):Option β:=
 bif decide ((x:Int)<aO) then
  bif (decide (0≤i))&&(decide (i<(iB.length:Int))) then
  (iB[(i:Int).toNat]?).bind fun x2=>
  (C sB [.int .i64 aO,.int .i64 aK,.int .u64 aT,.int .u64 aP,.list aq gT,.int .u64 x2.toInt,.int .i64 x]).bind fun r3=>
  bif cZ .u64 ((V.nth r3 0).toInt)&&true then
   Cr C i x ((V.nth r3 0).toInt) ((gY (.int .u64 ((V.nth r3 0).toInt)) places (.int .i64 0)).toInt) (!(fC (.int .u64 ((V.nth r3 0).toInt)) places)) aO aK aT aP gT cj cl iB places gF gG rows br bc bm bM (di (un fun (kb:Int)=>un fun (aiY:Int)=>un fun (aiZ:Int)=>un fun (b_7:List V)=>un fun (b_8:List V) (ai0:List V)=>
    kr (.inl (kb,aiY,aiZ,b_7,b_8,ai0))) (un fun (Xt:Int)=>un fun (ai1:List V) (ai2:List V)=>
    bif Nat.ble ((rows.length+([.int .i64 Xt]:List V).length)*8) bC then
    kn (IntKind.wrap .i64 (x+1),ai1,ai2,rows++([.int .i64 Xt]:List V))
    else none))
  else none
  else none
 else
  kr (.inr (x,decide ((x:Int)<aO),iB,places,rows))
noncomputable def vn (C:ae) (i aO aK aT aP:Int) (gT:List V) (cj cl gF gG:Int) (br bc bm bM:List V):(Int × (List V) × (List V) × (List V))→Option ((Int × (List V) × (List V) × (List V)) ⊕ ((Int × Int × Int × (List V) × (List V) × (List V)) ⊕ (Int × Bool × (List V) × (List V) × (List V)))):=un fun x=>un fun iB=>un fun places rows=>xU C i aO aK aT aP gT cj cl gF gG br bc bm bM x iB places rows (fun y=>some (.inl y)) (fun r=>some (.inr r))
noncomputable def Cs (C:ae) (aO aK aT aP:Int) (gT:List V) (cj cl gF gG:Int) (bR br:List V) (i:Int) (iB places bc bm:List V) {β:Type} (kn:(Int × (List V) × (List V) × (List V) × (List V))→Option β) (kr:((Int × Int × Int × (List V) × (List V) × (List V)) ⊕ (Int × Bool × (List V) × (List V) × (List V) × (List V)))→Option β):Option β:=
 bif decide ((i:Int)<(iB.length:Int)) then
  (Loop (vn C i aO aK aT aP gT cj cl gF gG bR br bc bm) (0,iB,places,([]:List V))).bind (di (un fun (nq:Int)=>un fun (ai3:Int)=>un fun (ai4:Int)=>un fun (u3:List V)=>un fun (uS:List V) (ai5:List V)=>
   kr (.inl (nq,ai3,ai4,u3,uS,ai5))) (un fun (alr:Int)=>un fun (MB:Bool)=>un fun (Nj:List V)=>un fun (ai6:List V) (Xu:List V)=>
   bif Nat.ble ((bm.length+([.list bf Xu]:List V).length)*24) bC then
   bif (decide (0≤i))&&(decide (i<(Nj.length:Int))) then
    (Nj[(i:Int).toNat]?).bind fun pP=>
    bif Nat.ble ((bc.length+([.bool (((IntKind.wrap .u64 ((BitVec.ofInt (IntKind.bits .u64) pP.toInt&&&BitVec.ofInt (IntKind.bits .u64) aP).toNat)):Int) != 0)]:List V).length)*1) bC then
    kn (IntKind.wrap .i64 (i+1),Nj,ai6,bc++([.bool (((IntKind.wrap .u64 ((BitVec.ofInt (IntKind.bits .u64) pP.toInt&&&BitVec.ofInt (IntKind.bits .u64) aP).toNat)):Int) != 0)]:List V),bm++([.list bf Xu]:List V))
    else none
   else none
   else none))
 else
  kr (.inr (i,decide ((i:Int)<(iB.length:Int)),iB,places,bc,bm))
noncomputable def xV (C:ae) (aO aK aT aP:Int) (gT:List V) (cj cl gF gG:Int) (bR br:List V):(Int × (List V) × (List V) × (List V) × (List V))→Option ((Int × (List V) × (List V) × (List V) × (List V)) ⊕ ((Int × Int × Int × (List V) × (List V) × (List V)) ⊕ (Int × Bool × (List V) × (List V) × (List V) × (List V)))):=un fun i=>un fun iB=>un fun places=>un fun bc bm=>Cs C aO aK aT aP gT cj cl gF gG bR br i iB places bc bm (fun y=>some (.inl y)) (fun r=>some (.inr r))
noncomputable def Xv (C:ae):cy:=fun β n ds k=>
 bif Nat.beq n 927 then mi KN [[0,0,0,0,0,0],[1,2,0,6,7,8,9,10,11,12,0,0,15,16,17,18,19,20,21]] (@Cr C) ds k else
 bif Nat.beq n 193 then bu KO [false,true,false,false,false,false,false,false,false,true,true,false,false,true,false,false,false,false] [[0,0,0,0,0,0],[1,0,0,3,4,5,6,7,8,9,0,0,12,13,0,15,16,17,18]] (@xU C) ds k else
 bif Nat.beq n 129 then bu KP [true,false,false,false,false,false,false,false,true,true,false,false,false,false,true,true] [[0,0,0,0,0,0],[0,0,2,3,4,5,6,7,8,0,0,11,12,13,14,0,0]] (@Cs C) ds k else
 none
abbrev Nk (C:ae) (b:ct):Prop:=cu Tryd.prog ar C (Xv C) 93 (cP Tryd.prog (ar.aW 93)) (ar.sin 93).a8.length b
theorem ai7 (C:ae):Nk C (.cond 57 (ak [1,1,1,1,1,0,1,0,0,1,0,0,1,0,1,0,0,1,0,0,1,1,0,1,0] s7) (ak [1,1,1,1,1,0,1,0,0,1,0,0,1,0,1,0,0,1,0,0,1,1,0,1,1] s7)):=
 ng KN [[0,0,0,0,0,0],[1,2,0,6,7,8,9,10,11,12,0,0,15,16,17,18,19,20,21]] (@Cr C) (by kernel_rfl) (aS (bs:=[]) (by kernel_rfl) ao) (aS (bs:=[]) (by kernel_rfl) ao) (fun ds=>by kernel_rfl) (fun i β k=>by kernel_rfl) (fun β ds k=>by kernel_rfl)
theorem ai8 (C:ae):Nk C (.loop (ak [1,1,1,1,1,0,1,0,0,1,0,0,1,0,1,0,0] s7)):=
 bz KO [false,true,false,false,false,false,false,false,false,true,true,false,false,true,false,false,false,false] [[0,0,0,0,0,0],[1,0,0,3,4,5,6,7,8,9,0,0,12,13,0,15,16,17,18]] (@xU C) (by kernel_rfl) (aS (bs:=[.cond 57 (ak [1,1,1,1,1,0,1,0,0,1,0,0,1,0,1,0,0,1,0,0,1,1,0,1,0] s7) (ak [1,1,1,1,1,0,1,0,0,1,0,0,1,0,1,0,0,1,0,0,1,1,0,1,1] s7)]) (by kernel_rfl) (bd (ai7 C) ao)) (fun ds=>by kernel_rfl) (fun i x=>by kernel_rfl) (fun i x β k=>by kernel_rfl) (fun β ds k=>by kernel_rfl)
theorem ai9 (C:ae):Nk C (.loop (ak [1,1,1,1,1,0,1,0,0] s7)):=
 bz KP [true,false,false,false,false,false,false,false,true,true,false,false,false,false,true,true] [[0,0,0,0,0,0],[0,0,2,3,4,5,6,7,8,0,0,11,12,13,14,0,0]] (@Cs C) (by kernel_rfl) (aS (bs:=[.loop (ak [1,1,1,1,1,0,1,0,0,1,0,0,1,0,1,0,0] s7)]) (by kernel_rfl) (bd (ai8 C) ao)) (fun ds=>by kernel_rfl) (fun i x=>by kernel_rfl) (fun i x β k=>by kernel_rfl) (fun β ds k=>by kernel_rfl)
noncomputable def Nl (C:ae) (cv cN cw dk:Int) (cz:List V):Option (List V):=
 (C E9 [.int .i64 cv,.int .i64 cN,.int .u64 cw,.int .u64 dk,.list aq cz]).bind fun r1=>
 bif (((V.nth r1 0).toInt):Int) != 0 then
  some [.int .i64 0,.int .i64 0,.int .i64 ((V.nth r1 0).toInt),.list aw ([]:List V),.list ay ([]:List V),.list b7 ([]:List V)]
 else
  bif cZ .u64 cw&&true then
  (Loop (xV C cv cN cw dk cz 0 0 cv 0 ([]:List V) ([]:List V)) (0,([.int .u64 cw]:List V),e8 (.int .u64 cw) (.int .i64 0) ([]:List V),([]:List V),([]:List V))).bind (di (un fun (Mo:Int)=>un fun (aja:Int)=>un fun (ajb:Int)=>un fun (ajc:List V)=>un fun (ajd:List V) (aje:List V)=>
   some [.int .i64 aja,.int .i64 ajb,.int .i64 Mo,.list aw ajc,.list ay ajd,.list b7 aje]) (un fun (ah2:Int)=>un fun (ahF:Bool)=>un fun (ajf:List V)=>un fun (als:List V)=>un fun (AV:List V) (My:List V)=>
   some [.int .i64 cv,.int .i64 0,.int .i64 0,.list aw AV,.list ay My,.list b7 ajf]))
  else none
theorem Xw {cv cN cw dk:Int} {cz:List V} {r:Option (List V)} (h:Nl CC cv cN cw dk cz=r):CC zP [.int .i64 cv,.int .i64 cN,.int .u64 cw,.int .u64 dk,.list aq cz]=r:=
 bn (key:=93) (L:=Xv CC) (bs:=[.loop (ak [1,1,1,1,1,0,1,0,0] s7)]) (by kernel_rfl) (bd (ai9 CC) ao) (Eq.trans (by kernel_rfl) h)
noncomputable def Xx (C:ae) (cv cN cw dk:Int) (cz:List V):Option (List V):=
 bif decide ((cN:Int)>64) then
  some [.int .i64 0,.int .i64 0,.int .i64 3,.list aw ([]:List V),.list ay ([]:List V)]
 else
  (C E0 [.list aq cz]).bind fun r1=>
  (C zP [.int .i64 cv,.int .i64 cN,.int .u64 cw,.int .u64 dk,.list aq ((V.nth r1 0).toList)]).bind fun r2=>
  bif (((V.nth (r2.drop 2) 0).toInt):Int) != 0 then
  some [.int .i64 0,.int .i64 0,.int .i64 ((V.nth (r2.drop 2) 0).toInt),.list aw ([]:List V),.list ay ([]:List V)]
  else
  (C sy [.int .i64 ((V.nth r2 0).toInt),.int .i64 ((V.nth (r2.drop 1) 0).toInt),.list aw ((V.nth (r2.drop 3) 0).toList),.list ay ((V.nth ((r2.drop 3).drop 1) 0).toList)]).bind fun r3=>
  some [.int .i64 ((V.nth r3 0).toInt),.int .i64 ((V.nth (r3.drop 1) 0).toInt),.int .i64 0,.list aw ((V.nth (r3.drop 2) 0).toList),.list ay ((V.nth ((r3.drop 2).drop 1) 0).toList)]
theorem ajg {cv cN cw dk:Int} {cz:List V} {r:Option (List V)} (h:Xx CC cv cN cw dk cz=r):CC ET [.int .i64 cv,.int .i64 cN,.int .u64 cw,.int .u64 dk,.list aq cz]=r:=
 bn (key:=67) (L:=db) (bs:=[]) (by kernel_rfl) ao (Eq.trans (by kernel_rfl) h)
noncomputable def Xy (C:ae) (cv cN cw dk:Int) (cz:List V):Option (List V):=
 (C zQ [.int .i64 cv,.int .i64 cN,.int .u64 cw,.int .u64 dk,.list aq cz]).bind fun r1=>
 bif (((V.nth (r1.drop 2) 0).toInt):Int) != 0 then
  some [.int .i64 0,.int .i64 0,.int .i64 ((V.nth (r1.drop 2) 0).toInt),.list aw ([]:List V),.list ay ([]:List V)]
 else
  (C sA [.int .i64 ((V.nth r1 0).toInt),.int .i64 ((V.nth (r1.drop 1) 0).toInt),.list aw ((V.nth (r1.drop 3) 0).toList),.list ay ((V.nth ((r1.drop 3).drop 1) 0).toList)]).bind fun r2=>
  some [.int .i64 ((V.nth r2 0).toInt),.int .i64 ((V.nth (r2.drop 1) 0).toInt),.int .i64 0,.list aw ((V.nth (r2.drop 2) 0).toList),.list ay ((V.nth ((r2.drop 2).drop 1) 0).toList)]
theorem ajh {cv cN cw dk:Int} {cz:List V} {r:Option (List V)} (h:Xy CC cv cN cw dk cz=r):CC zM [.int .i64 cv,.int .i64 cN,.int .u64 cw,.int .u64 dk,.list aq cz]=r:=
 bn (key:=79) (L:=db) (bs:=[]) (by kernel_rfl) ao (Eq.trans (by kernel_rfl) h)
noncomputable def Nm (C:ae) (aO aK aT aP:Int) (bG:List V):Option (List V):=
 (C zN [.list aq bG]).bind fun r1=>
 (C EZ [.list aq ((V.nth r1 0).toList)]).bind fun r2=>
 bif (V.nth r2 0).toBool then
  (C zM [.int .i64 aO,.int .i64 aK,.int .u64 aT,.int .u64 aP,.list aq ((V.nth (r2.drop 1) 0).toList)]).bind fun r3=>
  some [.int .i64 ((V.nth r3 0).toInt),.int .i64 ((V.nth (r3.drop 1) 0).toInt),.int .i64 ((V.nth (r3.drop 2) 0).toInt),.int .i64 aO,.int .i64 aK,.int .u64 aT,.int .u64 aP,.list aq ((V.nth (r2.drop 1) 0).toList),.list aw ((V.nth (r3.drop 3) 0).toList),.list ay ((V.nth ((r3.drop 3).drop 1) 0).toList)]
 else
  (C zM [.int .i64 aO,.int .i64 aK,.int .u64 aT,.int .u64 aP,.list aq ((V.nth (r2.drop 1) 0).toList)]).bind fun r4=>
  some [.int .i64 ((V.nth r4 0).toInt),.int .i64 ((V.nth (r4.drop 1) 0).toInt),.int .i64 ((V.nth (r4.drop 2) 0).toInt),.int .i64 aO,.int .i64 aK,.int .u64 aT,.int .u64 aP,.list aq ((V.nth (r2.drop 1) 0).toList),.list aw ((V.nth (r4.drop 3) 0).toList),.list ay ((V.nth ((r4.drop 3).drop 1) 0).toList)]
theorem Xz {aO aK aT aP:Int} {bG:List V} {r:Option (List V)} (h:Nm CC aO aK aT aP bG=r):CC uv [.int .i64 aO,.int .i64 aK,.int .u64 aT,.int .u64 aP,.list aq bG]=r:=
 bn (key:=65) (L:=db) (bs:=[]) (by kernel_rfl) ao (Eq.trans (by kernel_rfl) h)
section
variable {n:Nf} {L S:Nat} (h:Nat6 n L S)
include h
theorem XA {T U:List Nat} {s:Nat} {i:Nat} (hi:i<T.length) (hs:T[i]=s) (jA:s<2^S) {x:Nat} (hx:x<L) (hpx:aV (sn n.E) T s (x+1) <+: U) (hU:(aV (sn n.E) T s (x+1)).length≤512) {c1 c2 c3 c4:Int} {l1 l2 l3 l4:List V}:
  vn CC (i:Int) (L:Int) n.S (n.st:Int) (n.fin:Int) (n.E.map Ed.enc) c1 c2 c3 c4 l1 l2 l3 l4 ((x:Int),U1 (aV (sn n.E) T s x),uM (aV (sn n.E) T s x),(tab x fun j=>nV (U.idxOf (sn n.E s j))))=
   some (.inl (((x+1:Nat):Int),U1 (aV (sn n.E) T s (x+1)),uM (aV (sn n.E) T s (x+1)),(tab (x+1) fun j=>nV (U.idxOf (sn n.E s j))))):=by
 have h6:=h.l6
 have xp:=h.pow
 have oR:=Az (next:=sn n.E) T s x
 have jf:i<(aV (sn n.E) T s x).length:=Nat.lt_of_lt_of_le hi oR.length_le
 have xr:(aV (sn n.E) T s x)[i]=s:=by rw[←oR.getElem hi,hs]
 have hn:=h.next s x
 have fa:=hU
 have k1:cZ .u64 ((sn n.E s x:Nat):Int)=true:=xc (by omega)
 have st:=TF n h.ok h.good (set:=s) (by omega) (x:Int)
 simp only[vn,xU,un]
 refine bT (dx hx) ?_
 refine (oL (GH jf)).trans ?_
 rw[xr]
 have st':CC sB [.int .i64 (L:Int),.int .i64 n.S,.int .u64 (n.st:Int),.int .u64 (n.fin:Int),.list aq (n.E.map Ed.enc),.int .u64 (s:Int),.int .i64 (x:Int)]=some [uV (sn n.E s x)]:=(congrArg (fun z=>CC sB [.int .i64 z,.int .i64 n.S,.int .u64 (n.st:Int),.int .u64 (n.fin:Int),.list aq (n.E.map Ed.enc),.int .u64 (s:Int),.int .i64 (x:Int)]) h.hL.symm).trans st
 refine bs st' ?_
 refine bT (by simp only[uV,V.bU,V.toInt_int];rw[k1];rfl) ?_
 simp only[uV,V.bU,V.toInt_int]
 rw[show (V.int .u64 ((sn n.E s x:Nat):Int))=uV (sn n.E s x) from rfl]
 have e1:=uR u4 (sn n.E s x) (aV (sn n.E) T s x) 0
 unfold Cr
 rw[show (V.int .u64 ((sn n.E s x:Nat):Int))=uV (sn n.E s x) from rfl,show fC (uV (sn n.E s x)) (uM (aV (sn n.E) T s x))=_ from e1]
 have ei:U.idxOf (sn n.E s x)=(cT (aV (sn n.E) T s x) (sn n.E s x)).idxOf (sn n.E s x):=uO hpx uK
 rw[Me] at ei
 rw[aV,oI] at fa
 by_cases hm:sn n.E s x∈aV (sn n.E) T s x
 ·have e2:=w9 u4 (sn n.E s x) (.int .i64 0) (aV (sn n.E) T s x) 0 hm
  rw[Nat.zero_add] at e2
  rw[if_pos hm] at ei
  refine bF (by simpa using hm) ?_
  rw[show gY (uV (sn n.E s x)) (uM (aV (sn n.E) T s x)) (.int .i64 0)=_ from e2,V.toInt_int,←ei]
  simp only[di,un]
  refine bT (cap (by rw[dY];simp;omega) (by omega)) ?_
  rw[cA (by omega),kN,aV]
  unfold cT
  rw[if_pos hm]
  rfl
 ·rw[if_neg hm] at ei fa
  refine bT (by simpa using hm) ?_
  refine bF (by rw[kf];simp;omega) ?_
  refine bT (by rw[k1];rfl) ?_
  refine bT (cap (by rw[kf];simp;omega) (by omega)) ?_
  simp only[di,un]
  refine bT (cap (by rw[dY];simp;omega) (by omega)) ?_
  have e2:=xb u4 (sn n.E s x) (aV (sn n.E) T s x) 0 hm
  rw[Nat.zero_add] at e2
  rw[kf,show e8 (uV (sn n.E s x)) _ (uM (aV (sn n.E) T s x))=_ from e2,←ei,cA (by omega),kN,aV]
  unfold cT
  rw[if_neg hm]
  simp[U1,uM,nV,uV]
theorem aji {T U:List Nat} {s:Nat} {i:Nat} (hi:i<T.length) (hs:T[i]=s) (jA:s<2^S) (hp:aV (sn n.E) T s L <+: U) (hU:(aV (sn n.E) T s L).length≤512) {c1 c2 c3 c4:Int} {l1 l2 l3 l4:List V}:
  Loop (vn CC (i:Int) (L:Int) n.S (n.st:Int) (n.fin:Int) (n.E.map Ed.enc) c1 c2 c3 c4 l1 l2 l3 l4) (0,U1 T,uM T,([]:List V))=
   some (.inr ((L:Int),false,U1 (aV (sn n.E) T s L),uM (aV (sn n.E) T s L),(tab L fun x=>nV (U.idxOf (sn n.E s x))))):=by
 refine (eK L (fun x=>((x:Int),U1 (aV (sn n.E) T s x),uM (aV (sn n.E) T s x),(tab x fun j=>nV (U.idxOf (sn n.E s j))))) _ (fun x hx=> ?_) ?_)
 ·have:=(qZ (next:=sn n.E) T s (show x+1≤L by omega)).length_le
  exact XA h hi hs jA hx ((qZ T s (show x+1≤L by omega)).trans hp) (by omega)
 ·simp only[vn,xU,un]
  refine bF (bt (Nat.le_refl _)) ?_
  rw[bt (Nat.le_refl _)]
theorem ajj {T:List Nat} {s:Nat} {i:Nat} (hi:i<T.length) (hs:T[i]=s) (jA:s<2^S) (hT:T.length≤512) (hU:512<(aV (sn n.E) T s L).length) {c1 c2 c3 c4:Int} {l1 l2 l3 l4:List V}:
  Loop (vn CC (i:Int) (L:Int) n.S (n.st:Int) (n.fin:Int) (n.E.map Ed.enc) c1 c2 c3 c4 l1 l2 l3 l4) (0,U1 T,uM T,([]:List V))=
   some (.inl (3,0,0,[],[],[])):=by
 obtain ⟨y,hy,Ji,hy2,hy3⟩:=afJ hT hU
 have h6:=h.l6
 have xp:=h.pow
 refine (abD (fun x=>((x:Int),U1 (aV (sn n.E) T s x),uM (aV (sn n.E) T s x),(tab x fun j=>nV ((aV (sn n.E) T s y).idxOf (sn n.E s j))))) y (fun x hx=> ?_) ?_)
 ·exact XA h hi hs jA (by omega) (qZ T s (by omega)) (hy3 (x+1) (by omega))
 ·have oR:=Az (next:=sn n.E) T s y
  have jf:i<(aV (sn n.E) T s y).length:=Nat.lt_of_lt_of_le hi oR.length_le
  have xr:(aV (sn n.E) T s y)[i]=s:=by rw[←oR.getElem hi,hs]
  have hn:=h.next s y
  have k1:cZ .u64 ((sn n.E s y:Nat):Int)=true:=xc (by omega)
  have st:=TF n h.ok h.good (set:=s) (by omega) (y:Int)
  simp only[vn,xU,un]
  refine bT (dx hy) ?_
  refine (oL (GH jf)).trans ?_
  rw[xr]
  have st':CC sB [.int .i64 (L:Int),.int .i64 n.S,.int .u64 (n.st:Int),.int .u64 (n.fin:Int),.list aq (n.E.map Ed.enc),.int .u64 (s:Int),.int .i64 (y:Int)]=some [uV (sn n.E s y)]:=(congrArg (fun z=>CC sB [.int .i64 z,.int .i64 n.S,.int .u64 (n.st:Int),.int .u64 (n.fin:Int),.list aq (n.E.map Ed.enc),.int .u64 (s:Int),.int .i64 (y:Int)]) h.hL.symm).trans st
  refine bs st' ?_
  refine bT (by simp only[uV,V.bU,V.toInt_int];rw[k1];rfl) ?_
  simp only[uV,V.bU,V.toInt_int]
  rw[show (V.int .u64 ((sn n.E s y:Nat):Int))=uV (sn n.E s y) from rfl]
  have e1:=uR u4 (sn n.E s y) (aV (sn n.E) T s y) 0
  unfold Cr
  rw[show fC (uV (sn n.E s y)) (uM (aV (sn n.E) T s y))=_ from e1]
  refine bT (by simpa using hy2) ?_
  refine bT (by rw[kf];simp;omega) ?_
  rfl
theorem ajk {s:Nat} (hs:s<2^S):(((IntKind.wrap .u64 ((BitVec.ofInt (IntKind.bits .u64) (s:Int)&&&BitVec.ofInt (IntKind.bits .u64) (n.fin:Int)).toNat)):Int) != 0)=sf n.fin s:=by
 have hp:=h.pow
 have hf:=h.fin
 rw[u64_and (by omega) (by omega)]
 unfold sf
 rw[Bool.eq_iff_iff]
 simp
theorem Nn {i:Nat} (fu:i<(aj L (sn n.E) n.st i).length) (hlen:(aj L (sn n.E) n.st i).length≤512) {U:List Nat} (hp:aj L (sn n.E) n.st (i+1) <+: U) {l1 l2 l3 l4:List V} (hl3:l3.length≤1000) (hl4:l4.length≤1000):
  xV CC (L:Int) n.S (n.st:Int) (n.fin:Int) (n.E.map Ed.enc) 0 0 (L:Int) 0 l1 l2 ((i:Int),U1 (aj L (sn n.E) n.st i),uM (aj L (sn n.E) n.st i),l3,l4)=
   if 512<(aj L (sn n.E) n.st (i+1)).length then some (.inr (.inl (3,0,0,[],[],[])))
   else some (.inl (((i+1:Nat):Int),U1 (aj L (sn n.E) n.st (i+1)),uM (aj L (sn n.E) n.st (i+1)),l3++[V.bool (sf n.fin (aj L (sn n.E) n.st i)[i])],l4++[V.list bf (tab L fun x=>nV (U.idxOf (sn n.E (aj L (sn n.E) n.st i)[i] x)))])):=by
 have h6:=h.l6
 have hq:=sub_lt h i _ (List.getElem_mem fu)
 have ig:aj L (sn n.E) n.st (i+1)=aV (sn n.E) (aj L (sn n.E) n.st i) (aj L (sn n.E) n.st i)[i] L:=L7 (List.getElem?_eq_getElem fu)
 simp only[xV,Cs,un]
 refine bT (decide_eq_true (by rw[kf];omega)) ?_
 by_cases ow:512<(aj L (sn n.E) n.st (i+1)).length
 ·rw[if_pos ow]
  refine bs (ajj h fu rfl hq hlen (by rw[←ig];exact ow)) ?_
  rfl
 ·rw[if_neg ow]
  refine bs (aji h fu rfl hq (U:=U) (by rw[←ig];exact hp) (by rw[←ig];omega)) ?_
  rw[←ig]
  simp only[di,un]
  have oR:=Uc (L:=L) (next:=sn n.E) (a0:=n.st) i
  have jf:i<(aj L (sn n.E) n.st (i+1)).length:=Nat.lt_of_lt_of_le fu oR.length_le
  refine bT (cap (by simp;omega) (by omega)) ?_
  refine (oL (GH jf)).trans ?_
  rw[←oR.getElem fu]
  simp only[uV,V.toInt_int]
  rw[ajk h hq]
  refine bT (cap (by simp;omega) (by omega)) ?_
  rw[cA (by omega)]
theorem ajl (hn: ¬fZ n L S): ∃X,CC zP (jE n [])=some (GI (eQ n L S) 0 (.list b7 X)):=by
 have h6:=h.l6
 have bP:=h.st
 have xp:=h.pow
 have hd:(aj L (sn n.E) n.st (2^S)).length≤2^S:=u5 h _
 have hle: ∀i,(aj L (sn n.E) n.st i).length≤(dZ n L S).length:=Vs hd
 have af5:(dZ n L S).length≤512:=by unfold fZ at hn;omega
 refine ⟨U1 (dZ n L S),Xw ?_⟩
 unfold Nl
 have hv:=Tw n h.ok
 rw[h.code] at hv
 refine bs hv (bF rfl ?_)
 refine bT (by rw[xc (show n.st<2^64 by omega)];rfl) ?_
 rw[h.hL]
 have key:Loop (xV CC (L:Int) n.S (n.st:Int) (n.fin:Int) (n.E.map Ed.enc) 0 0 (L:Int) 0 ([]:List V) ([]:List V)) (0,U1 [n.st],uM [n.st],([]:List V),([]:List V))=
   some (.inr (((dZ n L S).length:Int),false,U1 (dZ n L S),uM (dZ n L S),(eQ n L S).cU,(eQ n L S).cB)):=by
  refine (eK (dZ n L S).length (fun i=>((i:Int),U1 (aj L (sn n.E) n.st i),uM (aj L (sn n.E) n.st i),(tab i fun j=>V.bool ((eQ n L S).fin j)),(tab i fun j=>fx L ((eQ n L S).nx j)))) _ (fun i hi=> ?_) ?_)
  ·have fu:=w4 hd hi
   have hiK:i<2^S:=Nat.lt_of_lt_of_le hi hd
   have uU:(aj L (sn n.E) n.st i)[i]=(dZ n L S)[i]:=(kg (show i≤2^S by omega)).getElem fu
   have af6:=hle (i+1)
   have af7:=hle i
   have:=Nn h fu (by omega) (U:=dZ n L S) (kg (by omega)) (l1:=[]) (l2:=[]) (l3:=(tab i fun j=>V.bool ((eQ n L S).fin j))) (l4:=(tab i fun j=>fx L ((eQ n L S).nx j))) (by rw[dY];omega) (by rw[dY];omega)
   rw[if_neg (by omega),uU] at this
   rw[this,kN,kN]
   have e1:(eQ n L S).fin i=sf n.fin (dZ n L S)[i]:=AE hi
   have e2:fx L ((eQ n L S).nx i)= .list bf (tab L fun x=>nV ((dZ n L S).idxOf (sn n.E (dZ n L S)[i] x))):=by
    unfold fx
    refine congrArg _ (eF fun x hx=> ?_)
    rw[show (eQ n L S).nx i x=_ from uN hi hx];rfl
   rw[e1,e2]
  ·simp only[xV,Cs,un]
   rw[show aj L (sn n.E) n.st (dZ n L S).length=dZ n L S from AF hd,kf]
   refine bF (bt (Nat.le_refl _)) ?_
   rw[bt (Nat.le_refl _)]
   have e3:(eQ n L S).n=(dZ n L S).length:=kK
   unfold Da.cU Da.cB
   rw[e3];rfl
 refine bs key ?_
 rfl
theorem ajm (hn:fZ n L S): ∃X,CC zP (jE n [])=some (GI zD 3 (.list b7 X)):=by
 have h6:=h.l6
 have bP:=h.st
 have xp:=h.pow
 obtain ⟨m,hm1,od,hm3⟩:=Vu (Vt (show 512<(aj L (sn n.E) n.st (2^S)).length from hn)) (by omega)
 refine ⟨[],Xw ?_⟩
 unfold Nl
 have hv:=Tw n h.ok
 rw[h.code] at hv
 refine bs hv (bF rfl ?_)
 refine bT (by rw[xc (show n.st<2^64 by omega)];rfl) ?_
 rw[h.hL]
 have key: ∃r,Loop (xV CC (L:Int) n.S (n.st:Int) (n.fin:Int) (n.E.map Ed.enc) 0 0 (L:Int) 0 ([]:List V) ([]:List V)) (0,U1 [n.st],uM [n.st],([]:List V),([]:List V))=some r∧r=(.inl (3,0,0,[],[],[])):=by
  refine AN (fun i st=> ∃l3 l4:List V,l3.length=i∧l4.length=i∧st=((i:Int),U1 (aj L (sn n.E) n.st i),uM (aj L (sn n.E) n.st i),l3,l4)) _ m 0 _ (fun i _ hi st bP=> ?_) (fun st bP=> ?_) ⟨[],[],rfl,rfl,rfl⟩
  ·obtain ⟨l3,l4,e3,e4,rfl⟩:=bP
   obtain ⟨h1,h2⟩:=od i (by omega)
   have h3:=(od (i+1) (by omega)).2
   have:=Nn h h1 h2 (List.prefix_refl _) (l1:=[]) (l2:=[]) (l3:=l3) (l4:=l4) (by omega) (by omega)
   rw[if_neg (by omega)] at this
   exact ⟨_,this,_,_,by simp[e3],by simp[e4],rfl⟩
  ·obtain ⟨l3,l4,e3,e4,rfl⟩:=bP
   rw[Nat.zero_add] at*
   obtain ⟨h1,h2⟩:=od m (by omega)
   have:=Nn h h1 h2 (List.prefix_refl _) (l1:=[]) (l2:=[]) (l3:=l3) (l4:=l4) (by omega) (by omega)
   rw[if_pos (by omega)] at this
   exact ⟨_,this,rfl⟩
 obtain ⟨r,h1,rfl⟩:=key
 refine bs h1 ?_
 rfl
end
instance (n:Nf) (L S:Nat):Decidable (fZ n L S):=by unfold fZ;infer_instance
noncomputable def eR (n:Nf) (L S:Nat):Da:=if fZ n L S then zD else minD (eQ n L S)
def kT (n:Nf) (L S:Nat):Int:=if fZ n L S then 3 else 0
section
variable {n:Nf} {L S:Nat} (h:Nat6 n L S)
include h
theorem XB:CC zM (jE n [])=some (kQ (eR n L S) (kT n L S)):=by
 refine ajh ?_
 unfold Xy eR kT
 by_cases ho:fZ n L S
 ·obtain ⟨X,hX⟩:=aga h ho
  rw[if_pos ho,if_pos ho]
  refine bs hX (bT rfl ?_)
  rfl
 ·obtain ⟨X,hX⟩:=af9 h ho
  rw[if_neg ho,if_neg ho]
  refine bs hX (bF rfl ?_)
  refine bs (GB (u6 h ho)) ?_
  rfl
end
def cE (L S st fin:Nat) (l:List Ed):Nf:=⟨L,S,st,fin,pN l⟩
structure vo (L S st fin:Nat) (l:List Ed):Prop where
 l1:1≤L
 l6:L≤6
 pI:S≤64
 st:st<2^S
 fin:fin<2^S
 E: ∀e∈l,e.In L S
 len:l.length≤1000000
theorem nP {L S st fin:Nat} {l:List Ed} (h:vo L S st fin l):Nat6 (cE L S st fin l) L S where
 hL:=rfl
 hS:=rfl
 ok:=by
  have vM:=h.l1
  have hl6:=h.l6
  have hs:=h.pI
  have bP:=h.st
  have nA:=h.fin
  have hp:2^S≤2^64:=Nat.pow_le_pow_right (by omega) hs
  have dX: ∀e∈pN l,e.In L S:=fun e he=>h.E e (xt.1 he)
  have hlen:=ag6 (L:=L) (S:=S) (by omega) (by omega) (MR l) dX
  refine ⟨by simp only[cE];omega,by simp only[cE];omega,by simp only[cE];omega,by simp only[cE];omega,by simp only[cE];omega,by simp only[cE];omega,by simp only[cE];unfold maxLen;omega,fun e he=> ?_⟩
  have:=dX e he
  unfold Ed.In at this
  unfold Ed.Ok
  omega
 code:=by
  have vM:=h.l1
  have hl6:=h.l6
  have hs:=h.pI
  unfold Nf.code
  rw[if_neg (by simp only[cE];omega),if_neg (by simp only[cE,Int.toNat_natCast];have:=h.st;have:=h.fin;omega),if_pos]
  intro i hi
  have dX: ∀e∈pN l,e.In L S:=fun e he=>h.E e (xt.1 he)
  unfold Nf.j9
  simp only[cE] at*
  refine ⟨by rw[fY hi];exact dX _ (List.getElem_mem hi),fun h0=> ?_⟩
  rw[fY hi,fY (show i-1<_ by omega)]
  exact List.pairwise_iff_getElem.1 (MR l) (i-1) i (by omega) hi (by omega)
def No (m:Da) (e:Int) (n:Nf):List V:=[.int .i64 (m.L:Int),.int .i64 (m.st:Int),.int .i64 e,.int .i64 n.L,.int .i64 n.S,.int .u64 (n.st:Int),.int .u64 (n.fin:Int),.list aq (n.E.map Ed.enc),.list aw m.cU,.list ay m.cB]
section
variable {L S st fin:Nat} {l:List Ed} (h:vo L S st fin l)
include h
theorem ajn:CC uv [.int .i64 (L:Int),.int .i64 (S:Int),.int .u64 (st:Int),.int .u64 (fin:Int),.list aq (l.map Ed.enc)]=some (No (eR (cE L S st fin l) L S) (kT (cE L S st fin l) L S) (cE L S st fin l)):=by
 have hl:=h.len
 obtain ⟨R,e1,p1,s1⟩:=SL.aiX l (by omega)
 obtain ⟨b,e2⟩:=Wq (l:=R) (by rw[p1.length_eq];exact hl)
 obtain ⟨c1,c2⟩:=ahg s1
 have hc:iz R=pN l:=Wf c1 (MR l) fun x=>by rw[c2,xt,p1.mem_iff]
 rw[hc] at e2
 have e3:=XB (nP h)
 refine Xz ?_
 unfold Nm
 refine bs e1 ?_
 refine bs e2 ?_
 cases b
 ·refine bF rfl ?_
  refine bs e3 ?_
  rfl
 ·refine bT rfl ?_
  refine bs e3 ?_
  rfl
theorem ajo:CC ET [.int .i64 (L:Int),.int .i64 (S:Int),.int .u64 (st:Int),.int .u64 (fin:Int),.list aq (l.map Ed.enc)]=some (kQ (eR (cE L S st fin l) L S) (kT (cE L S st fin l) L S)):=by
 have hl:=h.len
 have hs:=h.pI
 have h6:=nP h
 refine ajg ?_
 unfold Xx eR kT
 refine bF (decide_eq_false (by omega)) ?_
 refine bs (ahb (by omega)) ?_
 by_cases ho:fZ (cE L S st fin l) L S
 ·obtain ⟨X,hX⟩:=ajm h6 ho
  rw[if_pos ho,if_pos ho]
  refine bs hX (bT rfl ?_)
  rfl
 ·obtain ⟨X,hX⟩:=ajl h6 ho
  rw[if_neg ho,if_neg ho]
  refine bs hX (bF rfl ?_)
  refine bs (MK (u6 h6 ho)) ?_
  rfl
end
noncomputable def XC (C:ae) (cD cO:Int) (cK dp:List V) (cL cR:Int) (cS dy:List V):Option (List V):=
 (C zC [.int .i64 cD,.int .i64 cO,.list aw cK,.list ay dp]).bind fun r1=>
 bif (((V.nth r1 0).toInt):Int) != 0 then
  some [.int .i64 ((V.nth r1 0).toInt)]
 else
  (C zC [.int .i64 cL,.int .i64 cR,.list aw cS,.list ay dy]).bind fun r2=>
  bif (((V.nth r2 0).toInt):Int) != 0 then
  some [.int .i64 ((V.nth r2 0).toInt)]
  else
  bif (cD:Int) != cL then
   some [.int .i64 1]
  else
   some [.int .i64 0]
theorem ajp {cD cO:Int} {cK dp:List V} {cL cR:Int} {cS dy:List V} {r:Option (List V)} (h:XC CC cD cO cK dp cL cR cS dy=r):CC zF [.int .i64 cD,.int .i64 cO,.list aw cK,.list ay dp,.int .i64 cL,.int .i64 cR,.list aw cS,.list ay dy]=r:=
 bn (key:=24) (L:=db) (bs:=[]) (by kernel_rfl) ao (Eq.trans (by kernel_rfl) h)
noncomputable abbrev xW:Code:=cI Tryd.prog (ar.aW 41)
noncomputable def Ct (C:ae) (t40 dI ed:Int) (gX gv:List V) (gi gj:Int) (pS oW:List V) (t41:Int) {β:Type} (kn:Int→Option β) (kr:((Bool) ⊕ (Int × Bool))→Option β):Option β:=
 bif decide ((t41:Int)<t40) then
  (idx gX t41).bind fun x1=>
  (idx pS t41).bind fun x2=>
  bif !(x1.toBool==x2.toBool) then
  kr (.inl false)
  else
  kn (IntKind.wrap .i64 (t41+1))
 else
  kr (.inr (t41,decide ((t41:Int)<t40)))
noncomputable def Np (C:ae) (t40 dI ed:Int) (gX gv:List V) (gi gj:Int) (pS oW:List V):(Int)→Option ((Int) ⊕ ((Bool) ⊕ (Int × Bool))):=fun t41=>Ct C t40 dI ed gX gv gi gj pS oW t41 (fun y=>some (.inl y)) (fun r=>some (.inr r))
noncomputable def Cu (C:ae) (q t58 t59 t80 dI ed:Int) (gX gv:List V) (gi gj:Int) (pS oW:List V) (t81:Int) {β:Type} (kn:Int→Option β) (kr:((Bool) ⊕ (Int × Bool))→Option β):Option β:=
 bif decide ((t81:Int)<t80) then
  (idx gv q).bind fun x9=>
  (idx x9.toList t81).bind fun gu=>
  (idx oW q).bind fun eJ=>
  (idx eJ.toList t81).bind fun mq=>
  bif (gu.toInt:Int) != mq.toInt then
  kr (.inl false)
  else
  kn (IntKind.wrap .i64 (t81+1))
 else
  kr (.inr (t81,decide ((t81:Int)<t80)))
noncomputable def Nq (C:ae) (q t58 t59 t80 dI ed:Int) (gX gv:List V) (gi gj:Int) (pS oW:List V):(Int)→Option ((Int) ⊕ ((Bool) ⊕ (Int × Bool))):=fun t81=>Cu C q t58 t59 t80 dI ed gX gv gi gj pS oW t81 (fun y=>some (.inl y)) (fun r=>some (.inr r))
noncomputable def Cv (C:ae) (t58 dI ed:Int) (gX gv:List V) (gi gj:Int) (pS oW:List V) (t59:Int) {β:Type} (kn:Int→Option β) (kr:((Bool) ⊕ (Int × Bool))→Option β):Option β:=
 bif decide ((t59:Int)<t58) then
  (idx gv t59).bind fun x6=>
  (idx oW t59).bind fun x7=>
  bif ((x6.toList.length:Int):Int) != (x7.toList.length:Int) then
  kr (.inl false)
  else
  (idx gv t59).bind fun x8=>
  (Loop (Nq C t59 t58 t59 (x8.toList.length:Int) dI ed gX gv gi gj pS oW) 0).bind (di (fun (nq:Bool)=>
   kr (.inl nq)) (un fun (Ay:Int) (agl:Bool)=>
   kn (IntKind.wrap .i64 (t59+1))))
 else
  kr (.inr (t59,decide ((t59:Int)<t58)))
noncomputable def Nr (C:ae) (t58 dI ed:Int) (gX gv:List V) (gi gj:Int) (pS oW:List V):(Int)→Option ((Int) ⊕ ((Bool) ⊕ (Int × Bool))):=fun t59=>Cv C t58 dI ed gX gv gi gj pS oW t59 (fun y=>some (.inl y)) (fun r=>some (.inr r))
noncomputable def XD (C:ae):cy:=fun β n ds k=>
 bif Nat.beq n 65 then bu Kk [false,true,false,false,false,false,false,false,false,false] [[0],[1,0,0,3,4,5,6,7,8,9,10]] (@Ct C) ds k else
 bif Nat.beq n 241 then bu Kl [false,false,false,false,true,false,false,false,false,false,false,false,false] [[0],[1,2,3,4,0,0,6,7,8,9,10,11,12,13]] (@Cu C) ds k else
 bif Nat.beq n 161 then bu Km [false,true,false,false,false,false,false,false,false,false] [[0],[1,0,0,3,4,5,6,7,8,9,10]] (@Cv C) ds k else
 none
abbrev Ns (C:ae) (b:ct):Prop:=cu Tryd.prog ar C (XD C) 41 (cP Tryd.prog (ar.aW 41)) (ar.sin 41).a8.length b
theorem ajq (C:ae):Ns C (.loop (ak [1,1,0,1,0,0] xW)):=
 bz Kk [false,true,false,false,false,false,false,false,false,false] [[0],[1,0,0,3,4,5,6,7,8,9,10]] (@Ct C) (by kernel_rfl) (aS (bs:=[]) (by kernel_rfl) ao) (fun ds=>by kernel_rfl) (fun i x=>by kernel_rfl) (fun i x β k=>by kernel_rfl) (fun β ds k=>by kernel_rfl)
theorem ajr (C:ae):Ns C (.loop (ak [1,1,1,0,1,0,0,1,1,0,0,1,1,1,0,0] xW)):=
 bz Kl [false,false,false,false,true,false,false,false,false,false,false,false,false] [[0],[1,2,3,4,0,0,6,7,8,9,10,11,12,13]] (@Cu C) (by kernel_rfl) (aS (bs:=[]) (by kernel_rfl) ao) (fun ds=>by kernel_rfl) (fun i x=>by kernel_rfl) (fun i x β k=>by kernel_rfl) (fun β ds k=>by kernel_rfl)
theorem ajs (C:ae):Ns C (.loop (ak [1,1,1,0,1,0,0] xW)):=
 bz Km [false,true,false,false,false,false,false,false,false,false] [[0],[1,0,0,3,4,5,6,7,8,9,10]] (@Cv C) (by kernel_rfl) (aS (bs:=[.loop (ak [1,1,1,0,1,0,0,1,1,0,0,1,1,1,0,0] xW)]) (by kernel_rfl) (bd (ajr C) ao)) (fun ds=>by kernel_rfl) (fun i x=>by kernel_rfl) (fun i x β k=>by kernel_rfl) (fun β ds k=>by kernel_rfl)
noncomputable def XE (C:ae) (cD cO:Int) (cK dp:List V) (cL cR:Int) (cS dy:List V):Option (List V):=
 bif (cD:Int) != cL then
  some [.bool false]
 else
  bif (cO:Int) != cR then
  some [.bool false]
  else
  bif ((cK.length:Int):Int) != (cS.length:Int) then
   some [.bool false]
  else
   bif ((dp.length:Int):Int) != (dy.length:Int) then
   some [.bool false]
   else
   (Loop (Np C (cK.length:Int) cD cO cK dp cL cR cS dy) 0).bind (di (fun (ka:Bool)=>
    some [.bool ka]) (un fun (kb:Int) (mo:Bool)=>
    (Loop (Nr C (dp.length:Int) cD cO cK dp cL cR cS dy) 0).bind (di (fun (AU:Bool)=>
     some [.bool AU]) (un fun (ajt:Int) (V1:Bool)=>
     some [.bool true]))))
theorem aju {cD cO:Int} {cK dp:List V} {cL cR:Int} {cS dy:List V} {r:Option (List V)} (h:XE CC cD cO cK dp cL cR cS dy=r):CC sx [.int .i64 cD,.int .i64 cO,.list aw cK,.list ay dp,.int .i64 cL,.int .i64 cR,.list aw cS,.list ay dy]=r:=
 bn (key:=41) (L:=XD CC) (bs:=[.loop (ak [1,1,0,1,0,0] xW),.loop (ak [1,1,1,0,1,0,0] xW)]) (by kernel_rfl) (bd (ajq CC) (bd (ajs CC) ao)) (Eq.trans (by kernel_rfl) h)
section
variable {a b:Da} (ha:a.Ok) (hb:b.Ok) (hL:a.L=b.L) {op:Nat}
include ha hb hL
end
theorem XF (m:Da) (hn:m.n≤1000000) (hl:m.L≤1000):CC sx (gE m (dc m))=some [.bool true]:=by
 refine aju ?_
 unfold XE
 refine bF (by simp) (bF (by simp) (bF (by simp) (bF (by simp) ?_)))
 rw[Da.nw]
 refine bs (eK m.n (fun i=>(i:Int)) (.inr ((m.n:Int),false)) (fun i hi=> ?_) ?_) ?_
 ·simp only[Np,Ct]
  refine bT (dx hi) ?_
  refine bs (Da.sK hi) ?_
  refine bs (Da.sK hi) ?_
  refine bF (by simp) ?_
  rw[cA (by omega)]
 ·simp only[Np,Ct]
  refine bF (bt (Nat.le_refl _)) ?_
  rw[bt (Nat.le_refl _)]
 ·simp only[di,un]
  rw[Da.UH]
  refine bs (eK m.n (fun i=>(i:Int)) (.inr ((m.n:Int),false)) (fun i hi=> ?_) ?_) ?_
  ·simp only[Nr,Cv]
   refine bT (dx hi) ?_
   refine bs (Da.my hi) ?_
   refine bs (Da.my hi) ?_
   refine bF (by simp) ?_
   refine bs (Da.my hi) ?_
   rw[ny,dY]
   refine bs (eK m.L (fun x=>(x:Int)) (.inr ((m.L:Int),false)) (fun x hx=> ?_) ?_) ?_
   ·simp only[Nq,Cu]
    refine bT (dx hx) ?_
    refine bs (Da.my hi) ?_
    rw[ny]
    refine bs (oN hx) ?_
    refine bs (Da.my hi) ?_
    rw[ny]
    refine bs (oN hx) ?_
    refine bF (by simp) ?_
    rw[cA (by omega)]
   ·simp only[Nq,Cu]
    refine bF (bt (Nat.le_refl _)) ?_
    rw[bt (Nat.le_refl _)]
   ·simp only[di,un]
    rw[cA (by omega)]
  ·simp only[Nr,Cv]
   refine bF (bt (Nat.le_refl _)) ?_
   rw[bt (Nat.le_refl _)]
  ·rfl
theorem XG:CC sx (gE zD (dc zD))=some [.bool true]:=XF zD (by simp[zD,Da.n]) (by simp[zD])
theorem Da.Ok.same {m:Da} (h:m.Ok):CC sx (gE m (dc m))=some [.bool true]:=XF m (by have:=h.eD;omega) (by have:=h.l6;omega)
def nQ (d e:Df):Int:=if d.val≠0 then d.val else if e.val≠0 then e.val else if d.L≠e.L then 1 else 0
theorem XH {d e:Df} (hd:d.Ok) (he:e.Ok):CC zF (jo d (jo e []))=some [.int .i64 (nQ d e)]:=by
 refine ajp ?_
 unfold XC nQ
 refine bs (Ut hd) ?_
 by_cases h1:d.val=0
 ·rw[if_neg (by simp[h1])]
  refine bF (by simp[h1]) ?_
  refine bs (Ut he) ?_
  by_cases h2:e.val=0
  ·rw[if_neg (by simp[h2])]
   refine bF (by simp[h2]) ?_
   by_cases h3:d.L=e.L
   ·rw[if_neg (by simp[h3])]
    exact bF (by simp[h3]) rfl
   ·rw[if_pos h3]
    exact bT (by simpa using h3) rfl
  ·rw[if_pos h2]
   exact bT (by simpa using h2) rfl
 ·rw[if_pos h1]
  exact bT (by simpa using h1) rfl
end Go.AM
set_option maxRecDepth 100000
namespace Go.AM
open Go.Proofs
namespace Da
def Cw (a:Da) (k q:Nat):Prop:= ∃w,WL a.L w∧w.length≤k∧a.acc q w=true
def Live (a:Da) (q:Nat):Prop:= ∃w,WL a.L w∧a.acc q w=true
open Classical in
noncomputable def HO (a:Da) (q:Nat):Bool:=decide (a.Live q)
theorem Cw.live {a:Da} {k q:Nat} (h:a.Cw k q):a.Live q:=by obtain ⟨w,h1,_,h3⟩:=h;exact ⟨w,h1,h3⟩
theorem Cw.mono {a:Da} {k m q:Nat} (h:a.Cw k q) (hk:k≤m):a.Cw m q:=by obtain ⟨w,h1,h2,h3⟩:=h;exact ⟨w,h1,by omega,h3⟩
end Da
def bV (n:Nat) (r:Nat→Bool):List V:=tab n fun q=>V.bool (r q)
def upd (r:Nat→Bool) (p:Nat) (b:Bool) (q:Nat):Bool:=if q=p then b else r q
structure LvI (a:Da) (r0 r:Nat→Bool) (c:Bool):Prop where
 good: ∀q,q<a.n→r q=true→a.Live q
 up: ∀q,q<a.n→r0 q=true→r q=true
 yes:c=true→∃q,q<a.n∧r0 q=false∧r q=true
 no:c=false→∀q,q<a.n→r q=r0 q
section
variable {a:Da} (h:a.Ok)
include h
end
section
variable {a:Da} (h:a.Ok)
include h
end
end Go.AM
set_option maxRecDepth 100000
namespace Go.AM
open Go.Proofs
noncomputable def XI (C:ae) (bY mu:Int):Option (List V):=
 bif decide ((mu:Int)>64) then
  some [V.bool true]
 else
  some [V.bool false,.int .i64 bY,.int .i64 mu,.int .u64 0,.int .u64 0,.list aq ([]:List V)]
theorem ajv {bY mu:Int} {r:Option (List V)} (h:XI CC bY mu=r):CC zJ [.int .i64 bY,.int .i64 mu]=r:=
 bn (key:=61) (L:=db) (bs:=[]) (by kernel_rfl) ao (Eq.trans (by kernel_rfl) h)
noncomputable def XJ (C:ae) (Cx letter to aO aK aT aP:Int) (bG:List V):Option (List V):=
 bif Nat.ble ((bG.length+([.agg [.int .i64 Cx,.int .i64 letter,.int .i64 to]]:List V).length)*24) bC then
  some [.int .i64 aO,.int .i64 aK,.int .u64 aT,.int .u64 aP,.list aq (bG++([.agg [.int .i64 Cx,.int .i64 letter,.int .i64 to]]:List V))]
 else none
theorem ajw {Cx letter to aO aK aT aP:Int} {bG:List V} {r:Option (List V)} (h:XJ CC Cx letter to aO aK aT aP bG=r):CC uu [.int .i64 Cx,.int .i64 letter,.int .i64 to,.int .i64 aO,.int .i64 aK,.int .u64 aT,.int .u64 aP,.list aq bG]=r:=
 bn (key:=62) (L:=db) (bs:=[]) (by kernel_rfl) ao (Eq.trans (by kernel_rfl) h)
noncomputable def XK (C:ae) (q aO aK aT aP:Int) (bG:List V):Option (List V):=
 bif decide (0≤q) then
  some [.int .i64 aO,.int .i64 aK,.int .u64 (IntKind.wrap .u64 ((BitVec.ofInt (IntKind.bits .u64) aT|||BitVec.ofInt (IntKind.bits .u64) (IntKind.wrap .u64 (1*2^(min q.toNat (IntKind.bits .u64))))).toNat)),.int .u64 aP,.list aq bG]
 else none
theorem ajx {q aO aK aT aP:Int} {bG:List V} {r:Option (List V)} (h:XK CC q aO aK aT aP bG=r):CC zK [.int .i64 q,.int .i64 aO,.int .i64 aK,.int .u64 aT,.int .u64 aP,.list aq bG]=r:=
 bn (key:=63) (L:=db) (bs:=[]) (by kernel_rfl) ao (Eq.trans (by kernel_rfl) h)
noncomputable def XL (C:ae) (q aO aK aT aP:Int) (bG:List V):Option (List V):=
 bif decide (0≤q) then
  some [.int .i64 aO,.int .i64 aK,.int .u64 aT,.int .u64 (IntKind.wrap .u64 ((BitVec.ofInt (IntKind.bits .u64) aP|||BitVec.ofInt (IntKind.bits .u64) (IntKind.wrap .u64 (1*2^(min q.toNat (IntKind.bits .u64))))).toNat)),.list aq bG]
 else none
theorem ajy {q aO aK aT aP:Int} {bG:List V} {r:Option (List V)} (h:XL CC q aO aK aT aP bG=r):CC zL [.int .i64 q,.int .i64 aO,.int .i64 aK,.int .u64 aT,.int .u64 aP,.list aq bG]=r:=
 bn (key:=69) (L:=db) (bs:=[]) (by kernel_rfl) ao (Eq.trans (by kernel_rfl) h)
noncomputable abbrev XM:Code:=cI Tryd.prog (ar.aW 64)
noncomputable def Cy (C:ae) (offset:Int) (t8:List V) (t9 t10 aO aK aT aP:Int) (dG:List V) {β:Type} (kn:(Int × Int × Int × Int × Int × (List V))→Option β) (kr:(Int × Bool × Int × Int × Int × Int × (List V))→Option β):Option β:=
 bif decide ((t10:Int)<t9) then
  (idx t8 t10).bind fun x1=>
  bif x1.toBool then
  (C zL [.int .i64 (IntKind.wrap .i64 (t10+offset)),.int .i64 aO,.int .i64 aK,.int .u64 aT,.int .u64 aP,.list aq dG]).bind fun r2=>
  kn (IntKind.wrap .i64 (t10+1),(V.nth r2 0).toInt,(V.nth (r2.drop 1) 0).toInt,(V.nth ((r2.drop 1).drop 1) 0).toInt,(V.nth (((r2.drop 1).drop 1).drop 1) 0).toInt,(V.nth (r2.drop 4) 0).toList)
  else
  kn (IntKind.wrap .i64 (t10+1),aO,aK,aT,aP,dG)
 else
  kr (t10,decide ((t10:Int)<t9),aO,aK,aT,aP,dG)
noncomputable def Nt (C:ae) (offset:Int) (t8:List V) (t9:Int):(Int × Int × Int × Int × Int × (List V))→Option ((Int × Int × Int × Int × Int × (List V)) ⊕ (Int × Bool × Int × Int × Int × Int × (List V))):=un fun t10=>un fun aO=>un fun aK=>un fun aT=>un fun aP dG=>Cy C offset t8 t9 t10 aO aK aT aP dG (fun y=>some (.inl y)) (fun r=>some (.inr r))
noncomputable def XN (C:ae):cy:=fun β n ds k=>
 bif Nat.beq n 17 then bu Kt [false,false,false,true,true,true,true,true,true] [[1,2,3,0,0,0,0,0,0,0]] (@Cy C) ds k else
 none
abbrev ajz (C:ae) (b:ct):Prop:=cu Tryd.prog ar C (XN C) 64 (cP Tryd.prog (ar.aW 64)) (ar.sin 64).a8.length b
theorem ajA (C:ae):ajz C (.loop (ak [1,0,0] XM)):=
 bz Kt [false,false,false,true,true,true,true,true,true] [[1,2,3,0,0,0,0,0,0,0]] (@Cy C) (by kernel_rfl) (aS (bs:=[]) (by kernel_rfl) ao) (fun ds=>by kernel_rfl) (fun i x=>by kernel_rfl) (fun i x β k=>by kernel_rfl) (fun β ds k=>by kernel_rfl)
noncomputable def XO (C:ae) (final:List V) (offset aO aK aT aP:Int) (bG:List V):Option (List V):=
 (Loop (Nt C offset final (final.length:Int)) (0,aO,aK,aT,aP,bG)).bind (un fun (ka:Int)=>un fun (kb:Bool)=>un fun (ajB:Int)=>un fun (Nu:Int)=>un fun (s8:Int)=>un fun (Cz:Int) (b_9:List V)=>
  some [.int .i64 ajB,.int .i64 Nu,.int .u64 s8,.int .u64 Cz,.list aq b_9])
theorem ajC {final:List V} {offset aO aK aT aP:Int} {bG:List V} {r:Option (List V)} (h:XO CC final offset aO aK aT aP bG=r):CC ES [.list aw final,.int .i64 offset,.int .i64 aO,.int .i64 aK,.int .u64 aT,.int .u64 aP,.list aq bG]=r:=
 bn (key:=64) (L:=XN CC) (bs:=[.loop (ak [1,0,0] XM)]) (by kernel_rfl) (bd (ajA CC) ao) (Eq.trans (by kernel_rfl) h)
noncomputable abbrev Hm:Code:=cI Tryd.prog (ar.aW 73)
noncomputable def CA (C:ae) (offset p:Int) (t11:List V) (t12 t13:Int) (t18:List V) (t19 t20 aO aK aT aP:Int) (dG:List V) {β:Type} (kn:(Int × Int × Int × Int × Int × (List V))→Option β) (kr:(Int × Bool × Int × Int × Int × Int × (List V))→Option β):Option β:=
 bif decide ((t20:Int)<t19) then
  (idx t18 t20).bind fun x2=>
  (C uu [.int .i64 (IntKind.wrap .i64 (p+offset)),.int .i64 t20,.int .i64 (IntKind.wrap .i64 (x2.toInt+offset)),.int .i64 aO,.int .i64 aK,.int .u64 aT,.int .u64 aP,.list aq dG]).bind fun r3=>
  kn (IntKind.wrap .i64 (t20+1),(V.nth r3 0).toInt,(V.nth (r3.drop 1) 0).toInt,(V.nth ((r3.drop 1).drop 1) 0).toInt,(V.nth (((r3.drop 1).drop 1).drop 1) 0).toInt,(V.nth (r3.drop 4) 0).toList)
 else
  kr (t20,decide ((t20:Int)<t19),aO,aK,aT,aP,dG)
noncomputable def Nv (C:ae) (offset p:Int) (t11:List V) (t12 t13:Int) (t18:List V) (t19:Int):(Int × Int × Int × Int × Int × (List V))→Option ((Int × Int × Int × Int × Int × (List V)) ⊕ (Int × Bool × Int × Int × Int × Int × (List V))):=un fun t20=>un fun aO=>un fun aK=>un fun aT=>un fun aP dG=>CA C offset p t11 t12 t13 t18 t19 t20 aO aK aT aP dG (fun y=>some (.inl y)) (fun r=>some (.inr r))
noncomputable def CB (C:ae) (offset:Int) (t11:List V) (t12 t13 aO aK aT aP:Int) (dG:List V) {β:Type} (kn:(Int × Int × Int × Int × Int × (List V))→Option β) (kr:(Int × Bool × Int × Int × Int × Int × (List V))→Option β):Option β:=
 bif decide ((t13:Int)<t12) then
  (idx t11 t13).bind fun x1=>
  (Loop (Nv C offset t13 t11 t12 t13 x1.toList (x1.toList.length:Int)) (0,aO,aK,aT,aP,dG)).bind (un fun (kb:Int)=>un fun (mo:Bool)=>un fun (Nu:Int)=>un fun (s8:Int)=>un fun (Cz:Int)=>un fun (Nw:Int) (GG:List V)=>
   kn (IntKind.wrap .i64 (t13+1),Nu,s8,Cz,Nw,GG))
 else
  kr (t13,decide ((t13:Int)<t12),aO,aK,aT,aP,dG)
noncomputable def Nx (C:ae) (offset:Int) (t11:List V) (t12:Int):(Int × Int × Int × Int × Int × (List V))→Option ((Int × Int × Int × Int × Int × (List V)) ⊕ (Int × Bool × Int × Int × Int × Int × (List V))):=un fun t13=>un fun aO=>un fun aK=>un fun aT=>un fun aP dG=>CB C offset t11 t12 t13 aO aK aT aP dG (fun y=>some (.inl y)) (fun r=>some (.inr r))
noncomputable def XP (C:ae):cy:=fun β n ds k=>
 bif Nat.beq n 81 then bu Ku [false,false,false,false,false,false,false,true,true,true,true,true,true] [[1,2,3,4,5,6,7,0,0,0,0,0,0,0]] (@CA C) ds k else
 bif Nat.beq n 33 then bu Kv [false,false,false,true,true,true,true,true,true] [[1,2,3,0,0,0,0,0,0,0]] (@CB C) ds k else
 none
abbrev XQ (C:ae) (b:ct):Prop:=cu Tryd.prog ar C (XP C) 73 (cP Tryd.prog (ar.aW 73)) (ar.sin 73).a8.length b
theorem ajD (C:ae):XQ C (.loop (ak [1,1,0,0,1,1,0,0,1,1,0,0] Hm)):=
 bz Ku [false,false,false,false,false,false,false,true,true,true,true,true,true] [[1,2,3,4,5,6,7,0,0,0,0,0,0,0]] (@CA C) (by kernel_rfl) (aS (bs:=[]) (by kernel_rfl) ao) (fun ds=>by kernel_rfl) (fun i x=>by kernel_rfl) (fun i x β k=>by kernel_rfl) (fun β ds k=>by kernel_rfl)
theorem ajE (C:ae):XQ C (.loop (ak [1,1,0,0] Hm)):=
 bz Kv [false,false,false,true,true,true,true,true,true] [[1,2,3,0,0,0,0,0,0,0]] (@CB C) (by kernel_rfl) (aS (bs:=[.loop (ak [1,1,0,0,1,1,0,0,1,1,0,0] Hm)]) (by kernel_rfl) (bd (ajD C) ao)) (fun ds=>by kernel_rfl) (fun i x=>by kernel_rfl) (fun i x β k=>by kernel_rfl) (fun β ds k=>by kernel_rfl)
noncomputable def XR (C:ae) (aX aY:Int) (aF ba:List V) (offset aO aK aT aP:Int) (bG:List V):Option (List V):=
 (Loop (Nx C offset ba (ba.length:Int)) (0,aO,aK,aT,aP,bG)).bind (un fun (MH:Int)=>un fun (Bm:Bool)=>un fun (CD:Int)=>un fun (vp:Int)=>un fun (pT:Int)=>un fun (Ny:Int) (uS:List V)=>
  some [.int .i64 CD,.int .i64 vp,.int .u64 pT,.int .u64 Ny,.list aq uS])
theorem ajF {aX aY:Int} {aF ba:List V} {offset aO aK aT aP:Int} {bG:List V} {r:Option (List V)} (h:XR CC aX aY aF ba offset aO aK aT aP bG=r):CC EU [.int .i64 aX,.int .i64 aY,.list aw aF,.list ay ba,.int .i64 offset,.int .i64 aO,.int .i64 aK,.int .u64 aT,.int .u64 aP,.list aq bG]=r:=
 bn (key:=73) (L:=XP CC) (bs:=[.loop (ak [1,1,0,0] Hm)]) (by kernel_rfl) (bd (ajE CC) ao) (Eq.trans (by kernel_rfl) h)
def fK (p x q:Nat):Ed:=⟨(p:Int),(x:Int),(q:Int)⟩
def aN (L S:Nat) (st fin:Nat) (l:List Ed):List V:=[.int .i64 (L:Int),.int .i64 (S:Int),.int .u64 (st:Int),.int .u64 (fin:Int),.list aq (l.map Ed.enc)]
def fm (n:Nat) (g:Nat→List Ed):List Ed:=(List.range n).flatMap g
theorem ajG {g:Nat→List Ed}:fm 0 g=[]:=rfl
theorem rB {n:Nat} {g:Nat→List Ed}:fm (n+1) g=fm n g++g n:=by simp[fm,List.range_succ]
theorem CE {n:Nat} {g:Nat→List Ed} {e:Ed}:e∈fm n g↔∃i,i<n∧e∈g i:=by simp[fm]
theorem xX {n k:Nat} {g:Nat→List Ed} (h: ∀i,i<n→(g i).length≤k):(fm n g).length≤n*k:=by
 induction n with
 | zero=>simp[fm]
 | succ n ih=>
  rw[rB,List.length_append,Nat.succ_mul]
  have:=ih fun i hi=>h i (by omega)
  have:=h n (by omega)
  omega
theorem pU {X R:Type} {step:X→Option (X ⊕ R)} (n:Nat) (s:Nat→X) (r:R) {x:X} (hx:x=s 0) (h: ∀i,i<n→step (s i)=some (.inl (s (i+1)))) (he:step (s n)=some (.inr r)):Loop step x=some r:=by rw[hx];exact eK n s r h he
theorem nR {a b:Nat} (h:a+b≤1000000000):IntKind.wrap .i64 ((a:Int)+(b:Int))=((a+b:Nat):Int):=by rw[wrap64 (by omega) (by omega)];omega
theorem ajH {l:List Ed} {p x q:Nat}:l.map Ed.enc++[V.agg [.int .i64 (p:Int),.int .i64 (x:Int),.int .i64 (q:Int)]]=(l++[fK p x q]).map Ed.enc:=by simp[fK,Ed.enc]
section
variable {L S st fin:Nat} {l:List Ed}
theorem Hn {p x q:Nat} (h:l.length≤1000000):CC uu [.int .i64 (p:Int),.int .i64 (x:Int),.int .i64 (q:Int),.int .i64 (L:Int),.int .i64 (S:Int),.int .u64 (st:Int),.int .u64 (fin:Int),.list aq (l.map Ed.enc)]=some (aN L S st fin (l++[fK p x q])):=by
 refine ajw ?_
 unfold XJ
 refine bT (cap (by simp;omega) (by omega)) ?_
 rw[ajH];rfl
theorem XS {q:Nat} (hq:q<64) (hs:st<2^64):CC zK [.int .i64 (q:Int),.int .i64 (L:Int),.int .i64 (S:Int),.int .u64 (st:Int),.int .u64 (fin:Int),.list aq (l.map Ed.enc)]=some (aN L S (st|||2^q) fin l):=by
 refine ajx ?_
 unfold XK
 refine bT (decide_eq_true (by omega)) ?_
 rw[Int.toNat_natCast,Ac hq,u64_or hs (Nat.pow_lt_pow_right (by omega) hq)];rfl
theorem XT {q:Nat} (hq:q<64) (hs:fin<2^64):CC zL [.int .i64 (q:Int),.int .i64 (L:Int),.int .i64 (S:Int),.int .u64 (st:Int),.int .u64 (fin:Int),.list aq (l.map Ed.enc)]=some (aN L S st (fin|||2^q) l):=by
 refine ajy ?_
 unfold XL
 refine bT (decide_eq_true (by omega)) ?_
 rw[Int.toNat_natCast,Ac hq,u64_or hs (Nat.pow_lt_pow_right (by omega) hq)];rfl
theorem XU (h:S≤64):CC zJ [.int .i64 (L:Int),.int .i64 (S:Int)]=some (.bool false::aN L S 0 0 []):=by
 refine ajv ?_
 unfold XI
 exact bF (decide_eq_false (by omega)) rfl
def jn (fin:Nat) (f:Nat→Bool) (off:Nat):Nat→Nat
 | 0=>fin
 | i+1=>if f i=true then jn fin f off i|||2^(i+off) else jn fin f off i
theorem Ho {f:Nat→Bool} {off k:Nat} (hf:fin<2^k): ∀{n:Nat},n+off≤k→jn fin f off n<2^k
 | 0,_=>hf
 | n+1,h=>by
  unfold jn
  have ih:=Ho (f:=f) (off:=off) hf (n:=n) (by omega)
  split
  ·exact Nat.or_lt_two_pow ih (Nat.pow_lt_pow_right (by omega) (by omega))
  ·exact ih
theorem ajI {n off:Nat} {f:Nat→Bool} (ho:n+off≤64) (hs:fin<2^64):CC ES [.list aw (bV n f),.int .i64 (off:Int),.int .i64 (L:Int),.int .i64 (S:Int),.int .u64 (st:Int),.int .u64 (fin:Int),.list aq (l.map Ed.enc)]=some (aN L S st (jn fin f off n) l):=by
 refine ajC ?_
 unfold XO
 rw[show (bV n f).length=n from dY]
 refine bs (eK n (fun i=>((i:Int),(L:Int),(S:Int),(st:Int),(jn fin f off i:Int),l.map Ed.enc)) ((n:Int),false,(L:Int),(S:Int),(st:Int),(jn fin f off n:Int),l.map Ed.enc) (fun i hi=> ?_) ?_) ?_
 ·simp only[Nt,Cy,un]
  refine bT (dx hi) ?_
  refine bs (oK hi) ?_
  have aR:=Ho (f:=f) (off:=off) hs (n:=i) (by omega)
  cases hf:f i with
  | true=>
   refine bT rfl ?_
   rw[nR (by omega)]
   refine bs (XT (by omega) aR) ?_
   rw[cA (by omega),show jn fin f off (i+1)=jn fin f off i|||2^(i+off) from if_pos hf]
   rfl
  | false=>
   refine bF rfl ?_
   rw[cA (by omega),show jn fin f off (i+1)=jn fin f off i from if_neg (by rw[hf];simp)]
 ·simp only[Nt,Cy,un]
  refine bF (bt (Nat.le_refl _)) ?_
  rw[bt (Nat.le_refl _)]
 ·rfl
def s9 (a:Da) (off p:Nat):List Ed:=tab a.L fun x=>fK (p+off) x (a.nx p x+off)
def jK (a:Da) (off:Nat):List Ed:=fm a.n (s9 a off)
theorem ajJ {a:Da} {off:Nat} {e:Ed}:e∈jK a off↔∃p x,p<a.n∧x<a.L∧e=fK (p+off) x (a.nx p x+off):=by
 unfold jK s9
 rw[CE]
 constructor
 ·rintro ⟨p,hp,he⟩
  obtain ⟨x,hx,rfl⟩:=AL.1 he
  exact ⟨p,x,hp,hx,rfl⟩
 ·rintro ⟨p,x,hp,hx,rfl⟩
  exact ⟨p,hp,AL.2 ⟨x,hx,rfl⟩⟩
theorem Nz {a:Da} (h:a.Ok) {off:Nat} {n:Nat}:(fm n (s9 a off)).length≤n*6:=xX fun p _=>by unfold s9;rw[dY];exact h.l6
theorem ajK {a:Da} (h:a.Ok) {off:Nat} (ho:off≤1000) (hl:l.length≤100000):CC EU (gE a [.int .i64 (off:Int),.int .i64 (L:Int),.int .i64 (S:Int),.int .u64 (st:Int),.int .u64 (fin:Int),.list aq (l.map Ed.enc)])=some (aN L S st fin (l++jK a off)):=by
 have hn:=h.eD
 have h6:=h.l6
 refine ajF ?_
 unfold XR
 rw[show a.cB.length=a.n from dY]
 refine bs (pU a.n (fun i=>((i:Int),(L:Int),(S:Int),(st:Int),(fin:Int),(l++fm i (s9 a off)).map Ed.enc)) ((a.n:Int),false,(L:Int),(S:Int),(st:Int),(fin:Int),(l++jK a off).map Ed.enc) (by rw[ajG,List.append_nil];rfl) (fun p hp=> ?_) ?_) ?_
 ·have hlen:=Nz h (off:=off) (n:=p)
  simp only[Nx,CB,un]
  refine bT (dx hp) ?_
  refine bs (oK hp) ?_
  rw[show (fx a.L (a.nx p)).toList=tab a.L fun x=>nV (a.nx p x) from rfl,dY]
  refine bs (pU a.L (fun i=>((i:Int),(L:Int),(S:Int),(st:Int),(fin:Int),((l++fm p (s9 a off))++tab i fun x=>fK (p+off) x (a.nx p x+off)).map Ed.enc)) ((a.L:Int),false,(L:Int),(S:Int),(st:Int),(fin:Int),((l++fm p (s9 a off))++s9 a off p).map Ed.enc) (by rw[Uw,List.append_nil];rfl) (fun x hx=> ?_) ?_) ?_
  ·have hq:=h.eE hp hx
   simp only[Nv,CA,un]
   refine bT (dx hx) ?_
   refine bs (oK hx) ?_
   rw[show (nV (a.nx p x)).toInt=((a.nx p x:Nat):Int) from rfl,nR (by omega),nR (by omega)]
   refine bs (Hn (by rw[List.length_append,List.length_append,dY];omega)) ?_
   rw[cA (by omega),kN,←List.append_assoc]
   rfl
  ·simp only[Nv,CA,un]
   refine bF (bt (Nat.le_refl _)) ?_
   rw[bt (Nat.le_refl _)]
   rfl
  ·simp only[un]
   rw[cA (by omega),rB,←List.append_assoc]
 ·simp only[Nx,CB,un]
  refine bF (bt (Nat.le_refl _)) ?_
  rw[bt (Nat.le_refl _)]
  rfl
 ·rfl
end
noncomputable def XV (C:ae) (aX aY:Int) (aF ba:List V):Option (List V):=
 (C oC [.int .i64 aX,.int .i64 aY,.list aw aF,.list ay ba]).bind fun r1=>
 bif (((V.nth r1 0).toInt):Int) != 0 then
  some [.int .i64 0,.int .i64 0,.int .i64 ((V.nth r1 0).toInt),.list aw ([]:List V),.list ay ([]:List V)]
 else
  (C sA [.int .i64 aX,.int .i64 aY,.list aw aF,.list ay ba]).bind fun r2=>
  some [.int .i64 ((V.nth r2 0).toInt),.int .i64 ((V.nth (r2.drop 1) 0).toInt),.int .i64 0,.list aw ((V.nth (r2.drop 2) 0).toList),.list ay ((V.nth ((r2.drop 2).drop 1) 0).toList)]
theorem ajL {aX aY:Int} {aF ba:List V} {r:Option (List V)} (h:XV CC aX aY aF ba=r):CC EN [.int .i64 aX,.int .i64 aY,.list aw aF,.list ay ba]=r:=
 bn (key:=56) (L:=db) (bs:=[]) (by kernel_rfl) ao (Eq.trans (by kernel_rfl) h)
noncomputable def NA (C:ae) (cD cO:Int) (cK dp:List V) (cL cR:Int) (cS dy:List V):Option (List V):=
 (C oC [.int .i64 cD,.int .i64 cO,.list aw cK,.list ay dp]).bind fun r1=>
 bif (((V.nth r1 0).toInt):Int) != 0 then
  some [.int .i64 0,.int .i64 0,.int .i64 0,.int .i64 0,.int .i64 ((V.nth r1 0).toInt),.list aw ([]:List V),.list ay ([]:List V),.list aw ([]:List V),.list ay ([]:List V)]
 else
  (C oC [.int .i64 cL,.int .i64 cR,.list aw cS,.list ay dy]).bind fun r2=>
  bif (((V.nth r2 0).toInt):Int) != 0 then
  some [.int .i64 0,.int .i64 0,.int .i64 0,.int .i64 0,.int .i64 ((V.nth r2 0).toInt),.list aw ([]:List V),.list ay ([]:List V),.list aw ([]:List V),.list ay ([]:List V)]
  else
  bif (cD:Int) != cL then
   some [.int .i64 0,.int .i64 0,.int .i64 0,.int .i64 0,.int .i64 1,.list aw ([]:List V),.list ay ([]:List V),.list aw ([]:List V),.list ay ([]:List V)]
  else
   (C sA [.int .i64 cD,.int .i64 cO,.list aw cK,.list ay dp]).bind fun r3=>
   (C sA [.int .i64 cL,.int .i64 cR,.list aw cS,.list ay dy]).bind fun r4=>
   some [.int .i64 ((V.nth r3 0).toInt),.int .i64 ((V.nth (r3.drop 1) 0).toInt),.int .i64 ((V.nth r4 0).toInt),.int .i64 ((V.nth (r4.drop 1) 0).toInt),.int .i64 0,.list aw ((V.nth (r3.drop 2) 0).toList),.list ay ((V.nth ((r3.drop 2).drop 1) 0).toList),.list aw ((V.nth (r4.drop 2) 0).toList),.list ay ((V.nth ((r4.drop 2).drop 1) 0).toList)]
theorem XW {cD cO:Int} {cK dp:List V} {cL cR:Int} {cS dy:List V} {r:Option (List V)} (h:NA CC cD cO cK dp cL cR cS dy=r):CC wM [.int .i64 cD,.int .i64 cO,.list aw cK,.list ay dp,.int .i64 cL,.int .i64 cR,.list aw cS,.list ay dy]=r:=
 bn (key:=68) (L:=db) (bs:=[]) (by kernel_rfl) ao (Eq.trans (by kernel_rfl) h)
noncomputable def XX (C:ae) (aX aY:Int) (aF ba:List V) (f lp lq:Int) (lr Hp:List V) (g:Int):Option (List V):=
 bif (f:Int)==g then
  (C sx [.int .i64 aX,.int .i64 aY,.list aw aF,.list ay ba,.int .i64 lp,.int .i64 lq,.list aw lr,.list ay Hp]).bind fun r1=>
  some [.bool ((V.nth r1 0).toBool)]
 else
  some [.bool false]
theorem ajM {aX aY:Int} {aF ba:List V} {f lp lq:Int} {lr Hp:List V} {g:Int} {r:Option (List V)} (h:XX CC aX aY aF ba f lp lq lr Hp g=r):CC zE [.int .i64 aX,.int .i64 aY,.list aw aF,.list ay ba,.int .i64 f,.int .i64 lp,.int .i64 lq,.list aw lr,.list ay Hp,.int .i64 g]=r:=
 bn (key:=18) (L:=db) (bs:=[]) (by kernel_rfl) ao (Eq.trans (by kernel_rfl) h)
noncomputable def XY (C:ae) (cD cO:Int) (cK dp:List V) (cL cR:Int) (cS dy:List V) (eD:Int):Option (List V):=
 bif decide (((cK.length:Int):Int)≤eD) then
  bif decide (((cS.length:Int):Int)≤eD) then
  (C zF [.int .i64 cD,.int .i64 cO,.list aw cK,.list ay dp,.int .i64 cL,.int .i64 cR,.list aw cS,.list ay dy]).bind fun r1=>
  some [.bool ((((V.nth r1 0).toInt):Int)==0)]
  else
  some [.bool false]
 else
  some [.bool false]
theorem ajN {cD cO:Int} {cK dp:List V} {cL cR:Int} {cS dy:List V} {eD:Int} {r:Option (List V)} (h:XY CC cD cO cK dp cL cR cS dy eD=r):CC EL [.int .i64 cD,.int .i64 cO,.list aw cK,.list ay dp,.int .i64 cL,.int .i64 cR,.list aw cS,.list ay dy,.int .i64 eD]=r:=
 bn (key:=26) (L:=db) (bs:=[]) (by kernel_rfl) ao (Eq.trans (by kernel_rfl) h)
theorem rC {a:Da} (h:a.Ok):(minD a).Ok:=(xm h).ok
theorem nT {a:Da} (h:a.Ok):(minD a).L=a.L:=(xm h).hL
theorem ajO {a:Da} (h:a.Ok):(minD a).st=0:=(xm h).st
theorem XZ {a:Da} (h:a.Ok) {w:List Nat} (hw:WL a.L w):(minD a).acc (minD a).st w=a.acc a.st w:=by
 rw[ajO h];exact (xm h).ly w hw
theorem NB {a:Da} (h:a.Ok):(minD a).n≤a.n:=by
 obtain ⟨p,_,c2,_⟩:=V9 h
 rw[←xn h (Da.Mn h c2)]
 have h1:=(Da.Gj h c2).mr (a.quo p).n
 have h2:(a.quo p).trim.n=(aj (a.quo p).L (a.quo p).nx (a.quo p).st (a.quo p).n).length:=kK
 rw[h2]
 refine Nat.le_trans h1 ?_
 rw[Da.ri]
 exact Mu p a.n
theorem X0 {a b:Da} (ha:a.Ok) (hb:b.Ok) (hL:a.L=b.L) (hl: ∀w,WL a.L w→a.acc a.st w=b.acc b.st w):minD a=minD b:=
 xn hb (hL▸Canon.congr (xm ha) hl)
theorem ajP {a:Da} (ha:a.Ok):minD (minD a)=minD a:=
 X0 (rC ha) ha (nT ha) fun w hw=>XZ ha (by rwa [nT ha] at hw)
theorem ajQ {a:Da} (h:a.Ok):CC EN (dc a)=some (kQ (minD a) 0):=by
 refine ajL ?_
 unfold XV
 refine bs (uQ h) (bF rfl ?_)
 refine bs (GB h) ?_
 rfl
def CF (a b:Da) (e:Int):List V:=[.int .i64 (a.L:Int),.int .i64 (a.st:Int),.int .i64 (b.L:Int),.int .i64 (b.st:Int),.int .i64 e,.list aw a.cU,.list ay a.cB,.list aw b.cU,.list ay b.cB]
theorem ajR {a b:Da} (ha:a.Ok) (hb:b.Ok) (hL:a.L=b.L):CC wM (gE a (dc b))=some (CF (minD a) (minD b) 0):=by
 refine XW ?_
 unfold NA
 refine bs (uQ ha) (bF rfl ?_)
 refine bs (uQ hb) (bF rfl ?_)
 refine bF (by rw[hL];simp) ?_
 refine bs (GB ha) ?_
 refine bs (GB hb) ?_
 rfl
theorem ajS {d e:Df} (hd:d.Ok) (he:e.Ok) (hv:nQ d e≠0):CC wM (jo d (jo e []))=some (CF zD zD (nQ d e)):=by
 refine XW ?_
 unfold NA
 unfold nQ at*
 refine bs (Mb hd) ?_
 by_cases h1:d.val=0
 ·rw[if_neg (by simp[h1])] at*
  refine bF (by simp[h1]) ?_
  refine bs (Mb he) ?_
  by_cases h2:e.val=0
  ·rw[if_neg (by simp[h2])] at*
   refine bF (by simp[h2]) ?_
   by_cases h3:d.L=e.L
   ·rw[if_neg (by simp[h3])] at hv
    exact absurd rfl hv
   ·rw[if_pos h3]
    refine bT (by simpa using h3) ?_
    rfl
  ·rw[if_pos h2]
   refine bT (by simpa using h2) ?_
   rfl
 ·rw[if_pos h1]
  refine bT (by simpa using h1) ?_
  rfl
theorem ajT {d e:Df} (h:nQ d e=0): ∃a b:Da,a.Ok∧b.Ok∧a.L=b.L∧d=a.df∧e=b.df:=by
 unfold nQ at h
 by_cases h1:d.val=0
 ·rw[if_neg (by simp[h1])] at h
  by_cases h2:e.val=0
  ·rw[if_neg (by simp[h2])] at h
   by_cases h3:d.L=e.L
   ·obtain ⟨a,ha,rfl⟩:=Uv h1
    obtain ⟨b,hb,rfl⟩:=Uv h2
    simp only[Da.df] at h3
    exact ⟨a,b,ha,hb,by omega,rfl,rfl⟩
   ·rw[if_pos h3] at h;omega
  ·rw[if_pos h2] at h;exact absurd h h2
 ·rw[if_pos h1] at h;exact absurd h h1
theorem X1 {m:Da} (h:CC sx (gE m (dc m))=some [.bool true]) (f:Int):CC zE (gE m (.int .i64 f::gE m [.int .i64 f]))=some [.bool true]:=by
 refine ajM ?_
 unfold XX
 refine bT (by simp) ?_
 refine bs h ?_
 rfl
theorem ajU {d e:Df} (hd:d.Ok) (he:e.Ok) (m:Int):CC EL (jo d (jo e [.int .i64 m]))=some [.bool (decide ((d.F.length:Int)≤m∧(e.F.length:Int)≤m∧nQ d e=0))]:=by
 refine ajN ?_
 unfold XY
 rw[List.length_map,List.length_map]
 by_cases h1:(d.F.length:Int)≤m
 ·refine bT (decide_eq_true h1) ?_
  by_cases h2:(e.F.length:Int)≤m
  ·refine bT (decide_eq_true h2) ?_
   refine bs (XH hd he) ?_
   refine congrArg (fun x=>some [V.bool x]) ?_
   rw[Bool.eq_iff_iff]
   simp[h1,h2]
  ·refine bF (decide_eq_false h2) ?_
   rw[decide_eq_false fun h=>h2 h.2.1]
 ·refine bF (decide_eq_false h1) ?_
  rw[decide_eq_false fun h=>h1 h.1]
def ko (E:List Ed):Nat→List Nat→Nat→Prop
 | i,[],k=>i=k
 | i,x::w,k=> ∃j,fK i x j∈E∧ko E j w k
theorem ko.ext {A B:List Ed} (h: ∀e,e∈A→e∈B): ∀{w:List Nat} {i k:Nat},ko A i w k→ko B i w k
 | [],_,_,p=>p
 | _::_,_,_,⟨j,h1,h2⟩=>⟨j,h _ h1,ko.ext h h2⟩
theorem ko.app {E:List Ed}: ∀{v w:List Nat} {i k:Nat},ko E i (v++w) k↔∃j,ko E i v j∧ko E j w k
 | [],w,i,k=>by simp[ko]
 | x::v,w,i,k=>by
  simp only[List.cons_append,ko]
  constructor
  ·rintro ⟨j,h1,h2⟩
   obtain ⟨m,h3,h4⟩:=ko.app.1 h2
   exact ⟨m,⟨j,h1,h3⟩,h4⟩
  ·rintro ⟨m,⟨j,h1,h3⟩,h4⟩
   exact ⟨j,h1,ko.app.2 ⟨m,h3,h4⟩⟩
theorem ajV {p x q p' x' q':Nat}:fK p x q=fK p' x' q'↔p=p'∧x=x'∧q=q':=by
 unfold fK
 simp only[Ed.mk.injEq]
 omega
theorem ajW {e:Ed} (h1:0≤e.f) (h2:0≤e.l) (h3:0≤e.t):e=fK e.f.toNat e.l.toNat e.t.toNat:=by
 unfold fK
 cases e
 simp only[Ed.mk.injEq] at*
 omega
theorem NC {E:List Ed} (hE: ∀e∈E,0≤e.f∧0≤e.l∧0≤e.t): ∀(w:List Nat) (s k:Nat),(w.foldl (sn E) s).testBit k=true↔∃i,s.testBit i=true∧ko E i w k
 | [],s,k=>by simp[ko]
 | x::w,s,k=>by
  rw[List.foldl_cons,NC hE w]
  constructor
  ·rintro ⟨j,h1,h2⟩
   unfold sn at h1
   rw[As,List.any_eq_true] at h1
   obtain ⟨e,he,h3⟩:=h1
   simp only[Bool.and_eq_true,decide_eq_true_eq] at h3
   obtain ⟨c1,c2,c3⟩:=hE e he
   refine ⟨e.f.toNat,h3.2.1,j,?_,h2⟩
   have:e=fK e.f.toNat x j:=by
    rw[ajW c1 c2 c3]
    rw[ajV]
    simp only[fK,Int.toNat_natCast]
    exact ⟨trivial,by omega,h3.2.2⟩
   exact this▸he
  ·rintro ⟨i,h1,j,h2,h3⟩
   refine ⟨j,?_,h3⟩
   unfold sn
   rw[As,List.any_eq_true]
   refine ⟨_,h2,?_⟩
   simp only[Bool.and_eq_true,decide_eq_true_eq,fK,Int.toNat_natCast]
   exact ⟨trivial,h1,trivial⟩
theorem ajX {fin s:Nat}:sf fin s=true↔∃k,s.testBit k=true∧fin.testBit k=true:=by
 unfold sf
 rw[Bool.not_eq_true',beq_eq_false_iff_ne]
 constructor
 ·intro h
  obtain ⟨k,hk⟩:=Nat.exists_testBit_of_ne_zero h
  rw[Nat.testBit_and,Bool.and_eq_true] at hk
  exact ⟨k,hk⟩
 ·rintro ⟨k,h1,h2⟩ h0
  have:(s&&&fin).testBit k=true:=by rw[Nat.testBit_and,h1,h2];rfl
  rw[h0,Nat.zero_testBit] at this
  cases this
def CG (st fin:Nat) (l:List Ed) (w:List Nat):Prop:= ∃i k,st.testBit i=true∧fin.testBit k=true∧ko l i w k
section
variable {L S st fin:Nat} {l:List Ed} (h:vo L S st fin l)
include h
theorem ajY (hn: ¬fZ (cE L S st fin l) L S):(eR (cE L S st fin l) L S).Ok:=by
 unfold eR
 rw[if_neg hn]
 exact rC (u6 (nP h) hn)
theorem ajZ (hn: ¬fZ (cE L S st fin l) L S):(eR (cE L S st fin l) L S).L=L:=by
 unfold eR
 rw[if_neg hn]
 exact nT (u6 (nP h) hn)
theorem aj0 (hn: ¬fZ (cE L S st fin l) L S) {w:List Nat} (hw:WL L w):(eR (cE L S st fin l) L S).acc (eR (cE L S st fin l) L S).st w=true↔CG st fin l w:=by
 have au:=u6 (nP h) hn
 unfold eR
 rw[if_neg hn,XZ au hw,show (eQ (cE L S st fin l) L S).st=0 from rfl,agb (nP h) hw]
 show sf fin (w.foldl (sn (pN l)) st)=true↔_
 have hE: ∀e∈pN l,0≤e.f∧0≤e.l∧0≤e.t:=fun e he=>by
  have:=h.E e (xt.1 he)
  unfold Ed.In at this
  exact ⟨this.1,this.2.2.2.2.1,this.2.2.1⟩
 rw[ajX]
 unfold CG
 constructor
 ·rintro ⟨k,h1,h2⟩
  obtain ⟨i,h3,h4⟩:=(NC hE w st k).1 h1
  exact ⟨i,k,h3,h2,h4.ext fun e he=>xt.1 he⟩
 ·rintro ⟨i,k,h1,h2,h3⟩
  exact ⟨k,(NC hE w st k).2 ⟨i,h1,h3.ext fun e he=>xt.2 he⟩,h2⟩
theorem aj1 (hS:S≤9): ¬fZ (cE L S st fin l) L S:=fun ho=>by
 have h1:=u5 (nP h) (2^S)
 have h2:2^S≤2^9:=Nat.pow_le_pow_right (by omega) hS
 have h3:(512:Nat)<(aj L (sn (cE L S st fin l).E) (cE L S st fin l).st (2^S)).length:=ho
 have h4:(2:Nat)^9=512:=by decide
 omega
end
noncomputable abbrev Hq:Code:=cI Tryd.prog (ar.aW 51)
noncomputable def CH (C:ae) (q t36 t37 t41 aQ a9:Int) (bp bj:List V) (cj cl rj rk:Int) (cX bR br bc:List V) (t42 aO aK aT aP:Int) (bm:List V) {β:Type} (kn:(Int × Int × Int × Int × Int × (List V))→Option β) (kr:(Int × Bool × Int × Int × Int × Int × (List V))→Option β):Option β:=
 bif decide ((t42:Int)<t41) then
  (C uu [.int .i64 q,.int .i64 t42,.int .i64 q,.int .i64 aO,.int .i64 aK,.int .u64 aT,.int .u64 aP,.list aq bm]).bind fun r4=>
  kn (IntKind.wrap .i64 (t42+1),(V.nth r4 0).toInt,(V.nth (r4.drop 1) 0).toInt,(V.nth ((r4.drop 1).drop 1) 0).toInt,(V.nth (((r4.drop 1).drop 1).drop 1) 0).toInt,(V.nth (r4.drop 4) 0).toList)
 else
  kr (t42,decide ((t42:Int)<t41),aO,aK,aT,aP,bm)
noncomputable def ND (C:ae) (q t36 t37 t41 aQ a9:Int) (bp bj:List V) (cj cl rj rk:Int) (cX bR br bc:List V):(Int × Int × Int × Int × Int × (List V))→Option ((Int × Int × Int × Int × Int × (List V)) ⊕ (Int × Bool × Int × Int × Int × Int × (List V))):=un fun t42=>un fun aO=>un fun aK=>un fun aT=>un fun aP bm=>CH C q t36 t37 t41 aQ a9 bp bj cj cl rj rk cX bR br bc t42 aO aK aT aP bm (fun y=>some (.inl y)) (fun r=>some (.inr r))
noncomputable def CI (C:ae) (t36 aQ a9:Int) (bp bj:List V) (cj cl rj rk:Int) (cX bR br bc:List V) (t37 aO aK aT aP:Int) (bm:List V) {β:Type} (kn:(Int × Int × Int × Int × Int × (List V))→Option β) (kr:(Int × Bool × Int × Int × Int × Int × (List V))→Option β):Option β:=
 bif decide ((t37:Int)<t36) then
  (Loop (ND C t37 t36 t37 aQ aQ a9 bp bj cj cl rj rk cX bR br bc) (0,aO,aK,aT,aP,bm)).bind (un fun (mo:Int)=>un fun (oG:Bool)=>un fun (s8:Int)=>un fun (Cz:Int)=>un fun (Nw:Int)=>un fun (aj2:Int) (Mw:List V)=>
   kn (IntKind.wrap .i64 (t37+1),s8,Cz,Nw,aj2,Mw))
 else
  kr (t37,decide ((t37:Int)<t36),aO,aK,aT,aP,bm)
noncomputable def NF (C:ae) (t36 aQ a9:Int) (bp bj:List V) (cj cl rj rk:Int) (cX bR br bc:List V):(Int × Int × Int × Int × Int × (List V))→Option ((Int × Int × Int × Int × Int × (List V)) ⊕ (Int × Bool × Int × Int × Int × Int × (List V))):=un fun t37=>un fun aO=>un fun aK=>un fun aT=>un fun aP bm=>CI C t36 aQ a9 bp bj cj cl rj rk cX bR br bc t37 aO aK aT aP bm (fun y=>some (.inl y)) (fun r=>some (.inr r))
noncomputable def X2 (C:ae):cy:=fun β n ds k=>
 bif Nat.beq n 193 then bu Kn [false,false,false,false,true,false,false,false,false,false,false,false,false,true,true,true,true,false,false,false,false,true] [[1,2,3,4,0,0,6,7,8,9,10,11,12,13,0,0,0,0,18,19,20,21,0]] (@CH C) ds k else
 bif Nat.beq n 145 then bu Ko [false,true,false,false,false,false,false,false,false,false,true,true,true,true,false,false,false,false,true] [[1,0,0,3,4,5,6,7,8,9,10,0,0,0,0,15,16,17,18,0]] (@CI C) ds k else
 none
abbrev X3 (C:ae) (b:ct):Prop:=cu Tryd.prog ar C (X2 C) 51 (cP Tryd.prog (ar.aW 51)) (ar.sin 51).a8.length b
theorem aj3 (C:ae):X3 C (.loop (ak [1,1,1,1,1,1,0,1,0,0,1,1,0,0,1,1,0,0] Hq)):=
 bz Kn [false,false,false,false,true,false,false,false,false,false,false,false,false,true,true,true,true,false,false,false,false,true] [[1,2,3,4,0,0,6,7,8,9,10,11,12,13,0,0,0,0,18,19,20,21,0]] (@CH C) (by kernel_rfl) (aS (bs:=[]) (by kernel_rfl) ao) (fun ds=>by kernel_rfl) (fun i x=>by kernel_rfl) (fun i x β k=>by kernel_rfl) (fun β ds k=>by kernel_rfl)
theorem aj4 (C:ae):X3 C (.loop (ak [1,1,1,1,1,1,0,1,0,0] Hq)):=
 bz Ko [false,true,false,false,false,false,false,false,false,false,true,true,true,true,false,false,false,false,true] [[1,0,0,3,4,5,6,7,8,9,10,0,0,0,0,15,16,17,18,0]] (@CI C) (by kernel_rfl) (aS (bs:=[.loop (ak [1,1,1,1,1,1,0,1,0,0,1,1,0,0,1,1,0,0] Hq)]) (by kernel_rfl) (bd (aj3 C) ao)) (fun ds=>by kernel_rfl) (fun i x=>by kernel_rfl) (fun i x β k=>by kernel_rfl) (fun β ds k=>by kernel_rfl)
noncomputable def X4 (C:ae) (aX aY:Int) (aF ba:List V):Option (List V):=
 (C EN [.int .i64 aX,.int .i64 aY,.list aw aF,.list ay ba]).bind fun r1=>
 bif (((V.nth (r1.drop 2) 0).toInt):Int) != 0 then
  some [.int .i64 0,.int .i64 0,.int .i64 ((V.nth (r1.drop 2) 0).toInt),.list aw ([]:List V),.list ay ([]:List V)]
 else
  (C zJ [.int .i64 aX,.int .i64 (((V.nth (r1.drop 3) 0).toList).length:Int)]).bind fun r2=>
  bif (V.nth r2 0).toBool then
  some [.int .i64 0,.int .i64 0,.int .i64 3,.list aw ([]:List V),.list ay ([]:List V)]
  else
  (C EU [.int .i64 ((V.nth r1 0).toInt),.int .i64 ((V.nth (r1.drop 1) 0).toInt),.list aw ((V.nth (r1.drop 3) 0).toList),.list ay ((V.nth ((r1.drop 3).drop 1) 0).toList),.int .i64 0,.int .i64 ((V.nth (r2.drop 1) 0).toInt),.int .i64 ((V.nth ((r2.drop 1).drop 1) 0).toInt),.int .u64 ((V.nth (((r2.drop 1).drop 1).drop 1) 0).toInt),.int .u64 ((V.nth ((((r2.drop 1).drop 1).drop 1).drop 1) 0).toInt),.list aq ((V.nth ((r2.drop 1).drop 4) 0).toList)]).bind fun r3=>
  (Loop (NF C (((V.nth (r1.drop 3) 0).toList).length:Int) aX aY aF ba 0 0 ((V.nth r1 0).toInt) ((V.nth (r1.drop 1) 0).toInt) ([]:List V) ([]:List V) ((V.nth (r1.drop 3) 0).toList) ((V.nth ((r1.drop 3).drop 1) 0).toList)) (0,(V.nth r3 0).toInt,(V.nth (r3.drop 1) 0).toInt,(V.nth ((r3.drop 1).drop 1) 0).toInt,(V.nth (((r3.drop 1).drop 1).drop 1) 0).toInt,(V.nth (r3.drop 4) 0).toList)).bind (un fun (Bm:Int)=>un fun (nq:Bool)=>un fun (vp:Int)=>un fun (pT:Int)=>un fun (Ny:Int)=>un fun (aj5:Int) (uT:List V)=>
   (C zK [.int .i64 ((V.nth (r1.drop 1) 0).toInt),.int .i64 vp,.int .i64 pT,.int .u64 Ny,.int .u64 aj5,.list aq uT]).bind fun fj=>
   (C ES [.list aw ((V.nth (r1.drop 3) 0).toList),.int .i64 0,.int .i64 ((V.nth fj 0).toInt),.int .i64 ((V.nth (fj.drop 1) 0).toInt),.int .u64 ((V.nth ((fj.drop 1).drop 1) 0).toInt),.int .u64 ((V.nth (((fj.drop 1).drop 1).drop 1) 0).toInt),.list aq ((V.nth (fj.drop 4) 0).toList)]).bind fun iA=>
   (C uv [.int .i64 ((V.nth iA 0).toInt),.int .i64 ((V.nth (iA.drop 1) 0).toInt),.int .u64 ((V.nth ((iA.drop 1).drop 1) 0).toInt),.int .u64 ((V.nth (((iA.drop 1).drop 1).drop 1) 0).toInt),.list aq ((V.nth (iA.drop 4) 0).toList)]).bind fun rA=>
   some [.int .i64 ((V.nth rA 0).toInt),.int .i64 ((V.nth (rA.drop 1) 0).toInt),.int .i64 ((V.nth (rA.drop 2) 0).toInt),.list aw ((V.nth ((rA.drop 3).drop 5) 0).toList),.list ay ((V.nth (((rA.drop 3).drop 5).drop 1) 0).toList)])
theorem aj6 {aX aY:Int} {aF ba:List V} {r:Option (List V)} (h:X4 CC aX aY aF ba=r):CC EM [.int .i64 aX,.int .i64 aY,.list aw aF,.list ay ba]=r:=
 bn (key:=51) (L:=X2 CC) (bs:=[.loop (ak [1,1,1,1,1,1,0,1,0,0] Hq)]) (by kernel_rfl) (bd (aj4 CC) ao) (Eq.trans (by kernel_rfl) h)
theorem Hr {p x q L S:Nat} (hp:p<S) (hx:x<L) (hq:q<S):(fK p x q).In (L:Int) (S:Int):=by unfold Ed.In fK;simp only;omega
theorem aj7 {a:Da} (h:a.Ok) {off S:Nat} (hs:a.n+off≤S) {e:Ed} (he:e∈jK a off):e.In (a.L:Int) (S:Int):=by
 obtain ⟨p,x,hp,hx,rfl⟩:=ajJ.1 he
 have:=h.eE hp hx
 exact Hr (by omega) hx (by omega)
def jL (L n:Nat):List Ed:=fm n fun q=>tab L fun x=>fK q x q
theorem aj8 {L n:Nat} {e:Ed}:e∈jL L n↔∃q x,q<n∧x<L∧e=fK q x q:=by
 unfold jL
 rw[CE]
 constructor
 ·rintro ⟨p,hp,he⟩
  obtain ⟨x,hx,rfl⟩:=AL.1 he
  exact ⟨p,x,hp,hx,rfl⟩
 ·rintro ⟨p,x,hp,hx,rfl⟩
  exact ⟨p,hp,AL.2 ⟨x,hx,rfl⟩⟩
def xY (m:Da):Nf:=cE m.L m.n (2^m.st) (jn 0 m.fin 0 m.n) (jK m 0++jL m.L m.n)
theorem X5 {m:Da} (h:m.Ok) (hs:m.n≤64):vo m.L m.n (2^m.st) (jn 0 m.fin 0 m.n) (jK m 0++jL m.L m.n) where
 l1:=h.l1
 l6:=h.l6
 pI:=hs
 st:=Nat.pow_lt_pow_right (by omega) h.s
 fin:=Ho (Nat.two_pow_pos _) (by omega)
 E:=fun e he=>by
  rcases List.mem_append.1 he with he|he
  ·exact aj7 h (by omega) he
  ·obtain ⟨p,x,hp,hx,rfl⟩:=aj8.1 he
   exact Hr (by omega) hx (by omega)
 len:=by
  have h1:=Nz h (off:=0) (n:=m.n)
  have h2:(jL m.L m.n).length≤m.n*6:=xX fun p _=>by rw[dY];exact h.l6
  rw[List.length_append]
  unfold jK
  omega
section
variable {a:Da} (h:a.Ok)
include h
theorem aj9 (hs:(minD a).n≤64) {X:Da} {e:Int} {n:Nf} (hr:CC uv (aN (minD a).L (minD a).n (2^(minD a).st) (jn 0 (minD a).fin 0 (minD a).n) (jK (minD a) 0++jL (minD a).L (minD a).n))=some (No X e n)):CC EM (dc a)=some (kQ X e):=by
 have hm:=rC h
 have h6:=hm.l6
 have hL:=nT h
 have bP:=hm.s
 refine aj6 ?_
 unfold X4
 refine bs (ajQ h) (bF rfl ?_)
 have e0:(V.nth ((kQ (minD a) 0).drop 3) 0).toList=(minD a).cU:=rfl
 rw[e0,Da.nw]
 refine bs (XU hs) (bF rfl ?_)
 refine bs (ajK (l:=[]) hm (off:=0) (by omega) (by simp)) ?_
 rw[List.nil_append]
 have hlen:=Nz hm (off:=0) (n:=(minD a).n)
 refine bs (pU (minD a).n (fun i=>((i:Int),(a.L:Int),((minD a).n:Int),((0:Nat):Int),((0:Nat):Int),(jK (minD a) 0++jL (minD a).L i).map Ed.enc)) (((minD a).n:Int),false,(a.L:Int),((minD a).n:Int),((0:Nat):Int),((0:Nat):Int),(jK (minD a) 0++jL (minD a).L (minD a).n).map Ed.enc) (by rw[show jL (minD a).L 0=[] from rfl,List.append_nil];rfl) (fun q hq=> ?_) ?_) ?_
 ·have te:(jL (minD a).L q).length≤q*6:=xX fun p _=>by rw[dY];exact h6
  simp only[NF,CI,un]
  refine bT (dx hq) ?_
  refine bs (pU a.L (fun i=>((i:Int),(a.L:Int),((minD a).n:Int),((0:Nat):Int),((0:Nat):Int),((jK (minD a) 0++jL (minD a).L q)++tab i fun x=>fK q x q).map Ed.enc)) ((a.L:Int),false,(a.L:Int),((minD a).n:Int),((0:Nat):Int),((0:Nat):Int),((jK (minD a) 0++jL (minD a).L q)++tab (minD a).L fun x=>fK q x q).map Ed.enc) (by rw[Uw,List.append_nil];rfl) (fun x hx=> ?_) ?_) ?_
  ·simp only[ND,CH,un]
   refine bT (dx hx) ?_
   refine bs (Hn (by rw[List.length_append,List.length_append,dY];unfold jK;omega)) ?_
   rw[cA (by omega),kN,←List.append_assoc]
   rfl
  ·simp only[ND,CH,un]
   refine bF (bt (Nat.le_refl _)) ?_
   rw[bt (Nat.le_refl _),hL]
  ·simp only[un]
   rw[cA (by omega),show jL (minD a).L (q+1)=jL (minD a).L q++tab (minD a).L fun x=>fK q x q from rB,←List.append_assoc]
 ·simp only[NF,CI,un]
  refine bF (bt (Nat.le_refl _)) ?_
  rw[bt (Nat.le_refl _)]
 ·simp only[un]
  refine bs (XS (q:=(minD a).st) (by omega) (by omega)) ?_
  refine bs (ajI (n:=(minD a).n) (f:=(minD a).fin) (off:=0) (by omega) (by omega)) ?_
  rw[Nat.zero_or]
  rw[hL] at hr
  rw[hL]
  refine bs hr ?_
  rfl
end
inductive rD (K:List Nat→Prop):List Nat→Prop
 | nil:rD K []
 | app {u v:List Nat}:u≠[]→K u→rD K v→rD K (u++v)
section
variable {K:List Nat→Prop}
theorem rD.one {w:List Nat} (h:K w):rD K w:=by
 by_cases hw:w=[]
 ·rw[hw];exact .nil
 ·have:=rD.app hw h .nil
  rwa [List.append_nil] at this
theorem rD.ext {K2:List Nat→Prop} {L:Nat} (h: ∀u,WL L u→(K u↔K2 u)) {w:List Nat} (hw:WL L w):rD K w↔rD K2 w:=by
 constructor
 ·intro hr
  induction hr with
  | nil=>exact .nil
  | app g1 g2 _ ih=>exact .app g1 ((h _ (WL.app.1 hw).1).1 g2) (ih (WL.app.1 hw).2)
 ·intro hr
  induction hr with
  | nil=>exact .nil
  | app g1 g2 _ ih=>exact .app g1 ((h _ (WL.app.1 hw).1).2 g2) (ih (WL.app.1 hw).2)
end
section
variable {m:Da} (hm:m.Ok)
include hm
end
section
variable {m:Da} (hm:m.Ok)
include hm
end
def Ed.rev (e:Ed):Ed:=⟨e.t,e.l,e.f⟩
@[simp] theorem Ed.rev_rev (e:Ed):e.rev.rev=e:=rfl
theorem WL.rev {L:Nat} {w:List Nat} (h:WL L w):WL L w.reverse:=fun x hx=>h x (List.mem_reverse.1 hx)
section
variable {m:Da} (hm:m.Ok)
include hm
end
section
variable {m:Da} (hm:m.Ok)
include hm
end
end Go.AM
set_option maxRecDepth 100000
namespace Go.AM
open Go.Proofs
namespace Da
end Da
structure oX (X:Da) (L:Nat) (K:List Nat→Prop):Prop where
 ok:X.Ok
 hL:X.L=L
 min:minD X=X
 ly: ∀w,WL L w→(X.acc X.st w=true↔K w)
theorem oX.eq {X Y:Da} {L:Nat} {K K':List Nat→Prop} (h:oX X L K) (h':oX Y L K') (e: ∀w,WL L w→(K w↔K' w)):X=Y:=by
 rw[←h.min,←h'.min]
 refine X0 h.ok h'.ok (h.hL.trans h'.hL.symm) fun w hw=> ?_
 have jz:WL L w:=h.hL▸hw
 rw[Bool.eq_iff_iff,h.ly w jz,h'.ly w jz,e w jz]
theorem oX.ext {X:Da} {L:Nat} {K K':List Nat→Prop} (h:oX X L K) (e: ∀w,WL L w→(K w↔K' w)):oX X L K':=⟨h.ok,h.hL,h.min,fun w hw=>(h.ly w hw).trans (e w hw)⟩
theorem oX.acc {X:Da} {L:Nat} {K:List Nat→Prop} (h:oX X L K) {w:List Nat} (hw:WL L w) {b:Bool} (e:K w↔b=true):X.acc X.st w=b:=by
 rw[Bool.eq_iff_iff,h.ly w hw,e]
section
variable {L S st fin:Nat} {l:List Ed} (h:vo L S st fin l)
include h
theorem aka (hn: ¬fZ (cE L S st fin l) L S):oX (eR (cE L S st fin l) L S) L (CG st fin l) where
 ok:=ajY h hn
 hL:=ajZ h hn
 min:=by
  unfold eR
  rw[if_neg hn]
  exact ajP (u6 (nP h) hn)
 ly:=fun _ hw=>aj0 h hn hw
theorem akb (hn: ¬fZ (cE L S st fin l) L S):(eR (cE L S st fin l) L S).n≤2^S:=by
 have h1:=NB (u6 (nP h) hn)
 have h2:=u5 (nP h) (2^S)
 have h3:(eQ (cE L S st fin l) L S).n=(dZ (cE L S st fin l) L S).length:=kK
 unfold eR
 rw[if_neg hn]
 unfold dZ at h3
 omega
theorem X6:(kT (cE L S st fin l) L S=0∧oX (eR (cE L S st fin l) L S) L (CG st fin l)∧(eR (cE L S st fin l) L S).n≤2^S)∨(kT (cE L S st fin l) L S=3∧eR (cE L S st fin l) L S=zD∧9<S):=by
 by_cases hn:fZ (cE L S st fin l) L S
 ·refine .inr ⟨if_pos hn,if_pos hn,?_⟩
  rcases Nat.lt_or_ge 9 S with c|c
  ·exact c
  ·exact absurd hn (aj1 h c)
 ·exact .inl ⟨if_neg hn,aka h hn,akb h hn⟩
theorem akc:CC sx (gE (eR (cE L S st fin l) L S) (dc (eR (cE L S st fin l) L S)))=some [.bool true]:=by
 rcases X6 h with ⟨_,h2,_⟩|⟨_,h2,_⟩
 ·exact h2.ok.same
 ·rw[h2];exact XG
end
def X7 (r:Option (List V)) (L S:Nat) (K:List Nat→Prop):Prop:=(∃X,r=some (kQ X 0)∧oX X L K∧X.n≤2^S)∨(r=some (kQ zD 3)∧9<S)
theorem X7.of {L S st fin:Nat} {l:List Ed} (h:vo L S st fin l) {r:Option (List V)} (e:r=some (kQ (eR (cE L S st fin l) L S) (kT (cE L S st fin l) L S))) {K:List Nat→Prop} (hK: ∀w,WL L w→(CG st fin l w↔K w)):X7 r L S K:=by
 rcases X6 h with ⟨h1,h2,h3⟩|⟨h1,h2,h3⟩
 ·exact .inl ⟨_,by rw[e,h1],h2.ext hK,h3⟩
 ·exact .inr ⟨by rw[e,h1,h2],h3⟩
end Go.AM
set_option maxRecDepth 100000
namespace Go.AM
open Go.Proofs
noncomputable abbrev xZ:Code:=cI Tryd.prog (ar.aW 25)
noncomputable def CJ (C:ae) (width p:Int) (row:List V) (q:Int) (other:List V) (pair t57 t58 t65 t66 t77 dI ed:Int) (gX gv:List V) (fL fM pV pW pX pY:Int) (nU ta bc bm bM cf:List V) (t78 aO aK aT aP:Int) (fh:List V) {β:Type} (kn:(Int × Int × Int × Int × Int × (List V))→Option β) (kr:(Int × Bool × Int × Int × Int × Int × (List V))→Option β):Option β:=
 bif decide ((t78:Int)<t77) then
  (idx row t78).bind fun x6=>
  (C uu [.int .i64 pair,.int .i64 t78,.int .i64 (IntKind.wrap .i64 ((IntKind.wrap .i64 (width*x6.toInt))+q)),.int .i64 aO,.int .i64 aK,.int .u64 aT,.int .u64 aP,.list aq fh]).bind fun r7=>
  (idx other t78).bind fun x8=>
  (C uu [.int .i64 pair,.int .i64 t78,.int .i64 (IntKind.wrap .i64 ((IntKind.wrap .i64 (width*p))+x8.toInt)),.int .i64 ((V.nth r7 0).toInt),.int .i64 ((V.nth (r7.drop 1) 0).toInt),.int .u64 ((V.nth ((r7.drop 1).drop 1) 0).toInt),.int .u64 ((V.nth (((r7.drop 1).drop 1).drop 1) 0).toInt),.list aq ((V.nth (r7.drop 4) 0).toList)]).bind fun r9=>
  kn (IntKind.wrap .i64 (t78+1),(V.nth r9 0).toInt,(V.nth (r9.drop 1) 0).toInt,(V.nth ((r9.drop 1).drop 1) 0).toInt,(V.nth (((r9.drop 1).drop 1).drop 1) 0).toInt,(V.nth (r9.drop 4) 0).toList)
 else
  kr (t78,decide ((t78:Int)<t77),aO,aK,aT,aP,fh)
noncomputable def NG (C:ae) (width p:Int) (row:List V) (q:Int) (other:List V) (pair t57 t58 t65 t66 t77 dI ed:Int) (gX gv:List V) (fL fM pV pW pX pY:Int) (nU ta bc bm bM cf:List V):(Int × Int × Int × Int × Int × (List V))→Option ((Int × Int × Int × Int × Int × (List V)) ⊕ (Int × Bool × Int × Int × Int × Int × (List V))):=un fun t78=>un fun aO=>un fun aK=>un fun aT=>un fun aP fh=>CJ C width p row q other pair t57 t58 t65 t66 t77 dI ed gX gv fL fM pV pW pX pY nU ta bc bm bM cf t78 aO aK aT aP fh (fun y=>some (.inl y)) (fun r=>some (.inr r))
noncomputable def CK (C:ae) (width p:Int) (row:List V) (t57 t58 t65 dI ed:Int) (gX gv:List V) (fL fM pV pW pX pY:Int) (nU ta bc bm bM cf:List V) (t66 aO aK aT aP:Int) (fh:List V) {β:Type} (kn:(Int × Int × Int × Int × Int × (List V))→Option β) (kr:(Int × Bool × Int × Int × Int × Int × (List V))→Option β):Option β:=
 bif decide ((t66:Int)<t65) then
  bif (decide (0≤t66))&&(decide (t66<(ta.length:Int))) then
  (ta[(t66:Int).toNat]?).bind fun x5=>
  (Loop (NG C width p row t66 x5.toList (IntKind.wrap .i64 ((IntKind.wrap .i64 (width*p))+t66)) t57 t58 t65 t66 dI dI ed gX gv fL fM pV pW pX pY nU ta bc bm bM cf) (0,aO,aK,aT,aP,fh)).bind (un fun (U4:Int)=>un fun (MH:Bool)=>un fun (NH:Int)=>un fun (CD:Int)=>un fun (vp:Int)=>un fun (pT:Int) (u3:List V)=>
   bif (decide (0≤p))&&(decide (p<(bM.length:Int))) then
    (bM[(p:Int).toNat]?).bind fun nB=>
    bif nB.toBool then
    bif (decide (0≤t66))&&(decide (t66<(cf.length:Int))) then
     (cf[(t66:Int).toNat]?).bind fun sM=>
     bif sM.toBool then
     (C zL [.int .i64 (IntKind.wrap .i64 ((IntKind.wrap .i64 (width*p))+t66)),.int .i64 NH,.int .i64 CD,.int .u64 vp,.int .u64 pT,.list aq u3]).bind fun fj=>
     kn (IntKind.wrap .i64 (t66+1),(V.nth fj 0).toInt,(V.nth (fj.drop 1) 0).toInt,(V.nth ((fj.drop 1).drop 1) 0).toInt,(V.nth (((fj.drop 1).drop 1).drop 1) 0).toInt,(V.nth (fj.drop 4) 0).toList)
     else
     kn (IntKind.wrap .i64 (t66+1),NH,CD,vp,pT,u3)
    else none
    else
    kn (IntKind.wrap .i64 (t66+1),NH,CD,vp,pT,u3)
   else none)
  else none
 else
  kr (t66,decide ((t66:Int)<t65),aO,aK,aT,aP,fh)
noncomputable def NI (C:ae) (width p:Int) (row:List V) (t57 t58 t65 dI ed:Int) (gX gv:List V) (fL fM pV pW pX pY:Int) (nU ta bc bm bM cf:List V):(Int × Int × Int × Int × Int × (List V))→Option ((Int × Int × Int × Int × Int × (List V)) ⊕ (Int × Bool × Int × Int × Int × Int × (List V))):=un fun t66=>un fun aO=>un fun aK=>un fun aT=>un fun aP fh=>CK C width p row t57 t58 t65 dI ed gX gv fL fM pV pW pX pY nU ta bc bm bM cf t66 aO aK aT aP fh (fun y=>some (.inl y)) (fun r=>some (.inr r))
noncomputable def CL (C:ae) (width t57 dI ed:Int) (gX gv:List V) (fL fM pV pW pX pY:Int) (nU br bc bm bM cf:List V) (t58 aO aK aT aP:Int) (fh:List V) {β:Type} (kn:(Int × Int × Int × Int × Int × (List V))→Option β) (kr:(Int × Bool × Int × Int × Int × Int × (List V))→Option β):Option β:=
 bif decide ((t58:Int)<t57) then
  bif (decide (0≤t58))&&(decide (t58<(nU.length:Int))) then
  (nU[(t58:Int).toNat]?).bind fun x4=>
  (Loop (NI C width t58 x4.toList t57 t58 (cf.length:Int) dI ed gX gv fL fM pV pW pX pY nU cf br bc bm bM) (0,aO,aK,aT,aP,fh)).bind (un fun (MB:Int)=>un fun (ahQ:Bool)=>un fun (akd:Int)=>un fun (ake:Int)=>un fun (akf:Int)=>un fun (NJ:Int) (NK:List V)=>
   kn (IntKind.wrap .i64 (t58+1),akd,ake,akf,NJ,NK))
  else none
 else
  kr (t58,decide ((t58:Int)<t57),aO,aK,aT,aP,fh)
noncomputable def NL (C:ae) (width t57 dI ed:Int) (gX gv:List V) (fL fM pV pW pX pY:Int) (nU br bc bm bM cf:List V):(Int × Int × Int × Int × Int × (List V))→Option ((Int × Int × Int × Int × Int × (List V)) ⊕ (Int × Bool × Int × Int × Int × Int × (List V))):=un fun t58=>un fun aO=>un fun aK=>un fun aT=>un fun aP fh=>CL C width t57 dI ed gX gv fL fM pV pW pX pY nU br bc bm bM cf t58 aO aK aT aP fh (fun y=>some (.inl y)) (fun r=>some (.inr r))
noncomputable def X8 (C:ae):cy:=fun β n ds k=>
 bif Nat.beq n 273 then bu Kb [false,false,false,false,false,false,false,false,false,false,false,true,false,false,false,false,false,false,false,false,false,false,true,true,true,true,false,false,false,false,false,false,true] [[1,2,3,4,5,6,7,8,9,10,11,0,0,13,14,15,16,17,18,19,20,21,22,0,0,0,0,27,28,29,30,31,32,0]] (@CJ C) ds k else
 bif Nat.beq n 209 then bu Kc [false,false,false,false,false,false,true,false,false,false,false,false,false,false,false,false,false,true,true,true,true,false,false,false,false,false,false,true] [[1,2,3,4,5,6,0,0,8,9,10,11,12,13,14,15,16,17,0,0,0,0,22,23,24,25,26,27,0]] (@CK C) ds k else
 bif Nat.beq n 161 then bu Kd [false,false,true,false,false,false,false,false,false,false,false,false,false,true,true,true,true,false,false,false,false,false,false,true] [[1,2,0,0,4,5,6,7,8,9,10,11,12,13,0,0,0,0,18,19,20,21,22,23,0]] (@CL C) ds k else
 none
abbrev NM (C:ae) (b:ct):Prop:=cu Tryd.prog ar C (X8 C) 25 (cP Tryd.prog (ar.aW 25)) (ar.sin 25).a8.length b
theorem akg (C:ae):NM C (.loop (ak [1,1,1,1,1,1,1,0,1,0,0,1,1,0,0,1,1,0,0,1,1,0,0,1,1,0,1,0,0] xZ)):=
 bz Kb [false,false,false,false,false,false,false,false,false,false,false,true,false,false,false,false,false,false,false,false,false,false,true,true,true,true,false,false,false,false,false,false,true] [[1,2,3,4,5,6,7,8,9,10,11,0,0,13,14,15,16,17,18,19,20,21,22,0,0,0,0,27,28,29,30,31,32,0]] (@CJ C) (by kernel_rfl) (aS (bs:=[]) (by kernel_rfl) ao) (fun ds=>by kernel_rfl) (fun i x=>by kernel_rfl) (fun i x β k=>by kernel_rfl) (fun β ds k=>by kernel_rfl)
theorem akh (C:ae):NM C (.loop (ak [1,1,1,1,1,1,1,0,1,0,0,1,1,0,0,1,1,0,0] xZ)):=
 bz Kc [false,false,false,false,false,false,true,false,false,false,false,false,false,false,false,false,false,true,true,true,true,false,false,false,false,false,false,true] [[1,2,3,4,5,6,0,0,8,9,10,11,12,13,14,15,16,17,0,0,0,0,22,23,24,25,26,27,0]] (@CK C) (by kernel_rfl) (aS (bs:=[.loop (ak [1,1,1,1,1,1,1,0,1,0,0,1,1,0,0,1,1,0,0,1,1,0,0,1,1,0,1,0,0] xZ)]) (by kernel_rfl) (bd (akg C) ao)) (fun ds=>by kernel_rfl) (fun i x=>by kernel_rfl) (fun i x β k=>by kernel_rfl) (fun β ds k=>by kernel_rfl)
theorem aki (C:ae):NM C (.loop (ak [1,1,1,1,1,1,1,0,1,0,0] xZ)):=
 bz Kd [false,false,true,false,false,false,false,false,false,false,false,false,false,true,true,true,true,false,false,false,false,false,false,true] [[1,2,0,0,4,5,6,7,8,9,10,11,12,13,0,0,0,0,18,19,20,21,22,23,0]] (@CL C) (by kernel_rfl) (aS (bs:=[.loop (ak [1,1,1,1,1,1,1,0,1,0,0,1,1,0,0,1,1,0,0] xZ)]) (by kernel_rfl) (bd (akh C) ao)) (fun ds=>by kernel_rfl) (fun i x=>by kernel_rfl) (fun i x β k=>by kernel_rfl) (fun β ds k=>by kernel_rfl)
noncomputable def NN (C:ae) (cD cO:Int) (cK dp:List V) (cL cR:Int) (cS dy:List V):Option (List V):=
 (C wM [.int .i64 cD,.int .i64 cO,.list aw cK,.list ay dp,.int .i64 cL,.int .i64 cR,.list aw cS,.list ay dy]).bind fun r1=>
 bif (((V.nth ((r1.drop 2).drop 2) 0).toInt):Int) != 0 then
  some [.int .i64 0,.int .i64 0,.int .i64 ((V.nth ((r1.drop 2).drop 2) 0).toInt),.list aw ([]:List V),.list ay ([]:List V)]
 else
  (C zJ [.int .i64 cD,.int .i64 (IntKind.wrap .i64 ((((V.nth (((r1.drop 5).drop 1).drop 1) 0).toList).length:Int)*(((V.nth (r1.drop 5) 0).toList).length:Int)))]).bind fun r2=>
  bif (V.nth r2 0).toBool then
  some [.int .i64 0,.int .i64 0,.int .i64 3,.list aw ([]:List V),.list ay ([]:List V)]
  else
  (C zK [.int .i64 (IntKind.wrap .i64 ((IntKind.wrap .i64 ((((V.nth (((r1.drop 5).drop 1).drop 1) 0).toList).length:Int)*((V.nth (r1.drop 1) 0).toInt)))+((V.nth ((r1.drop 2).drop 1) 0).toInt))),.int .i64 ((V.nth (r2.drop 1) 0).toInt),.int .i64 ((V.nth ((r2.drop 1).drop 1) 0).toInt),.int .u64 ((V.nth (((r2.drop 1).drop 1).drop 1) 0).toInt),.int .u64 ((V.nth ((((r2.drop 1).drop 1).drop 1).drop 1) 0).toInt),.list aq ((V.nth ((r2.drop 1).drop 4) 0).toList)]).bind fun r3=>
  (Loop (NL C (((V.nth (((r1.drop 5).drop 1).drop 1) 0).toList).length:Int) (((V.nth ((r1.drop 5).drop 1) 0).toList).length:Int) cD cO cK dp 0 0 ((V.nth r1 0).toInt) ((V.nth (r1.drop 1) 0).toInt) ((V.nth (r1.drop 2) 0).toInt) ((V.nth ((r1.drop 2).drop 1) 0).toInt) ((V.nth ((r1.drop 5).drop 1) 0).toList) ([]:List V) ([]:List V) ((V.nth (r1.drop 5) 0).toList) ((V.nth (((r1.drop 5).drop 1).drop 1) 0).toList) ((V.nth ((((r1.drop 5).drop 1).drop 1).drop 1) 0).toList)) (0,(V.nth r3 0).toInt,(V.nth (r3.drop 1) 0).toInt,(V.nth ((r3.drop 1).drop 1) 0).toInt,(V.nth (((r3.drop 1).drop 1).drop 1) 0).toInt,(V.nth (r3.drop 4) 0).toList)).bind (un fun (UX:Int)=>un fun (alu:Bool)=>un fun (akj:Int)=>un fun (akk:Int)=>un fun (akl:Int)=>un fun (akm:Int) (Gb:List V)=>
   (C uv [.int .i64 akj,.int .i64 akk,.int .u64 akl,.int .u64 akm,.list aq Gb]).bind fun vk=>
   some [.int .i64 ((V.nth vk 0).toInt),.int .i64 ((V.nth (vk.drop 1) 0).toInt),.int .i64 ((V.nth (vk.drop 2) 0).toInt),.list aw ((V.nth ((vk.drop 3).drop 5) 0).toList),.list ay ((V.nth (((vk.drop 3).drop 5).drop 1) 0).toList)])
theorem X9 {cD cO:Int} {cK dp:List V} {cL cR:Int} {cS dy:List V} {r:Option (List V)} (h:NN CC cD cO cK dp cL cR cS dy=r):CC ur [.int .i64 cD,.int .i64 cO,.list aw cK,.list ay dp,.int .i64 cL,.int .i64 cR,.list aw cS,.list ay dy]=r:=
 bn (key:=25) (L:=X8 CC) (bs:=[.loop (ak [1,1,1,1,1,1,1,0,1,0,0] xZ)]) (by kernel_rfl) (bd (aki CC) ao) (Eq.trans (by kernel_rfl) h)
end Go.AM
