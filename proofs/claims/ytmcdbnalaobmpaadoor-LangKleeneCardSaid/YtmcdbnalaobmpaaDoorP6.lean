/-
  Functions of the program, lifted to plain data.
-/
import Derived.Test.YtmcdbnalaobmpaaDoorP5
set_option linter.unusedVariables false
set_option linter.unusedSimpArgs false
set_option maxRecDepth 100000
namespace Go.AM
open Go.Proofs
noncomputable abbrev p6:Code:=cL Tryd.prog (av.aT 181)
noncomputable def Cz (C:ae) (a j:Int) (af:List V) (i:Int) {β:Type} (kn:Int→Option β) (kr:(Int × Bool)→Option β):Option β:=
 bif decide ((i:Int)≤j) then
  bif (decide (0≤i))&&(decide (i<(af.length:Int))) then
  (af[(i:Int).toNat]?).bind fun x5=>
  bif (decide (0≤a))&&(decide (a<(af.length:Int))) then
   (af[(a:Int).toNat]?).bind fun x6=>
   (C bj [.int .i64 ((x5.cell 0).toInt),.int .i64 ((x5.cell 1).toInt),.int .i64 ((x5.cell 2).toInt),.int .i64 ((x6.cell 0).toInt),.int .i64 ((x6.cell 1).toInt),.int .i64 ((x6.cell 2).toInt)]).bind fun r7=>
   bif decide ((((V.nth r7 0).toInt):Int)<0) then
   kn (IntKind.wrap .i64 (i+1))
   else
   kr (i,decide ((((V.nth r7 0).toInt):Int)<0))
  else none
  else none
 else
  kr (i,false)
noncomputable def CA (C:ae) (a j:Int) (af:List V):(Int)→Option ((Int) ⊕ (Int × Bool)):=fun i=>Cz C a j af i (fun y=>some (.inl y)) (fun r=>some (.inr r))
noncomputable def yo (C:ae) (a i:Int) (af:List V) (j:Int) {β:Type} (kn:Int→Option β) (kr:(Int × Bool)→Option β):Option β:=
 bif decide ((i:Int)≤j) then
  bif (decide (0≤j))&&(decide (j<(af.length:Int))) then
  (af[(j:Int).toNat]?).bind fun gU=>
  bif (decide (0≤a))&&(decide (a<(af.length:Int))) then
   (af[(a:Int).toNat]?).bind fun fh=>
   (C bj [.int .i64 ((gU.cell 0).toInt),.int .i64 ((gU.cell 1).toInt),.int .i64 ((gU.cell 2).toInt),.int .i64 ((fh.cell 0).toInt),.int .i64 ((fh.cell 1).toInt),.int .i64 ((fh.cell 2).toInt)]).bind fun jN=>
   bif !(decide ((((V.nth jN 0).toInt):Int)<0)) then
   kn (IntKind.wrap .i64 (j-1))
   else
   kr (j,!(decide ((((V.nth jN 0).toInt):Int)<0)))
  else none
  else none
 else
  kr (j,false)
noncomputable def yp (C:ae) (a i:Int) (af:List V):(Int)→Option ((Int) ⊕ (Int × Bool)):=fun j=>yo C a i af j (fun y=>some (.inl y)) (fun r=>some (.inr r))
noncomputable def CB (C:ae) (a j:Int) (af:List V) (i:Int) {β:Type} (kn:Int→Option β) (kr:(Int × Bool)→Option β):Option β:=
 bif decide ((i:Int)≤j) then
  bif (decide (0≤i))&&(decide (i<(af.length:Int))) then
  (af[(i:Int).toNat]?).bind fun lJ=>
  bif (decide (0≤a))&&(decide (a<(af.length:Int))) then
   (af[(a:Int).toNat]?).bind fun vD=>
   (C bj [.int .i64 ((lJ.cell 0).toInt),.int .i64 ((lJ.cell 1).toInt),.int .i64 ((lJ.cell 2).toInt),.int .i64 ((vD.cell 0).toInt),.int .i64 ((vD.cell 1).toInt),.int .i64 ((vD.cell 2).toInt)]).bind fun vE=>
   bif decide ((((V.nth vE 0).toInt):Int)<0) then
   kn (IntKind.wrap .i64 (i+1))
   else
   kr (i,decide ((((V.nth vE 0).toInt):Int)<0))
  else none
  else none
 else
  kr (i,false)
noncomputable def CD (C:ae) (a j:Int) (af:List V):(Int)→Option ((Int) ⊕ (Int × Bool)):=fun i=>CB C a j af i (fun y=>some (.inl y)) (fun r=>some (.inr r))
noncomputable def yq (C:ae) (a i:Int) (af:List V) (j:Int) {β:Type} (kn:Int→Option β) (kr:(Int × Bool)→Option β):Option β:=
 bif decide ((i:Int)≤j) then
  bif (decide (0≤j))&&(decide (j<(af.length:Int))) then
  (af[(j:Int).toNat]?).bind fun vF=>
  bif (decide (0≤a))&&(decide (a<(af.length:Int))) then
   (af[(a:Int).toNat]?).bind fun vG=>
   (C bj [.int .i64 ((vF.cell 0).toInt),.int .i64 ((vF.cell 1).toInt),.int .i64 ((vF.cell 2).toInt),.int .i64 ((vG.cell 0).toInt),.int .i64 ((vG.cell 1).toInt),.int .i64 ((vG.cell 2).toInt)]).bind fun HE=>
   bif !(decide ((((V.nth HE 0).toInt):Int)<0)) then
   kn (IntKind.wrap .i64 (j-1))
   else
   kr (j,!(decide ((((V.nth HE 0).toInt):Int)<0)))
  else none
  else none
 else
  kr (j,false)
noncomputable def yr (C:ae) (a i:Int) (af:List V):(Int)→Option ((Int) ⊕ (Int × Bool)):=fun j=>yq C a i af j (fun y=>some (.inl y)) (fun r=>some (.inr r))
noncomputable def CE (C:ae) (a i j:Int) (af:List V) {β:Type} (kn:(Int × Int × (List V))→Option β) (kr:(Int × Int × Bool × (List V))→Option β):Option β:=
 (Loop (CD C a j af) i).bind (un fun (kY:Int) (aeZ:Bool)=>
  (Loop (yr C a kY af) j).bind (un fun (oV:Int) (alv:Bool)=>
   bif decide ((kY:Int)>oV) then
    kr (kY,oV,decide ((kY:Int)>oV),af)
   else
    bif (decide (0≤oV))&&(decide (oV<(af.length:Int))) then
    (af[(oV:Int).toNat]?).bind fun rS=>
    bif (decide (0≤kY))&&(decide (kY<(af.length:Int))) then
     (af[(kY:Int).toNat]?).bind fun NB=>
     bif (decide (0≤kY))&&(decide (kY<(af.length:Int))) then
     (af[(kY:Int).toNat]?).bind fun x35=>
     bif (decide (0≤oV))&&(decide (oV<((af.set ((kY:Int).toNat) (.agg [.int .i64 ((rS.cell 0).toInt),.int .i64 ((rS.cell 1).toInt),.int .i64 ((rS.cell 2).toInt)])).length:Int))) then
      ((af.set ((kY:Int).toNat) (.agg [.int .i64 ((rS.cell 0).toInt),.int .i64 ((rS.cell 1).toInt),.int .i64 ((rS.cell 2).toInt)]))[(oV:Int).toNat]?).bind fun x36=>
      kn (IntKind.wrap .i64 (kY+1),IntKind.wrap .i64 (oV-1),(af.set ((kY:Int).toNat) (.agg [.int .i64 ((rS.cell 0).toInt),.int .i64 ((rS.cell 1).toInt),.int .i64 ((rS.cell 2).toInt)])).set ((oV:Int).toNat) (.agg [.int .i64 ((NB.cell 0).toInt),.int .i64 ((NB.cell 1).toInt),.int .i64 ((NB.cell 2).toInt)]))
     else none
     else none
    else none
    else none))
noncomputable def yu (C:ae) (a:Int):(Int × Int × (List V))→Option ((Int × Int × (List V)) ⊕ (Int × Int × Bool × (List V))):=un fun i=>un fun j af=>CE C a i j af (fun y=>some (.inl y)) (fun r=>some (.inr r))
noncomputable def Xg (C:ae):cy:=fun β n ds k=>
 bif Nat.beq n 49 then bw Mg [false,true,false,false] [[1,0,3,0,4]] (@Cz C) ds k else
 bif Nat.beq n 81 then bw Mh [false,false,true,false] [[1,2,0,0,4]] (@yo C) ds k else
 bif Nat.beq n 209 then bw Mi [false,true,false,false] [[1,0,3,0,4]] (@CB C) ds k else
 bif Nat.beq n 241 then bw Mj [false,false,true,false] [[1,2,0,0,4]] (@yq C) ds k else
 bif Nat.beq n 210 then bw Mk [false,true,true,true] [[1,0,0,0,0]] (@CE C) ds k else
 none
abbrev CF (C:ae) (b:cv):Prop:=cw Tryd.prog av C (Xg C) 181 (cR Tryd.prog (av.aT 181)) (av.sin 181).aX.length b
theorem aio (C:ae):CF C (.loop (aq [1,1,1,0,0,0] p6)):=
 bC Mg [false,true,false,false] [[1,0,3,0,4]] (@Cz C) (by kernel_rfl) (aV (bs:=[]) (by kernel_rfl) au) (fun ds=>by kernel_rfl) (fun i x=>by kernel_rfl) (fun i x β k=>by kernel_rfl) (fun β ds k=>by kernel_rfl)
theorem aip (C:ae):CF C (.loop (aq [1,1,1,1,0,0,0] p6)):=
 bC Mh [false,false,true,false] [[1,2,0,0,4]] (@yo C) (by kernel_rfl) (aV (bs:=[]) (by kernel_rfl) au) (fun ds=>by kernel_rfl) (fun i x=>by kernel_rfl) (fun i x β k=>by kernel_rfl) (fun β ds k=>by kernel_rfl)
theorem aiq (C:ae):CF C (.loop (aq [1,1,1,1,1,1,1,1,1,0,0,0,0,0,0,0] p6)):=
 bC Mi [false,true,false,false] [[1,0,3,0,4]] (@CB C) (by kernel_rfl) (aV (bs:=[]) (by kernel_rfl) au) (fun ds=>by kernel_rfl) (fun i x=>by kernel_rfl) (fun i x β k=>by kernel_rfl) (fun β ds k=>by kernel_rfl)
theorem air (C:ae):CF C (.loop (aq [1,1,1,1,1,1,1,1,1,0,0,0,0,1,0,0,0] p6)):=
 bC Mj [false,false,true,false] [[1,2,0,0,4]] (@yq C) (by kernel_rfl) (aV (bs:=[]) (by kernel_rfl) au) (fun ds=>by kernel_rfl) (fun i x=>by kernel_rfl) (fun i x β k=>by kernel_rfl) (fun β ds k=>by kernel_rfl)
theorem ais (C:ae):CF C (.loop (aq [1,1,1,1,1,1,1,1,1,0,0,0] p6)):=
 bC Mk [false,true,true,true] [[1,0,0,0,0]] (@CE C) (by kernel_rfl) (aV (bs:=[.loop (aq [1,1,1,1,1,1,1,1,1,0,0,0,0,0,0,0] p6),.loop (aq [1,1,1,1,1,1,1,1,1,0,0,0,0,1,0,0,0] p6)]) (by kernel_rfl) (bf (aiq C) (bf (air C) au))) (fun ds=>by kernel_rfl) (fun i x=>by kernel_rfl) (fun i x β k=>by kernel_rfl) (fun β ds k=>by kernel_rfl)
noncomputable def Xh (C:ae) (a b' pivot:Int) (af:List V):Option (List V):=
 bif (decide (0≤pivot))&&(decide (pivot<(af.length:Int))) then
  (af[(pivot:Int).toNat]?).bind fun x1=>
  bif (decide (0≤a))&&(decide (a<(af.length:Int))) then
  (af[(a:Int).toNat]?).bind fun x2=>
  bif (decide (0≤a))&&(decide (a<(af.length:Int))) then
   (af[(a:Int).toNat]?).bind fun x3=>
   bif (decide (0≤pivot))&&(decide (pivot<((af.set ((a:Int).toNat) (.agg [.int .i64 ((x1.cell 0).toInt),.int .i64 ((x1.cell 1).toInt),.int .i64 ((x1.cell 2).toInt)])).length:Int))) then
   ((af.set ((a:Int).toNat) (.agg [.int .i64 ((x1.cell 0).toInt),.int .i64 ((x1.cell 1).toInt),.int .i64 ((x1.cell 2).toInt)]))[(pivot:Int).toNat]?).bind fun x4=>
   (Loop (CA C a (IntKind.wrap .i64 (b'-1)) ((af.set ((a:Int).toNat) (.agg [.int .i64 ((x1.cell 0).toInt),.int .i64 ((x1.cell 1).toInt),.int .i64 ((x1.cell 2).toInt)])).set ((pivot:Int).toNat) (.agg [.int .i64 ((x2.cell 0).toInt),.int .i64 ((x2.cell 1).toInt),.int .i64 ((x2.cell 2).toInt)]))) (IntKind.wrap .i64 (a+1))).bind (un fun (fq:Int) (rF:Bool)=>
    (Loop (yp C a fq ((af.set ((a:Int).toNat) (.agg [.int .i64 ((x1.cell 0).toInt),.int .i64 ((x1.cell 1).toInt),.int .i64 ((x1.cell 2).toInt)])).set ((pivot:Int).toNat) (.agg [.int .i64 ((x2.cell 0).toInt),.int .i64 ((x2.cell 1).toInt),.int .i64 ((x2.cell 2).toInt)]))) (IntKind.wrap .i64 (b'-1))).bind (un fun (eI:Int) (A9:Bool)=>
     bif decide ((fq:Int)>eI) then
      bif (decide (0≤a))&&(decide (a<(((af.set ((a:Int).toNat) (.agg [.int .i64 ((x1.cell 0).toInt),.int .i64 ((x1.cell 1).toInt),.int .i64 ((x1.cell 2).toInt)])).set ((pivot:Int).toNat) (.agg [.int .i64 ((x2.cell 0).toInt),.int .i64 ((x2.cell 1).toInt),.int .i64 ((x2.cell 2).toInt)])).length:Int))) then
      (((af.set ((a:Int).toNat) (.agg [.int .i64 ((x1.cell 0).toInt),.int .i64 ((x1.cell 1).toInt),.int .i64 ((x1.cell 2).toInt)])).set ((pivot:Int).toNat) (.agg [.int .i64 ((x2.cell 0).toInt),.int .i64 ((x2.cell 1).toInt),.int .i64 ((x2.cell 2).toInt)]))[(a:Int).toNat]?).bind fun gl=>
      bif (decide (0≤eI))&&(decide (eI<(((af.set ((a:Int).toNat) (.agg [.int .i64 ((x1.cell 0).toInt),.int .i64 ((x1.cell 1).toInt),.int .i64 ((x1.cell 2).toInt)])).set ((pivot:Int).toNat) (.agg [.int .i64 ((x2.cell 0).toInt),.int .i64 ((x2.cell 1).toInt),.int .i64 ((x2.cell 2).toInt)])).length:Int))) then
       (((af.set ((a:Int).toNat) (.agg [.int .i64 ((x1.cell 0).toInt),.int .i64 ((x1.cell 1).toInt),.int .i64 ((x1.cell 2).toInt)])).set ((pivot:Int).toNat) (.agg [.int .i64 ((x2.cell 0).toInt),.int .i64 ((x2.cell 1).toInt),.int .i64 ((x2.cell 2).toInt)]))[(eI:Int).toNat]?).bind fun gH=>
       bif (decide (0≤eI))&&(decide (eI<(((af.set ((a:Int).toNat) (.agg [.int .i64 ((x1.cell 0).toInt),.int .i64 ((x1.cell 1).toInt),.int .i64 ((x1.cell 2).toInt)])).set ((pivot:Int).toNat) (.agg [.int .i64 ((x2.cell 0).toInt),.int .i64 ((x2.cell 1).toInt),.int .i64 ((x2.cell 2).toInt)])).length:Int))) then
       (((af.set ((a:Int).toNat) (.agg [.int .i64 ((x1.cell 0).toInt),.int .i64 ((x1.cell 1).toInt),.int .i64 ((x1.cell 2).toInt)])).set ((pivot:Int).toNat) (.agg [.int .i64 ((x2.cell 0).toInt),.int .i64 ((x2.cell 1).toInt),.int .i64 ((x2.cell 2).toInt)]))[(eI:Int).toNat]?).bind fun pW=>
       bif (decide (0≤a))&&(decide (a<((((af.set ((a:Int).toNat) (.agg [.int .i64 ((x1.cell 0).toInt),.int .i64 ((x1.cell 1).toInt),.int .i64 ((x1.cell 2).toInt)])).set ((pivot:Int).toNat) (.agg [.int .i64 ((x2.cell 0).toInt),.int .i64 ((x2.cell 1).toInt),.int .i64 ((x2.cell 2).toInt)])).set ((eI:Int).toNat) (.agg [.int .i64 ((gl.cell 0).toInt),.int .i64 ((gl.cell 1).toInt),.int .i64 ((gl.cell 2).toInt)])).length:Int))) then
        ((((af.set ((a:Int).toNat) (.agg [.int .i64 ((x1.cell 0).toInt),.int .i64 ((x1.cell 1).toInt),.int .i64 ((x1.cell 2).toInt)])).set ((pivot:Int).toNat) (.agg [.int .i64 ((x2.cell 0).toInt),.int .i64 ((x2.cell 1).toInt),.int .i64 ((x2.cell 2).toInt)])).set ((eI:Int).toNat) (.agg [.int .i64 ((gl.cell 0).toInt),.int .i64 ((gl.cell 1).toInt),.int .i64 ((gl.cell 2).toInt)]))[(a:Int).toNat]?).bind fun xV=>
        some [.int .i64 eI,.bool true,.list ar ((((af.set ((a:Int).toNat) (.agg [.int .i64 ((x1.cell 0).toInt),.int .i64 ((x1.cell 1).toInt),.int .i64 ((x1.cell 2).toInt)])).set ((pivot:Int).toNat) (.agg [.int .i64 ((x2.cell 0).toInt),.int .i64 ((x2.cell 1).toInt),.int .i64 ((x2.cell 2).toInt)])).set ((eI:Int).toNat) (.agg [.int .i64 ((gl.cell 0).toInt),.int .i64 ((gl.cell 1).toInt),.int .i64 ((gl.cell 2).toInt)])).set ((a:Int).toNat) (.agg [.int .i64 ((gH.cell 0).toInt),.int .i64 ((gH.cell 1).toInt),.int .i64 ((gH.cell 2).toInt)]))]
       else none
       else none
      else none
      else none
     else
      bif (decide (0≤eI))&&(decide (eI<(((af.set ((a:Int).toNat) (.agg [.int .i64 ((x1.cell 0).toInt),.int .i64 ((x1.cell 1).toInt),.int .i64 ((x1.cell 2).toInt)])).set ((pivot:Int).toNat) (.agg [.int .i64 ((x2.cell 0).toInt),.int .i64 ((x2.cell 1).toInt),.int .i64 ((x2.cell 2).toInt)])).length:Int))) then
      (((af.set ((a:Int).toNat) (.agg [.int .i64 ((x1.cell 0).toInt),.int .i64 ((x1.cell 1).toInt),.int .i64 ((x1.cell 2).toInt)])).set ((pivot:Int).toNat) (.agg [.int .i64 ((x2.cell 0).toInt),.int .i64 ((x2.cell 1).toInt),.int .i64 ((x2.cell 2).toInt)]))[(eI:Int).toNat]?).bind fun lK=>
      bif (decide (0≤fq))&&(decide (fq<(((af.set ((a:Int).toNat) (.agg [.int .i64 ((x1.cell 0).toInt),.int .i64 ((x1.cell 1).toInt),.int .i64 ((x1.cell 2).toInt)])).set ((pivot:Int).toNat) (.agg [.int .i64 ((x2.cell 0).toInt),.int .i64 ((x2.cell 1).toInt),.int .i64 ((x2.cell 2).toInt)])).length:Int))) then
       (((af.set ((a:Int).toNat) (.agg [.int .i64 ((x1.cell 0).toInt),.int .i64 ((x1.cell 1).toInt),.int .i64 ((x1.cell 2).toInt)])).set ((pivot:Int).toNat) (.agg [.int .i64 ((x2.cell 0).toInt),.int .i64 ((x2.cell 1).toInt),.int .i64 ((x2.cell 2).toInt)]))[(fq:Int).toNat]?).bind fun rJ=>
       bif (decide (0≤fq))&&(decide (fq<(((af.set ((a:Int).toNat) (.agg [.int .i64 ((x1.cell 0).toInt),.int .i64 ((x1.cell 1).toInt),.int .i64 ((x1.cell 2).toInt)])).set ((pivot:Int).toNat) (.agg [.int .i64 ((x2.cell 0).toInt),.int .i64 ((x2.cell 1).toInt),.int .i64 ((x2.cell 2).toInt)])).length:Int))) then
       (((af.set ((a:Int).toNat) (.agg [.int .i64 ((x1.cell 0).toInt),.int .i64 ((x1.cell 1).toInt),.int .i64 ((x1.cell 2).toInt)])).set ((pivot:Int).toNat) (.agg [.int .i64 ((x2.cell 0).toInt),.int .i64 ((x2.cell 1).toInt),.int .i64 ((x2.cell 2).toInt)]))[(fq:Int).toNat]?).bind fun BU=>
       bif (decide (0≤eI))&&(decide (eI<((((af.set ((a:Int).toNat) (.agg [.int .i64 ((x1.cell 0).toInt),.int .i64 ((x1.cell 1).toInt),.int .i64 ((x1.cell 2).toInt)])).set ((pivot:Int).toNat) (.agg [.int .i64 ((x2.cell 0).toInt),.int .i64 ((x2.cell 1).toInt),.int .i64 ((x2.cell 2).toInt)])).set ((fq:Int).toNat) (.agg [.int .i64 ((lK.cell 0).toInt),.int .i64 ((lK.cell 1).toInt),.int .i64 ((lK.cell 2).toInt)])).length:Int))) then
        ((((af.set ((a:Int).toNat) (.agg [.int .i64 ((x1.cell 0).toInt),.int .i64 ((x1.cell 1).toInt),.int .i64 ((x1.cell 2).toInt)])).set ((pivot:Int).toNat) (.agg [.int .i64 ((x2.cell 0).toInt),.int .i64 ((x2.cell 1).toInt),.int .i64 ((x2.cell 2).toInt)])).set ((fq:Int).toNat) (.agg [.int .i64 ((lK.cell 0).toInt),.int .i64 ((lK.cell 1).toInt),.int .i64 ((lK.cell 2).toInt)]))[(eI:Int).toNat]?).bind fun x22=>
        (Loop (yu C a) (IntKind.wrap .i64 (fq+1),IntKind.wrap .i64 (eI-1),(((af.set ((a:Int).toNat) (.agg [.int .i64 ((x1.cell 0).toInt),.int .i64 ((x1.cell 1).toInt),.int .i64 ((x1.cell 2).toInt)])).set ((pivot:Int).toNat) (.agg [.int .i64 ((x2.cell 0).toInt),.int .i64 ((x2.cell 1).toInt),.int .i64 ((x2.cell 2).toInt)])).set ((fq:Int).toNat) (.agg [.int .i64 ((lK.cell 0).toInt),.int .i64 ((lK.cell 1).toInt),.int .i64 ((lK.cell 2).toInt)])).set ((eI:Int).toNat) (.agg [.int .i64 ((rJ.cell 0).toInt),.int .i64 ((rJ.cell 1).toInt),.int .i64 ((rJ.cell 2).toInt)]))).bind (un fun (alw:Int)=>un fun (p7:Int)=>un fun (alx:Bool) (jP:List V)=>
         bif (decide (0≤a))&&(decide (a<(jP.length:Int))) then
         (jP[(a:Int).toNat]?).bind fun mY=>
         bif (decide (0≤p7))&&(decide (p7<(jP.length:Int))) then
          (jP[(p7:Int).toNat]?).bind fun vH=>
          bif (decide (0≤p7))&&(decide (p7<(jP.length:Int))) then
          (jP[(p7:Int).toNat]?).bind fun x43=>
          bif (decide (0≤a))&&(decide (a<((jP.set ((p7:Int).toNat) (.agg [.int .i64 ((mY.cell 0).toInt),.int .i64 ((mY.cell 1).toInt),.int .i64 ((mY.cell 2).toInt)])).length:Int))) then
           ((jP.set ((p7:Int).toNat) (.agg [.int .i64 ((mY.cell 0).toInt),.int .i64 ((mY.cell 1).toInt),.int .i64 ((mY.cell 2).toInt)]))[(a:Int).toNat]?).bind fun x44=>
           some [.int .i64 p7,.bool false,.list ar ((jP.set ((p7:Int).toNat) (.agg [.int .i64 ((mY.cell 0).toInt),.int .i64 ((mY.cell 1).toInt),.int .i64 ((mY.cell 2).toInt)])).set ((a:Int).toNat) (.agg [.int .i64 ((vH.cell 0).toInt),.int .i64 ((vH.cell 1).toInt),.int .i64 ((vH.cell 2).toInt)]))]
          else none
          else none
         else none
         else none)
       else none
       else none
      else none
      else none))
   else none
  else none
  else none
 else none
theorem ait {a b' pivot:Int} {af:List V} {r:Option (List V)} (h:Xh CC a b' pivot af=r):CC oJ [.int .i64 a,.int .i64 b',.int .i64 pivot,.list ar af]=r:=
 bh (key:=181) (L:=Xg CC) (bs:=[.loop (aq [1,1,1,0,0,0] p6),.loop (aq [1,1,1,1,0,0,0] p6),.loop (aq [1,1,1,1,1,1,1,1,1,0,0,0] p6)]) (by kernel_rfl) (bf (aio CC) (bf (aip CC) (bf (ais CC) au))) (Eq.trans (by kernel_rfl) h)
noncomputable abbrev yv:Code:=cL Tryd.prog (av.aT 182)
noncomputable def CG (C:ae) (a j:Int) (af:List V) (i:Int) {β:Type} (kn:Int→Option β) (kr:(Int × Bool)→Option β):Option β:=
 bif decide ((i:Int)≤j) then
  bif (decide (0≤a))&&(decide (a<(af.length:Int))) then
  (af[(a:Int).toNat]?).bind fun x5=>
  bif (decide (0≤i))&&(decide (i<(af.length:Int))) then
   (af[(i:Int).toNat]?).bind fun x6=>
   (C bj [.int .i64 ((x5.cell 0).toInt),.int .i64 ((x5.cell 1).toInt),.int .i64 ((x5.cell 2).toInt),.int .i64 ((x6.cell 0).toInt),.int .i64 ((x6.cell 1).toInt),.int .i64 ((x6.cell 2).toInt)]).bind fun r7=>
   bif !(decide ((((V.nth r7 0).toInt):Int)<0)) then
   kn (IntKind.wrap .i64 (i+1))
   else
   kr (i,!(decide ((((V.nth r7 0).toInt):Int)<0)))
  else none
  else none
 else
  kr (i,false)
noncomputable def CH (C:ae) (a j:Int) (af:List V):(Int)→Option ((Int) ⊕ (Int × Bool)):=fun i=>CG C a j af i (fun y=>some (.inl y)) (fun r=>some (.inr r))
noncomputable def yw (C:ae) (a i:Int) (af:List V) (j:Int) {β:Type} (kn:Int→Option β) (kr:(Int × Bool)→Option β):Option β:=
 bif decide ((i:Int)≤j) then
  bif (decide (0≤a))&&(decide (a<(af.length:Int))) then
  (af[(a:Int).toNat]?).bind fun gU=>
  bif (decide (0≤j))&&(decide (j<(af.length:Int))) then
   (af[(j:Int).toNat]?).bind fun fh=>
   (C bj [.int .i64 ((gU.cell 0).toInt),.int .i64 ((gU.cell 1).toInt),.int .i64 ((gU.cell 2).toInt),.int .i64 ((fh.cell 0).toInt),.int .i64 ((fh.cell 1).toInt),.int .i64 ((fh.cell 2).toInt)]).bind fun jN=>
   bif decide ((((V.nth jN 0).toInt):Int)<0) then
   kn (IntKind.wrap .i64 (j-1))
   else
   kr (j,decide ((((V.nth jN 0).toInt):Int)<0))
  else none
  else none
 else
  kr (j,false)
noncomputable def yx (C:ae) (a i:Int) (af:List V):(Int)→Option ((Int) ⊕ (Int × Bool)):=fun j=>yw C a i af j (fun y=>some (.inl y)) (fun r=>some (.inr r))
noncomputable def CI (C:ae) (a i j:Int) (af:List V) {β:Type} (kn:(Int × Int × (List V))→Option β) (kr:(Int × Int × Bool × (List V))→Option β):Option β:=
 (Loop (CH C a j af) i).bind (un fun (fq:Int) (rF:Bool)=>
  (Loop (yx C a fq af) j).bind (un fun (eI:Int) (A9:Bool)=>
   bif decide ((fq:Int)>eI) then
    kr (fq,eI,decide ((fq:Int)>eI),af)
   else
    bif (decide (0≤eI))&&(decide (eI<(af.length:Int))) then
    (af[(eI:Int).toNat]?).bind fun gl=>
    bif (decide (0≤fq))&&(decide (fq<(af.length:Int))) then
     (af[(fq:Int).toNat]?).bind fun gH=>
     bif (decide (0≤fq))&&(decide (fq<(af.length:Int))) then
     (af[(fq:Int).toNat]?).bind fun pW=>
     bif (decide (0≤eI))&&(decide (eI<((af.set ((fq:Int).toNat) (.agg [.int .i64 ((gl.cell 0).toInt),.int .i64 ((gl.cell 1).toInt),.int .i64 ((gl.cell 2).toInt)])).length:Int))) then
      ((af.set ((fq:Int).toNat) (.agg [.int .i64 ((gl.cell 0).toInt),.int .i64 ((gl.cell 1).toInt),.int .i64 ((gl.cell 2).toInt)]))[(eI:Int).toNat]?).bind fun xV=>
      kn (IntKind.wrap .i64 (fq+1),IntKind.wrap .i64 (eI-1),(af.set ((fq:Int).toNat) (.agg [.int .i64 ((gl.cell 0).toInt),.int .i64 ((gl.cell 1).toInt),.int .i64 ((gl.cell 2).toInt)])).set ((eI:Int).toNat) (.agg [.int .i64 ((gH.cell 0).toInt),.int .i64 ((gH.cell 1).toInt),.int .i64 ((gH.cell 2).toInt)]))
     else none
     else none
    else none
    else none))
noncomputable def yz (C:ae) (a:Int):(Int × Int × (List V))→Option ((Int × Int × (List V)) ⊕ (Int × Int × Bool × (List V))):=un fun i=>un fun j af=>CI C a i j af (fun y=>some (.inl y)) (fun r=>some (.inr r))
noncomputable def Xi (C:ae):cy:=fun β n ds k=>
 bif Nat.beq n 49 then bw Ml [false,true,false,false] [[1,0,3,0,4]] (@CG C) ds k else
 bif Nat.beq n 81 then bw Mm [false,false,true,false] [[1,2,0,0,4]] (@yw C) ds k else
 bif Nat.beq n 50 then bw Mn [false,true,true,true] [[1,0,0,0,0]] (@CI C) ds k else
 none
abbrev NC (C:ae) (b:cv):Prop:=cw Tryd.prog av C (Xi C) 182 (cR Tryd.prog (av.aT 182)) (av.sin 182).aX.length b
theorem aiu (C:ae):NC C (.loop (aq [1,1,1,0,0,0,0,0,0,0] yv)):=
 bC Ml [false,true,false,false] [[1,0,3,0,4]] (@CG C) (by kernel_rfl) (aV (bs:=[]) (by kernel_rfl) au) (fun ds=>by kernel_rfl) (fun i x=>by kernel_rfl) (fun i x β k=>by kernel_rfl) (fun β ds k=>by kernel_rfl)
theorem aiv (C:ae):NC C (.loop (aq [1,1,1,0,0,0,0,1,0,0,0] yv)):=
 bC Mm [false,false,true,false] [[1,2,0,0,4]] (@yw C) (by kernel_rfl) (aV (bs:=[]) (by kernel_rfl) au) (fun ds=>by kernel_rfl) (fun i x=>by kernel_rfl) (fun i x β k=>by kernel_rfl) (fun β ds k=>by kernel_rfl)
theorem aiw (C:ae):NC C (.loop (aq [1,1,1,0,0,0] yv)):=
 bC Mn [false,true,true,true] [[1,0,0,0,0]] (@CI C) (by kernel_rfl) (aV (bs:=[.loop (aq [1,1,1,0,0,0,0,0,0,0] yv),.loop (aq [1,1,1,0,0,0,0,1,0,0,0] yv)]) (by kernel_rfl) (bf (aiu C) (bf (aiv C) au))) (fun ds=>by kernel_rfl) (fun i x=>by kernel_rfl) (fun i x β k=>by kernel_rfl) (fun β ds k=>by kernel_rfl)
noncomputable def Xj (C:ae) (a b' pivot:Int) (af:List V):Option (List V):=
 bif (decide (0≤pivot))&&(decide (pivot<(af.length:Int))) then
  (af[(pivot:Int).toNat]?).bind fun x1=>
  bif (decide (0≤a))&&(decide (a<(af.length:Int))) then
  (af[(a:Int).toNat]?).bind fun x2=>
  bif (decide (0≤a))&&(decide (a<(af.length:Int))) then
   (af[(a:Int).toNat]?).bind fun x3=>
   bif (decide (0≤pivot))&&(decide (pivot<((af.set ((a:Int).toNat) (.agg [.int .i64 ((x1.cell 0).toInt),.int .i64 ((x1.cell 1).toInt),.int .i64 ((x1.cell 2).toInt)])).length:Int))) then
   ((af.set ((a:Int).toNat) (.agg [.int .i64 ((x1.cell 0).toInt),.int .i64 ((x1.cell 1).toInt),.int .i64 ((x1.cell 2).toInt)]))[(pivot:Int).toNat]?).bind fun x4=>
   (Loop (yz C a) (IntKind.wrap .i64 (a+1),IntKind.wrap .i64 (b'-1),(af.set ((a:Int).toNat) (.agg [.int .i64 ((x1.cell 0).toInt),.int .i64 ((x1.cell 1).toInt),.int .i64 ((x1.cell 2).toInt)])).set ((pivot:Int).toNat) (.agg [.int .i64 ((x2.cell 0).toInt),.int .i64 ((x2.cell 1).toInt),.int .i64 ((x2.cell 2).toInt)]))).bind (un fun (aix:Int)=>un fun (aly:Int)=>un fun (alz:Bool) (aiy:List V)=>
    some [.int .i64 aix,.list ar aiy])
   else none
  else none
  else none
 else none
theorem aiz {a b' pivot:Int} {af:List V} {r:Option (List V)} (h:Xj CC a b' pivot af=r):CC xp [.int .i64 a,.int .i64 b',.int .i64 pivot,.list ar af]=r:=
 bh (key:=182) (L:=Xi CC) (bs:=[.loop (aq [1,1,1,0,0,0] yv)]) (by kernel_rfl) (bf (aiw CC) au) (Eq.trans (by kernel_rfl) h)
noncomputable abbrev nW:Code:=cL Tryd.prog (av.aT 180)
noncomputable def CJ (C:ae) (a b' j:Int) (af:List V) (i:Int) {β:Type} (kn:Int→Option β) (kr:(Int × Bool)→Option β):Option β:=
 bif decide ((i:Int)<b') then
  bif (decide (0≤i))&&(decide (i<(af.length:Int))) then
  (af[(i:Int).toNat]?).bind fun x1=>
  bif (decide (0≤(IntKind.wrap .i64 (i-1))))&&(decide ((IntKind.wrap .i64 (i-1))<(af.length:Int))) then
   (af[(IntKind.wrap .i64 (i-1):Int).toNat]?).bind fun x2=>
   (C bj [.int .i64 ((x1.cell 0).toInt),.int .i64 ((x1.cell 1).toInt),.int .i64 ((x1.cell 2).toInt),.int .i64 ((x2.cell 0).toInt),.int .i64 ((x2.cell 1).toInt),.int .i64 ((x2.cell 2).toInt)]).bind fun r3=>
   bif !(decide ((((V.nth r3 0).toInt):Int)<0)) then
   kn (IntKind.wrap .i64 (i+1))
   else
   kr (i,!(decide ((((V.nth r3 0).toInt):Int)<0)))
  else none
  else none
 else
  kr (i,false)
noncomputable def CK (C:ae) (a b' j:Int) (af:List V):(Int)→Option ((Int) ⊕ (Int × Bool)):=fun i=>CJ C a b' j af i (fun y=>some (.inl y)) (fun r=>some (.inr r))
noncomputable def CL (C:ae) (a b' i j j':Int) (af:List V) {β:Type} (kn:(Int × (List V))→Option β) (kr:(Int × (List V))→Option β):Option β:=
 bif decide ((j':Int)≥1) then
  bif (decide (0≤j'))&&(decide (j'<(af.length:Int))) then
  (af[(j':Int).toNat]?).bind fun gU=>
  bif (decide (0≤(IntKind.wrap .i64 (j'-1))))&&(decide ((IntKind.wrap .i64 (j'-1))<(af.length:Int))) then
   (af[(IntKind.wrap .i64 (j'-1):Int).toNat]?).bind fun fh=>
   (C bj [.int .i64 ((gU.cell 0).toInt),.int .i64 ((gU.cell 1).toInt),.int .i64 ((gU.cell 2).toInt),.int .i64 ((fh.cell 0).toInt),.int .i64 ((fh.cell 1).toInt),.int .i64 ((fh.cell 2).toInt)]).bind fun jN=>
   bif !(decide ((((V.nth jN 0).toInt):Int)<0)) then
   kr (j',af)
   else
   bif (decide (0≤(IntKind.wrap .i64 (j'-1))))&&(decide ((IntKind.wrap .i64 (j'-1))<(af.length:Int))) then
    (af[(IntKind.wrap .i64 (j'-1):Int).toNat]?).bind fun gW=>
    bif (decide (0≤j'))&&(decide (j'<(af.length:Int))) then
    (af[(j':Int).toNat]?).bind fun lY=>
    bif (decide (0≤j'))&&(decide (j'<(af.length:Int))) then
     (af[(j':Int).toNat]?).bind fun gl=>
     bif (decide (0≤(IntKind.wrap .i64 (j'-1))))&&(decide ((IntKind.wrap .i64 (j'-1))<((af.set ((j':Int).toNat) (.agg [.int .i64 ((gW.cell 0).toInt),.int .i64 ((gW.cell 1).toInt),.int .i64 ((gW.cell 2).toInt)])).length:Int))) then
     ((af.set ((j':Int).toNat) (.agg [.int .i64 ((gW.cell 0).toInt),.int .i64 ((gW.cell 1).toInt),.int .i64 ((gW.cell 2).toInt)]))[(IntKind.wrap .i64 (j'-1):Int).toNat]?).bind fun gH=>
     kn (IntKind.wrap .i64 (j'-1),(af.set ((j':Int).toNat) (.agg [.int .i64 ((gW.cell 0).toInt),.int .i64 ((gW.cell 1).toInt),.int .i64 ((gW.cell 2).toInt)])).set ((IntKind.wrap .i64 (j'-1):Int).toNat) (.agg [.int .i64 ((lY.cell 0).toInt),.int .i64 ((lY.cell 1).toInt),.int .i64 ((lY.cell 2).toInt)]))
     else none
    else none
    else none
   else none
  else none
  else none
 else
  kr (j',af)
noncomputable def CM (C:ae) (a b' i j:Int):(Int × (List V))→Option ((Int × (List V)) ⊕ (Int × (List V))):=un fun j' af=>CL C a b' i j j' af (fun y=>some (.inl y)) (fun r=>some (.inr r))
noncomputable def HF (C:ae) (a b' i j:Int) (t65:Bool) (af:List V) {β:Type} (kr:(List V)→Option β):Option β:=
 bif t65 then
  (Loop (CM C a b' i j) (IntKind.wrap .i64 (i-1),af)).bind (un fun (alA:Int) (aiA:List V)=>
   kr aiA)
 else
  kr af
noncomputable def CN (C:ae) (a b' i j j':Int) (af:List V) {β:Type} (kn:(Int × (List V))→Option β) (kr:(Int × (List V))→Option β):Option β:=
 bif decide ((j':Int)<b') then
  bif (decide (0≤j'))&&(decide (j'<(af.length:Int))) then
  (af[(j':Int).toNat]?).bind fun rJ=>
  bif (decide (0≤(IntKind.wrap .i64 (j'-1))))&&(decide ((IntKind.wrap .i64 (j'-1))<(af.length:Int))) then
   (af[(IntKind.wrap .i64 (j'-1):Int).toNat]?).bind fun BU=>
   (C bj [.int .i64 ((rJ.cell 0).toInt),.int .i64 ((rJ.cell 1).toInt),.int .i64 ((rJ.cell 2).toInt),.int .i64 ((BU.cell 0).toInt),.int .i64 ((BU.cell 1).toInt),.int .i64 ((BU.cell 2).toInt)]).bind fun jr=>
   bif !(decide ((((V.nth jr 0).toInt):Int)<0)) then
   kr (j',af)
   else
   bif (decide (0≤(IntKind.wrap .i64 (j'-1))))&&(decide ((IntKind.wrap .i64 (j'-1))<(af.length:Int))) then
    (af[(IntKind.wrap .i64 (j'-1):Int).toNat]?).bind fun lJ=>
    bif (decide (0≤j'))&&(decide (j'<(af.length:Int))) then
    (af[(j':Int).toNat]?).bind fun vD=>
    bif (decide (0≤j'))&&(decide (j'<(af.length:Int))) then
     (af[(j':Int).toNat]?).bind fun x25=>
     bif (decide (0≤(IntKind.wrap .i64 (j'-1))))&&(decide ((IntKind.wrap .i64 (j'-1))<((af.set ((j':Int).toNat) (.agg [.int .i64 ((lJ.cell 0).toInt),.int .i64 ((lJ.cell 1).toInt),.int .i64 ((lJ.cell 2).toInt)])).length:Int))) then
     ((af.set ((j':Int).toNat) (.agg [.int .i64 ((lJ.cell 0).toInt),.int .i64 ((lJ.cell 1).toInt),.int .i64 ((lJ.cell 2).toInt)]))[(IntKind.wrap .i64 (j'-1):Int).toNat]?).bind fun x26=>
     kn (IntKind.wrap .i64 (j'+1),(af.set ((j':Int).toNat) (.agg [.int .i64 ((lJ.cell 0).toInt),.int .i64 ((lJ.cell 1).toInt),.int .i64 ((lJ.cell 2).toInt)])).set ((IntKind.wrap .i64 (j'-1):Int).toNat) (.agg [.int .i64 ((vD.cell 0).toInt),.int .i64 ((vD.cell 1).toInt),.int .i64 ((vD.cell 2).toInt)]))
     else none
    else none
    else none
   else none
  else none
  else none
 else
  kr (j',af)
noncomputable def CO (C:ae) (a b' i j:Int):(Int × (List V))→Option ((Int × (List V)) ⊕ (Int × (List V))):=un fun j' af=>CN C a b' i j j' af (fun y=>some (.inl y)) (fun r=>some (.inr r))
noncomputable def CP (C:ae) (a b' i j:Int) (af:List V) {β:Type} (kn:(Int × Int × (List V))→Option β) (kr:((Bool × (List V)) ⊕ (Int × Int × Bool × (List V)))→Option β):Option β:=
 bif decide ((j:Int)<5) then
  (Loop (CK C a b' j af) i).bind (un fun (fC:Int) (nG:Bool)=>
   bif (fC:Int)==b' then
   kr (.inl (true,af))
   else
   bif decide (((IntKind.wrap .i64 (b'-a)):Int)<50) then
    kr (.inl (false,af))
   else
    bif (decide (0≤(IntKind.wrap .i64 (fC-1))))&&(decide ((IntKind.wrap .i64 (fC-1))<(af.length:Int))) then
    (af[(IntKind.wrap .i64 (fC-1):Int).toNat]?).bind fun x6=>
    bif (decide (0≤fC))&&(decide (fC<(af.length:Int))) then
     (af[(fC:Int).toNat]?).bind fun x7=>
     bif (decide (0≤fC))&&(decide (fC<(af.length:Int))) then
     (af[(fC:Int).toNat]?).bind fun x8=>
     bif (decide (0≤(IntKind.wrap .i64 (fC-1))))&&(decide ((IntKind.wrap .i64 (fC-1))<((af.set ((fC:Int).toNat) (.agg [.int .i64 ((x6.cell 0).toInt),.int .i64 ((x6.cell 1).toInt),.int .i64 ((x6.cell 2).toInt)])).length:Int))) then
      ((af.set ((fC:Int).toNat) (.agg [.int .i64 ((x6.cell 0).toInt),.int .i64 ((x6.cell 1).toInt),.int .i64 ((x6.cell 2).toInt)]))[(IntKind.wrap .i64 (fC-1):Int).toNat]?).bind fun x9=>
      HF C a b' fC j (decide (((IntKind.wrap .i64 (fC-a)):Int)≥2)) ((af.set ((fC:Int).toNat) (.agg [.int .i64 ((x6.cell 0).toInt),.int .i64 ((x6.cell 1).toInt),.int .i64 ((x6.cell 2).toInt)])).set ((IntKind.wrap .i64 (fC-1):Int).toNat) (.agg [.int .i64 ((x7.cell 0).toInt),.int .i64 ((x7.cell 1).toInt),.int .i64 ((x7.cell 2).toInt)])) (fun (Xk:List V)=>
       bif decide (((IntKind.wrap .i64 (b'-fC)):Int)≥2) then
       (Loop (CO C a b' fC j) (IntKind.wrap .i64 (fC+1),Xk)).bind (un fun (alB:Int) (aiB:List V)=>
        kn (fC,IntKind.wrap .i64 (j+1),aiB))
       else
       kn (fC,IntKind.wrap .i64 (j+1),Xk))
     else none
     else none
    else none
    else none)
 else
  kr (.inr (i,j,decide ((j:Int)<5),af))
noncomputable def tu (C:ae) (a b':Int):(Int × Int × (List V))→Option ((Int × Int × (List V)) ⊕ ((Bool × (List V)) ⊕ (Int × Int × Bool × (List V)))):=un fun i=>un fun j af=>CP C a b' i j af (fun y=>some (.inl y)) (fun r=>some (.inr r))
noncomputable def Xl (C:ae):cy:=fun β n ds k=>
 bif Nat.beq n 81 then bw Mb [false,false,true,false,false] [[1,2,0,4,0,5]] (@CJ C) ds k else
 bif Nat.beq n 225 then bw Mc [false,false,false,false,true,true] [[1,2,3,4,0,0]] (@CL C) ds k else
 bif Nat.beq n 1055 then mH Md [[1,2,3,4,0]] (@HF C) ds k else
 bif Nat.beq n 321 then bw Me [false,false,false,false,true,true] [[1,2,3,4,0,0]] (@CN C) ds k else
 bif Nat.beq n 49 then bw Mf [false,false,true,true,true] [[0,0],[1,2,0,0,0,0]] (@CP C) ds k else
 none
abbrev CQ (C:ae) (b:cv):Prop:=cw Tryd.prog av C (Xl C) 180 (cR Tryd.prog (av.aT 180)) (av.sin 180).aX.length b
theorem aiC (C:ae):CQ C (.loop (aq [1,1,0,1,0,0,1,0,0,0,0,0] nW)):=
 bC Mb [false,false,true,false,false] [[1,2,0,4,0,5]] (@CJ C) (by kernel_rfl) (aV (bs:=[]) (by kernel_rfl) au) (fun ds=>by kernel_rfl) (fun i x=>by kernel_rfl) (fun i x β k=>by kernel_rfl) (fun β ds k=>by kernel_rfl)
theorem aiD (C:ae):CQ C (.loop (aq [1,1,0,1,0,0,1,0,0,1,1,1,1,0,1,0,1,0,0] nW)):=
 bC Mc [false,false,false,false,true,true] [[1,2,3,4,0,0]] (@CL C) (by kernel_rfl) (aV (bs:=[]) (by kernel_rfl) au) (fun ds=>by kernel_rfl) (fun i x=>by kernel_rfl) (fun i x β k=>by kernel_rfl) (fun β ds k=>by kernel_rfl)
theorem aiE (C:ae):CQ C (.cond 65 (aq [1,1,0,1,0,0,1,0,0,1,1,1,1,0,1,0] nW) (aq [1,1,0,1,0,0,1,0,0,1,1,1,1,0,1,1] nW)):=
 nA Md [[1,2,3,4,0]] (@HF C) (by kernel_rfl) (aV (bs:=[.loop (aq [1,1,0,1,0,0,1,0,0,1,1,1,1,0,1,0,1,0,0] nW)]) (by kernel_rfl) (bf (aiD C) au)) (aV (bs:=[]) (by kernel_rfl) au) (fun ds=>by kernel_rfl) (fun i β k=>by kernel_rfl) (fun β ds k=>by kernel_rfl)
theorem aiF (C:ae):CQ C (.loop (aq [1,1,0,1,0,0,1,0,0,1,1,1,1,1,1,0,1,0,0] nW)):=
 bC Me [false,false,false,false,true,true] [[1,2,3,4,0,0]] (@CN C) (by kernel_rfl) (aV (bs:=[]) (by kernel_rfl) au) (fun ds=>by kernel_rfl) (fun i x=>by kernel_rfl) (fun i x β k=>by kernel_rfl) (fun β ds k=>by kernel_rfl)
theorem aiG (C:ae):CQ C (.loop (aq [1,1,0,1,0,0] nW)):=
 bC Mf [false,false,true,true,true] [[0,0],[1,2,0,0,0,0]] (@CP C) (by kernel_rfl) (aV (bs:=[.loop (aq [1,1,0,1,0,0,1,0,0,0,0,0] nW),.cond 65 (aq [1,1,0,1,0,0,1,0,0,1,1,1,1,0,1,0] nW) (aq [1,1,0,1,0,0,1,0,0,1,1,1,1,0,1,1] nW),.loop (aq [1,1,0,1,0,0,1,0,0,1,1,1,1,1,1,0,1,0,0] nW)]) (by kernel_rfl) (bf (aiC C) (bf (aiE C) (bf (aiF C) au)))) (fun ds=>by kernel_rfl) (fun i x=>by kernel_rfl) (fun i x β k=>by kernel_rfl) (fun β ds k=>by kernel_rfl)
noncomputable def Xm (C:ae) (a b':Int) (af:List V):Option (List V):=
 (Loop (tu C a b') (IntKind.wrap .i64 (a+1),0,af)).bind (dA (un fun (aiH:Bool) (aiI:List V)=>
  some [.bool aiH,.list ar aiI]) (un fun (alC:Int)=>un fun (alD:Int)=>un fun (alE:Bool) (aiJ:List V)=>
  some [.bool false,.list ar aiJ]))
theorem aiK {a b':Int} {af:List V} {r:Option (List V)} (h:Xm CC a b' af=r):CC KB [.int .i64 a,.int .i64 b',.list ar af]=r:=
 bh (key:=180) (L:=Xl CC) (bs:=[.loop (aq [1,1,0,1,0,0] nW)]) (by kernel_rfl) (bf (aiG CC) au) (Eq.trans (by kernel_rfl) h)
end Go.AM
set_option maxRecDepth 100000
set_option maxHeartbeats 4000000
namespace Go.AM.SL
open Go.AM Go.Proofs Go.Sort
theorem yA (p:Ed→Bool) (d:Array Ed) (j i:Nat):scanUp p d j i=if i≤j then (if p d[i]! =true then scanUp p d j (i+1) else i) else i:=by
 conv=>lhs;rw[scanUp]
 by_cases h:i≤j
 ·rw[if_pos h];simp only[h,decide_true,Bool.true_and]
 ·rw[if_neg h,if_neg (by simp[h])]
theorem ND (p:Ed→Bool) (d:Array Ed) (i j:Nat):scanDown p d i (j+1)=if i≤j+1 then (if p d[j+1]! =true then scanDown p d i j else j+1) else j+1:=by
 conv=>lhs;rw[scanDown]
 by_cases h:i≤j+1
 ·rw[if_pos h];simp only[h,decide_true,Bool.true_and]
 ·rw[if_neg h,if_neg (by simp[h])]
theorem HG (d:Array Ed) (b i:Nat):scanSorted ax d b i=if i<b then (if bR d[i]! d[i-1]! <0 then i else scanSorted ax d b (i+1)) else i:=by
 conv=>lhs;rw[scanSorted]
 by_cases h:i<b
 ·rw[if_pos h];simp only[h,decide_true,Bool.true_and,rR]
  by_cases h2:bR d[i]! d[i-1]! <0
  ·rw[if_neg (not_not_intro h2),if_pos h2]
  ·rw[if_pos h2,if_neg h2]
 ·rw[if_neg h,if_neg (by simp[h])]
theorem Xn (j:Nat) (d:Array Ed):shiftDown ax (j+1) d=if bR d[j+1]! d[j]! <0 then shiftDown ax j (swp d (j+1) j) else d:=by
 conv=>lhs;rw[shiftDown]
 simp only[rR]
 by_cases h2:bR d[j+1]! d[j]! <0
 ·rw[if_neg (not_not_intro h2),if_pos h2]
 ·rw[if_pos h2,if_neg h2]
theorem HH (b j:Nat) (d:Array Ed):shiftUp ax b j d=if j<b then (if bR d[j]! d[j-1]! <0 then shiftUp ax b (j+1) (swp d j (j-1)) else d) else d:=by
 conv=>lhs;rw[shiftUp]
 simp only[rR]
 by_cases h:j<b
 ·rw[if_pos h,if_pos h]
  by_cases h2:bR d[j]! d[j-1]! <0
  ·rw[if_neg (not_not_intro h2),if_pos h2]
  ·rw[if_pos h2,if_neg h2]
 ·rw[if_neg h,if_neg h]
theorem aiL {a:Nat}: ∀(n i j:Nat) (d:Array Ed),j+1-i≤n→(partLoop ax a i j d).2.size=d.size∧(partLoop ax a i j d).1≤j:=by
 intro n
 induction n with
 | zero=>
  intro i j d hn
  have h1:=scanUp_ge (fun x=>ax x d[a]!) d j i
  have h2:=scanDown_le (fun x=> !ax x d[a]!) d (scanUp (fun x=>ax x d[a]!) d j i) j
  rw[partLoop_eq,if_pos (by omega)]
  exact ⟨rfl,h2⟩
 | succ n ih=>
  intro i j d hn
  rw[partLoop_eq]
  have h1:=scanUp_ge (fun x=>ax x d[a]!) d j i
  have h2:=scanDown_le (fun x=> !ax x d[a]!) d (scanUp (fun x=>ax x d[a]!) d j i) j
  split
  ·exact ⟨rfl,h2⟩
  ·obtain ⟨h3,h4⟩:=ih (scanUp (fun x=>ax x d[a]!) d j i+1) (scanDown (fun x=> !ax x d[a]!) d (scanUp (fun x=>ax x d[a]!) d j i) j-1) (swp d (scanUp (fun x=>ax x d[a]!) d j i) (scanDown (fun x=> !ax x d[a]!) d (scanUp (fun x=>ax x d[a]!) d j i) j)) (by omega)
   exact ⟨by rw[h3,size_swp],by omega⟩
theorem kq {β:Type} {d:Array Ed} {i:Nat} {x y:Option β} (h:i<d.size):(bif (decide (0≤(i:Int)))&&(decide ((i:Int)<((eA d).length:Int))) then x else y)=x:=by
 rw[gh,ed,aE,if_pos (by omega),aE,if_pos (by omega)]
theorem HI {β:Type} {d:Array Ed} {i k:Nat} {v:V} {x y:Option β} (h:i<d.size):(bif (decide (0≤(i:Int)))&&(decide ((i:Int)<(((eA d).set k v).length:Int))) then x else y)=x:=by
 rw[List.length_set,gh,ed,aE,if_pos (by omega),aE,if_pos (by omega)]
theorem ku {β:Type} {d:Array Ed} {i:Nat} {f:V→Option β} (h:i<d.size):((eA d)[(i:Int).toNat]?).bind f=f (d[i]!).enc:=by
 rw[Int.toNat_natCast,gj h];rfl
theorem HJ {β:Type} {d:Array Ed} {i k:Nat} {v:V} {x:Option β} (h:i<d.size):(((eA d).set k v)[(i:Int).toNat]?).bind (fun _=>x)=x:=by
 rw[Int.toNat_natCast,List.getElem?_eq_getElem (by rw[List.length_set,gh];exact h)];rfl
theorem rT {β:Type} {d:Array Ed} {i:Nat} {f:V→Option β} (h:i<d.size):((eA d)[i]?).bind f=f (d[i]!).enc:=by
 rw[gj h];rfl
theorem NF {β:Type} {d:Array Ed} {i k:Nat} {v:V} {x:Option β} (h:i<d.size):(((eA d).set k v)[i]?).bind (fun _=>x)=x:=by
 rw[List.getElem?_eq_getElem (by rw[List.length_set,gh];exact h)];rfl
theorem aiM {a j:Nat} {d:Array Ed} (ha:a<d.size) (hj:j<d.size) (hs:d.size<1152921504606846976): ∀(n i:Nat),j+1-i=n→i≤d.size→
  ∃t,Loop (CA CC a j (eA d)) (i:Int)=some (((scanUp (fun x=>ax x d[a]!) d j i:Nat):Int),t):=by
 intro n
 induction n with
 | zero=>
  intro i hn hi
  rw[yA,if_neg (by omega)]
  exact ⟨false,ca (by simp (disch:=omega) only[CA,Cz,aE,if_neg])⟩
 | succ n ih=>
  intro i hn hi
  obtain ⟨t,h⟩:=ih (i+1) (by omega) (by omega)
  rw[yA,if_pos (by omega)]
  have e:CA CC a j (eA d) (i:Int)=if bR d[i]! d[a]! <0 then some (.inl ((i+1:Nat):Int)) else some (.inr ((i:Int),decide (bR d[i]! d[a]! <0))):=by
   simp (disch:=omega) only[CA,Cz,aE,ed,gS,if_pos,if_neg,wrap64,dV,gk,Int.toNat_natCast,Option.bind_some,gh,gj,Ed.dB,Ed.dC,Ed.dD,Ed.re,gi,iy,Array.size_setIfInBounds,gG,V.cu,V.toInt_int,cond_true,cond_false]
  simp only[tt]
  by_cases h2:bR d[i]! d[a]! <0
  ·rw[if_pos h2] at e
   rw[if_pos h2]
   exact ⟨t,(eg e).trans h⟩
  ·rw[if_neg h2] at e
   rw[if_neg h2]
   exact ⟨_,ca e⟩
theorem Xo {a j:Nat} {d:Array Ed} (ha:a<d.size) (hj:j<d.size) (hs:d.size<1152921504606846976): ∀(n i:Nat),j+1-i=n→i≤d.size→
  ∃t,Loop (CD CC a j (eA d)) (i:Int)=some (((scanUp (fun x=>ax x d[a]!) d j i:Nat):Int),t):=by
 intro n
 induction n with
 | zero=>
  intro i hn hi
  rw[yA,if_neg (by omega)]
  exact ⟨false,ca (by simp (disch:=omega) only[CD,CB,aE,if_neg])⟩
 | succ n ih=>
  intro i hn hi
  obtain ⟨t,h⟩:=ih (i+1) (by omega) (by omega)
  rw[yA,if_pos (by omega)]
  have e:CD CC a j (eA d) (i:Int)=if bR d[i]! d[a]! <0 then some (.inl ((i+1:Nat):Int)) else some (.inr ((i:Int),decide (bR d[i]! d[a]! <0))):=by
   simp (disch:=omega) only[CD,CB,aE,ed,gS,if_pos,if_neg,wrap64,dV,gk,Int.toNat_natCast,Option.bind_some,gh,gj,Ed.dB,Ed.dC,Ed.dD,Ed.re,gi,iy,Array.size_setIfInBounds,gG,V.cu,V.toInt_int,cond_true,cond_false]
  simp only[tt]
  by_cases h2:bR d[i]! d[a]! <0
  ·rw[if_pos h2] at e
   rw[if_pos h2]
   exact ⟨t,(eg e).trans h⟩
  ·rw[if_neg h2] at e
   rw[if_neg h2]
   exact ⟨_,ca e⟩
theorem Xp {a i:Nat} {d:Array Ed} (ha:a<d.size) (hi:1≤i) (hs:d.size<1152921504606846976): ∀(j:Nat),j<d.size→
  ∃t,Loop (yp CC a i (eA d)) (j:Int)=some (((scanDown (fun x=> !ax x d[a]!) d i j:Nat):Int),t)
 | 0,hj=>⟨false,ca (by simp (disch:=omega) only[yp,yo,aE,if_neg];rfl)⟩
 | j+1,hj=>by
  obtain ⟨t,h⟩:=Xp ha hi hs j (by omega)
  rw[ND]
  by_cases h1:i≤j+1
  ·rw[if_pos h1]
   have e:yp CC a i (eA d) ((j+1:Nat):Int)=if bR d[j+1]! d[a]! <0 then some (.inr (((j+1:Nat):Int),!decide (bR d[j+1]! d[a]! <0))) else some (.inl (j:Int)):=by
    simp (disch:=omega) only[yp,yo,aE,ed,gS,if_pos,if_neg,wrap64,dV,gk,Int.toNat_natCast,Option.bind_some,gh,gj,Ed.dB,Ed.dC,Ed.dD,Ed.re,gi,iy,Array.size_setIfInBounds,gG,V.cu,V.toInt_int,cond_true,cond_false,vy]
   simp only[rR]
   by_cases h2:bR d[j+1]! d[a]! <0
   ·rw[if_pos h2] at e
    rw[if_neg (not_not_intro h2)]
    exact ⟨_,ca e⟩
   ·rw[if_neg h2] at e
    rw[if_pos h2]
    exact ⟨t,(eg e).trans h⟩
  ·rw[if_neg h1]
   exact ⟨false,ca (by simp (disch:=omega) only[yp,yo,aE,if_neg])⟩
theorem NG {a i:Nat} {d:Array Ed} (ha:a<d.size) (hi:1≤i) (hs:d.size<1152921504606846976): ∀(j:Nat),j<d.size→
  ∃t,Loop (yr CC a i (eA d)) (j:Int)=some (((scanDown (fun x=> !ax x d[a]!) d i j:Nat):Int),t)
 | 0,hj=>⟨false,ca (by simp (disch:=omega) only[yr,yq,aE,if_neg];rfl)⟩
 | j+1,hj=>by
  obtain ⟨t,h⟩:=NG ha hi hs j (by omega)
  rw[ND]
  by_cases h1:i≤j+1
  ·rw[if_pos h1]
   have e:yr CC a i (eA d) ((j+1:Nat):Int)=if bR d[j+1]! d[a]! <0 then some (.inr (((j+1:Nat):Int),!decide (bR d[j+1]! d[a]! <0))) else some (.inl (j:Int)):=by
    simp (disch:=omega) only[yr,yq,aE,ed,gS,if_pos,if_neg,wrap64,dV,gk,Int.toNat_natCast,Option.bind_some,gh,gj,Ed.dB,Ed.dC,Ed.dD,Ed.re,gi,iy,Array.size_setIfInBounds,gG,V.cu,V.toInt_int,cond_true,cond_false,vy]
   simp only[rR]
   by_cases h2:bR d[j+1]! d[a]! <0
   ·rw[if_pos h2] at e
    rw[if_neg (not_not_intro h2)]
    exact ⟨_,ca e⟩
   ·rw[if_neg h2] at e
    rw[if_pos h2]
    exact ⟨t,(eg e).trans h⟩
  ·rw[if_neg h1]
   exact ⟨false,ca (by simp (disch:=omega) only[yr,yq,aE,if_neg])⟩
theorem Xq {a j:Nat} {d:Array Ed} (ha:a<d.size) (hj:j<d.size) (hs:d.size<1152921504606846976): ∀(n i:Nat),j+1-i=n→i≤d.size→
  ∃t,Loop (CH CC a j (eA d)) (i:Int)=some (((scanUp (fun x=> !ax d[a]! x) d j i:Nat):Int),t):=by
 intro n
 induction n with
 | zero=>
  intro i hn hi
  rw[yA,if_neg (by omega)]
  exact ⟨false,ca (by simp (disch:=omega) only[CH,CG,aE,if_neg])⟩
 | succ n ih=>
  intro i hn hi
  obtain ⟨t,h⟩:=ih (i+1) (by omega) (by omega)
  rw[yA,if_pos (by omega)]
  have e:CH CC a j (eA d) (i:Int)=if bR d[a]! d[i]! <0 then some (.inr ((i:Int),!decide (bR d[a]! d[i]! <0))) else some (.inl ((i+1:Nat):Int)):=by
   simp (disch:=omega) only[CH,CG,aE,ed,gS,if_pos,if_neg,wrap64,dV,gk,Int.toNat_natCast,Option.bind_some,gh,gj,Ed.dB,Ed.dC,Ed.dD,Ed.re,gi,iy,Array.size_setIfInBounds,gG,V.cu,V.toInt_int,cond_true,cond_false]
  simp only[rR]
  by_cases h2:bR d[a]! d[i]! <0
  ·rw[if_pos h2] at e
   rw[if_neg (not_not_intro h2)]
   exact ⟨_,ca e⟩
  ·rw[if_neg h2] at e
   rw[if_pos h2]
   exact ⟨t,(eg e).trans h⟩
theorem NH {a i:Nat} {d:Array Ed} (ha:a<d.size) (hi:1≤i) (hs:d.size<1152921504606846976): ∀(j:Nat),j<d.size→
  ∃t,Loop (yx CC a i (eA d)) (j:Int)=some (((scanDown (fun x=>ax d[a]! x) d i j:Nat):Int),t)
 | 0,hj=>⟨false,ca (by simp (disch:=omega) only[yx,yw,aE,if_neg];rfl)⟩
 | j+1,hj=>by
  obtain ⟨t,h⟩:=NH ha hi hs j (by omega)
  rw[ND]
  by_cases h1:i≤j+1
  ·rw[if_pos h1]
   have e:yx CC a i (eA d) ((j+1:Nat):Int)=if bR d[a]! d[j+1]! <0 then some (.inl (j:Int)) else some (.inr (((j+1:Nat):Int),decide (bR d[a]! d[j+1]! <0))):=by
    simp (disch:=omega) only[yx,yw,aE,ed,gS,if_pos,if_neg,wrap64,dV,gk,Int.toNat_natCast,Option.bind_some,gh,gj,Ed.dB,Ed.dC,Ed.dD,Ed.re,gi,iy,Array.size_setIfInBounds,gG,V.cu,V.toInt_int,cond_true,cond_false,vy]
   simp only[tt]
   by_cases h2:bR d[a]! d[j+1]! <0
   ·rw[if_pos h2] at e
    rw[if_pos h2]
    exact ⟨t,(eg e).trans h⟩
   ·rw[if_neg h2] at e
    rw[if_neg h2]
    exact ⟨_,ca e⟩
  ·rw[if_neg h1]
   exact ⟨false,ca (by simp (disch:=omega) only[yx,yw,aE,if_neg])⟩
theorem aiN {a:Nat}: ∀(n i j:Nat) (d:Array Ed),j+1-i≤n→1≤i→i≤d.size→a<d.size→j<d.size→d.size<1152921504606846976→
  ∃x z,Loop (yu CC a) ((i:Int),(j:Int),eA d)=some (x,(((partLoop ax a i j d).1:Nat):Int),z,eA (partLoop ax a i j d).2):=by
 intro n
 induction n with
 | zero=>
  intro i j d hn h1 h2 ha hj hs
  obtain ⟨t3,e3⟩:=Xo (a:=a) ha hj hs _ i rfl h2
  have g1:=scanUp_ge (fun x=>ax x d[a]!) d j i
  have g2:=scanDown_le (fun x=> !ax x d[a]!) d (scanUp (fun x=>ax x d[a]!) d j i) j
  obtain ⟨t4,e4⟩:=NG (a:=a) (i:=scanUp (fun x=>ax x d[a]!) d j i) ha (by omega) hs j hj
  rw[partLoop_eq,if_pos (by omega)]
  refine ⟨((scanUp (fun x=>ax x d[a]!) d j i:Nat):Int),true,ca ?_⟩
  simp only[yu,CE,un]
  rw[e3]
  simp only[Option.bind_some,un]
  rw[e4]
  simp (disch:=omega) only[Option.bind_some,un,nP,cond_true]
 | succ n ih=>
  intro i j d hn h1 h2 ha hj hs
  obtain ⟨t3,e3⟩:=Xo (a:=a) ha hj hs _ i rfl h2
  have g1:=scanUp_ge (fun x=>ax x d[a]!) d j i
  have g2:=scanDown_le (fun x=> !ax x d[a]!) d (scanUp (fun x=>ax x d[a]!) d j i) j
  obtain ⟨t4,e4⟩:=NG (a:=a) (i:=scanUp (fun x=>ax x d[a]!) d j i) ha (by omega) hs j hj
  rw[partLoop_eq]
  have f:yu CC a ((i:Int),(j:Int),eA d)=yu CC a ((i:Int),(j:Int),eA d):=rfl
  conv at f=>rhs;simp only[yu,CE,un];rw[e3];simp only[Option.bind_some,un];rw[e4];simp only[Option.bind_some,un]
  generalize kK:scanUp (fun x=>ax x d[a]!) d j i=i2 at*
  generalize bZ:scanDown (fun x=> !ax x d[a]!) d i2 j=j2 at*
  by_cases h:i2>j2
  ·rw[if_pos h]
   refine ⟨(i2:Int),true,ca (f.trans ?_)⟩
   simp (disch:=omega) only[Option.bind_some,nP,cond_true]
  ·rw[if_neg h]
   obtain ⟨x,z,e⟩:=ih (i2+1) (j2-1) (swp d i2 j2) (by omega) (by omega) (by rw[size_swp];omega) (by rw[size_swp];omega) (by rw[size_swp];omega) (by rw[size_swp];omega)
   refine ⟨x,z,(eg (f.trans ?_)).trans e⟩
   simp (disch:=omega) only[aE,ed,gS,if_pos,if_neg,wrap64,dV,gk,Int.toNat_natCast,Option.bind_some,gh,gj,Ed.dB,Ed.dC,Ed.dD,Ed.re,gi,iy,Array.size_setIfInBounds,gG,V.cu,V.toInt_int,cond_true,cond_false,ko]
   rfl
theorem aiO (d:Array Ed) (a b pivot:Nat):partition ax d a b pivot=
  if scanUp (fun x=>ax x (swp d a pivot)[a]!) (swp d a pivot) (b-1) (a+1)>scanDown (fun x=> !ax x (swp d a pivot)[a]!) (swp d a pivot) (scanUp (fun x=>ax x (swp d a pivot)[a]!) (swp d a pivot) (b-1) (a+1)) (b-1) then
   (scanDown (fun x=> !ax x (swp d a pivot)[a]!) (swp d a pivot) (scanUp (fun x=>ax x (swp d a pivot)[a]!) (swp d a pivot) (b-1) (a+1)) (b-1),true,swp (swp d a pivot) (scanDown (fun x=> !ax x (swp d a pivot)[a]!) (swp d a pivot) (scanUp (fun x=>ax x (swp d a pivot)[a]!) (swp d a pivot) (b-1) (a+1)) (b-1)) a)
  else
   ((partLoop ax a (scanUp (fun x=>ax x (swp d a pivot)[a]!) (swp d a pivot) (b-1) (a+1)+1) (scanDown (fun x=> !ax x (swp d a pivot)[a]!) (swp d a pivot) (scanUp (fun x=>ax x (swp d a pivot)[a]!) (swp d a pivot) (b-1) (a+1)) (b-1)-1) (swp (swp d a pivot) (scanUp (fun x=>ax x (swp d a pivot)[a]!) (swp d a pivot) (b-1) (a+1)) (scanDown (fun x=> !ax x (swp d a pivot)[a]!) (swp d a pivot) (scanUp (fun x=>ax x (swp d a pivot)[a]!) (swp d a pivot) (b-1) (a+1)) (b-1)))).1,false,
    swp (partLoop ax a (scanUp (fun x=>ax x (swp d a pivot)[a]!) (swp d a pivot) (b-1) (a+1)+1) (scanDown (fun x=> !ax x (swp d a pivot)[a]!) (swp d a pivot) (scanUp (fun x=>ax x (swp d a pivot)[a]!) (swp d a pivot) (b-1) (a+1)) (b-1)-1) (swp (swp d a pivot) (scanUp (fun x=>ax x (swp d a pivot)[a]!) (swp d a pivot) (b-1) (a+1)) (scanDown (fun x=> !ax x (swp d a pivot)[a]!) (swp d a pivot) (scanUp (fun x=>ax x (swp d a pivot)[a]!) (swp d a pivot) (b-1) (a+1)) (b-1)))).2
    (partLoop ax a (scanUp (fun x=>ax x (swp d a pivot)[a]!) (swp d a pivot) (b-1) (a+1)+1) (scanDown (fun x=> !ax x (swp d a pivot)[a]!) (swp d a pivot) (scanUp (fun x=>ax x (swp d a pivot)[a]!) (swp d a pivot) (b-1) (a+1)) (b-1)-1) (swp (swp d a pivot) (scanUp (fun x=>ax x (swp d a pivot)[a]!) (swp d a pivot) (b-1) (a+1)) (scanDown (fun x=> !ax x (swp d a pivot)[a]!) (swp d a pivot) (scanUp (fun x=>ax x (swp d a pivot)[a]!) (swp d a pivot) (b-1) (a+1)) (b-1)))).1 a):=rfl
theorem yB (d:Array Ed) (i j:Nat):eA ((d.setIfInBounds i d[j]!).setIfInBounds j d[i]!)=eA (swp d i j):=rfl
theorem aiP {a b pivot:Nat} {d:Array Ed} (hp:pivot<b) (fZ:a<b) (hb:b≤d.size) (hs:d.size<1152921504606846976):
  CC oJ [.int .i64 (a:Int),.int .i64 (b:Int),.int .i64 (pivot:Int),.list ar (eA d)]=
   some [.int .i64 ((partition ax d a b pivot).1:Int),.bool (partition ax d a b pivot).2.1,.list ar (eA (partition ax d a b pivot).2.2)]:=by
 refine ait ?_
 unfold Xh
 have z1:(swp d a pivot).size=d.size:=size_swp ..
 obtain ⟨t1,e1⟩:=aiM (a:=a) (j:=b-1) (d:=swp d a pivot) (by omega) (by omega) (by omega) _ (a+1) rfl (by omega)
 have g1:=scanUp_ge (fun x=>ax x (swp d a pivot)[a]!) (swp d a pivot) (b-1) (a+1)
 have g2:=scanDown_le (fun x=> !ax x (swp d a pivot)[a]!) (swp d a pivot) (scanUp (fun x=>ax x (swp d a pivot)[a]!) (swp d a pivot) (b-1) (a+1)) (b-1)
 obtain ⟨t2,e2⟩:=Xp (a:=a) (i:=scanUp (fun x=>ax x (swp d a pivot)[a]!) (swp d a pivot) (b-1) (a+1)) (d:=swp d a pivot) (by omega) (by omega) (by omega) (b-1) (by omega)
 have e0:=aiO d a b pivot
 rw[kq (i:=pivot) (by omega),ku (by omega),kq (i:=a) (by omega),ku (by omega),kq (i:=a) (by omega),ku (by omega),HI (i:=pivot) (by omega),HJ (by omega)]
 simp only[Ed.dB,Ed.dC,Ed.dD,Ed.re,Int.toNat_natCast,gi,yB]
 simp (disch:=omega) only[ko,dV,wrap64]
 rw[e1]
 simp only[Option.bind_some,un]
 rw[e2]
 simp only[Option.bind_some,un]
 generalize kK:scanUp (fun x=>ax x (swp d a pivot)[a]!) (swp d a pivot) (b-1) (a+1)=i2 at*
 generalize bZ:scanDown (fun x=> !ax x (swp d a pivot)[a]!) (swp d a pivot) i2 (b-1)=j2 at*
 generalize swp d a pivot=d1 at*
 by_cases h:i2>j2
 ·rw[if_pos h] at e0
  rw[e0,aE,if_pos (by omega)]
  rw[kq (i:=a) (by omega)];(first|rw[ku (by omega)]|rw[rT (by omega)]);rw[kq (i:=j2) (by omega)];(first|rw[ku (by omega)]|rw[rT (by omega)]);rw[kq (i:=j2) (by omega)];(first|rw[ku (by omega)]|rw[rT (by omega)]);rw[HI (i:=a) (by omega)];(first|rw[HJ (by omega)]|rw[NF (by omega)])
  simp only[Ed.dB,Ed.dC,Ed.dD,Ed.re,Int.toNat_natCast,gi,yB]
 ·rw[if_neg h] at e0
  rw[e0,aE,if_neg (by omega)]
  have z2:(swp d1 i2 j2).size=d1.size:=size_swp ..
  obtain ⟨x,z,e5⟩:=aiN (a:=a) _ (i2+1) (j2-1) (swp d1 i2 j2) (Nat.le_refl _) (by omega) (by omega) (by omega) (by omega) (by omega)
  obtain ⟨q1,q2⟩:=aiL (a:=a) _ (i2+1) (j2-1) (swp d1 i2 j2) (Nat.le_refl _)
  rw[kq (i:=j2) (by omega)];(first|rw[ku (by omega)]|rw[rT (by omega)]);rw[kq (i:=i2) (by omega)];(first|rw[ku (by omega)]|rw[rT (by omega)]);rw[kq (i:=i2) (by omega)];(first|rw[ku (by omega)]|rw[rT (by omega)]);rw[HI (i:=j2) (by omega)];(first|rw[HJ (by omega)]|rw[NF (by omega)])
  simp only[Ed.dB,Ed.dC,Ed.dD,Ed.re,Int.toNat_natCast,gi,yB]
  simp (disch:=omega) only[ko,dV,wrap64]
  rw[e5]
  generalize partLoop ax a (i2+1) (j2-1) (swp d1 i2 j2)=r at*
  simp only[Option.bind_some,un]
  rw[kq (i:=a) (by omega)];(first|rw[ku (by omega)]|rw[rT (by omega)]);rw[kq (i:=r.1) (by omega)];(first|rw[ku (by omega)]|rw[rT (by omega)]);rw[kq (i:=r.1) (by omega)];(first|rw[ku (by omega)]|rw[rT (by omega)]);rw[HI (i:=a) (by omega)];(first|rw[HJ (by omega)]|rw[NF (by omega)])
  simp only[Ed.dB,Ed.dC,Ed.dD,Ed.re,Int.toNat_natCast,gi,yB]
theorem aiQ {a:Nat}: ∀(n i j:Nat) (d:Array Ed),j+1-i≤n→1≤i→i≤d.size→a<d.size→j<d.size→d.size<1152921504606846976→
  ∃x z,Loop (yz CC a) ((i:Int),(j:Int),eA d)=some ((((partEqLoop ax a i j d).1:Nat):Int),x,z,eA (partEqLoop ax a i j d).2):=by
 intro n
 induction n with
 | zero=>
  intro i j d hn h1 h2 ha hj hs
  obtain ⟨t3,e3⟩:=Xq (a:=a) ha hj hs _ i rfl h2
  have g1:=scanUp_ge (fun x=> !ax d[a]! x) d j i
  have g2:=scanDown_le (fun x=>ax d[a]! x) d (scanUp (fun x=> !ax d[a]! x) d j i) j
  obtain ⟨t4,e4⟩:=NH (a:=a) (i:=scanUp (fun x=> !ax d[a]! x) d j i) ha (by omega) hs j hj
  rw[partEqLoop_eq,if_pos (by omega)]
  refine ⟨((scanDown (fun x=>ax d[a]! x) d (scanUp (fun x=> !ax d[a]! x) d j i) j:Nat):Int),true,ca ?_⟩
  simp only[yz,CI,un]
  rw[e3]
  simp only[Option.bind_some,un]
  rw[e4]
  simp (disch:=omega) only[Option.bind_some,un,nP,cond_true]
 | succ n ih=>
  intro i j d hn h1 h2 ha hj hs
  obtain ⟨t3,e3⟩:=Xq (a:=a) ha hj hs _ i rfl h2
  have g1:=scanUp_ge (fun x=> !ax d[a]! x) d j i
  have g2:=scanDown_le (fun x=>ax d[a]! x) d (scanUp (fun x=> !ax d[a]! x) d j i) j
  obtain ⟨t4,e4⟩:=NH (a:=a) (i:=scanUp (fun x=> !ax d[a]! x) d j i) ha (by omega) hs j hj
  rw[partEqLoop_eq]
  have f:yz CC a ((i:Int),(j:Int),eA d)=yz CC a ((i:Int),(j:Int),eA d):=rfl
  conv at f=>rhs;simp only[yz,CI,un];rw[e3];simp only[Option.bind_some,un];rw[e4];simp only[Option.bind_some,un]
  generalize kK:scanUp (fun x=> !ax d[a]! x) d j i=i2 at*
  generalize bZ:scanDown (fun x=>ax d[a]! x) d i2 j=j2 at*
  by_cases h:i2>j2
  ·rw[if_pos h]
   refine ⟨(j2:Int),true,ca (f.trans ?_)⟩
   simp (disch:=omega) only[Option.bind_some,nP,cond_true]
  ·rw[if_neg h]
   obtain ⟨x,z,e⟩:=ih (i2+1) (j2-1) (swp d i2 j2) (by omega) (by omega) (by rw[size_swp];omega) (by rw[size_swp];omega) (by rw[size_swp];omega) (by rw[size_swp];omega)
   refine ⟨x,z,(eg (f.trans ?_)).trans e⟩
   simp (disch:=omega) only[aE,ed,gS,if_pos,if_neg,wrap64,dV,gk,Int.toNat_natCast,Option.bind_some,gh,gj,Ed.dB,Ed.dC,Ed.dD,Ed.re,gi,iy,Array.size_setIfInBounds,gG,V.cu,V.toInt_int,cond_true,cond_false,ko]
   rfl
theorem aiR {a b pivot:Nat} {d:Array Ed} (hp:pivot<b) (fZ:a<b) (hb:b≤d.size) (hs:d.size<1152921504606846976):
  CC xp [.int .i64 (a:Int),.int .i64 (b:Int),.int .i64 (pivot:Int),.list ar (eA d)]=
   some [.int .i64 ((partitionEqual ax d a b pivot).1:Int),.list ar (eA (partitionEqual ax d a b pivot).2)]:=by
 refine aiz ?_
 unfold Xj
 have z1:(swp d a pivot).size=d.size:=size_swp ..
 obtain ⟨x,z,e⟩:=aiQ (a:=a) _ (a+1) (b-1) (swp d a pivot) (Nat.le_refl _) (by omega) (by omega) (by omega) (by omega) (by omega)
 simp (disch:=omega) only[aE,ed,if_pos,gh,gj,Int.toNat_natCast,Option.bind_some,Ed.dB,Ed.dC,Ed.dD,Ed.re,gi,iy,Array.size_setIfInBounds,ko,dV,wrap64,yB]
 rw[e]
 rfl
theorem aiS {a b j:Nat} {d:Array Ed} (hb:b≤d.size) (hs:d.size<1152921504606846976): ∀(n i:Nat),b-i=n→1≤i→i≤b→
  ∃t,Loop (CK CC a b j (eA d)) (i:Int)=some (((scanSorted ax d b i:Nat):Int),t):=by
 intro n
 induction n with
 | zero=>
  intro i hn h1 hi
  rw[HG,if_neg (by omega)]
  exact ⟨false,ca (by simp (disch:=omega) only[CK,CJ,aE,if_neg])⟩
 | succ n ih=>
  intro i hn h1 hi
  obtain ⟨t,h⟩:=ih (i+1) (by omega) (by omega) (by omega)
  rw[HG,if_pos (by omega)]
  have e:CK CC a b j (eA d) (i:Int)=if bR d[i]! d[i-1]! <0 then some (.inr ((i:Int),!decide (bR d[i]! d[i-1]! <0))) else some (.inl ((i+1:Nat):Int)):=by
   simp (disch:=omega) only[CK,CJ,ko,aE,ed,gS,if_pos,if_neg,wrap64,dV,gk,Int.toNat_natCast,Option.bind_some,gh,gj,Ed.dB,Ed.dC,Ed.dD,Ed.re,gi,iy,Array.size_setIfInBounds,gG,V.cu,V.toInt_int,cond_true,cond_false]
  by_cases h2:bR d[i]! d[i-1]! <0
  ·rw[if_pos h2] at e⊢
   exact ⟨_,ca e⟩
  ·rw[if_neg h2] at e⊢
   exact ⟨t,(eg e).trans h⟩
theorem Xr: ∀(j:Nat) (d:Array Ed),(shiftDown ax j d).size=d.size
 | 0,_=>rfl
 | j+1,d=>by
  rw[Xn]
  split
  ·rw[Xr j,size_swp]
  ·rfl
theorem aiT {b:Nat}: ∀(n j:Nat) (d:Array Ed),b-j=n→(shiftUp ax b j d).size=d.size:=by
 intro n
 induction n with
 | zero=>intro j d h;rw[HH,if_neg (by omega)]
 | succ n ih=>
  intro j d h
  rw[HH,if_pos (by omega)]
  split
  ·rw[ih _ _ (by omega),size_swp]
  ·rfl
theorem Xs {a b i k:Nat}: ∀(j:Nat) (d:Array Ed),j<d.size→d.size<1152921504606846976→
  ∃t,Loop (CM CC a b i k) ((j:Int),eA d)=some (t,eA (shiftDown ax j d))
 | 0,d,hj,hs=>⟨(0:Nat),ca (by
   simp (disch:=omega) only[CM,CL,un,aE,if_neg]
   rfl)⟩
 | j+1,d,hj,hs=>by
  obtain ⟨t,ih⟩:=Xs (a:=a) (b:=b) (i:=i) (k:=k) j (swp d (j+1) j) (by rw[size_swp];omega) (by rw[size_swp];omega)
  rw[Xn]
  have e:CM CC a b i k (((j+1:Nat):Int),eA d)=if bR d[j+1]! d[j]! <0 then some (.inl ((j:Int),eA (swp d (j+1) j))) else some (.inr (((j+1:Nat):Int),eA d)):=by
   simp (disch:=omega) only[CM,CL,un,aE,ed,gS,if_pos,if_neg,wrap64,dV,gk,Int.toNat_natCast,Option.bind_some,gh,gj,Ed.dB,Ed.dC,Ed.dD,Ed.re,gi,iy,Array.size_setIfInBounds,gG,V.cu,V.toInt_int,cond_true,cond_false,vy]
   rfl
  by_cases h2:bR d[j+1]! d[j]! <0
  ·rw[if_pos h2] at e⊢
   exact ⟨t,(eg e).trans ih⟩
  ·rw[if_neg h2] at e⊢
   exact ⟨_,ca e⟩
theorem aiU {a b i k:Nat}: ∀(n j:Nat) (d:Array Ed),b-j=n→1≤j→j≤b→b≤d.size→d.size<1152921504606846976→
  ∃t,Loop (CO CC a b i k) ((j:Int),eA d)=some (t,eA (shiftUp ax b j d)):=by
 intro n
 induction n with
 | zero=>
  intro j d hn h1 hj hb hs
  rw[HH,if_neg (by omega)]
  exact ⟨(j:Int),ca (by
   simp (disch:=omega) only[CO,CN,un,aE,if_neg])⟩
 | succ n ih=>
  intro j d hn h1 hj hb hs
  obtain ⟨t,h⟩:=ih (j+1) (swp d j (j-1)) (by omega) (by omega) (by omega) (by rw[size_swp];omega) (by rw[size_swp];omega)
  rw[HH,if_pos (by omega)]
  have e:CO CC a b i k ((j:Int),eA d)=if bR d[j]! d[j-1]! <0 then some (.inl (((j+1:Nat):Int),eA (swp d j (j-1)))) else some (.inr ((j:Int),eA d)):=by
   simp (disch:=omega) only[CO,CN,un,ko,aE,ed,gS,if_pos,if_neg,wrap64,dV,gk,Int.toNat_natCast,Option.bind_some,gh,gj,Ed.dB,Ed.dC,Ed.dD,Ed.re,gi,iy,Array.size_setIfInBounds,gG,V.cu,V.toInt_int,cond_true,cond_false]
   rfl
  by_cases h2:bR d[j]! d[j-1]! <0
  ·rw[if_pos h2] at e⊢
   exact ⟨t,(eg e).trans h⟩
  ·rw[if_neg h2] at e⊢
   exact ⟨_,ca e⟩
theorem aiV {d:Array Ed} {b:Nat}: ∀(n i:Nat),b-i=n→i≤b→i≤scanSorted ax d b i∧scanSorted ax d b i≤b:=by
 intro n
 induction n with
 | zero=>intro i hn hi;rw[HG,if_neg (by omega)];omega
 | succ n ih=>
  intro i hn hi
  rw[HG,if_pos (by omega)]
  obtain ⟨h1,h2⟩:=ih (i+1) (by omega) (by omega)
  split<;>omega
theorem aiW {a b:Nat}: ∀(s i:Nat) (d:Array Ed),s≤5→a<i→i≤b→b≤d.size→d.size<1152921504606846976→
  (Loop (tu CC a b) ((i:Int),((5-s:Nat):Int),eA d)=some (.inl ((partialIns ax a b s i d).2,eA (partialIns ax a b s i d).1)))∨
  (∃x y z,(partialIns ax a b s i d).2=false∧Loop (tu CC a b) ((i:Int),((5-s:Nat):Int),eA d)=some (.inr (x,y,z,eA (partialIns ax a b s i d).1))):=by
 intro s
 induction s with
 | zero=>
  intro i d hs5 hi NI hb hs
  refine .inr ⟨(i:Int),((5:Nat):Int),false,rfl,ca ?_⟩
  simp (disch:=omega) only[tu,CP,un,tn,cond_false]
  rfl
 | succ s ih=>
  intro i d hs5 hi NI hb hs
  obtain ⟨t1,e1⟩:=aiS (a:=a) (j:=5-(s+1)) hb hs _ i rfl (by omega) NI
  obtain ⟨q1,q2⟩:=aiV (d:=d) _ i rfl NI
  rw[partialIns_succ]
  have f:tu CC a b ((i:Int),((5-(s+1):Nat):Int),eA d)=tu CC a b ((i:Int),((5-(s+1):Nat):Int),eA d):=rfl
  conv at f=>rhs;simp only[tu,CP,un];rw[aE,if_pos (by omega),e1];simp only[Option.bind_some,un]
  generalize scanSorted ax d b i=k at*
  by_cases h1:k=b
  ·rw[if_pos h1]
   left
   refine ca (f.trans ?_)
   rw[qS,if_pos (by omega)]
  ·rw[if_neg h1]
   by_cases h2:b-a<50
   ·rw[if_pos h2]
    left
    refine ca (f.trans ?_)
    rw[qS,if_neg (by omega),wrap64 (by omega) (by omega),aE,if_pos (by omega)]
   ·rw[if_neg h2]
    have z1:(swp d k (k-1)).size=d.size:=size_swp ..
    have z2:(fixDown ax a k (swp d k (k-1))).size=d.size:=by
     unfold fixDown
     split
     ·rw[Xr,z1]
     ·exact z1
    have z3:(fixUp ax b k (fixDown ax a k (swp d k (k-1)))).size=d.size:=by
     unfold fixUp
     split
     ·rw[aiT _ _ _ rfl,z2]
     ·exact z2
    obtain ⟨t2,e2⟩:=Xs (a:=a) (b:=b) (i:=k) (k:=5-(s+1)) (k-1) (swp d k (k-1)) (by omega) (by omega)
    obtain ⟨t4,e4⟩:=aiU (a:=a) (b:=b) (i:=k) (k:=5-(s+1)) _ (k+1) (fixDown ax a k (swp d k (k-1))) rfl (by omega) (by omega) (by omega) (by omega)
    have e5:tu CC a b ((i:Int),((5-(s+1):Nat):Int),eA d)=some (.inl ((k:Int),((5-s:Nat):Int),eA (fixUp ax b k (fixDown ax a k (swp d k (k-1)))))):=by
     refine f.trans ?_
     rw[qS,if_neg (by omega),wrap64 (by omega) (by omega),aE,if_neg (by omega)]
     simp (disch:=omega) only[aE,ed,if_pos,gh,gj,Int.toNat_natCast,Option.bind_some,Ed.dB,Ed.dC,Ed.dD,Ed.re,gi,iy,Array.size_setIfInBounds,ko,dV,mV,wrap64,yB,HF]
     rw[show 5-(s+1)+1=5-s by omega]
     unfold fixDown at e4⊢
     unfold fixUp
     have c1:(((k-a:Nat):Int)≥2)=(k-a≥2):=propext (by omega)
     have c2:(((b-k:Nat):Int)≥2)=(b-k≥2):=propext (by omega)
     simp only[c1,c2]
     by_cases g1:k-a≥2
     ·by_cases g2:b-k≥2
      ·simp only[g1,g2,if_true,e2,Option.bind_some,un] at e4⊢
       rw[e4]
       rfl
      ·simp only[g1,g2,if_true,if_false,e2,Option.bind_some,un]
     ·by_cases g2:b-k≥2
      ·simp only[g1,g2,if_true,if_false] at e4⊢
       rw[e4]
       rfl
      ·exact absurd (show b-k≥2 by omega) g2
    rw[eg e5]
    exact ih k _ (by omega) (by omega) (by omega) (by omega) (by omega)
theorem Xt {a b:Nat} {d:Array Ed} (fZ:a<b) (hb:b≤d.size) (hs:d.size<1152921504606846976):
  CC KB [.int .i64 (a:Int),.int .i64 (b:Int),.list ar (eA d)]=
   some [.bool (partialInsertionSort ax d a b).2,.list ar (eA (partialInsertionSort ax d a b).1)]:=by
 refine aiK ?_
 unfold Xm
 simp (disch:=omega) only[dV,wrap64]
 rcases aiW (a:=a) (b:=b) 5 (a+1) d (Nat.le_refl _) (by omega) (by omega) hb hs with h|⟨x,y,z,h0,h⟩
 ·rw[show ((5-5:Nat):Int)=0 from rfl] at h
  rw[h]
  rfl
 ·rw[show ((5-5:Nat):Int)=0 from rfl] at h
  rw[h]
  unfold partialInsertionSort
  rw[h0]
  rfl
end Go.AM.SL
set_option maxRecDepth 100000
namespace Go.AM
open Go.Proofs
noncomputable abbrev tv:Code:=cL Tryd.prog (av.aT 173)
noncomputable def CR (C:ae) (data:List V) (i j k':Int) (t36:Bool) (gX:Int) {β:Type} (kr:(Int × Int × Int × Int)→Option β):Option β:=
 bif t36 then
  (C AN [.list ar data,.int .i64 i,.int .i64 gX]).bind fun r1=>
  (C AN [.list ar data,.int .i64 j,.int .i64 ((V.nth (r1.drop 1) 0).toInt)]).bind fun r2=>
  (C AN [.list ar data,.int .i64 k',.int .i64 ((V.nth (r2.drop 1) 0).toInt)]).bind fun r3=>
  kr ((V.nth r1 0).toInt,(V.nth r2 0).toInt,(V.nth r3 0).toInt,(V.nth (r3.drop 1) 0).toInt)
 else
  kr (i,j,k',gX)
noncomputable def CS (C:ae) (data:List V) (l i j k':Int) (t34:Bool) (gX:Int) {β:Type} (kr:(Int × Int)→Option β):Option β:=
 bif t34 then
  CR C data i j k' (decide ((l:Int)≥50)) gX (un fun (fC:Int)=>un fun (j_5:Int)=>un fun (k_6:Int) (aiX:Int)=>
   (C FI [.list ar data,.int .i64 fC,.int .i64 j_5,.int .i64 k_6,.int .i64 aiX]).bind fun r8=>
   kr ((V.nth r8 0).toInt,(V.nth (r8.drop 1) 0).toInt))
 else
  kr (j,gX)
noncomputable def Xu (C:ae):cy:=fun β n ds k=>
 bif Nat.beq n 591 then mH L5 [[1,0,0,0,0]] (@CR C) ds k else
 bif Nat.beq n 559 then mH L7 [[0,0]] (@CS C) ds k else
 none
abbrev Xv (C:ae) (b:cv):Prop:=cw Tryd.prog av C (Xu C) 173 (cR Tryd.prog (av.aT 173)) (av.sin 173).aX.length b
theorem aiY (C:ae):Xv C (.cond 36 (aq [1,1,1,1,1,1,0,1,0,0,1,0] tv) (aq [1,1,1,1,1,1,0,1,0,0,1,1] tv)):=
 nA L5 [[1,0,0,0,0]] (@CR C) (by kernel_rfl) (aV (bs:=[]) (by kernel_rfl) au) (aV (bs:=[]) (by kernel_rfl) au) (fun ds=>by kernel_rfl) (fun i β k=>by kernel_rfl) (fun β ds k=>by kernel_rfl)
theorem aiZ (C:ae):Xv C (.cond 34 (aq [1,1,1,1,1,1,0,1,0] tv) (aq [1,1,1,1,1,1,0,1,1] tv)):=
 nA L7 [[0,0]] (@CS C) (by kernel_rfl) (aV (bs:=[.cond 36 (aq [1,1,1,1,1,1,0,1,0,0,1,0] tv) (aq [1,1,1,1,1,1,0,1,0,0,1,1] tv)]) (by kernel_rfl) (bf (aiY C) au)) (aV (bs:=[]) (by kernel_rfl) au) (fun ds=>by kernel_rfl) (fun i β k=>by kernel_rfl) (fun β ds k=>by kernel_rfl)
noncomputable def NJ (C:ae) (data:List V) (a b':Int):Option (List V):=
 CS C data (IntKind.wrap .i64 (b'-a)) (IntKind.wrap .i64 (a+(IntKind.wrap .i64 (1*(IntKind.wrap .i64 (Int.tdiv (IntKind.wrap .i64 (b'-a)) 4)))))) (IntKind.wrap .i64 (a+(IntKind.wrap .i64 (2*(IntKind.wrap .i64 (Int.tdiv (IntKind.wrap .i64 (b'-a)) 4)))))) (IntKind.wrap .i64 (a+(IntKind.wrap .i64 (3*(IntKind.wrap .i64 (Int.tdiv (IntKind.wrap .i64 (b'-a)) 4)))))) (decide (((IntKind.wrap .i64 (b'-a)):Int)≥8)) 0 (un fun (NK:Int) (Xw:Int)=>
  bif (Xw:Int)==0 then
   some [.int .i64 NK,.int .i64 1]
  else
   bif (Xw:Int)==12 then
   some [.int .i64 NK,.int .i64 2]
   else
   some [.int .i64 NK,.int .i64 0])
theorem Xx {data:List V} {a b':Int} {r:Option (List V)} (h:NJ CC data a b'=r):CC FH [.list ar data,.int .i64 a,.int .i64 b']=r:=
 bh (key:=173) (L:=Xu CC) (bs:=[.cond 34 (aq [1,1,1,1,1,1,0,1,0] tv) (aq [1,1,1,1,1,1,0,1,1] tv)]) (by kernel_rfl) (bf (aiZ CC) au) (Eq.trans (by kernel_rfl) h)
noncomputable def Xy (C:ae) (data:List V) (a b' c gX:Int):Option (List V):=
 (C AO [.list ar data,.int .i64 a,.int .i64 b',.int .i64 gX]).bind fun r1=>
 (C AO [.list ar data,.int .i64 ((V.nth (r1.drop 1) 0).toInt),.int .i64 c,.int .i64 ((V.nth (r1.drop 2) 0).toInt)]).bind fun r2=>
 (C AO [.list ar data,.int .i64 ((V.nth r1 0).toInt),.int .i64 ((V.nth r2 0).toInt),.int .i64 ((V.nth (r2.drop 2) 0).toInt)]).bind fun r3=>
 some [.int .i64 ((V.nth (r3.drop 1) 0).toInt),.int .i64 ((V.nth (r3.drop 2) 0).toInt)]
theorem ai0 {data:List V} {a b' c gX:Int} {r:Option (List V)} (h:Xy CC data a b' c gX=r):CC FI [.list ar data,.int .i64 a,.int .i64 b',.int .i64 c,.int .i64 gX]=r:=
 bh (key:=175) (L:=db) (bs:=[]) (by kernel_rfl) au (Eq.trans (by kernel_rfl) h)
noncomputable def NL (C:ae) (data:List V) (a b' gX:Int):Option (List V):=
 (idx data b').bind fun x1=>
 (idx data a).bind fun x2=>
 (C bj [.int .i64 ((x1.cell 0).toInt),.int .i64 ((x1.cell 1).toInt),.int .i64 ((x1.cell 2).toInt),.int .i64 ((x2.cell 0).toInt),.int .i64 ((x2.cell 1).toInt),.int .i64 ((x2.cell 2).toInt)]).bind fun r3=>
 bif decide ((((V.nth r3 0).toInt):Int)<0) then
  some [.int .i64 b',.int .i64 a,.int .i64 (IntKind.wrap .i64 (gX+1))]
 else
  some [.int .i64 a,.int .i64 b',.int .i64 gX]
theorem Xz {data:List V} {a b' gX:Int} {r:Option (List V)} (h:NL CC data a b' gX=r):CC AO [.list ar data,.int .i64 a,.int .i64 b',.int .i64 gX]=r:=
 bh (key:=176) (L:=db) (bs:=[]) (by kernel_rfl) au (Eq.trans (by kernel_rfl) h)
noncomputable def XA (C:ae) (data:List V) (a gX:Int):Option (List V):=
 (C FI [.list ar data,.int .i64 (IntKind.wrap .i64 (a-1)),.int .i64 a,.int .i64 (IntKind.wrap .i64 (a+1)),.int .i64 gX]).bind fun r1=>
 some [.int .i64 ((V.nth r1 0).toInt),.int .i64 ((V.nth (r1.drop 1) 0).toInt)]
theorem ai1 {data:List V} {a gX:Int} {r:Option (List V)} (h:XA CC data a gX=r):CC AN [.list ar data,.int .i64 a,.int .i64 gX]=r:=
 bh (key:=174) (L:=db) (bs:=[]) (by kernel_rfl) au (Eq.trans (by kernel_rfl) h)
noncomputable abbrev yC:Code:=cL Tryd.prog (av.aT 172)
noncomputable def HK (C:ae) (a length yD jQ other:Int) (t45:Bool) (af:List V) (CT:Int) {β:Type} (kr:(Int)→Option β):Option β:=
 bif t45 then
  kr (IntKind.wrap .i64 (other-length))
 else
  kr other
noncomputable def CU (C:ae) (a length yD jQ:Int) (af:List V) (CT:Int) {β:Type} (kn:(Int × (List V) × Int)→Option β) (kr:(Int × Bool × (List V) × Int)→Option β):Option β:=
 bif decide ((jQ:Int)≤(IntKind.wrap .i64 ((IntKind.wrap .i64 (a+(IntKind.wrap .i64 (2*(IntKind.wrap .i64 (Int.tdiv length 4))))))+1))) then
  (C FE [.int .u64 CT]).bind fun r2=>
  HK C a length yD jQ (IntKind.wrap .i64 (IntKind.wrap .u64 ((BitVec.ofInt (IntKind.bits .u64) ((V.nth r2 0).toInt)&&&BitVec.ofInt (IntKind.bits .u64) (IntKind.wrap .u64 (yD-1))).toNat))) (decide (((IntKind.wrap .i64 (IntKind.wrap .u64 ((BitVec.ofInt (IntKind.bits .u64) ((V.nth r2 0).toInt)&&&BitVec.ofInt (IntKind.bits .u64) (IntKind.wrap .u64 (yD-1))).toNat))):Int)≥length)) af ((V.nth (r2.drop 1) 0).toInt) (fun (vI:Int)=>
   bif (decide (0≤(IntKind.wrap .i64 (a+vI))))&&(decide ((IntKind.wrap .i64 (a+vI))<(af.length:Int))) then
   (af[(IntKind.wrap .i64 (a+vI):Int).toNat]?).bind fun x4=>
   bif (decide (0≤jQ))&&(decide (jQ<(af.length:Int))) then
    (af[(jQ:Int).toNat]?).bind fun x5=>
    bif (decide (0≤jQ))&&(decide (jQ<(af.length:Int))) then
    (af[(jQ:Int).toNat]?).bind fun x6=>
    bif (decide (0≤(IntKind.wrap .i64 (a+vI))))&&(decide ((IntKind.wrap .i64 (a+vI))<((af.set ((jQ:Int).toNat) (.agg [.int .i64 ((x4.cell 0).toInt),.int .i64 ((x4.cell 1).toInt),.int .i64 ((x4.cell 2).toInt)])).length:Int))) then
     ((af.set ((jQ:Int).toNat) (.agg [.int .i64 ((x4.cell 0).toInt),.int .i64 ((x4.cell 1).toInt),.int .i64 ((x4.cell 2).toInt)]))[(IntKind.wrap .i64 (a+vI):Int).toNat]?).bind fun x7=>
     kn (IntKind.wrap .i64 (jQ+1),(af.set ((jQ:Int).toNat) (.agg [.int .i64 ((x4.cell 0).toInt),.int .i64 ((x4.cell 1).toInt),.int .i64 ((x4.cell 2).toInt)])).set ((IntKind.wrap .i64 (a+vI):Int).toNat) (.agg [.int .i64 ((x5.cell 0).toInt),.int .i64 ((x5.cell 1).toInt),.int .i64 ((x5.cell 2).toInt)]),(V.nth (r2.drop 1) 0).toInt)
    else none
    else none
   else none
   else none)
 else
  kr (jQ,decide ((jQ:Int)≤(IntKind.wrap .i64 ((IntKind.wrap .i64 (a+(IntKind.wrap .i64 (2*(IntKind.wrap .i64 (Int.tdiv length 4))))))+1))),af,CT)
noncomputable def HL (C:ae) (a length yD:Int):(Int × (List V) × Int)→Option ((Int × (List V) × Int) ⊕ (Int × Bool × (List V) × Int)):=un fun jQ=>un fun af CT=>CU C a length yD jQ af CT (fun y=>some (.inl y)) (fun r=>some (.inr r))
noncomputable def XB (C:ae):cy:=fun β n ds k=>
 bif Nat.beq n 735 then mH L3 [[1,2,3,4,0,7,8]] (@HK C) ds k else
 bif Nat.beq n 81 then bw L4 [false,false,false,true,true,true] [[1,2,3,0,0,0,0]] (@CU C) ds k else
 none
abbrev XC (C:ae) (b:cv):Prop:=cw Tryd.prog av C (XB C) 172 (cR Tryd.prog (av.aT 172)) (av.sin 172).aX.length b
theorem ai2 (C:ae):XC C (.cond 45 (aq [1,1,0,1,1,1,0,0,1,0,0,1,0,1,0] yC) (aq [1,1,0,1,1,1,0,0,1,0,0,1,0,1,1] yC)):=
 nA L3 [[1,2,3,4,0,7,8]] (@HK C) (by kernel_rfl) (aV (bs:=[]) (by kernel_rfl) au) (aV (bs:=[]) (by kernel_rfl) au) (fun ds=>by kernel_rfl) (fun i β k=>by kernel_rfl) (fun β ds k=>by kernel_rfl)
theorem ai3 (C:ae):XC C (.loop (aq [1,1,0,1,1,1,0,0] yC)):=
 bC L4 [false,false,false,true,true,true] [[1,2,3,0,0,0,0]] (@CU C) (by kernel_rfl) (aV (bs:=[.cond 45 (aq [1,1,0,1,1,1,0,0,1,0,0,1,0,1,0] yC) (aq [1,1,0,1,1,1,0,0,1,0,0,1,0,1,1] yC)]) (by kernel_rfl) (bf (ai2 C) au)) (fun ds=>by kernel_rfl) (fun i x=>by kernel_rfl) (fun i x β k=>by kernel_rfl) (fun β ds k=>by kernel_rfl)
noncomputable def XD (C:ae) (a b':Int) (af:List V):Option (List V):=
 bif decide (((IntKind.wrap .i64 (b'-a)):Int)≥8) then
  (C FD [.int .i64 (IntKind.wrap .i64 (b'-a))]).bind fun r1=>
  (Loop (HL C a (IntKind.wrap .i64 (b'-a)) ((V.nth r1 0).toInt)) (IntKind.wrap .i64 ((IntKind.wrap .i64 (a+(IntKind.wrap .i64 (2*(IntKind.wrap .i64 (Int.tdiv (IntKind.wrap .i64 (b'-a)) 4))))))-1),af,IntKind.wrap .u64 (IntKind.wrap .i64 (b'-a)))).bind (un fun (alF:Int)=>un fun (rF:Bool)=>un fun (oT:List V) (alG:Int)=>
   some [.list ar oT])
 else
  some [.list ar af]
theorem ai4 {a b':Int} {af:List V} {r:Option (List V)} (h:XD CC a b' af=r):CC Ky [.int .i64 a,.int .i64 b',.list ar af]=r:=
 bh (key:=172) (L:=XB CC) (bs:=[.loop (aq [1,1,0,1,1,1,0,0] yC)]) (by kernel_rfl) (bf (ai3 CC) au) (Eq.trans (by kernel_rfl) h)
noncomputable def XE (C:ae) (iX:Int):Option (List V):=
 some [.int .u64 (IntKind.wrap .u64 ((BitVec.ofInt (IntKind.bits .u64) (IntKind.wrap .u64 ((BitVec.ofInt (IntKind.bits .u64) (IntKind.wrap .u64 ((BitVec.ofInt (IntKind.bits .u64) iX ^^^ BitVec.ofInt (IntKind.bits .u64) (IntKind.wrap .u64 (iX*2^(min (13:Int).toNat (IntKind.bits .u64))))).toNat)) ^^^ BitVec.ofInt (IntKind.bits .u64) (Int.fdiv (IntKind.wrap .u64 ((BitVec.ofInt (IntKind.bits .u64) iX ^^^ BitVec.ofInt (IntKind.bits .u64) (IntKind.wrap .u64 (iX*2^(min (13:Int).toNat (IntKind.bits .u64))))).toNat)) (2^(min (7:Int).toNat (IntKind.bits .u64))))).toNat)) ^^^ BitVec.ofInt (IntKind.bits .u64) (IntKind.wrap .u64 ((IntKind.wrap .u64 ((BitVec.ofInt (IntKind.bits .u64) (IntKind.wrap .u64 ((BitVec.ofInt (IntKind.bits .u64) iX ^^^ BitVec.ofInt (IntKind.bits .u64) (IntKind.wrap .u64 (iX*2^(min (13:Int).toNat (IntKind.bits .u64))))).toNat)) ^^^ BitVec.ofInt (IntKind.bits .u64) (Int.fdiv (IntKind.wrap .u64 ((BitVec.ofInt (IntKind.bits .u64) iX ^^^ BitVec.ofInt (IntKind.bits .u64) (IntKind.wrap .u64 (iX*2^(min (13:Int).toNat (IntKind.bits .u64))))).toNat)) (2^(min (7:Int).toNat (IntKind.bits .u64))))).toNat))*2^(min (17:Int).toNat (IntKind.bits .u64))))).toNat)),.int .u64 (IntKind.wrap .u64 ((BitVec.ofInt (IntKind.bits .u64) (IntKind.wrap .u64 ((BitVec.ofInt (IntKind.bits .u64) (IntKind.wrap .u64 ((BitVec.ofInt (IntKind.bits .u64) iX ^^^ BitVec.ofInt (IntKind.bits .u64) (IntKind.wrap .u64 (iX*2^(min (13:Int).toNat (IntKind.bits .u64))))).toNat)) ^^^ BitVec.ofInt (IntKind.bits .u64) (Int.fdiv (IntKind.wrap .u64 ((BitVec.ofInt (IntKind.bits .u64) iX ^^^ BitVec.ofInt (IntKind.bits .u64) (IntKind.wrap .u64 (iX*2^(min (13:Int).toNat (IntKind.bits .u64))))).toNat)) (2^(min (7:Int).toNat (IntKind.bits .u64))))).toNat)) ^^^ BitVec.ofInt (IntKind.bits .u64) (IntKind.wrap .u64 ((IntKind.wrap .u64 ((BitVec.ofInt (IntKind.bits .u64) (IntKind.wrap .u64 ((BitVec.ofInt (IntKind.bits .u64) iX ^^^ BitVec.ofInt (IntKind.bits .u64) (IntKind.wrap .u64 (iX*2^(min (13:Int).toNat (IntKind.bits .u64))))).toNat)) ^^^ BitVec.ofInt (IntKind.bits .u64) (Int.fdiv (IntKind.wrap .u64 ((BitVec.ofInt (IntKind.bits .u64) iX ^^^ BitVec.ofInt (IntKind.bits .u64) (IntKind.wrap .u64 (iX*2^(min (13:Int).toNat (IntKind.bits .u64))))).toNat)) (2^(min (7:Int).toNat (IntKind.bits .u64))))).toNat))*2^(min (17:Int).toNat (IntKind.bits .u64))))).toNat))]
theorem ai5 {iX:Int} {r:Option (List V)} (h:XE CC iX=r):CC FE [.int .u64 iX]=r:=
 bh (key:=143) (L:=db) (bs:=[]) (by kernel_rfl) au (Eq.trans (by kernel_rfl) h)
noncomputable def XF (C:ae) (length:Int):Option (List V):=
 (C AE [.int .u64 (IntKind.wrap .u64 length)]).bind fun r1=>
 bif decide (0≤((V.nth r1 0).toInt)) then
  some [.int .u64 (IntKind.wrap .u64 (1*2^(min ((V.nth r1 0).toInt).toNat (IntKind.bits .u64))))]
 else none
theorem ai6 {length:Int} {r:Option (List V)} (h:XF CC length=r):CC FD [.int .i64 length]=r:=
 bh (key:=142) (L:=db) (bs:=[]) (by kernel_rfl) au (Eq.trans (by kernel_rfl) h)
noncomputable def XG (C:ae) (x:Int):Option (List V):=
 (C FB [.int .u64 x]).bind fun r1=>
 some [.int .i64 ((V.nth r1 0).toInt)]
theorem ai7 {x:Int} {r:Option (List V)} (h:XG CC x=r):CC AE [.int .u64 x]=r:=
 bh (key:=111) (L:=db) (bs:=[]) (by kernel_rfl) au (Eq.trans (by kernel_rfl) h)
noncomputable abbrev tw:Code:=cL Tryd.prog (av.aT 134)
noncomputable def vJ (C:ae) (x n:Int) (t4:Bool) {β:Type} (kr:(Int × Int)→Option β):Option β:=
 bif t4 then
  kr (Int.fdiv x (2^(min (32:Int).toNat (IntKind.bits .u64))),32)
 else
  kr (x,n)
noncomputable def vK (C:ae) (x n:Int) (t8:Bool) {β:Type} (kr:(Int × Int)→Option β):Option β:=
 bif t8 then
  kr (Int.fdiv x (2^(min (16:Int).toNat (IntKind.bits .u64))),IntKind.wrap .i64 (n+16))
 else
  kr (x,n)
noncomputable def XH (C:ae):cy:=fun β n ds k=>
 bif Nat.beq n 79 then mH LO [[0,0]] (@vJ C) ds k else
 bif Nat.beq n 143 then mH LP [[0,0]] (@vK C) ds k else
 none
abbrev XI (C:ae) (b:cv):Prop:=cw Tryd.prog av C (XH C) 134 (cR Tryd.prog (av.aT 134)) (av.sin 134).aX.length b
theorem ai8 (C:ae):XI C (.cond 4 (aq [1,0,1,0] tw) (aq [1,0,1,1] tw)):=
 nA LO [[0,0]] (@vJ C) (by kernel_rfl) (aV (bs:=[]) (by kernel_rfl) au) (aV (bs:=[]) (by kernel_rfl) au) (fun ds=>by kernel_rfl) (fun i β k=>by kernel_rfl) (fun β ds k=>by kernel_rfl)
theorem ai9 (C:ae):XI C (.cond 8 (aq [1,1,0,1,0] tw) (aq [1,1,0,1,1] tw)):=
 nA LP [[0,0]] (@vK C) (by kernel_rfl) (aV (bs:=[]) (by kernel_rfl) au) (aV (bs:=[]) (by kernel_rfl) au) (fun ds=>by kernel_rfl) (fun i β k=>by kernel_rfl) (fun β ds k=>by kernel_rfl)
noncomputable def aja (C:ae) (x:Int):Option (List V):=
 vJ C x 0 (decide ((x:Int)≥4294967296)) (un fun (fi:Int) (eV:Int)=>
  vK C fi eV (decide ((fi:Int)≥65536)) (un fun (CV:Int) (ff:Int)=>
   bif decide ((CV:Int)≥256) then
    (bif decide (0≤(IntKind.wrap .u8 (Int.fdiv CV (2^(min (8:Int).toNat (IntKind.bits .u64)))))) then (([0,1,2,2,3,3,3,3,4,4,4,4,4,4,4,4,5,5,5,5,5,5,5,5,5,5,5,5,5,5,5,5,6,6,6,6,6,6,6,6,6,6,6,6,6,6,6,6,6,6,6,6,6,6,6,6,6,6,6,6,6,6,6,6,7,7,7,7,7,7,7,7,7,7,7,7,7,7,7,7,7,7,7,7,7,7,7,7,7,7,7,7,7,7,7,7,7,7,7,7,7,7,7,7,7,7,7,7,7,7,7,7,7,7,7,7,7,7,7,7,7,7,7,7,7,7,7,7,8,8,8,8,8,8,8,8,8,8,8,8,8,8,8,8,8,8,8,8,8,8,8,8,8,8,8,8,8,8,8,8,8,8,8,8,8,8,8,8,8,8,8,8,8,8,8,8,8,8,8,8,8,8,8,8,8,8,8,8,8,8,8,8,8,8,8,8,8,8,8,8,8,8,8,8,8,8,8,8,8,8,8,8,8,8,8,8,8,8,8,8,8,8,8,8,8,8,8,8,8,8,8,8,8,8,8,8,8,8,8,8,8,8,8,8,8,8,8,8,8,8,8,8,8,8,8,8]:List UInt8)[(IntKind.wrap .u8 (Int.fdiv CV (2^(min (8:Int).toNat (IntKind.bits .u64)))):Int).toNat]?).map fun b=>V.int .u8 b.toNat else none).bind fun x5=>
    some [.int .i64 (IntKind.wrap .i64 ((IntKind.wrap .i64 (ff+8))+(IntKind.wrap .i64 x5.toInt)))]
   else
    (bif decide (0≤(IntKind.wrap .u8 CV)) then (([0,1,2,2,3,3,3,3,4,4,4,4,4,4,4,4,5,5,5,5,5,5,5,5,5,5,5,5,5,5,5,5,6,6,6,6,6,6,6,6,6,6,6,6,6,6,6,6,6,6,6,6,6,6,6,6,6,6,6,6,6,6,6,6,7,7,7,7,7,7,7,7,7,7,7,7,7,7,7,7,7,7,7,7,7,7,7,7,7,7,7,7,7,7,7,7,7,7,7,7,7,7,7,7,7,7,7,7,7,7,7,7,7,7,7,7,7,7,7,7,7,7,7,7,7,7,7,7,8,8,8,8,8,8,8,8,8,8,8,8,8,8,8,8,8,8,8,8,8,8,8,8,8,8,8,8,8,8,8,8,8,8,8,8,8,8,8,8,8,8,8,8,8,8,8,8,8,8,8,8,8,8,8,8,8,8,8,8,8,8,8,8,8,8,8,8,8,8,8,8,8,8,8,8,8,8,8,8,8,8,8,8,8,8,8,8,8,8,8,8,8,8,8,8,8,8,8,8,8,8,8,8,8,8,8,8,8,8,8,8,8,8,8,8,8,8,8,8,8,8,8,8,8,8,8,8]:List UInt8)[(IntKind.wrap .u8 CV:Int).toNat]?).map fun b=>V.int .u8 b.toNat else none).bind fun x6=>
    some [.int .i64 (IntKind.wrap .i64 (ff+(IntKind.wrap .i64 x6.toInt)))]))
theorem XJ {x:Int} {r:Option (List V)} (h:aja CC x=r):CC FB [.int .u64 x]=r:=
 bh (key:=134) (L:=XH CC) (bs:=[.cond 4 (aq [1,0,1,0] tw) (aq [1,0,1,1] tw),.cond 8 (aq [1,1,0,1,0] tw) (aq [1,1,0,1,1] tw)]) (by kernel_rfl) (bf (ai8 CC) (bf (ai9 CC) au)) (Eq.trans (by kernel_rfl) h)
noncomputable abbrev me:Code:=cL Tryd.prog (av.aT 169)
noncomputable def yE (C:ae) (a b' js:Int) (e7 ft:Bool) (length:Int) (t39:Bool) (af:List V) {β:Type} (kr:(Int × (List V))→Option β):Option β:=
 bif t39 then
  (C Ky [.int .i64 a,.int .i64 b',.list ar af]).bind fun r3=>
  kr (IntKind.wrap .i64 (js-1),(V.nth r3 0).toList)
 else
  kr (js,af)
noncomputable def yF (C:ae) (a b' js:Int) (e7 ft:Bool) (length pivot hint:Int) (t56:Bool) (af:List V) {β:Type} (kr:(Int × Int × (List V))→Option β):Option β:=
 bif t56 then
  (C KA [.int .i64 a,.int .i64 b',.list ar af]).bind fun r7=>
  kr (IntKind.wrap .i64 ((IntKind.wrap .i64 (b'-1))-(IntKind.wrap .i64 (pivot-a))),1,(V.nth r7 0).toList)
 else
  kr (pivot,hint,af)
noncomputable def mZ (C:ae) (a b' js:Int) (e7 ft:Bool) (length pivot:Int) (t75:Bool) (af:List V) {β:Type} (kr:((Bool × (List V)) ⊕ (List V))→Option β):Option β:=
 bif t75 then
  (C KB [.int .i64 a,.int .i64 b',.list ar af]).bind fun yG=>
  bif (V.nth yG 0).toBool then
  kr (.inl ((V.nth yG 0).toBool,(V.nth (yG.drop 1) 0).toList))
  else
  kr (.inr ((V.nth (yG.drop 1) 0).toList))
 else
  kr (.inr af)
noncomputable def p8 (C:ae) (a b' js:Int) (e7 ft:Bool) (af:List V) {β:Type} (kn:(Int × Int × Int × Bool × Bool × (List V))→Option β) (kr:(List V)→Option β):Option β:=
 bif decide (((IntKind.wrap .i64 (b'-a)):Int)≤12) then
  (C FF [.int .i64 a,.int .i64 b',.list ar af]).bind fun r1=>
  kr ((V.nth r1 0).toList)
 else
  bif (js:Int)==0 then
  (C FG [.int .i64 a,.int .i64 b',.list ar af]).bind fun r2=>
  kr ((V.nth r2 0).toList)
  else
  yE C a b' js e7 ft (IntKind.wrap .i64 (b'-a)) (!e7) af (un fun (cJ:Int) (CW:List V)=>
   (C FH [.list ar CW,.int .i64 a,.int .i64 b']).bind fun r6=>
   yF C a b' cJ e7 ft (IntKind.wrap .i64 (b'-a)) ((V.nth r6 0).toInt) ((V.nth (r6.drop 1) 0).toInt) ((((V.nth (r6.drop 1) 0).toInt):Int)==2) CW (un fun (dW:Int)=>un fun (NM:Int) (oT:List V)=>
    bif e7 then
     bif ft then
     mZ C a b' cJ e7 ft (IntKind.wrap .i64 (b'-a)) dW ((NM:Int)==1) oT (dA (un fun (BV:Bool) (Nz:List V)=>
      kr Nz) (fun (vL:List V)=>
      bif decide ((a:Int)>0) then
       bif (decide (0≤(IntKind.wrap .i64 (a-1))))&&(decide ((IntKind.wrap .i64 (a-1))<(vL.length:Int))) then
       (vL[(IntKind.wrap .i64 (a-1):Int).toNat]?).bind fun gl=>
       bif (decide (0≤dW))&&(decide (dW<(vL.length:Int))) then
        (vL[(dW:Int).toNat]?).bind fun gH=>
        (C bj [.int .i64 ((gl.cell 0).toInt),.int .i64 ((gl.cell 1).toInt),.int .i64 ((gl.cell 2).toInt),.int .i64 ((gH.cell 0).toInt),.int .i64 ((gH.cell 1).toInt),.int .i64 ((gH.cell 2).toInt)]).bind fun dG=>
        bif !(decide ((((V.nth dG 0).toInt):Int)<0)) then
        (C xp [.int .i64 a,.int .i64 b',.int .i64 dW,.list ar vL]).bind fun jt=>
        kn ((V.nth jt 0).toInt,b',cJ,e7,ft,(V.nth (jt.drop 1) 0).toList)
        else
        (C oJ [.int .i64 a,.int .i64 b',.int .i64 dW,.list ar vL]).bind fun dk=>
        bif decide (((IntKind.wrap .i64 (((V.nth dk 0).toInt)-a)):Int)<(IntKind.wrap .i64 (b'-((V.nth dk 0).toInt)))) then
         (C gT [.int .i64 a,.int .i64 ((V.nth dk 0).toInt),.int .i64 cJ,.list ar ((V.nth (dk.drop 2) 0).toList)]).bind fun fD=>
         kn (IntKind.wrap .i64 (((V.nth dk 0).toInt)+1),b',cJ,decide (((IntKind.wrap .i64 (((V.nth dk 0).toInt)-a)):Int)≥(IntKind.wrap .i64 (Int.tdiv (IntKind.wrap .i64 (b'-a)) 8))),(V.nth (dk.drop 1) 0).toBool,(V.nth fD 0).toList)
        else
         (C gT [.int .i64 (IntKind.wrap .i64 (((V.nth dk 0).toInt)+1)),.int .i64 b',.int .i64 cJ,.list ar ((V.nth (dk.drop 2) 0).toList)]).bind fun oW=>
         kn (a,(V.nth dk 0).toInt,cJ,decide (((IntKind.wrap .i64 (b'-((V.nth dk 0).toInt))):Int)≥(IntKind.wrap .i64 (Int.tdiv (IntKind.wrap .i64 (b'-a)) 8))),(V.nth (dk.drop 1) 0).toBool,(V.nth oW 0).toList)
       else none
       else none
      else
       (C oJ [.int .i64 a,.int .i64 b',.int .i64 dW,.list ar vL]).bind fun jr=>
       bif decide (((IntKind.wrap .i64 (((V.nth jr 0).toInt)-a)):Int)<(IntKind.wrap .i64 (b'-((V.nth jr 0).toInt)))) then
       (C gT [.int .i64 a,.int .i64 ((V.nth jr 0).toInt),.int .i64 cJ,.list ar ((V.nth (jr.drop 2) 0).toList)]).bind fun yH=>
       kn (IntKind.wrap .i64 (((V.nth jr 0).toInt)+1),b',cJ,decide (((IntKind.wrap .i64 (((V.nth jr 0).toInt)-a)):Int)≥(IntKind.wrap .i64 (Int.tdiv (IntKind.wrap .i64 (b'-a)) 8))),(V.nth (jr.drop 1) 0).toBool,(V.nth yH 0).toList)
       else
       (C gT [.int .i64 (IntKind.wrap .i64 (((V.nth jr 0).toInt)+1)),.int .i64 b',.int .i64 cJ,.list ar ((V.nth (jr.drop 2) 0).toList)]).bind fun NN=>
       kn (a,(V.nth jr 0).toInt,cJ,decide (((IntKind.wrap .i64 (b'-((V.nth jr 0).toInt))):Int)≥(IntKind.wrap .i64 (Int.tdiv (IntKind.wrap .i64 (b'-a)) 8))),(V.nth (jr.drop 1) 0).toBool,(V.nth NN 0).toList)))
     else
     mZ C a b' cJ e7 ft (IntKind.wrap .i64 (b'-a)) dW false oT (dA (un fun (afk:Bool) (ajb:List V)=>
      kr ajb) (fun (rQ:List V)=>
      bif decide ((a:Int)>0) then
       bif (decide (0≤(IntKind.wrap .i64 (a-1))))&&(decide ((IntKind.wrap .i64 (a-1))<(rQ.length:Int))) then
       (rQ[(IntKind.wrap .i64 (a-1):Int).toNat]?).bind fun vF=>
       bif (decide (0≤dW))&&(decide (dW<(rQ.length:Int))) then
        (rQ[(dW:Int).toNat]?).bind fun vG=>
        (C bj [.int .i64 ((vF.cell 0).toInt),.int .i64 ((vF.cell 1).toInt),.int .i64 ((vF.cell 2).toInt),.int .i64 ((vG.cell 0).toInt),.int .i64 ((vG.cell 1).toInt),.int .i64 ((vG.cell 2).toInt)]).bind fun HE=>
        bif !(decide ((((V.nth HE 0).toInt):Int)<0)) then
        (C xp [.int .i64 a,.int .i64 b',.int .i64 dW,.list ar rQ]).bind fun XK=>
        kn ((V.nth XK 0).toInt,b',cJ,e7,ft,(V.nth (XK.drop 1) 0).toList)
        else
        (C oJ [.int .i64 a,.int .i64 b',.int .i64 dW,.list ar rQ]).bind fun nX=>
        bif decide (((IntKind.wrap .i64 (((V.nth nX 0).toInt)-a)):Int)<(IntKind.wrap .i64 (b'-((V.nth nX 0).toInt)))) then
         (C gT [.int .i64 a,.int .i64 ((V.nth nX 0).toInt),.int .i64 cJ,.list ar ((V.nth (nX.drop 2) 0).toList)]).bind fun r33=>
         kn (IntKind.wrap .i64 (((V.nth nX 0).toInt)+1),b',cJ,decide (((IntKind.wrap .i64 (((V.nth nX 0).toInt)-a)):Int)≥(IntKind.wrap .i64 (Int.tdiv (IntKind.wrap .i64 (b'-a)) 8))),(V.nth (nX.drop 1) 0).toBool,(V.nth r33 0).toList)
        else
         (C gT [.int .i64 (IntKind.wrap .i64 (((V.nth nX 0).toInt)+1)),.int .i64 b',.int .i64 cJ,.list ar ((V.nth (nX.drop 2) 0).toList)]).bind fun r34=>
         kn (a,(V.nth nX 0).toInt,cJ,decide (((IntKind.wrap .i64 (b'-((V.nth nX 0).toInt))):Int)≥(IntKind.wrap .i64 (Int.tdiv (IntKind.wrap .i64 (b'-a)) 8))),(V.nth (nX.drop 1) 0).toBool,(V.nth r34 0).toList)
       else none
       else none
      else
       (C oJ [.int .i64 a,.int .i64 b',.int .i64 dW,.list ar rQ]).bind fun nY=>
       bif decide (((IntKind.wrap .i64 (((V.nth nY 0).toInt)-a)):Int)<(IntKind.wrap .i64 (b'-((V.nth nY 0).toInt)))) then
       (C gT [.int .i64 a,.int .i64 ((V.nth nY 0).toInt),.int .i64 cJ,.list ar ((V.nth (nY.drop 2) 0).toList)]).bind fun r36=>
       kn (IntKind.wrap .i64 (((V.nth nY 0).toInt)+1),b',cJ,decide (((IntKind.wrap .i64 (((V.nth nY 0).toInt)-a)):Int)≥(IntKind.wrap .i64 (Int.tdiv (IntKind.wrap .i64 (b'-a)) 8))),(V.nth (nY.drop 1) 0).toBool,(V.nth r36 0).toList)
       else
       (C gT [.int .i64 (IntKind.wrap .i64 (((V.nth nY 0).toInt)+1)),.int .i64 b',.int .i64 cJ,.list ar ((V.nth (nY.drop 2) 0).toList)]).bind fun r37=>
       kn (a,(V.nth nY 0).toInt,cJ,decide (((IntKind.wrap .i64 (b'-((V.nth nY 0).toInt))):Int)≥(IntKind.wrap .i64 (Int.tdiv (IntKind.wrap .i64 (b'-a)) 8))),(V.nth (nY.drop 1) 0).toBool,(V.nth r37 0).toList)))
    else
     mZ C a b' cJ e7 ft (IntKind.wrap .i64 (b'-a)) dW false oT (dA (un fun (alH:Bool) (ajc:List V)=>
      kr ajc) (fun (jP:List V)=>
      bif decide ((a:Int)>0) then
      bif (decide (0≤(IntKind.wrap .i64 (a-1))))&&(decide ((IntKind.wrap .i64 (a-1))<(jP.length:Int))) then
       (jP[(IntKind.wrap .i64 (a-1):Int).toNat]?).bind fun mY=>
       bif (decide (0≤dW))&&(decide (dW<(jP.length:Int))) then
       (jP[(dW:Int).toNat]?).bind fun vH=>
       (C bj [.int .i64 ((mY.cell 0).toInt),.int .i64 ((mY.cell 1).toInt),.int .i64 ((mY.cell 2).toInt),.int .i64 ((vH.cell 0).toInt),.int .i64 ((vH.cell 1).toInt),.int .i64 ((vH.cell 2).toInt)]).bind fun r43=>
       bif !(decide ((((V.nth r43 0).toInt):Int)<0)) then
        (C xp [.int .i64 a,.int .i64 b',.int .i64 dW,.list ar jP]).bind fun XL=>
        kn ((V.nth XL 0).toInt,b',cJ,e7,ft,(V.nth (XL.drop 1) 0).toList)
       else
        (C oJ [.int .i64 a,.int .i64 b',.int .i64 dW,.list ar jP]).bind fun nZ=>
        bif decide (((IntKind.wrap .i64 (((V.nth nZ 0).toInt)-a)):Int)<(IntKind.wrap .i64 (b'-((V.nth nZ 0).toInt)))) then
        (C gT [.int .i64 a,.int .i64 ((V.nth nZ 0).toInt),.int .i64 cJ,.list ar ((V.nth (nZ.drop 2) 0).toList)]).bind fun r46=>
        kn (IntKind.wrap .i64 (((V.nth nZ 0).toInt)+1),b',cJ,decide (((IntKind.wrap .i64 (((V.nth nZ 0).toInt)-a)):Int)≥(IntKind.wrap .i64 (Int.tdiv (IntKind.wrap .i64 (b'-a)) 8))),(V.nth (nZ.drop 1) 0).toBool,(V.nth r46 0).toList)
        else
        (C gT [.int .i64 (IntKind.wrap .i64 (((V.nth nZ 0).toInt)+1)),.int .i64 b',.int .i64 cJ,.list ar ((V.nth (nZ.drop 2) 0).toList)]).bind fun r47=>
        kn (a,(V.nth nZ 0).toInt,cJ,decide (((IntKind.wrap .i64 (b'-((V.nth nZ 0).toInt))):Int)≥(IntKind.wrap .i64 (Int.tdiv (IntKind.wrap .i64 (b'-a)) 8))),(V.nth (nZ.drop 1) 0).toBool,(V.nth r47 0).toList)
       else none
      else none
      else
      (C oJ [.int .i64 a,.int .i64 b',.int .i64 dW,.list ar jP]).bind fun n0=>
      bif decide (((IntKind.wrap .i64 (((V.nth n0 0).toInt)-a)):Int)<(IntKind.wrap .i64 (b'-((V.nth n0 0).toInt)))) then
       (C gT [.int .i64 a,.int .i64 ((V.nth n0 0).toInt),.int .i64 cJ,.list ar ((V.nth (n0.drop 2) 0).toList)]).bind fun r49=>
       kn (IntKind.wrap .i64 (((V.nth n0 0).toInt)+1),b',cJ,decide (((IntKind.wrap .i64 (((V.nth n0 0).toInt)-a)):Int)≥(IntKind.wrap .i64 (Int.tdiv (IntKind.wrap .i64 (b'-a)) 8))),(V.nth (n0.drop 1) 0).toBool,(V.nth r49 0).toList)
      else
       (C gT [.int .i64 (IntKind.wrap .i64 (((V.nth n0 0).toInt)+1)),.int .i64 b',.int .i64 cJ,.list ar ((V.nth (n0.drop 2) 0).toList)]).bind fun r50=>
       kn (a,(V.nth n0 0).toInt,cJ,decide (((IntKind.wrap .i64 (b'-((V.nth n0 0).toInt))):Int)≥(IntKind.wrap .i64 (Int.tdiv (IntKind.wrap .i64 (b'-a)) 8))),(V.nth (n0.drop 1) 0).toBool,(V.nth r50 0).toList)))))
noncomputable def XM (C:ae):(Int × Int × Int × Bool × Bool × (List V))→Option ((Int × Int × Int × Bool × Bool × (List V)) ⊕ (List V)):=un fun a=>un fun b'=>un fun js=>un fun e7=>un fun ft af=>p8 C a b' js e7 ft af (fun y=>some (.inl y)) (fun r=>some (.inr r))
noncomputable def XN (C:ae):cy:=fun β n ds k=>
 bif Nat.beq n 639 then mH LR [[1,2,0,4,5,6,0]] (@yE C) ds k else
 bif Nat.beq n 911 then mH LU [[1,2,3,4,5,6,0,0,0]] (@yF C) ds k else
 bif Nat.beq n 1215 then mH LV [[1,2,3,4,5,6,7,0,0],[1,2,3,4,5,6,7,0]] (@mZ C) ds k else
 bif Nat.beq n 33 then bw LW [true,true,true,true,true,true] [[0]] (@p8 C) ds k else
 none
abbrev HM (C:ae) (b:cv):Prop:=cw Tryd.prog av C (XN C) 169 (cR Tryd.prog (av.aT 169)) (av.sin 169).aX.length b
theorem ajd (C:ae):HM C (.cond 39 (aq [1,1,0,0,0,1,1,1,0,1,0] me) (aq [1,1,0,0,0,1,1,1,0,1,1] me)):=
 nA LR [[1,2,0,4,5,6,0]] (@yE C) (by kernel_rfl) (aV (bs:=[]) (by kernel_rfl) au) (aV (bs:=[]) (by kernel_rfl) au) (fun ds=>by kernel_rfl) (fun i β k=>by kernel_rfl) (fun β ds k=>by kernel_rfl)
theorem aje (C:ae):HM C (.cond 56 (aq [1,1,0,0,0,1,1,1,1,1,0,1,0] me) (aq [1,1,0,0,0,1,1,1,1,1,0,1,1] me)):=
 nA LU [[1,2,3,4,5,6,0,0,0]] (@yF C) (by kernel_rfl) (aV (bs:=[]) (by kernel_rfl) au) (aV (bs:=[]) (by kernel_rfl) au) (fun ds=>by kernel_rfl) (fun i β k=>by kernel_rfl) (fun β ds k=>by kernel_rfl)
theorem ajf (C:ae):HM C (.cond 75 (aq [1,1,0,0,0,1,1,1,1,1,1,0,1,0] me) (aq [1,1,0,0,0,1,1,1,1,1,1,0,1,1] me)):=
 nA LV [[1,2,3,4,5,6,7,0,0],[1,2,3,4,5,6,7,0]] (@mZ C) (by kernel_rfl) (aV (bs:=[]) (by kernel_rfl) au) (aV (bs:=[]) (by kernel_rfl) au) (fun ds=>by kernel_rfl) (fun i β k=>by kernel_rfl) (fun β ds k=>by kernel_rfl)
theorem ajg (C:ae):HM C (.loop (aq [1,1,0,0] me)):=
 bC LW [true,true,true,true,true,true] [[0]] (@p8 C) (by kernel_rfl) (aV (bs:=[.cond 39 (aq [1,1,0,0,0,1,1,1,0,1,0] me) (aq [1,1,0,0,0,1,1,1,0,1,1] me),.cond 56 (aq [1,1,0,0,0,1,1,1,1,1,0,1,0] me) (aq [1,1,0,0,0,1,1,1,1,1,0,1,1] me),.cond 75 (aq [1,1,0,0,0,1,1,1,1,1,1,0,1,0] me) (aq [1,1,0,0,0,1,1,1,1,1,1,0,1,1] me)]) (by kernel_rfl) (bf (ajd C) (bf (aje C) (bf (ajf C) au)))) (fun ds=>by kernel_rfl) (fun i x=>by kernel_rfl) (fun i x β k=>by kernel_rfl) (fun β ds k=>by kernel_rfl)
noncomputable def XO (C:ae) (a b' js:Int) (af:List V):Option (List V):=
 (Loop (XM C) (a,b',js,true,true,af)).bind (fun (ajh:List V)=>
  some [.list ar ajh])
theorem aji {a b' js:Int} {af:List V} {r:Option (List V)} (h:XO CC a b' js af=r):CC gT [.int .i64 a,.int .i64 b',.int .i64 js,.list ar af]=r:=
 bh (key:=169) (L:=XN CC) (bs:=[.loop (aq [1,1,0,0] me)]) (by kernel_rfl) (bf (ajg CC) au) (Eq.trans (by kernel_rfl) h)
noncomputable def XP (C:ae) (xs:List V):Option (List V):=
 (C AE [.int .u64 (IntKind.wrap .u64 (xs.length:Int))]).bind fun r1=>
 (C gT [.int .i64 0,.int .i64 (xs.length:Int),.int .i64 ((V.nth r1 0).toInt),.list ar xs]).bind fun r2=>
 some [.list ar ((V.nth r2 0).toList)]
theorem ajj {xs:List V} {r:Option (List V)} (h:XP CC xs=r):CC Ay [.list ar xs]=r:=
 bh (key:=87) (L:=db) (bs:=[]) (by kernel_rfl) au (Eq.trans (by kernel_rfl) h)
end Go.AM
set_option maxRecDepth 100000
set_option maxHeartbeats 4000000
namespace Go.AM.SL
open Go.AM Go.Proofs Go.Sort
theorem XQ (a b:Ed):(ax a b=true)=(a.lt b):=by rw[tt,propext (Gc a b)]
theorem HN (a b:Ed):(ax a b=false)= ¬(a.lt b):=by rw[←XQ];simp
theorem yI:SWO ax where
 irrefl x:=by rw[HN];unfold Ed.lt;omega
 trans x y z:=by simp only[XQ];unfold Ed.lt;omega
 ntrans x y z:=by simp only[HN];unfold Ed.lt;omega
def HO:List UInt8:=([0,1,2,2,3,3,3,3,4,4,4,4,4,4,4,4,5,5,5,5,5,5,5,5,5,5,5,5,5,5,5,5,6,6,6,6,6,6,6,6,6,6,6,6,6,6,6,6,6,6,6,6,6,6,6,6,6,6,6,6,6,6,6,6,7,7,7,7,7,7,7,7,7,7,7,7,7,7,7,7,7,7,7,7,7,7,7,7,7,7,7,7,7,7,7,7,7,7,7,7,7,7,7,7,7,7,7,7,7,7,7,7,7,7,7,7,7,7,7,7,7,7,7,7,7,7,7,7,8,8,8,8,8,8,8,8,8,8,8,8,8,8,8,8,8,8,8,8,8,8,8,8,8,8,8,8,8,8,8,8,8,8,8,8,8,8,8,8,8,8,8,8,8,8,8,8,8,8,8,8,8,8,8,8,8,8,8,8,8,8,8,8,8,8,8,8,8,8,8,8,8,8,8,8,8,8,8,8,8,8,8,8,8,8,8,8,8,8,8,8,8,8,8,8,8,8,8,8,8,8,8,8,8,8,8,8,8,8,8,8,8,8,8,8,8,8,8,8,8,8,8,8,8,8,8,8]:List UInt8)
theorem ajk:(List.range 256).all (fun y=>match HO[y]? with|some b=>decide (b.toNat≤8)&&(Nat.beq y 0||(decide (1≤b.toNat)&&decide (2^(b.toNat-1)≤y)))|none=>false)=true:=by decide+kernel
theorem XR {y:Nat} (h:y<256): ∃b,HO[y]? =some b∧b.toNat≤8∧(0<y→1≤b.toNat∧2^(b.toNat-1)≤y):=by
 have:=List.all_eq_true.1 ajk y (List.mem_range.2 h)
 cases hb:HO[y]? with
 | none=>rw[hb] at this;cases this
 | some b=>
  rw[hb] at this
  simp only[Bool.and_eq_true,Bool.or_eq_true,decide_eq_true_eq] at this
  refine ⟨b,rfl,this.1,fun hy=> ?_⟩
  rcases this.2 with h2|h2
  ·have:=Nat.eq_of_beq_eq_true h2;omega
  ·exact h2
theorem NO {y t k:Nat} (h:2^(t-1)≤y/2^k) (ht:1≤t):2^(t+k-1)≤y:=by
 have e:t+k-1=(t-1)+k:=by omega
 rw[e,Nat.pow_add]
 exact Nat.le_trans (Nat.mul_le_mul_right _ h) (Nat.div_mul_le_self _ _)
noncomputable def yJ (y n:Int):Option (List V):=
(bif decide ((y:Int)≥256) then
    (bif decide (0≤(IntKind.wrap .u8 (Int.fdiv y (2^(min (8:Int).toNat (IntKind.bits .u64)))))) then (([0,1,2,2,3,3,3,3,4,4,4,4,4,4,4,4,5,5,5,5,5,5,5,5,5,5,5,5,5,5,5,5,6,6,6,6,6,6,6,6,6,6,6,6,6,6,6,6,6,6,6,6,6,6,6,6,6,6,6,6,6,6,6,6,7,7,7,7,7,7,7,7,7,7,7,7,7,7,7,7,7,7,7,7,7,7,7,7,7,7,7,7,7,7,7,7,7,7,7,7,7,7,7,7,7,7,7,7,7,7,7,7,7,7,7,7,7,7,7,7,7,7,7,7,7,7,7,7,8,8,8,8,8,8,8,8,8,8,8,8,8,8,8,8,8,8,8,8,8,8,8,8,8,8,8,8,8,8,8,8,8,8,8,8,8,8,8,8,8,8,8,8,8,8,8,8,8,8,8,8,8,8,8,8,8,8,8,8,8,8,8,8,8,8,8,8,8,8,8,8,8,8,8,8,8,8,8,8,8,8,8,8,8,8,8,8,8,8,8,8,8,8,8,8,8,8,8,8,8,8,8,8,8,8,8,8,8,8,8,8,8,8,8,8,8,8,8,8,8,8,8,8,8,8,8,8]:List UInt8)[(IntKind.wrap .u8 (Int.fdiv y (2^(min (8:Int).toNat (IntKind.bits .u64)))):Int).toNat]?).map fun b=>V.int .u8 b.toNat else none).bind fun x5=>
    some [V.int .i64 (IntKind.wrap .i64 ((IntKind.wrap .i64 (n+8))+(IntKind.wrap .i64 x5.toInt)))]
   else
    (bif decide (0≤(IntKind.wrap .u8 y)) then (([0,1,2,2,3,3,3,3,4,4,4,4,4,4,4,4,5,5,5,5,5,5,5,5,5,5,5,5,5,5,5,5,6,6,6,6,6,6,6,6,6,6,6,6,6,6,6,6,6,6,6,6,6,6,6,6,6,6,6,6,6,6,6,6,7,7,7,7,7,7,7,7,7,7,7,7,7,7,7,7,7,7,7,7,7,7,7,7,7,7,7,7,7,7,7,7,7,7,7,7,7,7,7,7,7,7,7,7,7,7,7,7,7,7,7,7,7,7,7,7,7,7,7,7,7,7,7,7,8,8,8,8,8,8,8,8,8,8,8,8,8,8,8,8,8,8,8,8,8,8,8,8,8,8,8,8,8,8,8,8,8,8,8,8,8,8,8,8,8,8,8,8,8,8,8,8,8,8,8,8,8,8,8,8,8,8,8,8,8,8,8,8,8,8,8,8,8,8,8,8,8,8,8,8,8,8,8,8,8,8,8,8,8,8,8,8,8,8,8,8,8,8,8,8,8,8,8,8,8,8,8,8,8,8,8,8,8,8,8,8,8,8,8,8,8,8,8,8,8,8,8,8,8,8,8,8]:List UInt8)[(IntKind.wrap .u8 y:Int).toNat]?).map fun b=>V.int .u8 b.toNat else none).bind fun x6=>
    some [V.int .i64 (IntKind.wrap .i64 (n+(IntKind.wrap .i64 x6.toInt)))])
theorem ajl {x:Nat} (h:x<2^64): ∃L:Nat,CC FB [.int .u64 (x:Int)]=some [.int .i64 (L:Int)]∧L≤64∧(0<x→1≤L∧2^(L-1)≤x):=by
 have last: ∀y n:Nat,y<65536→n≤48→∃t:Nat,
   yJ (y:Int) (n:Int)=some [V.int .i64 ((n+t:Nat):Int)]∧t≤16∧(0<y→1≤t∧2^(t-1)≤y):=by
  intro y n hy hn
  unfold yJ
  rw[show ([0,1,2,2,3,3,3,3,4,4,4,4,4,4,4,4,5,5,5,5,5,5,5,5,5,5,5,5,5,5,5,5,6,6,6,6,6,6,6,6,6,6,6,6,6,6,6,6,6,6,6,6,6,6,6,6,6,6,6,6,6,6,6,6,7,7,7,7,7,7,7,7,7,7,7,7,7,7,7,7,7,7,7,7,7,7,7,7,7,7,7,7,7,7,7,7,7,7,7,7,7,7,7,7,7,7,7,7,7,7,7,7,7,7,7,7,7,7,7,7,7,7,7,7,7,7,7,7,8,8,8,8,8,8,8,8,8,8,8,8,8,8,8,8,8,8,8,8,8,8,8,8,8,8,8,8,8,8,8,8,8,8,8,8,8,8,8,8,8,8,8,8,8,8,8,8,8,8,8,8,8,8,8,8,8,8,8,8,8,8,8,8,8,8,8,8,8,8,8,8,8,8,8,8,8,8,8,8,8,8,8,8,8,8,8,8,8,8,8,8,8,8,8,8,8,8,8,8,8,8,8,8,8,8,8,8,8,8,8,8,8,8,8,8,8,8,8,8,8,8,8,8,8,8,8,8]:List UInt8)=HO from rfl]
  by_cases h1:y≥256
  ·have e:Int.fdiv (y:Int) (2^(min (8:Int).toNat (IntKind.bits .u64)))=((y/2^8:Nat):Int):=F9 (m:=8) (by omega)
   obtain ⟨b,hb,b1,b2⟩:=XR (y:=y/2^8) (by omega)
   refine ⟨b.toNat+8,?_,by omega,fun _=> ?_⟩
   ·rw[e,aE,if_pos (by omega),Kf (by omega) (by omega),aE,if_pos (by omega),Int.toNat_natCast,hb]
    simp only[Option.map_some,Option.bind_some,V.toInt_int]
    simp (disch:=omega) only[wrap64]
    congr 3
    omega
   ·obtain ⟨b3,b4⟩:=b2 (by omega)
    exact ⟨by omega,NO b4 b3⟩
  ·obtain ⟨b,hb,b1,b2⟩:=XR (y:=y) (by omega)
   refine ⟨b.toNat,?_,by omega,b2⟩
   rw[aE,if_neg (by omega),Kf (by omega) (by omega),aE,if_pos (by omega),Int.toNat_natCast,hb]
   simp (disch:=omega) only[Option.map_some,Option.bind_some,V.toInt_int,wrap64]
   congr 3
 have mid: ∀y n:Nat,y<4294967296→n≤32→∃t:Nat,∀F:Int→Int→Option (List V),
   (∀y n:Nat,y<65536→n≤48→∃t:Nat,F (y:Int) (n:Int)=some [V.int .i64 ((n+t:Nat):Int)]∧t≤16∧(0<y→1≤t∧2^(t-1)≤y))→
   ∃t:Nat,vK CC (y:Int) (n:Int) (decide (((y:Int):Int)≥65536)) (un F)=some [V.int .i64 ((n+t:Nat):Int)]∧t≤32∧(0<y→1≤t∧2^(t-1)≤y):=by
  intro y n hy hn
  refine ⟨0,fun F hF=> ?_⟩
  unfold vK
  by_cases h1:y≥65536
  ·have e:Int.fdiv (y:Int) (2^(min (16:Int).toNat (IntKind.bits .u64)))=((y/2^16:Nat):Int):=F9 (m:=16) (by omega)
   rw[aE,if_pos (by omega),e,wrap64 (by omega) (by omega)]
   obtain ⟨t,h2,h3,h4⟩:=hF (y/2^16) (n+16) (by omega) (by omega)
   refine ⟨t+16,?_,by omega,fun _=> ?_⟩
   ·rw[show ((n:Int)+16)=((n+16:Nat):Int) by omega]
    simp only[un]
    rw[h2]
    congr 3
    omega
   ·obtain ⟨b3,b4⟩:=h4 (by omega)
    exact ⟨by omega,NO b4 b3⟩
  ·rw[aE,if_neg (by omega)]
   obtain ⟨t,h2,h3,h4⟩:=hF y n (by omega) (by omega)
   exact ⟨t,h2,by omega,h4⟩
 by_cases h1:x≥4294967296
 ·have e:Int.fdiv (x:Int) (2^(min (32:Int).toNat (IntKind.bits .u64)))=((x/2^32:Nat):Int):=F9 (m:=32) (by omega)
  obtain ⟨_,hm⟩:=mid (x/2^32) 32 (by omega) (by omega)
  obtain ⟨t,h2,h3,h4⟩:=hm yJ last
  refine ⟨32+t,XJ ?_,by omega,fun _=> ?_⟩
  ·show vJ CC (x:Int) 0 (decide (((x:Int):Int)≥4294967296)) (un fun (fi:Int) (eV:Int)=>vK CC fi eV (decide ((fi:Int)≥65536)) (un yJ))=_
   unfold vJ
   rw[aE,if_pos (by omega),e]
   exact h2
  ·obtain ⟨b3,b4⟩:=h4 (by omega)
   rw[Nat.add_comm 32 t]
   exact ⟨by omega,NO b4 b3⟩
 ·obtain ⟨_,hm⟩:=mid x 0 (by omega) (by omega)
  obtain ⟨t,h2,h3,h4⟩:=hm yJ last
  refine ⟨t,XJ ?_,by omega,h4⟩
  show vJ CC (x:Int) 0 (decide (((x:Int):Int)≥4294967296)) (un fun (fi:Int) (eV:Int)=>vK CC fi eV (decide ((fi:Int)≥65536)) (un yJ))=_
  unfold vJ
  rw[aE,if_neg (by omega)]
  rw[Nat.zero_add] at h2
  exact h2
theorem XS {x:Nat} (h:x<2^64): ∃L:Nat,CC AE [.int .u64 (x:Int)]=some [.int .i64 (L:Int)]∧L≤64∧(0<x→1≤L∧2^(L-1)≤x):=by
 obtain ⟨L,h1,h2⟩:=ajl h
 refine ⟨L,ai7 ?_,h2⟩
 unfold XG
 rw[h1]
 rfl
theorem ajm {x:Nat} (h0:0<x) (h:x<1152921504606846976): ∃M:Nat,CC FD [.int .i64 (x:Int)]=some [.int .u64 (M:Int)]∧1≤M∧M≤2*x:=by
 obtain ⟨L,h1,h2,h3⟩:=XS (x:=x) (by omega)
 obtain ⟨h4,h5⟩:=h3 h0
 have e:2^L=2*2^(L-1):=by
  obtain ⟨k,rfl⟩: ∃k,L=k+1:=⟨L-1,by omega⟩
  rw[Nat.pow_succ];simp only[Nat.add_sub_cancel];omega
 have hL:L<64:=by
  by_cases hx:L<64
  ·exact hx
  ·have:2^63≤2^(L-1):=Nat.pow_le_pow_right (by omega) (by omega)
   omega
 refine ⟨2^L,ai6 ?_,Nat.pos_of_ne_zero (by simp),by omega⟩
 unfold XF
 rw[s9 (A:=x) (by omega),h1]
 simp only[Option.bind_some,V.cu,V.toInt_int]
 rw[aE,if_pos (by omega),Int.toNat_natCast,F8 hL]
theorem ajn (r:Int): ∃R:Nat,CC FE [.int .u64 r]=some [.int .u64 (R:Int),.int .u64 (R:Int)]∧R<2^64:=by
 have h: ∀n:Int,∃R:Nat,IntKind.wrap .u64 n=(R:Int)∧R<2^64:=fun n=>⟨(IntKind.wrap .u64 n).toNat,by rw[wrap_u64];omega,by rw[wrap_u64];omega⟩
 obtain ⟨R,h1,h2⟩:=h _
 exact ⟨R,ai5 (by unfold XE;rw[h1]),h2⟩
theorem HP {d:Array Ed} {i:Nat} (h:i<d.size):idx (eA d) (i:Int)=some (d[i]!).enc:=by rw[E5,gj h]
theorem NQ {d:Array Ed} {a b:Nat} {s:Int} (ha:a<d.size) (hb:b<d.size): ∃(x y:Nat) (s':Int),CC AO [.list ar (eA d),.int .i64 (a:Int),.int .i64 (b:Int),.int .i64 s]=some [.int .i64 (x:Int),.int .i64 (y:Int),.int .i64 s']∧(x=a∧y=b∨x=b∧y=a):=by
 by_cases h:bR d[b]! d[a]! <0
 ·refine ⟨b,a,_,Xz (by unfold NL;rw[HP hb,HP ha];simp only[Option.bind_some,Ed.dB,Ed.dC,Ed.dD,gG,V.cu,V.toInt_int];rw[aE,if_pos h]),.inr ⟨rfl,rfl⟩⟩
 ·refine ⟨a,b,_,Xz (by unfold NL;rw[HP hb,HP ha];simp only[Option.bind_some,Ed.dB,Ed.dC,Ed.dD,gG,V.cu,V.toInt_int];rw[aE,if_neg h]),.inl ⟨rfl,rfl⟩⟩
theorem NR {d:Array Ed} {a b c:Nat} {s:Int} (ha:a<d.size) (hb:b<d.size) (hc:c<d.size): ∃(m:Nat) (s':Int),CC FI [.list ar (eA d),.int .i64 (a:Int),.int .i64 (b:Int),.int .i64 (c:Int),.int .i64 s]=some [.int .i64 (m:Int),.int .i64 s']∧(m=a∨m=b∨m=c):=by
 obtain ⟨x1,y1,s1,e1,o1⟩:=NQ (s:=s) ha hb
 obtain ⟨x2,y2,s2,e2,o2⟩:=NQ (d:=d) (a:=y1) (b:=c) (s:=s1) (by omega) hc
 obtain ⟨x3,y3,s3,e3,o3⟩:=NQ (d:=d) (a:=x1) (b:=x2) (s:=s2) (by omega) (by omega)
 refine ⟨y3,s3,ai0 ?_,by omega⟩
 unfold Xy
 rw[e1]
 simp only[Option.bind_some,V.cu,V.qR,V.toInt_int,List.drop_succ_cons,List.drop_zero]
 rw[e2]
 simp only[Option.bind_some,V.cu,V.qR,V.toInt_int,List.drop_succ_cons,List.drop_zero]
 rw[e3]
 rfl
theorem NS {d:Array Ed} {a:Nat} {s:Int} (h1:1≤a) (ha:a+1<d.size) (hs:d.size<1152921504606846976): ∃(m:Nat) (s':Int),CC AN [.list ar (eA d),.int .i64 (a:Int),.int .i64 s]=some [.int .i64 (m:Int),.int .i64 s']∧a≤m+1∧m≤a+1:=by
 obtain ⟨m,s',e,o⟩:=NR (d:=d) (a:=a-1) (b:=a) (c:=a+1) (s:=s) (by omega) (by omega) (by omega)
 refine ⟨m,s',ai1 ?_,by omega,by omega⟩
 unfold XA
 simp (disch:=omega) only[ko,dV,wrap64]
 rw[e]
 rfl
theorem NT (n:Nat):Int.tdiv (n:Int) 4=((n/4:Nat):Int):=by
 have:=divC n 4
 exact this
theorem mulC (k n:Nat):((k:Nat):Int)*(n:Int)=((k*n:Nat):Int):=(Int.natCast_mul k n).symm
theorem ajo {d:Array Ed} {a b:Nat} (fZ:a+12<b) (hb:b≤d.size) (hs:d.size<1152921504606846976): ∃(p:Nat) (h:Int),CC FH [.list ar (eA d),.int .i64 (a:Int),.int .i64 (b:Int)]=some [.int .i64 (p:Int),.int .i64 h]∧a≤p∧p<b:=by
 have fin: ∀(p:Nat) (s:Int),∃h:Int,(bif (s:Int)==0 then some [V.int .i64 (p:Int),V.int .i64 1] else bif (s:Int)==12 then some [V.int .i64 (p:Int),V.int .i64 2] else some [V.int .i64 (p:Int),V.int .i64 0])=some [V.int .i64 (p:Int),V.int .i64 h]:=by
  intro p s
  rw[qS]
  split
  ·exact ⟨1,rfl⟩
  ·rw[qS]
   split
   ·exact ⟨2,rfl⟩
   ·exact ⟨0,rfl⟩
 have e1:IntKind.wrap .i64 ((b:Int)-(a:Int))=((b-a:Nat):Int):=by rw[mV (by omega),wrap64 (by omega) (by omega)]
 have e2:IntKind.wrap .i64 (Int.tdiv ((b-a:Nat):Int) 4)=(((b-a)/4:Nat):Int):=by rw[NT,wrap64 (by omega) (by omega)]
 have e3: ∀k:Nat,k≤3→IntKind.wrap .i64 ((a:Int)+IntKind.wrap .i64 ((k:Int)*(((b-a)/4:Nat):Int)))=((a+k*((b-a)/4):Nat):Int):=by
  intro k hk
  have sU:k*((b-a)/4)≤3*((b-a)/4):=Nat.mul_le_mul_right _ hk
  simp (disch:=omega) only[mulC,wrap64,gk]
 have NU:=e3 1 (by omega)
 have tx:=e3 2 (by omega)
 have NV:=e3 3 (by omega)
 rw[show ((1:Nat):Int)=1 from rfl] at NU
 rw[show ((2:Nat):Int)=2 from rfl] at tx
 rw[show ((3:Nat):Int)=3 from rfl] at NV
 by_cases h50:b-a≥50
 ·obtain ⟨m1,s1,q1,r1⟩:=NS (d:=d) (a:=a+1*((b-a)/4)) (s:=0) (by omega) (by omega) hs
  obtain ⟨m2,s2,q2,r2⟩:=NS (d:=d) (a:=a+2*((b-a)/4)) (s:=s1) (by omega) (by omega) hs
  obtain ⟨m3,s3,q3,r3⟩:=NS (d:=d) (a:=a+3*((b-a)/4)) (s:=s2) (by omega) (by omega) hs
  obtain ⟨m,s,q,r⟩:=NR (d:=d) (a:=m1) (b:=m2) (c:=m3) (s:=s3) (by omega) (by omega) (by omega)
  obtain ⟨h,hf⟩:=fin m s
  refine ⟨m,h,Xx ?_,by omega,by omega⟩
  unfold NJ CS CR
  rw[e1,e2,NU,tx,NV,nP (by omega),cond_true,nP (by omega),cond_true,q1]
  simp only[Option.bind_some,V.cu,V.qR,V.toInt_int,List.drop_succ_cons,List.drop_zero]
  rw[q2]
  simp only[Option.bind_some,V.cu,V.qR,V.toInt_int,List.drop_succ_cons,List.drop_zero]
  rw[q3]
  simp only[Option.bind_some,V.cu,V.qR,V.toInt_int,List.drop_succ_cons,List.drop_zero,un]
  rw[q]
  exact hf
 ·obtain ⟨m,s,q,r⟩:=NR (d:=d) (a:=a+1*((b-a)/4)) (b:=a+2*((b-a)/4)) (c:=a+3*((b-a)/4)) (s:=0) (by omega) (by omega) (by omega)
  obtain ⟨h,hf⟩:=fin m s
  refine ⟨m,h,Xx ?_,by omega,by omega⟩
  unfold NJ CS CR
  rw[e1,e2,NU,tx,NV,nP (by omega),cond_true,tn (by omega),cond_false]
  simp only[un]
  rw[q]
  exact hf
theorem ajp {a b M:Nat} (hM1:1≤M) (hM:M≤2*(b-a)) (h8:8≤b-a) (hB:b<1152921504606846976): ∀(n i:Nat) (d:Array Ed) (r:Int),a+2*((b-a)/4)+2-i=n→a≤i→b≤d.size→d.size<1152921504606846976→
  ∃x y z R,Loop (HL CC a (b-a:Nat) M) ((i:Int),eA d,r)=some (x,y,eA R,z)∧PermIn a b d R:=by
 have e2:IntKind.wrap .i64 (Int.tdiv ((b-a:Nat):Int) 4)=(((b-a)/4:Nat):Int):=by rw[NT,wrap64 (by omega) (by omega)]
 have tx:IntKind.wrap .i64 ((a:Int)+IntKind.wrap .i64 (2*(((b-a)/4:Nat):Int)))=((a+2*((b-a)/4):Nat):Int):=by
  have:=mulC 2 ((b-a)/4)
  rw[show ((2:Nat):Int)=2 from rfl] at this
  rw[this]
  simp (disch:=omega) only[wrap64,gk]
 intro n
 induction n with
 | zero=>
  intro i d r hn hi hb hs
  refine ⟨(i:Int),false,r,d,ca ?_,permIn_refl _ _ _⟩
  simp only[HL,CU,un]
  rw[e2,tx,dV,wrap64 (by omega) (by omega),tn (by omega),cond_false]
 | succ n ih=>
  intro i d r hn hi hb hs
  obtain ⟨R1,q1,q2⟩:=ajn r
  obtain ⟨o,ho,nj⟩: ∃o:Nat,(o=if R1&&&(M-1)≥b-a then (R1&&&(M-1))-(b-a) else R1&&&(M-1))∧o<b-a:=by
   refine ⟨_,rfl,?_⟩
   have:R1&&&(M-1)≤M-1:=Nat.and_le_right
   split<;>omega
  have hand:R1&&&(M-1)≤M-1:=Nat.and_le_right
  have hP:=swp_permIn (α:=Ed) d a b i (a+o) hi (by omega) (by omega) (by omega) hb
  obtain ⟨x,y,z,R,e,hR⟩:=ih (i+1) (swp d i (a+o)) (R1:Int) (by omega) (by omega) (by rw[size_swp];exact hb) (by rw[size_swp];exact hs)
  refine ⟨x,y,z,R,(eg ?_).trans e,permIn_trans _ _ _ a b hP hR⟩
  simp only[HL,CU,un]
  rw[e2,tx,dV,wrap64 (x:=((a+2*((b-a)/4)+1:Nat):Int)) (by omega) (by omega),nP (by omega),cond_true,q1]
  simp only[Option.bind_some,V.cu,V.qR,V.toInt_int,List.drop_succ_cons,List.drop_zero]
  have e5:IntKind.wrap .u64 ((M:Int)-1)=((M-1:Nat):Int):=by rw[ko hM1,s9 (by omega)]
  rw[e5,u64_and q2 (by omega),wrap64 (x:=((R1&&&(M-1):Nat):Int)) (by omega) (by omega)]
  have fin: ∀k:Int,k=(o:Int)→(bif (decide (0≤(IntKind.wrap .i64 ((a:Int)+k))))&&(decide ((IntKind.wrap .i64 ((a:Int)+k))<((eA d).length:Int))) then
   ((eA d)[(IntKind.wrap .i64 ((a:Int)+k):Int).toNat]?).bind fun x4=>
   bif (decide (0≤(i:Int)))&&(decide ((i:Int)<((eA d).length:Int))) then
    ((eA d)[((i:Int):Int).toNat]?).bind fun x5=>
    bif (decide (0≤(i:Int)))&&(decide ((i:Int)<((eA d).length:Int))) then
    ((eA d)[((i:Int):Int).toNat]?).bind fun x6=>
    bif (decide (0≤(IntKind.wrap .i64 ((a:Int)+k))))&&(decide ((IntKind.wrap .i64 ((a:Int)+k))<(((eA d).set (((i:Int):Int).toNat) (.agg [.int .i64 ((x4.cell 0).toInt),.int .i64 ((x4.cell 1).toInt),.int .i64 ((x4.cell 2).toInt)])).length:Int))) then
     (((eA d).set (((i:Int):Int).toNat) (.agg [.int .i64 ((x4.cell 0).toInt),.int .i64 ((x4.cell 1).toInt),.int .i64 ((x4.cell 2).toInt)]))[(IntKind.wrap .i64 ((a:Int)+k):Int).toNat]?).bind fun x7=>
     some (.inl (IntKind.wrap .i64 ((i:Int)+1),((eA d).set (((i:Int):Int).toNat) (.agg [.int .i64 ((x4.cell 0).toInt),.int .i64 ((x4.cell 1).toInt),.int .i64 ((x4.cell 2).toInt)])).set ((IntKind.wrap .i64 ((a:Int)+k):Int).toNat) (.agg [.int .i64 ((x5.cell 0).toInt),.int .i64 ((x5.cell 1).toInt),.int .i64 ((x5.cell 2).toInt)]),(R1:Int)))
    else none
    else none
   else none
   else none:Option ((Int × List V × Int) ⊕ (Int × Bool × List V × Int)))=some (.inl (((i+1:Nat):Int),eA (swp d i (a+o)),(R1:Int))):=by
   intro k hk
   subst hk
   simp (disch:=omega) only[aE,ed,gS,if_pos,if_neg,wrap64,dV,gk,Int.toNat_natCast,Option.bind_some,gh,gj,Ed.dB,Ed.dC,Ed.dD,Ed.re,gi,iy,Array.size_setIfInBounds,gG,V.cu,V.toInt_int,cond_true,cond_false]
   rfl
  unfold HK
  by_cases h:R1&&&(M-1)≥b-a
  ·rw[if_pos h] at ho
   rw[nP (by omega),cond_true]
   exact fin _ (by rw[mV (by omega),wrap64 (by omega) (by omega)];omega)
  ·rw[if_neg h] at ho
   rw[tn (by omega),cond_false]
   exact fin _ (by omega)
theorem ajq {a b:Nat} {d:Array Ed} (fZ:a+12<b) (hb:b≤d.size) (hs:d.size<1152921504606846976): ∃R,CC Ky [.int .i64 (a:Int),.int .i64 (b:Int),.list ar (eA d)]=some [.list ar (eA R)]∧PermIn a b d R:=by
 obtain ⟨M,q1,q2,q3⟩:=ajm (x:=b-a) (by omega) (by omega)
 have e1:IntKind.wrap .i64 ((b:Int)-(a:Int))=((b-a:Nat):Int):=by rw[mV (by omega),wrap64 (by omega) (by omega)]
 have e2:IntKind.wrap .i64 (Int.tdiv ((b-a:Nat):Int) 4)=(((b-a)/4:Nat):Int):=by rw[NT,wrap64 (by omega) (by omega)]
 have tx:IntKind.wrap .i64 ((a:Int)+IntKind.wrap .i64 (2*(((b-a)/4:Nat):Int)))=((a+2*((b-a)/4):Nat):Int):=by
  have:=mulC 2 ((b-a)/4)
  rw[show ((2:Nat):Int)=2 from rfl] at this
  rw[this]
  simp (disch:=omega) only[wrap64,gk]
 obtain ⟨x,y,z,R,e,hR⟩:=ajp (a:=a) (b:=b) (M:=M) q2 q3 (by omega) (by omega) _ (a+2*((b-a)/4)-1) d (IntKind.wrap .u64 ((b-a:Nat):Int)) rfl (by omega) hb hs
 refine ⟨R,ai4 ?_,hR⟩
 unfold XD
 rw[e1,aE,if_pos (by omega),q1]
 simp only[Option.bind_some,V.cu,V.toInt_int]
 rw[e2,tx,ko (by omega),wrap64 (x:=((a+2*((b-a)/4)-1:Nat):Int)) (by omega) (by omega),e]
 rfl
noncomputable def tz (C:ae) (a b':Int) (e7 ft:Bool) (cJ dW:Int) (mX:List V) {β:Type} (kn:(Int × Int × Int × Bool × Bool × (List V))→Option β):Option β:=
      bif decide ((a:Int)>0) then
       bif (decide (0≤(IntKind.wrap .i64 (a-1))))&&(decide ((IntKind.wrap .i64 (a-1))<(mX.length:Int))) then
       (mX[(IntKind.wrap .i64 (a-1):Int).toNat]?).bind fun gW=>
       bif (decide (0≤dW))&&(decide (dW<(mX.length:Int))) then
        (mX[(dW:Int).toNat]?).bind fun lY=>
        (C bj [.int .i64 ((gW.cell 0).toInt),.int .i64 ((gW.cell 1).toInt),.int .i64 ((gW.cell 2).toInt),.int .i64 ((lY.cell 0).toInt),.int .i64 ((lY.cell 1).toInt),.int .i64 ((lY.cell 2).toInt)]).bind fun eH=>
        bif !(decide ((((V.nth eH 0).toInt):Int)<0)) then
        (C xp [.int .i64 a,.int .i64 b',.int .i64 dW,.list ar mX]).bind fun fQ=>
        kn ((V.nth fQ 0).toInt,b',cJ,e7,ft,(V.nth (fQ.drop 1) 0).toList)
        else
        (C oJ [.int .i64 a,.int .i64 b',.int .i64 dW,.list ar mX]).bind fun dG=>
        bif decide (((IntKind.wrap .i64 (((V.nth dG 0).toInt)-a)):Int)<(IntKind.wrap .i64 (b'-((V.nth dG 0).toInt)))) then
         (C gT [.int .i64 a,.int .i64 ((V.nth dG 0).toInt),.int .i64 cJ,.list ar ((V.nth (dG.drop 2) 0).toList)]).bind fun jt=>
         kn (IntKind.wrap .i64 (((V.nth dG 0).toInt)+1),b',cJ,decide (((IntKind.wrap .i64 (((V.nth dG 0).toInt)-a)):Int)≥(IntKind.wrap .i64 (Int.tdiv (IntKind.wrap .i64 (b'-a)) 8))),(V.nth (dG.drop 1) 0).toBool,(V.nth jt 0).toList)
        else
         (C gT [.int .i64 (IntKind.wrap .i64 (((V.nth dG 0).toInt)+1)),.int .i64 b',.int .i64 cJ,.list ar ((V.nth (dG.drop 2) 0).toList)]).bind fun dk=>
         kn (a,(V.nth dG 0).toInt,cJ,decide (((IntKind.wrap .i64 (b'-((V.nth dG 0).toInt))):Int)≥(IntKind.wrap .i64 (Int.tdiv (IntKind.wrap .i64 (b'-a)) 8))),(V.nth (dG.drop 1) 0).toBool,(V.nth dk 0).toList)
       else none
       else none
      else
       (C oJ [.int .i64 a,.int .i64 b',.int .i64 dW,.list ar mX]).bind fun fD=>
       bif decide (((IntKind.wrap .i64 (((V.nth fD 0).toInt)-a)):Int)<(IntKind.wrap .i64 (b'-((V.nth fD 0).toInt)))) then
       (C gT [.int .i64 a,.int .i64 ((V.nth fD 0).toInt),.int .i64 cJ,.list ar ((V.nth (fD.drop 2) 0).toList)]).bind fun oW=>
       kn (IntKind.wrap .i64 (((V.nth fD 0).toInt)+1),b',cJ,decide (((IntKind.wrap .i64 (((V.nth fD 0).toInt)-a)):Int)≥(IntKind.wrap .i64 (Int.tdiv (IntKind.wrap .i64 (b'-a)) 8))),(V.nth (fD.drop 1) 0).toBool,(V.nth oW 0).toList)
       else
       (C gT [.int .i64 (IntKind.wrap .i64 (((V.nth fD 0).toInt)+1)),.int .i64 b',.int .i64 cJ,.list ar ((V.nth (fD.drop 2) 0).toList)]).bind fun jr=>
       kn (a,(V.nth fD 0).toInt,cJ,decide (((IntKind.wrap .i64 (b'-((V.nth fD 0).toInt))):Int)≥(IntKind.wrap .i64 (Int.tdiv (IntKind.wrap .i64 (b'-a)) 8))),(V.nth (fD.drop 1) 0).toBool,(V.nth jr 0).toList)
theorem HQ (C:ae) (a b' js:Int) (e7 ft:Bool) (af:List V) {β:Type} (kn:(Int × Int × Int × Bool × Bool × (List V))→Option β) (kr:(List V)→Option β):
  p8 C a b' js e7 ft af kn kr=
 bif decide (((IntKind.wrap .i64 (b'-a)):Int)≤12) then
  (C FF [.int .i64 a,.int .i64 b',.list ar af]).bind fun r1=>
  kr ((V.nth r1 0).toList)
 else
  bif (js:Int)==0 then
  (C FG [.int .i64 a,.int .i64 b',.list ar af]).bind fun r2=>
  kr ((V.nth r2 0).toList)
  else
  yE C a b' js e7 ft (IntKind.wrap .i64 (b'-a)) (!e7) af (un fun (cJ:Int) (CW:List V)=>
   (C FH [.list ar CW,.int .i64 a,.int .i64 b']).bind fun r6=>
   yF C a b' cJ e7 ft (IntKind.wrap .i64 (b'-a)) ((V.nth r6 0).toInt) ((V.nth (r6.drop 1) 0).toInt) ((((V.nth (r6.drop 1) 0).toInt):Int)==2) CW (un fun (dW:Int)=>un fun (NM:Int) (oT:List V)=>
    bif e7 then
     bif ft then
     mZ C a b' cJ e7 ft (IntKind.wrap .i64 (b'-a)) dW ((NM:Int)==1) oT (dA (un fun (Vt:Bool) (NW:List V)=>
      kr NW) (fun (mX:List V)=>tz C a b' e7 ft cJ dW mX kn))
     else
     mZ C a b' cJ e7 ft (IntKind.wrap .i64 (b'-a)) dW false oT (dA (un fun (af6:Bool) (ajr:List V)=>
      kr ajr) (fun (ajs:List V)=>tz C a b' e7 ft cJ dW ajs kn))
    else
     mZ C a b' cJ e7 ft (IntKind.wrap .i64 (b'-a)) dW false oT (dA (un fun (alI:Bool) (ajt:List V)=>
      kr ajt) (fun (aju:List V)=>tz C a b' e7 ft cJ dW aju kn)))):=rfl
section
variable {a b:Nat} {lim:Int} {wb wp:Bool}
theorem ajv {d:Array Ed} (fZ:a+12<b) (hb:b≤d.size) (hs:d.size<1152921504606846976) (len:Int) (t:Bool): ∃(l1:Int) (d1:Array Ed),PermIn a b d d1∧∀(β:Type) (kr:(Int × List V)→Option β),yE CC a b lim wb wp len t (eA d) kr=kr (l1,eA d1):=by
 cases t with
 | true=>
  obtain ⟨R,e,hR⟩:=ajq fZ hb hs
  refine ⟨IntKind.wrap .i64 (lim-1),R,hR,fun β kr=> ?_⟩
  unfold yE
  rw[cond_true,e]
  rfl
 | false=>exact ⟨lim,d,permIn_refl _ _ _,fun β kr=>rfl⟩
theorem ajw {d:Array Ed} (fZ:a+12<b) (hb:b≤d.size) (hs:d.size<1152921504606846976) (len h:Int) (t:Bool) {p:Nat} (h1:a≤p) (h2:p<b): ∃(p2:Nat) (h2:Int) (d1:Array Ed),a≤p2∧p2<b∧PermIn a b d d1∧∀(β:Type) (kr:(Int × Int × List V)→Option β),yF CC a b lim wb wp len p h t (eA d) kr=kr ((p2:Int),h2,eA d1):=by
 cases t with
 | true=>
  refine ⟨b-1-(p-a),1,reverseRange d a b,by omega,by omega,reverseRange_holds d a b (by omega) hb,fun β kr=> ?_⟩
  unfold yF
  rw[cond_true,ain (by omega) hb hs]
  simp (disch:=omega) only[Option.bind_some,V.cu,V.pD,ko,mV,wrap64]
 | false=>exact ⟨p,h,d,h1,h2,permIn_refl _ _ _,fun β kr=>rfl⟩
theorem ajx {d:Array Ed} (fZ:a+12<b) (hb:b≤d.size) (hs:d.size<1152921504606846976) (hB:Below ax a b d) (len p:Int) (t:Bool): ∃d1:Array Ed,PermIn a b d d1∧
  ((∀(β:Type) (kr:((Bool × List V) ⊕ List V)→Option β),mZ CC a b lim wb wp len p t (eA d) kr=kr (.inr (eA d1)))∨
  (SortedIn ax a b d1∧∀(β:Type) (kr:((Bool × List V) ⊕ List V)→Option β),mZ CC a b lim wb wp len p t (eA d) kr=kr (.inl (true,eA d1)))):=by
 cases t with
 | true=>
  have hp:=partialInsertionSort_holds (lt:=ax) yI d a b (by omega) hb hB
  refine ⟨_,hp.1,?_⟩
  cases h:(partialInsertionSort ax d a b).2 with
  | true=>
   refine .inr ⟨hp.2 h,fun β kr=> ?_⟩
   unfold mZ
   rw[cond_true,Xt (by omega) hb hs,h]
   rfl
  | false=>
   refine .inl fun β kr=> ?_
   unfold mZ
   rw[cond_true,Xt (by omega) hb hs,h]
   rfl
 | false=>exact ⟨d,permIn_refl _ _ _,.inl fun β kr=>rfl⟩
end
def HR (a b:Nat) (d:Array Ed):Prop:= ∀(lim:Int) (wb wp:Bool),∃R,Loop (XM CC) ((a:Int),(b:Int),lim,wb,wp,eA d)=some (eA R)∧PermIn a b d R∧SortedIn ax a b R
theorem HR.call {a b:Nat} {d:Array Ed} (h:HR a b d) (lim:Int): ∃R,CC gT [.int .i64 (a:Int),.int .i64 (b:Int),.int .i64 lim,.list ar (eA d)]=some [.list ar (eA R)]∧PermIn a b d R∧SortedIn ax a b R:=by
 obtain ⟨R,e,h1,h2⟩:=h lim true true
 refine ⟨R,aji ?_,h1,h2⟩
 unfold XO
 rw[e]
 rfl
theorem ajy {a b p:Nat} {d:Array Ed} (fZ:a+12<b) (hb:b≤d.size) (hs:d.size<1152921504606846976) (hB:Below ax a b d) (h1:a≤p) (h2:p<b)
  (ih: ∀(a2 b2:Nat) (d2:Array Ed),b2-a2<b-a→a2≤b2→b2≤d2.size→d2.size<1152921504606846976→Below ax a2 b2 d2→HR a2 b2 d2) (wb wp:Bool) (lim:Int):
  ∃(a2 b2:Nat) (vM vN:Bool) (d2:Array Ed),b2-a2<b-a∧a2≤b2∧b2≤d2.size∧d2.size<1152921504606846976∧Below ax a2 b2 d2∧
   (∀R,PermIn a2 b2 d2 R→SortedIn ax a2 b2 R→PermIn a b d R∧SortedIn ax a b R)∧
   ∀(β:Type) (kn:(Int × Int × Int × Bool × Bool × (List V))→Option β),tz CC a b wb wp lim p (eA d) kn=kn ((a2:Int),(b2:Int),lim,vM,vN,eA d2):=by
 have part: ∃(a2 b2:Nat) (vM vN:Bool) (d2:Array Ed),b2-a2<b-a∧a2≤b2∧b2≤d2.size∧d2.size<1152921504606846976∧Below ax a2 b2 d2∧
   (∀R,PermIn a2 b2 d2 R→SortedIn ax a2 b2 R→PermIn a b d R∧SortedIn ax a b R)∧
   ∀(β:Type) (kn:(Int × Int × Int × Bool × Bool × (List V))→Option β),
    ((CC oJ [.int .i64 (a:Int),.int .i64 (b:Int),.int .i64 (p:Int),.list ar (eA d)]).bind fun dG=>
        bif decide (((IntKind.wrap .i64 (((V.nth dG 0).toInt)-(a:Int))):Int)<(IntKind.wrap .i64 ((b:Int)-((V.nth dG 0).toInt)))) then
         (CC gT [.int .i64 (a:Int),.int .i64 ((V.nth dG 0).toInt),.int .i64 lim,.list ar ((V.nth (dG.drop 2) 0).toList)]).bind fun jt=>
         kn (IntKind.wrap .i64 (((V.nth dG 0).toInt)+1),(b:Int),lim,decide (((IntKind.wrap .i64 (((V.nth dG 0).toInt)-(a:Int))):Int)≥(IntKind.wrap .i64 (Int.tdiv (IntKind.wrap .i64 ((b:Int)-(a:Int))) 8))),(V.nth (dG.drop 1) 0).toBool,(V.nth jt 0).toList)
        else
         (CC gT [.int .i64 (IntKind.wrap .i64 (((V.nth dG 0).toInt)+1)),.int .i64 (b:Int),.int .i64 lim,.list ar ((V.nth (dG.drop 2) 0).toList)]).bind fun dk=>
         kn ((a:Int),(V.nth dG 0).toInt,lim,decide (((IntKind.wrap .i64 ((b:Int)-((V.nth dG 0).toInt))):Int)≥(IntKind.wrap .i64 (Int.tdiv (IntKind.wrap .i64 ((b:Int)-(a:Int))) 8))),(V.nth (dG.drop 1) 0).toBool,(V.nth dk 0).toList))=kn ((a2:Int),(b2:Int),lim,vM,vN,eA d2):=by
  obtain ⟨mid,ap,d4,hx⟩: ∃mid ap d4,partition ax d a b p=(mid,ap,d4):=⟨_,_,_,rfl⟩
  obtain ⟨g1,g2,oX,hBa,hBr,ajz,ajA⟩:=round_part yI (partition_holds ax) h1 h2 hb hB hx
  have hc:=aiP (a:=a) (b:=b) (pivot:=p) (d:=d) h2 (by omega) hb hs
  rw[hx] at hc
  by_cases hl:mid-a<b-mid
  ·obtain ⟨L,e,l1,l2⟩:=(ih a mid d4 (by omega) g1 (by rw[oX];omega) (by rw[oX];exact hs) hBa).call lim
   obtain ⟨NX,nL⟩:=ajz _ l1 l2
   refine ⟨mid+1,b,decide (((IntKind.wrap .i64 ((mid:Int)-(a:Int))):Int)≥(IntKind.wrap .i64 (Int.tdiv (IntKind.wrap .i64 ((b:Int)-(a:Int))) 8))),ap,L,by omega,by omega,by rw[l1.1,oX];exact hb,by rw[l1.1,oX];exact hs,NX,nL,fun β kn=> ?_⟩
   ·rw[hc]
    simp only[Option.bind_some,V.cu,V.qR,V.toInt_int,V.oG,V.pD,List.drop_succ_cons,List.drop_zero]
    rw[aE,if_pos (by rw[mV g1,mV (by omega),wrap64 (by omega) (by omega),wrap64 (by omega) (by omega)];omega),e]
    simp only[Option.bind_some,V.cu,V.pD]
    rw[dV,wrap64 (x:=((mid+1:Nat):Int)) (by omega) (by omega)]
  ·obtain ⟨L,e,l1,l2⟩:=(ih (mid+1) b d4 (by omega) (by omega) (by rw[oX];exact hb) (by rw[oX];exact hs) hBr).call lim
   obtain ⟨NX,nL⟩:=ajA _ l1 l2
   refine ⟨a,mid,decide (((IntKind.wrap .i64 ((b:Int)-(mid:Int))):Int)≥(IntKind.wrap .i64 (Int.tdiv (IntKind.wrap .i64 ((b:Int)-(a:Int))) 8))),ap,L,by omega,by omega,by rw[l1.1,oX];omega,by rw[l1.1,oX];exact hs,NX,nL,fun β kn=> ?_⟩
   ·rw[hc]
    simp only[Option.bind_some,V.cu,V.qR,V.toInt_int,V.oG,V.pD,List.drop_succ_cons,List.drop_zero]
    rw[aE,if_neg (by rw[mV g1,mV (by omega),wrap64 (by omega) (by omega),wrap64 (by omega) (by omega)];omega),dV,wrap64 (x:=((mid+1:Nat):Int)) (by omega) (by omega),e]
    simp only[Option.bind_some,V.cu,V.pD]
 by_cases ha:0<a
 ·by_cases hc:bR d[a-1]! d[p]! <0
  ·obtain ⟨a2,b2,vM,vN,d2,q1,q2,q3,q4,q5,q6,q7⟩:=part
   refine ⟨a2,b2,vM,vN,d2,q1,q2,q3,q4,q5,q6,fun β kn=> ?_⟩
   rw[←q7 β kn]
   unfold tz
   rw[aE,if_pos (by omega),ko ha,wrap64 (by omega) (by omega),kq (i:=a-1) (by omega),ku (by omega),kq (i:=p) (by omega),ku (by omega)]
   simp only[Ed.dB,Ed.dC,Ed.dD,gG,Option.bind_some,V.cu,V.toInt_int]
   rw[gS,aE,if_pos hc]
  ·obtain ⟨mid,d4,hx⟩: ∃mid d4,partitionEqual ax d a b p=(mid,d4):=⟨_,_,rfl⟩
   obtain ⟨g1,oq,oX,hB4,nL⟩:=round_eq yI (partitionEqual_holds ax) ha h1 h2 hb hB (by rw[HN,←propext (Gc _ _)];exact hc) hx
   have he:=aiR (a:=a) (b:=b) (pivot:=p) (d:=d) h2 (by omega) hb hs
   rw[hx] at he
   refine ⟨mid,b,wb,wp,d4,by omega,oq,by rw[oX];exact hb,by rw[oX];exact hs,hB4,nL,fun β kn=> ?_⟩
   unfold tz
   rw[aE,if_pos (by omega),ko ha,wrap64 (by omega) (by omega),kq (i:=a-1) (by omega),ku (by omega),kq (i:=p) (by omega),ku (by omega)]
   simp only[Ed.dB,Ed.dC,Ed.dD,gG,Option.bind_some,V.cu,V.toInt_int]
   rw[gS,aE,if_neg hc,he]
   rfl
 ·obtain ⟨a2,b2,vM,vN,d2,q1,q2,q3,q4,q5,q6,q7⟩:=part
  refine ⟨a2,b2,vM,vN,d2,q1,q2,q3,q4,q5,q6,fun β kn=> ?_⟩
  rw[←q7 β kn]
  unfold tz
  rw[aE,if_neg (by omega)]
theorem ajB: ∀(n a b:Nat) (d:Array Ed),b-a≤n→a≤b→b≤d.size→d.size<1152921504606846976→Below ax a b d→HR a b d:=by
 intro n
 induction n with
 | zero=>
  intro a b d hn fZ hb hs hB lim wb wp
  have hi:=insertionSort_holds (lt:=ax) yI d a b fZ hb
  refine ⟨_,ca ?_,hi⟩
  show p8 CC a b lim wb wp (eA d) (fun y=>some (Sum.inl y)) (fun r=>some (Sum.inr r))=_
  rw[HQ,aE,if_pos (by rw[mV fZ,wrap64 (by omega) (by omega)];omega),Xc hb hs (by omega)]
  rfl
 | succ n ih=>
  intro a b d hn fZ hb hs hB lim wb wp
  by_cases h12:b-a≤12
  ·have hi:=insertionSort_holds (lt:=ax) yI d a b fZ hb
   refine ⟨_,ca ?_,hi⟩
   show p8 CC a b lim wb wp (eA d) (fun y=>some (Sum.inl y)) (fun r=>some (Sum.inr r))=_
   rw[HQ,aE,if_pos (by rw[mV fZ,wrap64 (by omega) (by omega)];omega),Xc hb hs (by omega)]
   rfl
  ·have CX:a+12<b:=by omega
   have sR: ¬(((IntKind.wrap .i64 ((b:Int)-(a:Int))):Int)≤12):=by rw[mV fZ,wrap64 (by omega) (by omega)];omega
   by_cases h0:lim=0
   ·have hi:=heapSort_holds (lt:=ax) yI d a b fZ hb
    refine ⟨_,ca ?_,hi⟩
    show p8 CC a b lim wb wp (eA d) (fun y=>some (Sum.inl y)) (fun r=>some (Sum.inr r))=_
    rw[HQ,aE,if_neg sR,qS,if_pos h0,ail (by omega) hb hs]
    rfl
   ·obtain ⟨l1,d1,s1,k1⟩:=ajv (lim:=lim) (wb:=wb) (wp:=wp) CX hb hs (IntKind.wrap .i64 ((b:Int)-(a:Int))) (!wb)
    have b1:b≤d1.size:=by rw[s1.1];exact hb
    have z1:d1.size<1152921504606846976:=by rw[s1.1];exact hs
    obtain ⟨p,h,c1,p1,p2⟩:=ajo CX b1 z1
    obtain ⟨q,h2,d2,q1,q2,s2,k2⟩:=ajw (lim:=l1) (wb:=wb) (wp:=wp) CX b1 z1 (IntKind.wrap .i64 ((b:Int)-(a:Int))) h (h==2) p1 p2
    have b2:b≤d2.size:=by rw[s2.1];exact b1
    have z2:d2.size<1152921504606846976:=by rw[s2.1];exact z1
    have B2:Below ax a b d2:=(hB.perm hb s1).perm b1 s2
    obtain ⟨t,ht⟩: ∃t:Bool,t=(bif wb then (bif wp then (h2==1) else false) else false):=⟨_,rfl⟩
    obtain ⟨d3,s3,k3⟩:=ajx (lim:=l1) (wb:=wb) (wp:=wp) CX b2 z2 B2 (IntKind.wrap .i64 ((b:Int)-(a:Int))) (q:Int) t
    have b3:b≤d3.size:=by rw[s3.1];exact b2
    have z3:d3.size<1152921504606846976:=by rw[s3.1];exact z2
    have B3:Below ax a b d3:=B2.perm b2 s3
    have P3:PermIn a b d d3:=permIn_trans _ _ _ a b (permIn_trans _ _ _ a b s1 s2) s3
    have step: ∀(β:Type) (kn:(Int × Int × Int × Bool × Bool × (List V))→Option β) (kr:(List V)→Option β),p8 CC a b lim wb wp (eA d) kn kr=
      mZ CC a b l1 wb wp (IntKind.wrap .i64 ((b:Int)-(a:Int))) (q:Int) t (eA d2) (dA (un fun (Vt:Bool) (NW:List V)=>kr NW) (fun (mX:List V)=>tz CC a b wb wp l1 q mX kn)):=by
     intro β kn kr
     rw[HQ,aE,if_neg sR,qS,if_neg h0,k1]
     simp only[un]
     rw[c1]
     simp only[Option.bind_some,V.cu,V.qR,V.toInt_int,List.drop_succ_cons,List.drop_zero]
     rw[k2]
     simp only[un]
     rw[ht]
     cases wb
     ·rfl
     ·cases wp
      ·rfl
      ·rfl
    rcases k3 with k3|⟨k3s,k3⟩
    ·obtain ⟨a4,b4,wb4,wp4,d4,r1,r2,r3,r4,r5,r6,r7⟩:=ajy CX b3 z3 B3 q1 q2 (fun a2 b2 d2 aM h1 h2 h3 h4=>ih a2 b2 d2 (by omega) h1 h2 h3 h4) wb wp l1
     obtain ⟨R,e,e1,e2⟩:=ih a4 b4 d4 (by omega) r2 r3 r4 r5 l1 wb4 wp4
     obtain ⟨f1,f2⟩:=r6 R e1 e2
     refine ⟨R,(eg ?_).trans e,permIn_trans _ _ _ a b P3 f1,f2⟩
     show p8 CC a b lim wb wp (eA d) (fun y=>some (Sum.inl y)) (fun r=>some (Sum.inr r))=_
     rw[step,k3]
     exact r7 _ (fun y=>some (Sum.inl y))
    ·refine ⟨d3,ca ?_,P3,k3s⟩
     show p8 CC a b lim wb wp (eA d) (fun y=>some (Sum.inl y)) (fun r=>some (Sum.inr r))=_
     rw[step,k3]
     rfl
theorem ajC (l:List Ed) (hs:l.length<1152921504606846976): ∃R:List Ed,CC Ay [.list ar (l.map Ed.enc)]=some [.list ar (R.map Ed.enc)]∧R.Perm l∧R.Pairwise (fun x y=> ¬y.lt x):=by
 obtain ⟨L,e1,_⟩:=XS (x:=l.length) (by omega)
 obtain ⟨R,e2,h1,h2⟩:=(ajB _ 0 l.toArray.size l.toArray (Nat.le_refl _) (Nat.zero_le _) (Nat.le_refl _) (by simpa using hs) (.inl rfl)).call (L:Int)
 have aU:R.size=l.length:=by rw[h1.1];simp
 refine ⟨R.toList,ajj ?_,?_,?_⟩
 ·unfold XP
  rw[List.length_map,s9 (A:=l.length) (by omega),e1]
  simp only[Option.bind_some,V.cu,V.toInt_int]
  have e3:eA l.toArray=l.map Ed.enc:=by simp[p5]
  rw[e3,show ((l.toArray.size:Nat):Int)=(l.length:Int) by simp,show ((0:Nat):Int)=0 from rfl] at e2
  rw[e2]
  rfl
 ·have h3:=h1.2.2
  rw[show l.toArray.size=R.size from h1.1.symm,Array.extract_size,h1.1,Array.extract_size] at h3
  exact h3
 ·rw[List.pairwise_iff_getElem]
  intro i j hi hj uv
  have h3:=h2 i j (Nat.zero_le _) uv (by simpa[←aU] using hj)
  rw[HN] at h3
  have dZ:i<R.size:=by simpa using hi
  have gA:j<R.size:=by simpa using hj
  rw[getElem!_pos R i dZ,getElem!_pos R j gA] at h3
  simpa using h3
end Go.AM.SL
set_option maxRecDepth 100000
namespace Go.AM
open Go.Proofs
noncomputable def XT (C:ae) (eN gd eV gE:Int) (ff:List V):Option (List V):=
 (C AB [.int .i64 eN,.int .i64 gd,.int .u64 eV,.int .u64 gE,.list ar ff]).bind fun r1=>
 bif (((V.nth (r1.drop 2) 0).toInt):Int) != 0 then
  some [.int .i64 0,.int .i64 0,.int .i64 ((V.nth (r1.drop 2) 0).toInt),.list ak ([]:List V),.list an ([]:List V)]
 else
  (C qW [.int .i64 ((V.nth r1 0).toInt),.int .i64 ((V.nth (r1.drop 1) 0).toInt),.list ak ((V.nth (r1.drop 3) 0).toList),.list an ((V.nth ((r1.drop 3).drop 1) 0).toList)]).bind fun r2=>
  some [.int .i64 ((V.nth r2 0).toInt),.int .i64 ((V.nth (r2.drop 1) 0).toInt),.int .i64 0,.list ak ((V.nth (r2.drop 2) 0).toList),.list an ((V.nth ((r2.drop 2).drop 1) 0).toList)]
theorem ajD {eN gd eV gE:Int} {ff:List V} {r:Option (List V)} (h:XT CC eN gd eV gE ff=r):CC Ax [.int .i64 eN,.int .i64 gd,.int .u64 eV,.int .u64 gE,.list ar ff]=r:=
 bh (key:=79) (L:=db) (bs:=[]) (by kernel_rfl) au (Eq.trans (by kernel_rfl) h)
noncomputable def NY (C:ae) (bm ba bp bq:Int) (aW:List V):Option (List V):=
 (C Ay [.list ar aW]).bind fun r1=>
 (C Fo [.list ar ((V.nth r1 0).toList)]).bind fun r2=>
 bif (V.nth r2 0).toBool then
  (C Ax [.int .i64 bm,.int .i64 ba,.int .u64 bp,.int .u64 bq,.list ar ((V.nth (r2.drop 1) 0).toList)]).bind fun r3=>
  some [.int .i64 ((V.nth r3 0).toInt),.int .i64 ((V.nth (r3.drop 1) 0).toInt),.int .i64 ((V.nth (r3.drop 2) 0).toInt),.int .i64 bm,.int .i64 ba,.int .u64 bp,.int .u64 bq,.list ar ((V.nth (r2.drop 1) 0).toList),.list ak ((V.nth (r3.drop 3) 0).toList),.list an ((V.nth ((r3.drop 3).drop 1) 0).toList)]
 else
  (C Ax [.int .i64 bm,.int .i64 ba,.int .u64 bp,.int .u64 bq,.list ar ((V.nth (r2.drop 1) 0).toList)]).bind fun r4=>
  some [.int .i64 ((V.nth r4 0).toInt),.int .i64 ((V.nth (r4.drop 1) 0).toInt),.int .i64 ((V.nth (r4.drop 2) 0).toInt),.int .i64 bm,.int .i64 ba,.int .u64 bp,.int .u64 bq,.list ar ((V.nth (r2.drop 1) 0).toList),.list ak ((V.nth (r4.drop 3) 0).toList),.list an ((V.nth ((r4.drop 3).drop 1) 0).toList)]
theorem XU {bm ba bp bq:Int} {aW:List V} {r:Option (List V)} (h:NY CC bm ba bp bq aW=r):CC qX [.int .i64 bm,.int .i64 ba,.int .u64 bp,.int .u64 bq,.list ar aW]=r:=
 bh (key:=65) (L:=db) (bs:=[]) (by kernel_rfl) au (Eq.trans (by kernel_rfl) h)
section
variable {n:Nf} {L S:Nat} (h:Nat6 n L S)
include h
end
instance (n:Nf) (L S:Nat):Decidable (iw n L S):=by unfold iw;infer_instance
noncomputable def fR (n:Nf) (L S:Nat):Da:=if iw n L S then zD else minD (iW n L S)
def n7 (n:Nf) (L S:Nat):Int:=if iw n L S then 3 else 0
section
variable {n:Nf} {L S:Nat} (h:Nat6 n L S)
include h
theorem XV:CC Ax (mJ n [])=some (gf (fR n L S) (n7 n L S)):=by
 refine ajD ?_
 unfold XT fR n7
 by_cases ho:iw n L S
 ·obtain ⟨X,hX⟩:=ag2 h ho
  rw[if_pos ho,if_pos ho]
  refine bs hX (bT rfl ?_)
  rfl
 ·obtain ⟨X,hX⟩:=ag1 h ho
  rw[if_neg ho,if_neg ho]
  refine bs hX (bF rfl ?_)
  refine bs (BW (ye h ho)) ?_
  rfl
end
def cQ (L S st fin:Nat) (l:List Ed):Nf:=⟨L,S,st,fin,rO l⟩
structure tA (L S st fin:Nat) (l:List Ed):Prop where
 l1:1≤L
 l6:L≤6
 pT:S≤64
 st:st<2^S
 fin:fin<2^S
 E: ∀e∈l,e.In L S
 len:l.length≤1000000
theorem oY {L S st fin:Nat} {l:List Ed} (h:tA L S st fin l):Nat6 (cQ L S st fin l) L S where
 hL:=rfl
 hS:=rfl
 ok:=by
  have wu:=h.l1
  have hl6:=h.l6
  have hs:=h.pT
  have bP:=h.st
  have nL:=h.fin
  have hp:2^S≤2^64:=Nat.pow_le_pow_right (by omega) hs
  have fj: ∀e∈rO l,e.In L S:=fun e he=>h.E e (yg.1 he)
  have hlen:=ahR (L:=L) (S:=S) (by omega) (by omega) (Nw l) fj
  refine ⟨by simp only[cQ];omega,by simp only[cQ];omega,by simp only[cQ];omega,by simp only[cQ];omega,by simp only[cQ];omega,by simp only[cQ];omega,by simp only[cQ];unfold maxLen;omega,fun e he=> ?_⟩
  have:=fj e he
  unfold Ed.In at this
  unfold Ed.Ok
  omega
 code:=by
  have wu:=h.l1
  have hl6:=h.l6
  have hs:=h.pT
  unfold Nf.code
  rw[if_neg (by simp only[cQ];omega),if_neg (by simp only[cQ,Int.toNat_natCast];have:=h.st;have:=h.fin;omega),if_pos]
  intro i hi
  have fj: ∀e∈rO l,e.In L S:=fun e he=>h.E e (yg.1 he)
  unfold Nf.pQ
  simp only[cQ] at*
  refine ⟨by rw[fA hi];exact fj _ (List.getElem_mem hi),fun h0=> ?_⟩
  rw[fA hi,fA (show i-1<_ by omega)]
  exact List.pairwise_iff_getElem.1 (Nw l) (i-1) i (by omega) hi (by omega)
def NZ (m:Da) (e:Int) (n:Nf):List V:=[.int .i64 (m.L:Int),.int .i64 (m.st:Int),.int .i64 e,.int .i64 n.L,.int .i64 n.S,.int .u64 (n.st:Int),.int .u64 (n.fin:Int),.list ar (n.E.map Ed.enc),.list ak m.bz,.list an m.bD]
section
variable {L S st fin:Nat} {l:List Ed} (h:tA L S st fin l)
include h
theorem XW:CC qX [.int .i64 (L:Int),.int .i64 (S:Int),.int .u64 (st:Int),.int .u64 (fin:Int),.list ar (l.map Ed.enc)]=some (NZ (fR (cQ L S st fin l) L S) (n7 (cQ L S st fin l) L S) (cQ L S st fin l)):=by
 have hl:=h.len
 obtain ⟨R,e1,p1,s1⟩:=SL.ajC l (by omega)
 obtain ⟨b,e2⟩:=WV (l:=R) (by rw[p1.length_eq];exact hl)
 obtain ⟨c1,c2⟩:=ahY s1
 have hc:iz R=rO l:=WI c1 (Nw l) fun x=>by rw[c2,yg,p1.mem_iff]
 rw[hc] at e2
 have e3:=XV (oY h)
 refine XU ?_
 unfold NY
 refine bs e1 ?_
 refine bs e2 ?_
 cases b
 ·refine bF rfl ?_
  refine bs e3 ?_
  rfl
 ·refine bT rfl ?_
  refine bs e3 ?_
  rfl
end
noncomputable def XX (C:ae) (bW cC:Int) (cA cD:List V) (cI cO:Int) (cP cU:List V):Option (List V):=
 (C Ao [.int .i64 bW,.int .i64 cC,.list ak cA,.list an cD]).bind fun r1=>
 bif (((V.nth r1 0).toInt):Int) != 0 then
  some [.int .i64 ((V.nth r1 0).toInt)]
 else
  (C Ao [.int .i64 cI,.int .i64 cO,.list ak cP,.list an cU]).bind fun r2=>
  bif (((V.nth r2 0).toInt):Int) != 0 then
  some [.int .i64 ((V.nth r2 0).toInt)]
  else
  bif (bW:Int) != cI then
   some [.int .i64 1]
  else
   some [.int .i64 0]
theorem ajE {bW cC:Int} {cA cD:List V} {cI cO:Int} {cP cU:List V} {r:Option (List V)} (h:XX CC bW cC cA cD cI cO cP cU=r):CC Fc [.int .i64 bW,.int .i64 cC,.list ak cA,.list an cD,.int .i64 cI,.int .i64 cO,.list ak cP,.list an cU]=r:=
 bh (key:=24) (L:=db) (bs:=[]) (by kernel_rfl) au (Eq.trans (by kernel_rfl) h)
noncomputable abbrev yK:Code:=cL Tryd.prog (av.aT 41)
noncomputable def CY (C:ae) (t40 rV rW:Int) (p9 n8:List V) (rY rZ:Int) (qa oZ:List V) (t41:Int) {β:Type} (kn:Int→Option β) (kr:((Bool) ⊕ (Int × Bool))→Option β):Option β:=
 bif decide ((t41:Int)<t40) then
  (idx p9 t41).bind fun x1=>
  (idx qa t41).bind fun x2=>
  bif !(x1.toBool==x2.toBool) then
  kr (.inl false)
  else
  kn (IntKind.wrap .i64 (t41+1))
 else
  kr (.inr (t41,decide ((t41:Int)<t40)))
noncomputable def N0 (C:ae) (t40 rV rW:Int) (p9 n8:List V) (rY rZ:Int) (qa oZ:List V):(Int)→Option ((Int) ⊕ ((Bool) ⊕ (Int × Bool))):=fun t41=>CY C t40 rV rW p9 n8 rY rZ qa oZ t41 (fun y=>some (.inl y)) (fun r=>some (.inr r))
noncomputable def CZ (C:ae) (q t58 t59 t80 rV rW:Int) (p9 n8:List V) (rY rZ:Int) (qa oZ:List V) (t81:Int) {β:Type} (kn:Int→Option β) (kr:((Bool) ⊕ (Int × Bool))→Option β):Option β:=
 bif decide ((t81:Int)<t80) then
  (idx n8 q).bind fun x9=>
  (idx x9.toList t81).bind fun gU=>
  (idx oZ q).bind fun fh=>
  (idx fh.toList t81).bind fun mK=>
  bif (gU.toInt:Int) != mK.toInt then
  kr (.inl false)
  else
  kn (IntKind.wrap .i64 (t81+1))
 else
  kr (.inr (t81,decide ((t81:Int)<t80)))
noncomputable def N3 (C:ae) (q t58 t59 t80 rV rW:Int) (p9 n8:List V) (rY rZ:Int) (qa oZ:List V):(Int)→Option ((Int) ⊕ ((Bool) ⊕ (Int × Bool))):=fun t81=>CZ C q t58 t59 t80 rV rW p9 n8 rY rZ qa oZ t81 (fun y=>some (.inl y)) (fun r=>some (.inr r))
noncomputable def C2 (C:ae) (t58 rV rW:Int) (p9 n8:List V) (rY rZ:Int) (qa oZ:List V) (t59:Int) {β:Type} (kn:Int→Option β) (kr:((Bool) ⊕ (Int × Bool))→Option β):Option β:=
 bif decide ((t59:Int)<t58) then
  (idx n8 t59).bind fun x6=>
  (idx oZ t59).bind fun x7=>
  bif ((x6.toList.length:Int):Int) != (x7.toList.length:Int) then
  kr (.inl false)
  else
  (idx n8 t59).bind fun x8=>
  (Loop (N3 C t59 t58 t59 (x8.toList.length:Int) rV rW p9 n8 rY rZ qa oZ) 0).bind (dA (fun (rD:Bool)=>
   kr (.inl rD)) (un fun (A9:Int) (ahc:Bool)=>
   kn (IntKind.wrap .i64 (t59+1))))
 else
  kr (.inr (t59,decide ((t59:Int)<t58)))
noncomputable def N4 (C:ae) (t58 rV rW:Int) (p9 n8:List V) (rY rZ:Int) (qa oZ:List V):(Int)→Option ((Int) ⊕ ((Bool) ⊕ (Int × Bool))):=fun t59=>C2 C t58 rV rW p9 n8 rY rZ qa oZ t59 (fun y=>some (.inl y)) (fun r=>some (.inr r))
noncomputable def XY (C:ae):cy:=fun β n ds k=>
 bif Nat.beq n 65 then bw KT [false,true,false,false,false,false,false,false,false,false] [[0],[1,0,0,3,4,5,6,7,8,9,10]] (@CY C) ds k else
 bif Nat.beq n 241 then bw KU [false,false,false,false,true,false,false,false,false,false,false,false,false] [[0],[1,2,3,4,0,0,6,7,8,9,10,11,12,13]] (@CZ C) ds k else
 bif Nat.beq n 161 then bw KV [false,true,false,false,false,false,false,false,false,false] [[0],[1,0,0,3,4,5,6,7,8,9,10]] (@C2 C) ds k else
 none
abbrev N5 (C:ae) (b:cv):Prop:=cw Tryd.prog av C (XY C) 41 (cR Tryd.prog (av.aT 41)) (av.sin 41).aX.length b
theorem ajF (C:ae):N5 C (.loop (aq [1,1,0,1,0,0] yK)):=
 bC KT [false,true,false,false,false,false,false,false,false,false] [[0],[1,0,0,3,4,5,6,7,8,9,10]] (@CY C) (by kernel_rfl) (aV (bs:=[]) (by kernel_rfl) au) (fun ds=>by kernel_rfl) (fun i x=>by kernel_rfl) (fun i x β k=>by kernel_rfl) (fun β ds k=>by kernel_rfl)
theorem ajG (C:ae):N5 C (.loop (aq [1,1,1,0,1,0,0,1,1,0,0,1,1,1,0,0] yK)):=
 bC KU [false,false,false,false,true,false,false,false,false,false,false,false,false] [[0],[1,2,3,4,0,0,6,7,8,9,10,11,12,13]] (@CZ C) (by kernel_rfl) (aV (bs:=[]) (by kernel_rfl) au) (fun ds=>by kernel_rfl) (fun i x=>by kernel_rfl) (fun i x β k=>by kernel_rfl) (fun β ds k=>by kernel_rfl)
theorem ajH (C:ae):N5 C (.loop (aq [1,1,1,0,1,0,0] yK)):=
 bC KV [false,true,false,false,false,false,false,false,false,false] [[0],[1,0,0,3,4,5,6,7,8,9,10]] (@C2 C) (by kernel_rfl) (aV (bs:=[.loop (aq [1,1,1,0,1,0,0,1,1,0,0,1,1,1,0,0] yK)]) (by kernel_rfl) (bf (ajG C) au)) (fun ds=>by kernel_rfl) (fun i x=>by kernel_rfl) (fun i x β k=>by kernel_rfl) (fun β ds k=>by kernel_rfl)
noncomputable def XZ (C:ae) (bW cC:Int) (cA cD:List V) (cI cO:Int) (cP cU:List V):Option (List V):=
 bif (bW:Int) != cI then
  some [.bool false]
 else
  bif (cC:Int) != cO then
  some [.bool false]
  else
  bif ((cA.length:Int):Int) != (cP.length:Int) then
   some [.bool false]
  else
   bif ((cD.length:Int):Int) != (cU.length:Int) then
   some [.bool false]
   else
   (Loop (N0 C (cA.length:Int) bW cC cA cD cI cO cP cU) 0).bind (dA (fun (kh:Bool)=>
    some [.bool kh]) (un fun (kQ:Int) (nG:Bool)=>
    (Loop (N4 C (cD.length:Int) bW cC cA cD cI cO cP cU) 0).bind (dA (fun (Bs:Bool)=>
     some [.bool Bs]) (un fun (alJ:Int) (Wv:Bool)=>
     some [.bool true]))))
theorem ajI {bW cC:Int} {cA cD:List V} {cI cO:Int} {cP cU:List V} {r:Option (List V)} (h:XZ CC bW cC cA cD cI cO cP cU=r):CC uS [.int .i64 bW,.int .i64 cC,.list ak cA,.list an cD,.int .i64 cI,.int .i64 cO,.list ak cP,.list an cU]=r:=
 bh (key:=41) (L:=XY CC) (bs:=[.loop (aq [1,1,0,1,0,0] yK),.loop (aq [1,1,1,0,1,0,0] yK)]) (by kernel_rfl) (bf (ajF CC) (bf (ajH CC) au)) (Eq.trans (by kernel_rfl) h)
section
variable {a b:Da} (ha:a.Ok) (hb:b.Ok) (hL:a.L=b.L) {op:Nat}
include ha hb hL
end
theorem ajJ (m:Da) (hn:m.n≤1000000) (hl:m.L≤1000):CC uS (dt m (dj m))=some [.bool true]:=by
 refine ajI ?_
 unfold XZ
 refine bF (by simp) (bF (by simp) (bF (by simp) (bF (by simp) ?_)))
 rw[Da.kW]
 refine bs (eG m.n (fun i=>(i:Int)) (.inr ((m.n:Int),false)) (fun i hi=> ?_) ?_) ?_
 ·simp only[N0,CY]
  refine bT (dE hi) ?_
  refine bs (Da.oP hi) ?_
  refine bs (Da.oP hi) ?_
  refine bF (by simp) ?_
  rw[cN (by omega)]
 ·simp only[N0,CY]
  refine bF (bu (Nat.le_refl _)) ?_
  rw[bu (Nat.le_refl _)]
 ·simp only[dA,un]
  rw[Da.UR]
  refine bs (eG m.n (fun i=>(i:Int)) (.inr ((m.n:Int),false)) (fun i hi=> ?_) ?_) ?_
  ·simp only[N4,C2]
   refine bT (dE hi) ?_
   refine bs (Da.kX hi) ?_
   refine bs (Da.kX hi) ?_
   refine bF (by simp) ?_
   refine bs (Da.kX hi) ?_
   rw[lI,dJ]
   refine bs (eG m.L (fun x=>(x:Int)) (.inr ((m.L:Int),false)) (fun x hx=> ?_) ?_) ?_
   ·simp only[N3,CZ]
    refine bT (dE hx) ?_
    refine bs (Da.kX hi) ?_
    rw[lI]
    refine bs (mP hx) ?_
    refine bs (Da.kX hi) ?_
    rw[lI]
    refine bs (mP hx) ?_
    refine bF (by simp) ?_
    rw[cN (by omega)]
   ·simp only[N3,CZ]
    refine bF (bu (Nat.le_refl _)) ?_
    rw[bu (Nat.le_refl _)]
   ·simp only[dA,un]
    rw[cN (by omega)]
  ·simp only[N4,C2]
   refine bF (bu (Nat.le_refl _)) ?_
   rw[bu (Nat.le_refl _)]
  ·rfl
theorem Da.Ok.same {m:Da} (h:m.Ok):CC uS (dt m (dj m))=some [.bool true]:=ajJ m (by have:=h.di;omega) (by have:=h.l6;omega)
def vO (d e:Df):Int:=if d.val≠0 then d.val else if e.val≠0 then e.val else if d.L≠e.L then 1 else 0
theorem ajK {d e:Df} (hd:d.Ok) (he:e.Ok):CC Fc (kz d (kz e []))=some [.int .i64 (vO d e)]:=by
 refine ajE ?_
 unfold XX vO
 refine bs (UC hd) ?_
 by_cases h1:d.val=0
 ·rw[if_neg (by simp[h1])]
  refine bF (by simp[h1]) ?_
  refine bs (UC he) ?_
  by_cases h2:e.val=0
  ·rw[if_neg (by simp[h2])]
   refine bF (by simp[h2]) ?_
   by_cases h3:d.L=e.L
   ·rw[if_neg (by simp[h3])]
    exact bF (by simp[h3]) rfl
   ·rw[if_pos h3]
    exact bT (by simpa using h3) rfl
  ·rw[if_pos h2]
   exact bT (by simpa using h2) rfl
 ·rw[if_pos h1]
  exact bT (by simpa using h1) rfl
end Go.AM
set_option maxRecDepth 100000
namespace Go.AM
open Go.Proofs
namespace Da
def C3 (a:Da) (k q:Nat):Prop:= ∃w,WL a.L w∧w.length≤k∧a.acc q w=true
def Live (a:Da) (q:Nat):Prop:= ∃w,WL a.L w∧a.acc q w=true
open Classical in
noncomputable def Iy (a:Da) (q:Nat):Bool:=decide (a.Live q)
theorem C3.live {a:Da} {k q:Nat} (h:a.C3 k q):a.Live q:=by obtain ⟨w,h1,_,h3⟩:=h;exact ⟨w,h1,h3⟩
theorem C3.mono {a:Da} {k m q:Nat} (h:a.C3 k q) (hk:k≤m):a.C3 m q:=by obtain ⟨w,h1,h2,h3⟩:=h;exact ⟨w,h1,by omega,h3⟩
end Da
def bV (n:Nat) (r:Nat→Bool):List V:=tab n fun q=>V.bool (r q)
def upd (r:Nat→Bool) (p:Nat) (b:Bool) (q:Nat):Bool:=if q=p then b else r q
structure LvI (a:Da) (r0 r:Nat→Bool) (c:Bool):Prop where
 good: ∀q,q<a.n→r q=true→a.Live q
 up: ∀q,q<a.n→r0 q=true→r q=true
 yes:c=true→∃q,q<a.n∧r0 q=false∧r q=true
 no:c=false→∀q,q<a.n→r q=r0 q
section
variable {a:Da} (h:a.Ok)
include h
end
section
variable {a:Da} (h:a.Ok)
include h
end
end Go.AM
set_option maxRecDepth 100000
namespace Go.AM
open Go.Proofs
noncomputable def N6 (C:ae) (br mM:Int):Option (List V):=
 bif decide ((mM:Int)>64) then
  some [V.bool true]
 else
  some [V.bool false,.int .i64 br,.int .i64 mM,.int .u64 0,.int .u64 0,.list ar ([]:List V)]
theorem X0 {br mM:Int} {r:Option (List V)} (h:N6 CC br mM=r):CC uU [.int .i64 br,.int .i64 mM]=r:=
 bh (key:=61) (L:=db) (bs:=[]) (by kernel_rfl) au (Eq.trans (by kernel_rfl) h)
noncomputable def X1 (C:ae) (C4 letter to bm ba bp bq:Int) (aW:List V):Option (List V):=
 bif Nat.ble ((aW.length+([.agg [.int .i64 C4,.int .i64 letter,.int .i64 to]]:List V).length)*24) bH then
  some [.int .i64 bm,.int .i64 ba,.int .u64 bp,.int .u64 bq,.list ar (aW++([.agg [.int .i64 C4,.int .i64 letter,.int .i64 to]]:List V))]
 else none
theorem ajL {C4 letter to bm ba bp bq:Int} {aW:List V} {r:Option (List V)} (h:X1 CC C4 letter to bm ba bp bq aW=r):CC uW [.int .i64 C4,.int .i64 letter,.int .i64 to,.int .i64 bm,.int .i64 ba,.int .u64 bp,.int .u64 bq,.list ar aW]=r:=
 bh (key:=62) (L:=db) (bs:=[]) (by kernel_rfl) au (Eq.trans (by kernel_rfl) h)
noncomputable def X2 (C:ae) (q bm ba bp bq:Int) (aW:List V):Option (List V):=
 bif decide (0≤q) then
  some [.int .i64 bm,.int .i64 ba,.int .u64 (IntKind.wrap .u64 ((BitVec.ofInt (IntKind.bits .u64) bp|||BitVec.ofInt (IntKind.bits .u64) (IntKind.wrap .u64 (1*2^(min q.toNat (IntKind.bits .u64))))).toNat)),.int .u64 bq,.list ar aW]
 else none
theorem ajM {q bm ba bp bq:Int} {aW:List V} {r:Option (List V)} (h:X2 CC q bm ba bp bq aW=r):CC uX [.int .i64 q,.int .i64 bm,.int .i64 ba,.int .u64 bp,.int .u64 bq,.list ar aW]=r:=
 bh (key:=63) (L:=db) (bs:=[]) (by kernel_rfl) au (Eq.trans (by kernel_rfl) h)
noncomputable def X3 (C:ae) (q bm ba bp bq:Int) (aW:List V):Option (List V):=
 bif decide (0≤q) then
  some [.int .i64 bm,.int .i64 ba,.int .u64 bp,.int .u64 (IntKind.wrap .u64 ((BitVec.ofInt (IntKind.bits .u64) bq|||BitVec.ofInt (IntKind.bits .u64) (IntKind.wrap .u64 (1*2^(min q.toNat (IntKind.bits .u64))))).toNat)),.list ar aW]
 else none
theorem ajN {q bm ba bp bq:Int} {aW:List V} {r:Option (List V)} (h:X3 CC q bm ba bp bq aW=r):CC Au [.int .i64 q,.int .i64 bm,.int .i64 ba,.int .u64 bp,.int .u64 bq,.list ar aW]=r:=
 bh (key:=69) (L:=db) (bs:=[]) (by kernel_rfl) au (Eq.trans (by kernel_rfl) h)
noncomputable abbrev X4:Code:=cL Tryd.prog (av.aT 64)
noncomputable def C6 (C:ae) (offset:Int) (t8:List V) (t9 t10 bm ba bp bq:Int) (cT:List V) {β:Type} (kn:(Int × Int × Int × Int × Int × (List V))→Option β) (kr:(Int × Bool × Int × Int × Int × Int × (List V))→Option β):Option β:=
 bif decide ((t10:Int)<t9) then
  (idx t8 t10).bind fun x1=>
  bif x1.toBool then
  (C Au [.int .i64 (IntKind.wrap .i64 (t10+offset)),.int .i64 bm,.int .i64 ba,.int .u64 bp,.int .u64 bq,.list ar cT]).bind fun r2=>
  kn (IntKind.wrap .i64 (t10+1),(V.nth r2 0).toInt,(V.nth (r2.drop 1) 0).toInt,(V.nth ((r2.drop 1).drop 1) 0).toInt,(V.nth (((r2.drop 1).drop 1).drop 1) 0).toInt,(V.nth (r2.drop 4) 0).toList)
  else
  kn (IntKind.wrap .i64 (t10+1),bm,ba,bp,bq,cT)
 else
  kr (t10,decide ((t10:Int)<t9),bm,ba,bp,bq,cT)
noncomputable def N7 (C:ae) (offset:Int) (t8:List V) (t9:Int):(Int × Int × Int × Int × Int × (List V))→Option ((Int × Int × Int × Int × Int × (List V)) ⊕ (Int × Bool × Int × Int × Int × Int × (List V))):=un fun t10=>un fun bm=>un fun ba=>un fun bp=>un fun bq cT=>C6 C offset t8 t9 t10 bm ba bp bq cT (fun y=>some (.inl y)) (fun r=>some (.inr r))
noncomputable def X5 (C:ae):cy:=fun β n ds k=>
 bif Nat.beq n 17 then bw K4 [false,false,false,true,true,true,true,true,true] [[1,2,3,0,0,0,0,0,0,0]] (@C6 C) ds k else
 none
abbrev ajO (C:ae) (b:cv):Prop:=cw Tryd.prog av C (X5 C) 64 (cR Tryd.prog (av.aT 64)) (av.sin 64).aX.length b
theorem ajP (C:ae):ajO C (.loop (aq [1,0,0] X4)):=
 bC K4 [false,false,false,true,true,true,true,true,true] [[1,2,3,0,0,0,0,0,0,0]] (@C6 C) (by kernel_rfl) (aV (bs:=[]) (by kernel_rfl) au) (fun ds=>by kernel_rfl) (fun i x=>by kernel_rfl) (fun i x β k=>by kernel_rfl) (fun β ds k=>by kernel_rfl)
noncomputable def X6 (C:ae) (final:List V) (offset bm ba bp bq:Int) (aW:List V):Option (List V):=
 (Loop (N7 C offset final (final.length:Int)) (0,bm,ba,bp,bq,aW)).bind (un fun (kh:Int)=>un fun (kQ:Bool)=>un fun (ajQ:Int)=>un fun (C7:Int)=>un fun (vP:Int)=>un fun (vQ:Int) (b_9:List V)=>
  some [.int .i64 ajQ,.int .i64 C7,.int .u64 vP,.int .u64 vQ,.list ar b_9])
theorem ajR {final:List V} {offset bm ba bp bq:Int} {aW:List V} {r:Option (List V)} (h:X6 CC final offset bm ba bp bq aW=r):CC uY [.list ak final,.int .i64 offset,.int .i64 bm,.int .i64 ba,.int .u64 bp,.int .u64 bq,.list ar aW]=r:=
 bh (key:=64) (L:=X5 CC) (bs:=[.loop (aq [1,0,0] X4)]) (by kernel_rfl) (bf (ajP CC) au) (Eq.trans (by kernel_rfl) h)
noncomputable abbrev HS:Code:=cL Tryd.prog (av.aT 73)
noncomputable def C8 (C:ae) (offset p:Int) (t11:List V) (t12 t13:Int) (t18:List V) (t19 t20 bm ba bp bq:Int) (cT:List V) {β:Type} (kn:(Int × Int × Int × Int × Int × (List V))→Option β) (kr:(Int × Bool × Int × Int × Int × Int × (List V))→Option β):Option β:=
 bif decide ((t20:Int)<t19) then
  (idx t18 t20).bind fun x2=>
  (C uW [.int .i64 (IntKind.wrap .i64 (p+offset)),.int .i64 t20,.int .i64 (IntKind.wrap .i64 (x2.toInt+offset)),.int .i64 bm,.int .i64 ba,.int .u64 bp,.int .u64 bq,.list ar cT]).bind fun r3=>
  kn (IntKind.wrap .i64 (t20+1),(V.nth r3 0).toInt,(V.nth (r3.drop 1) 0).toInt,(V.nth ((r3.drop 1).drop 1) 0).toInt,(V.nth (((r3.drop 1).drop 1).drop 1) 0).toInt,(V.nth (r3.drop 4) 0).toList)
 else
  kr (t20,decide ((t20:Int)<t19),bm,ba,bp,bq,cT)
noncomputable def N8 (C:ae) (offset p:Int) (t11:List V) (t12 t13:Int) (t18:List V) (t19:Int):(Int × Int × Int × Int × Int × (List V))→Option ((Int × Int × Int × Int × Int × (List V)) ⊕ (Int × Bool × Int × Int × Int × Int × (List V))):=un fun t20=>un fun bm=>un fun ba=>un fun bp=>un fun bq cT=>C8 C offset p t11 t12 t13 t18 t19 t20 bm ba bp bq cT (fun y=>some (.inl y)) (fun r=>some (.inr r))
noncomputable def C9 (C:ae) (offset:Int) (t11:List V) (t12 t13 bm ba bp bq:Int) (cT:List V) {β:Type} (kn:(Int × Int × Int × Int × Int × (List V))→Option β) (kr:(Int × Bool × Int × Int × Int × Int × (List V))→Option β):Option β:=
 bif decide ((t13:Int)<t12) then
  (idx t11 t13).bind fun x1=>
  (Loop (N8 C offset t13 t11 t12 t13 x1.toList (x1.toList.length:Int)) (0,bm,ba,bp,bq,cT)).bind (un fun (kQ:Int)=>un fun (nG:Bool)=>un fun (C7:Int)=>un fun (vP:Int)=>un fun (vQ:Int)=>un fun (sa:Int) (yb:List V)=>
   kn (IntKind.wrap .i64 (t13+1),C7,vP,vQ,sa,yb))
 else
  kr (t13,decide ((t13:Int)<t12),bm,ba,bp,bq,cT)
noncomputable def N9 (C:ae) (offset:Int) (t11:List V) (t12:Int):(Int × Int × Int × Int × Int × (List V))→Option ((Int × Int × Int × Int × Int × (List V)) ⊕ (Int × Bool × Int × Int × Int × Int × (List V))):=un fun t13=>un fun bm=>un fun ba=>un fun bp=>un fun bq cT=>C9 C offset t11 t12 t13 bm ba bp bq cT (fun y=>some (.inl y)) (fun r=>some (.inr r))
noncomputable def X7 (C:ae):cy:=fun β n ds k=>
 bif Nat.beq n 81 then bw K5 [false,false,false,false,false,false,false,true,true,true,true,true,true] [[1,2,3,4,5,6,7,0,0,0,0,0,0,0]] (@C8 C) ds k else
 bif Nat.beq n 33 then bw K6 [false,false,false,true,true,true,true,true,true] [[1,2,3,0,0,0,0,0,0,0]] (@C9 C) ds k else
 none
abbrev X8 (C:ae) (b:cv):Prop:=cw Tryd.prog av C (X7 C) 73 (cR Tryd.prog (av.aT 73)) (av.sin 73).aX.length b
theorem ajS (C:ae):X8 C (.loop (aq [1,1,0,0,1,1,0,0,1,1,0,0] HS)):=
 bC K5 [false,false,false,false,false,false,false,true,true,true,true,true,true] [[1,2,3,4,5,6,7,0,0,0,0,0,0,0]] (@C8 C) (by kernel_rfl) (aV (bs:=[]) (by kernel_rfl) au) (fun ds=>by kernel_rfl) (fun i x=>by kernel_rfl) (fun i x β k=>by kernel_rfl) (fun β ds k=>by kernel_rfl)
theorem ajT (C:ae):X8 C (.loop (aq [1,1,0,0] HS)):=
 bC K6 [false,false,false,true,true,true,true,true,true] [[1,2,3,0,0,0,0,0,0,0]] (@C9 C) (by kernel_rfl) (aV (bs:=[.loop (aq [1,1,0,0,1,1,0,0,1,1,0,0] HS)]) (by kernel_rfl) (bf (ajS C) au)) (fun ds=>by kernel_rfl) (fun i x=>by kernel_rfl) (fun i x β k=>by kernel_rfl) (fun β ds k=>by kernel_rfl)
noncomputable def X9 (C:ae) (aQ aS:Int) (aF aZ:List V) (offset bm ba bp bq:Int) (aW:List V):Option (List V):=
 (Loop (N9 C offset aZ (aZ.length:Int)) (0,bm,ba,bp,bq,aW)).bind (un fun (Wr:Int)=>un fun (BV:Bool)=>un fun (ajU:Int)=>un fun (Oa:Int)=>un fun (Ob:Int)=>un fun (Oc:Int) (th:List V)=>
  some [.int .i64 ajU,.int .i64 Oa,.int .u64 Ob,.int .u64 Oc,.list ar th])
theorem ajV {aQ aS:Int} {aF aZ:List V} {offset bm ba bp bq:Int} {aW:List V} {r:Option (List V)} (h:X9 CC aQ aS aF aZ offset bm ba bp bq aW=r):CC uZ [.int .i64 aQ,.int .i64 aS,.list ak aF,.list an aZ,.int .i64 offset,.int .i64 bm,.int .i64 ba,.int .u64 bp,.int .u64 bq,.list ar aW]=r:=
 bh (key:=73) (L:=X7 CC) (bs:=[.loop (aq [1,1,0,0] HS)]) (by kernel_rfl) (bf (ajT CC) au) (Eq.trans (by kernel_rfl) h)
noncomputable abbrev Ya:Code:=cL Tryd.prog (av.aT 74)
noncomputable def Db (C:ae) (final:List V) (to t14:Int) (HT:List V) (t15 bm ba bp bq:Int) (lZ:List V) {β:Type} (kn:(Int × Int × Int × Int × Int × (List V))→Option β) (kr:(Int × Bool × Int × Int × Int × Int × (List V))→Option β):Option β:=
 bif decide ((t15:Int)<t14) then
  bif (decide (0≤t15))&&(decide (t15<(HT.length:Int))) then
  (HT[(t15:Int).toNat]?).bind fun x1=>
  bif decide ((((x1.cell 2).toInt):Int)<(final.length:Int)) then
   (idx final ((x1.cell 2).toInt)).bind fun x2=>
   bif x2.toBool then
   (C uW [.int .i64 ((x1.cell 0).toInt),.int .i64 ((x1.cell 1).toInt),.int .i64 to,.int .i64 bm,.int .i64 ba,.int .u64 bp,.int .u64 bq,.list ar lZ]).bind fun r3=>
   kn (IntKind.wrap .i64 (t15+1),(V.nth r3 0).toInt,(V.nth (r3.drop 1) 0).toInt,(V.nth ((r3.drop 1).drop 1) 0).toInt,(V.nth (((r3.drop 1).drop 1).drop 1) 0).toInt,(V.nth (r3.drop 4) 0).toList)
   else
   kn (IntKind.wrap .i64 (t15+1),bm,ba,bp,bq,lZ)
  else
   kn (IntKind.wrap .i64 (t15+1),bm,ba,bp,bq,lZ)
  else none
 else
  kr (t15,decide ((t15:Int)<t14),bm,ba,bp,bq,lZ)
noncomputable def Od (C:ae) (final:List V) (to t14:Int) (HT:List V):(Int × Int × Int × Int × Int × (List V))→Option ((Int × Int × Int × Int × Int × (List V)) ⊕ (Int × Bool × Int × Int × Int × Int × (List V))):=un fun t15=>un fun bm=>un fun ba=>un fun bp=>un fun bq lZ=>Db C final to t14 HT t15 bm ba bp bq lZ (fun y=>some (.inl y)) (fun r=>some (.inr r))
noncomputable def Yb (C:ae):cy:=fun β n ds k=>
 bif Nat.beq n 17 then bw K7 [false,false,false,true,true,true,true,true,false,true] [[1,2,3,0,0,0,0,0,0,9,0]] (@Db C) ds k else
 none
abbrev ajW (C:ae) (b:cv):Prop:=cw Tryd.prog av C (Yb C) 74 (cR Tryd.prog (av.aT 74)) (av.sin 74).aX.length b
theorem ajX (C:ae):ajW C (.loop (aq [1,0,0] Ya)):=
 bC K7 [false,false,false,true,true,true,true,true,false,true] [[1,2,3,0,0,0,0,0,0,9,0]] (@Db C) (by kernel_rfl) (aV (bs:=[]) (by kernel_rfl) au) (fun ds=>by kernel_rfl) (fun i x=>by kernel_rfl) (fun i x β k=>by kernel_rfl) (fun β ds k=>by kernel_rfl)
noncomputable def Yc (C:ae) (final:List V) (to bm ba bp bq:Int) (aW:List V):Option (List V):=
 bif Nat.ble (aW.length*24) bH then
  (Loop (Od C final to (aW.length:Int) aW) (0,bm,ba,bp,bq,aW)).bind (un fun (kQ:Int)=>un fun (nG:Bool)=>un fun (C7:Int)=>un fun (vP:Int)=>un fun (vQ:Int)=>un fun (sa:Int) (yb:List V)=>
   some [.int .i64 C7,.int .i64 vP,.int .u64 vQ,.int .u64 sa,.list ar yb])
 else none
theorem ajY {final:List V} {to bm ba bp bq:Int} {aW:List V} {r:Option (List V)} (h:Yc CC final to bm ba bp bq aW=r):CC Aw [.list ak final,.int .i64 to,.int .i64 bm,.int .i64 ba,.int .u64 bp,.int .u64 bq,.list ar aW]=r:=
 bh (key:=74) (L:=Yb CC) (bs:=[.loop (aq [1,0,0] Ya)]) (by kernel_rfl) (bf (ajX CC) au) (Eq.trans (by kernel_rfl) h)
def dM (p x q:Nat):Ed:=⟨(p:Int),(x:Int),(q:Int)⟩
def aN (L S:Nat) (st fin:Nat) (l:List Ed):List V:=[.int .i64 (L:Int),.int .i64 (S:Int),.int .u64 (st:Int),.int .u64 (fin:Int),.list ar (l.map Ed.enc)]
def fm (n:Nat) (g:Nat→List Ed):List Ed:=(List.range n).flatMap g
theorem ajZ {g:Nat→List Ed}:fm 0 g=[]:=rfl
theorem Oe {n:Nat} {g:Nat→List Ed}:fm (n+1) g=fm n g++g n:=by simp[fm,List.range_succ]
theorem Yd {n:Nat} {g:Nat→List Ed} {e:Ed}:e∈fm n g↔∃i,i<n∧e∈g i:=by simp[fm]
theorem Of {n k:Nat} {g:Nat→List Ed} (h: ∀i,i<n→(g i).length≤k):(fm n g).length≤n*k:=by
 induction n with
 | zero=>simp[fm]
 | succ n ih=>
  rw[Oe,List.length_append,Nat.succ_mul]
  have:=ih fun i hi=>h i (by omega)
  have:=h n (by omega)
  omega
theorem yL {X R:Type} {step:X→Option (X ⊕ R)} (n:Nat) (s:Nat→X) (r:R) {x:X} (hx:x=s 0) (h: ∀i,i<n→step (s i)=some (.inl (s (i+1)))) (he:step (s n)=some (.inr r)):Loop step x=some r:=by rw[hx];exact eG n s r h he
theorem vR {a b:Nat} (h:a+b≤1000000000):IntKind.wrap .i64 ((a:Int)+(b:Int))=((a+b:Nat):Int):=by rw[wrap64 (by omega) (by omega)];omega
theorem aj0 {l:List Ed} {p x q:Nat}:l.map Ed.enc++[V.agg [.int .i64 (p:Int),.int .i64 (x:Int),.int .i64 (q:Int)]]=(l++[dM p x q]).map Ed.enc:=by simp[dM,Ed.enc]
section
variable {L S st fin:Nat} {l:List Ed}
theorem HU {p x q:Nat} (h:l.length≤1000000):CC uW [.int .i64 (p:Int),.int .i64 (x:Int),.int .i64 (q:Int),.int .i64 (L:Int),.int .i64 (S:Int),.int .u64 (st:Int),.int .u64 (fin:Int),.list ar (l.map Ed.enc)]=some (aN L S st fin (l++[dM p x q])):=by
 refine ajL ?_
 unfold X1
 refine bT (cap (by simp;omega) (by omega)) ?_
 rw[aj0];rfl
theorem HV {q:Nat} (hq:q<64) (hs:st<2^64):CC uX [.int .i64 (q:Int),.int .i64 (L:Int),.int .i64 (S:Int),.int .u64 (st:Int),.int .u64 (fin:Int),.list ar (l.map Ed.enc)]=some (aN L S (st|||2^q) fin l):=by
 refine ajM ?_
 unfold X2
 refine bT (decide_eq_true (by omega)) ?_
 rw[Int.toNat_natCast,F8 hq,u64_or hs (Nat.pow_lt_pow_right (by omega) hq)];rfl
theorem Ye {q:Nat} (hq:q<64) (hs:fin<2^64):CC Au [.int .i64 (q:Int),.int .i64 (L:Int),.int .i64 (S:Int),.int .u64 (st:Int),.int .u64 (fin:Int),.list ar (l.map Ed.enc)]=some (aN L S st (fin|||2^q) l):=by
 refine ajN ?_
 unfold X3
 refine bT (decide_eq_true (by omega)) ?_
 rw[Int.toNat_natCast,F8 hq,u64_or hs (Nat.pow_lt_pow_right (by omega) hq)];rfl
theorem Og (h:S≤64):CC uU [.int .i64 (L:Int),.int .i64 (S:Int)]=some (.bool false::aN L S 0 0 []):=by
 refine X0 ?_
 unfold N6
 exact bF (decide_eq_false (by omega)) rfl
theorem Yf (h:64<S):CC uU [.int .i64 (L:Int),.int .i64 (S:Int)]=some [.bool true]:=by
 refine X0 ?_
 unfold N6
 exact bT (decide_eq_true (by omega)) rfl
def gI (fin:Nat) (f:Nat→Bool) (off:Nat):Nat→Nat
 | 0=>fin
 | i+1=>if f i=true then gI fin f off i|||2^(i+off) else gI fin f off i
theorem HW {f:Nat→Bool} {off:Nat}: ∀{n j:Nat},(gI fin f off n).testBit j=(fin.testBit j||(decide (off≤j∧j<n+off)&&f (j-off)))
 | 0,j=>by
  rw[decide_eq_false (by omega)];simp[gI]
 | n+1,j=>by
  unfold gI
  by_cases hf:f n=true
  ·rw[if_pos hf,Nat.testBit_or,HW,Nat.testBit_two_pow]
   by_cases hj:j=n+off
   ·subst hj
    rw[decide_eq_true (p:=n+off=n+off) rfl,decide_eq_true (p:=off≤n+off∧n+off<n+1+off) (by omega),show n+off-off=n by omega,hf];simp
   ·rw[decide_eq_false (p:=n+off=j) (by omega)]
    have:(off≤j∧j<n+off)↔(off≤j∧j<n+1+off):=by omega
    simp only[this,Bool.or_false]
  ·rw[if_neg hf,HW]
   by_cases hj:j=n+off
   ·subst hj
    rw[show n+off-off=n by omega,Bool.eq_false_iff.2 hf];simp
   ·have:(off≤j∧j<n+off)↔(off≤j∧j<n+1+off):=by omega
    simp only[this]
theorem Dc {f:Nat→Bool} {off k:Nat} (hf:fin<2^k): ∀{n:Nat},n+off≤k→gI fin f off n<2^k
 | 0,_=>hf
 | n+1,h=>by
  unfold gI
  have ih:=Dc (f:=f) (off:=off) hf (n:=n) (by omega)
  split
  ·exact Nat.or_lt_two_pow ih (Nat.pow_lt_pow_right (by omega) (by omega))
  ·exact ih
theorem Oh {n off:Nat} {f:Nat→Bool} (ho:n+off≤64) (hs:fin<2^64):CC uY [.list ak (bV n f),.int .i64 (off:Int),.int .i64 (L:Int),.int .i64 (S:Int),.int .u64 (st:Int),.int .u64 (fin:Int),.list ar (l.map Ed.enc)]=some (aN L S st (gI fin f off n) l):=by
 refine ajR ?_
 unfold X6
 rw[show (bV n f).length=n from dJ]
 refine bs (eG n (fun i=>((i:Int),(L:Int),(S:Int),(st:Int),(gI fin f off i:Int),l.map Ed.enc)) ((n:Int),false,(L:Int),(S:Int),(st:Int),(gI fin f off n:Int),l.map Ed.enc) (fun i hi=> ?_) ?_) ?_
 ·simp only[N7,C6,un]
  refine bT (dE hi) ?_
  refine bs (rG hi) ?_
  have aM:=Dc (f:=f) (off:=off) hs (n:=i) (by omega)
  cases hf:f i with
  | true=>
   refine bT rfl ?_
   rw[vR (by omega)]
   refine bs (Ye (by omega) aM) ?_
   rw[cN (by omega),show gI fin f off (i+1)=gI fin f off i|||2^(i+off) from if_pos hf]
   rfl
  | false=>
   refine bF rfl ?_
   rw[cN (by omega),show gI fin f off (i+1)=gI fin f off i from if_neg (by rw[hf];simp)]
 ·simp only[N7,C6,un]
  refine bF (bu (Nat.le_refl _)) ?_
  rw[bu (Nat.le_refl _)]
 ·rfl
def tB (a:Da) (off p:Nat):List Ed:=tab a.L fun x=>dM (p+off) x (a.nx p x+off)
def ew (a:Da) (off:Nat):List Ed:=fm a.n (tB a off)
theorem vS {a:Da} {off:Nat} {e:Ed}:e∈ew a off↔∃p x,p<a.n∧x<a.L∧e=dM (p+off) x (a.nx p x+off):=by
 unfold ew tB
 rw[Yd]
 constructor
 ·rintro ⟨p,hp,he⟩
  obtain ⟨x,hx,rfl⟩:=td.1 he
  exact ⟨p,x,hp,hx,rfl⟩
 ·rintro ⟨p,x,hp,hx,rfl⟩
  exact ⟨p,hp,td.2 ⟨x,hx,rfl⟩⟩
theorem sb {a:Da} (h:a.Ok) {off:Nat} {n:Nat}:(fm n (tB a off)).length≤n*6:=Of fun p _=>by unfold tB;rw[dJ];exact h.l6
theorem HX {a:Da} (h:a.Ok) {off:Nat} (ho:off≤1000) (hl:l.length≤100000):CC uZ (dt a [.int .i64 (off:Int),.int .i64 (L:Int),.int .i64 (S:Int),.int .u64 (st:Int),.int .u64 (fin:Int),.list ar (l.map Ed.enc)])=some (aN L S st fin (l++ew a off)):=by
 have hn:=h.di
 have h6:=h.l6
 refine ajV ?_
 unfold X9
 rw[show a.bD.length=a.n from dJ]
 refine bs (yL a.n (fun i=>((i:Int),(L:Int),(S:Int),(st:Int),(fin:Int),(l++fm i (tB a off)).map Ed.enc)) ((a.n:Int),false,(L:Int),(S:Int),(st:Int),(fin:Int),(l++ew a off).map Ed.enc) (by rw[ajZ,List.append_nil];rfl) (fun p hp=> ?_) ?_) ?_
 ·have hlen:=sb h (off:=off) (n:=p)
  simp only[N9,C9,un]
  refine bT (dE hp) ?_
  refine bs (rG hp) ?_
  rw[show (fo a.L (a.nx p)).toList=tab a.L fun x=>nV (a.nx p x) from rfl,dJ]
  refine bs (yL a.L (fun i=>((i:Int),(L:Int),(S:Int),(st:Int),(fin:Int),((l++fm p (tB a off))++tab i fun x=>dM (p+off) x (a.nx p x+off)).map Ed.enc)) ((a.L:Int),false,(L:Int),(S:Int),(st:Int),(fin:Int),((l++fm p (tB a off))++tB a off p).map Ed.enc) (by rw[MK,List.append_nil];rfl) (fun x hx=> ?_) ?_) ?_
  ·have hq:=h.dS hp hx
   simp only[N8,C8,un]
   refine bT (dE hx) ?_
   refine bs (rG hx) ?_
   rw[show (nV (a.nx p x)).toInt=((a.nx p x:Nat):Int) from rfl,vR (by omega),vR (by omega)]
   refine bs (HU (by rw[List.length_append,List.length_append,dJ];omega)) ?_
   rw[cN (by omega),lG,←List.append_assoc]
   rfl
  ·simp only[N8,C8,un]
   refine bF (bu (Nat.le_refl _)) ?_
   rw[bu (Nat.le_refl _)]
   rfl
  ·simp only[un]
   rw[cN (by omega),Oe,←List.append_assoc]
 ·simp only[N9,C9,un]
  refine bF (bu (Nat.le_refl _)) ?_
  rw[bu (Nat.le_refl _)]
  rfl
 ·rfl
def mf (n:Nat) (f:Nat→Bool) (to:Nat) (l:List Ed):List Ed:=l.flatMap fun e=>if e.t.toNat<n∧f e.t.toNat=true then [⟨e.f,e.l,(to:Int)⟩] else []
theorem HY {n to:Nat} {f:Nat→Bool} {e:Ed}:e∈mf n f to l↔∃e'∈l,e'.t.toNat<n∧f e'.t.toNat=true∧e=⟨e'.f,e'.l,(to:Int)⟩:=by
 unfold mf
 rw[List.mem_flatMap]
 constructor
 ·rintro ⟨a,ha,h⟩
  split at h
  ·next c=>exact ⟨a,ha,c.1,c.2,by simpa using h⟩
  ·cases h
 ·rintro ⟨a,ha,h1,h2,h3⟩
  exact ⟨a,ha,by rw[if_pos ⟨h1,h2⟩];simpa using h3⟩
theorem HZ {n to:Nat} {f:Nat→Bool}: ∀{l:List Ed},(mf n f to l).length≤l.length
 | []=>by simp[mf]
 | e::l=>by
  have ih:=HZ (n:=n) (to:=to) (f:=f) (l:=l)
  unfold mf at*
  rw[List.flatMap_cons,List.length_append,List.length_cons]
  split
  ·rw[List.length_singleton];omega
  ·rw[List.length_nil];omega
theorem aj1 {n to i:Nat} {f:Nat→Bool} (hi:i<l.length):mf n f to (l.take (i+1))=mf n f to (l.take i)++(if l[i].t.toNat<n∧f l[i].t.toNat=true then [⟨l[i].f,l[i].l,(to:Int)⟩] else []):=by
 unfold mf
 rw[List.take_succ_eq_append_getElem hi,List.flatMap_append]
 simp
theorem Yg {n to:Nat} {f:Nat→Bool} (hE: ∀e∈l,0≤e.f∧0≤e.l∧0≤e.t) (hl:l.length≤100000) (hn:n≤1000):CC Aw [.list ak (bV n f),.int .i64 (to:Int),.int .i64 (L:Int),.int .i64 (S:Int),.int .u64 (st:Int),.int .u64 (fin:Int),.list ar (l.map Ed.enc)]=some (aN L S st fin (l++mf n f to l)):=by
 refine ajY ?_
 unfold Yc
 refine bT (by rw[Nat.ble_eq,xy,List.length_map];omega) ?_
 rw[List.length_map]
 refine bs (yL l.length (fun i=>((i:Int),(L:Int),(S:Int),(st:Int),(fin:Int),(l++mf n f to (l.take i)).map Ed.enc)) ((l.length:Int),false,(L:Int),(S:Int),(st:Int),(fin:Int),(l++mf n f to l).map Ed.enc) (by rw[List.take_zero,show mf n f to []=[] from rfl,List.append_nil];rfl) (fun i hi=> ?_) ?_) ?_
 ·simp only[Od,Db,un]
  refine bT (dE hi) ?_
  refine (pU (i:=i) (v:=l[i].enc) (by simp[hi])).trans ?_
  obtain ⟨e1,e2,e3⟩:=hE l[i] (List.getElem_mem hi)
  have hlen:=HZ (n:=n) (to:=to) (f:=f) (l:=l.take i)
  have PV:=List.length_take_le i l
  rw[Ed.dB,Ed.dC,Ed.dD,aj1 hi,show (bV n f).length=n from dJ]
  obtain ⟨t,ht⟩:=Int.eq_ofNat_of_zero_le e3
  obtain ⟨p,hp⟩:=Int.eq_ofNat_of_zero_le e1
  obtain ⟨x,hx⟩:=Int.eq_ofNat_of_zero_le e2
  rw[ht,hp,hx,Int.toNat_natCast]
  by_cases c:t<n
  ·refine bT (dE c) ?_
   refine bs (rG c) ?_
   cases hf:f t with
   | true=>
    refine bT rfl ?_
    refine bs (HU (by rw[List.length_append];omega)) ?_
    rw[cN (by omega),if_pos ⟨c,rfl⟩,←List.append_assoc]
    rfl
   | false=>
    refine bF rfl ?_
    rw[cN (by omega),if_neg (by simp),List.append_nil]
  ·refine bF (bu (by omega)) ?_
   rw[cN (by omega),if_neg (fun h=>c h.1),List.append_nil]
 ·simp only[Od,Db,un]
  refine bF (bu (Nat.le_refl _)) ?_
  rw[bu (Nat.le_refl _),List.take_length]
 ·rfl
end
noncomputable def Yh (C:ae) (aQ aS:Int) (aF aZ:List V):Option (List V):=
 (C lC [.int .i64 aQ,.int .i64 aS,.list ak aF,.list an aZ]).bind fun r1=>
 bif (((V.nth r1 0).toInt):Int) != 0 then
  some [.int .i64 0,.int .i64 0,.int .i64 ((V.nth r1 0).toInt),.list ak ([]:List V),.list an ([]:List V)]
 else
  (C qW [.int .i64 aQ,.int .i64 aS,.list ak aF,.list an aZ]).bind fun r2=>
  some [.int .i64 ((V.nth r2 0).toInt),.int .i64 ((V.nth (r2.drop 1) 0).toInt),.int .i64 0,.list ak ((V.nth (r2.drop 2) 0).toList),.list an ((V.nth ((r2.drop 2).drop 1) 0).toList)]
theorem aj2 {aQ aS:Int} {aF aZ:List V} {r:Option (List V)} (h:Yh CC aQ aS aF aZ=r):CC Ar [.int .i64 aQ,.int .i64 aS,.list ak aF,.list an aZ]=r:=
 bh (key:=56) (L:=db) (bs:=[]) (by kernel_rfl) au (Eq.trans (by kernel_rfl) h)
noncomputable def Yi (C:ae) (bW cC:Int) (cA cD:List V) (cI cO:Int) (cP cU:List V):Option (List V):=
 (C lC [.int .i64 bW,.int .i64 cC,.list ak cA,.list an cD]).bind fun r1=>
 bif (((V.nth r1 0).toInt):Int) != 0 then
  some [.int .i64 0,.int .i64 0,.int .i64 0,.int .i64 0,.int .i64 ((V.nth r1 0).toInt),.list ak ([]:List V),.list an ([]:List V),.list ak ([]:List V),.list an ([]:List V)]
 else
  (C lC [.int .i64 cI,.int .i64 cO,.list ak cP,.list an cU]).bind fun r2=>
  bif (((V.nth r2 0).toInt):Int) != 0 then
  some [.int .i64 0,.int .i64 0,.int .i64 0,.int .i64 0,.int .i64 ((V.nth r2 0).toInt),.list ak ([]:List V),.list an ([]:List V),.list ak ([]:List V),.list an ([]:List V)]
  else
  bif (bW:Int) != cI then
   some [.int .i64 0,.int .i64 0,.int .i64 0,.int .i64 0,.int .i64 1,.list ak ([]:List V),.list an ([]:List V),.list ak ([]:List V),.list an ([]:List V)]
  else
   (C qW [.int .i64 bW,.int .i64 cC,.list ak cA,.list an cD]).bind fun r3=>
   (C qW [.int .i64 cI,.int .i64 cO,.list ak cP,.list an cU]).bind fun r4=>
   some [.int .i64 ((V.nth r3 0).toInt),.int .i64 ((V.nth (r3.drop 1) 0).toInt),.int .i64 ((V.nth r4 0).toInt),.int .i64 ((V.nth (r4.drop 1) 0).toInt),.int .i64 0,.list ak ((V.nth (r3.drop 2) 0).toList),.list an ((V.nth ((r3.drop 2).drop 1) 0).toList),.list ak ((V.nth (r4.drop 2) 0).toList),.list an ((V.nth ((r4.drop 2).drop 1) 0).toList)]
theorem aj3 {bW cC:Int} {cA cD:List V} {cI cO:Int} {cP cU:List V} {r:Option (List V)} (h:Yi CC bW cC cA cD cI cO cP cU=r):CC As [.int .i64 bW,.int .i64 cC,.list ak cA,.list an cD,.int .i64 cI,.int .i64 cO,.list ak cP,.list an cU]=r:=
 bh (key:=68) (L:=db) (bs:=[]) (by kernel_rfl) au (Eq.trans (by kernel_rfl) h)
noncomputable def Yj (C:ae) (bW cC:Int) (cA cD:List V) (cI cO:Int) (cP cU:List V) (di:Int):Option (List V):=
 bif decide (((cA.length:Int):Int)≤di) then
  bif decide (((cP.length:Int):Int)≤di) then
  (C Fc [.int .i64 bW,.int .i64 cC,.list ak cA,.list an cD,.int .i64 cI,.int .i64 cO,.list ak cP,.list an cU]).bind fun r1=>
  some [.bool ((((V.nth r1 0).toInt):Int)==0)]
  else
  some [.bool false]
 else
  some [.bool false]
theorem aj4 {bW cC:Int} {cA cD:List V} {cI cO:Int} {cP cU:List V} {di:Int} {r:Option (List V)} (h:Yj CC bW cC cA cD cI cO cP cU di=r):CC Ap [.int .i64 bW,.int .i64 cC,.list ak cA,.list an cD,.int .i64 cI,.int .i64 cO,.list ak cP,.list an cU,.int .i64 di]=r:=
 bh (key:=26) (L:=db) (bs:=[]) (by kernel_rfl) au (Eq.trans (by kernel_rfl) h)
theorem dX {a:Da} (h:a.Ok):(minD a).Ok:=(xW h).ok
theorem ky {a:Da} (h:a.Ok):(minD a).L=a.L:=(xW h).hL
theorem aj5 {a:Da} (h:a.Ok):(minD a).st=0:=(xW h).st
theorem o0 {a:Da} (h:a.Ok) {w:List Nat} (hw:WL a.L w):(minD a).acc (minD a).st w=a.acc a.st w:=by
 rw[aj5 h];exact (xW h).jJ w hw
theorem tC {a:Da} (h:a.Ok):(minD a).n≤a.n:=by
 obtain ⟨p,_,c2,_⟩:=WD h
 rw[←xX h (Da.MW h c2)]
 have h1:=(Da.GI h c2).mL (a.quo p).n
 have h2:(a.quo p).trim.n=(aj (a.quo p).L (a.quo p).nx (a.quo p).st (a.quo p).n).length:=kR
 rw[h2]
 refine Nat.le_trans h1 ?_
 rw[Da.rI]
 exact M1 p a.n
theorem Yk {a b:Da} (ha:a.Ok) (hb:b.Ok) (hL:a.L=b.L) (hl: ∀w,WL a.L w→a.acc a.st w=b.acc b.st w):minD a=minD b:=
 xX hb (hL▸Canon.congr (xW ha) hl)
theorem Oi {a:Da} (ha:a.Ok):minD (minD a)=minD a:=
 Yk (dX ha) ha (ky ha) fun w hw=>o0 ha (by rwa [ky ha] at hw)
theorem Oj {a:Da} (h:a.Ok):CC Ar (dj a)=some (gf (minD a) 0):=by
 refine aj2 ?_
 unfold Yh
 refine bs (oQ h) (bF rfl ?_)
 refine bs (BW h) ?_
 rfl
def vT (a b:Da) (e:Int):List V:=[.int .i64 (a.L:Int),.int .i64 (a.st:Int),.int .i64 (b.L:Int),.int .i64 (b.st:Int),.int .i64 e,.list ak a.bz,.list an a.bD,.list ak b.bz,.list an b.bD]
theorem H0 {a b:Da} (ha:a.Ok) (hb:b.Ok) (hL:a.L=b.L):CC As (dt a (dj b))=some (vT (minD a) (minD b) 0):=by
 refine aj3 ?_
 unfold Yi
 refine bs (oQ ha) (bF rfl ?_)
 refine bs (oQ hb) (bF rfl ?_)
 refine bF (by rw[hL];simp) ?_
 refine bs (BW ha) ?_
 refine bs (BW hb) ?_
 rfl
theorem Yl {d e:Df} (h:vO d e=0): ∃a b:Da,a.Ok∧b.Ok∧a.L=b.L∧d=a.df∧e=b.df:=by
 unfold vO at h
 by_cases h1:d.val=0
 ·rw[if_neg (by simp[h1])] at h
  by_cases h2:e.val=0
  ·rw[if_neg (by simp[h2])] at h
   by_cases h3:d.L=e.L
   ·obtain ⟨a,ha,rfl⟩:=UE h1
    obtain ⟨b,hb,rfl⟩:=UE h2
    simp only[Da.df] at h3
    exact ⟨a,b,ha,hb,by omega,rfl,rfl⟩
   ·rw[if_pos h3] at h;omega
  ·rw[if_pos h2] at h;exact absurd h h2
 ·rw[if_pos h1] at h;exact absurd h h1
theorem Ym {d e:Df} (hd:d.Ok) (he:e.Ok) (m:Int):CC Ap (kz d (kz e [.int .i64 m]))=some [.bool (decide ((d.F.length:Int)≤m∧(e.F.length:Int)≤m∧vO d e=0))]:=by
 refine aj4 ?_
 unfold Yj
 rw[List.length_map,List.length_map]
 by_cases h1:(d.F.length:Int)≤m
 ·refine bT (decide_eq_true h1) ?_
  by_cases h2:(e.F.length:Int)≤m
  ·refine bT (decide_eq_true h2) ?_
   refine bs (ajK hd he) ?_
   refine congrArg (fun x=>some [V.bool x]) ?_
   rw[Bool.eq_iff_iff]
   simp[h1,h2]
  ·refine bF (decide_eq_false h2) ?_
   rw[decide_eq_false fun h=>h2 h.2.1]
 ·refine bF (decide_eq_false h1) ?_
  rw[decide_eq_false fun h=>h1 h.1]
def fE (E:List Ed):Nat→List Nat→Nat→Prop
 | i,[],k=>i=k
 | i,x::w,k=> ∃j,dM i x j∈E∧fE E j w k
theorem fE.ext {A B:List Ed} (h: ∀e,e∈A→e∈B): ∀{w:List Nat} {i k:Nat},fE A i w k→fE B i w k
 | [],_,_,p=>p
 | _::_,_,_,⟨j,h1,h2⟩=>⟨j,h _ h1,fE.ext h h2⟩
theorem fE.app {E:List Ed}: ∀{v w:List Nat} {i k:Nat},fE E i (v++w) k↔∃j,fE E i v j∧fE E j w k
 | [],w,i,k=>by simp[fE]
 | x::v,w,i,k=>by
  simp only[List.cons_append,fE]
  constructor
  ·rintro ⟨j,h1,h2⟩
   obtain ⟨m,h3,h4⟩:=fE.app.1 h2
   exact ⟨m,⟨j,h1,h3⟩,h4⟩
  ·rintro ⟨m,⟨j,h1,h3⟩,h4⟩
   exact ⟨j,h1,fE.app.2 ⟨m,h3,h4⟩⟩
theorem yM {p x q p' x' q':Nat}:dM p x q=dM p' x' q'↔p=p'∧x=x'∧q=q':=by
 unfold dM
 simp only[Ed.mk.injEq]
 omega
theorem aj6 {e:Ed} (h1:0≤e.f) (h2:0≤e.l) (h3:0≤e.t):e=dM e.f.toNat e.l.toNat e.t.toNat:=by
 unfold dM
 cases e
 simp only[Ed.mk.injEq] at*
 omega
theorem Ol {E:List Ed} (hE: ∀e∈E,0≤e.f∧0≤e.l∧0≤e.t): ∀(w:List Nat) (s k:Nat),(w.foldl (sn E) s).testBit k=true↔∃i,s.testBit i=true∧fE E i w k
 | [],s,k=>by simp[fE]
 | x::w,s,k=>by
  rw[List.foldl_cons,Ol hE w]
  constructor
  ·rintro ⟨j,h1,h2⟩
   unfold sn at h1
   rw[A4,List.any_eq_true] at h1
   obtain ⟨e,he,h3⟩:=h1
   simp only[Bool.and_eq_true,decide_eq_true_eq] at h3
   obtain ⟨c1,c2,c3⟩:=hE e he
   refine ⟨e.f.toNat,h3.2.1,j,?_,h2⟩
   have:e=dM e.f.toNat x j:=by
    rw[aj6 c1 c2 c3]
    rw[yM]
    simp only[dM,Int.toNat_natCast]
    exact ⟨trivial,by omega,h3.2.2⟩
   exact this▸he
  ·rintro ⟨i,h1,j,h2,h3⟩
   refine ⟨j,?_,h3⟩
   unfold sn
   rw[A4,List.any_eq_true]
   refine ⟨_,h2,?_⟩
   simp only[Bool.and_eq_true,decide_eq_true_eq,dM,Int.toNat_natCast]
   exact ⟨trivial,h1,trivial⟩
theorem aj7 {fin s:Nat}:sf fin s=true↔∃k,s.testBit k=true∧fin.testBit k=true:=by
 unfold sf
 rw[Bool.not_eq_true',beq_eq_false_iff_ne]
 constructor
 ·intro h
  obtain ⟨k,hk⟩:=Nat.exists_testBit_of_ne_zero h
  rw[Nat.testBit_and,Bool.and_eq_true] at hk
  exact ⟨k,hk⟩
 ·rintro ⟨k,h1,h2⟩ h0
  have:(s&&&fin).testBit k=true:=by rw[Nat.testBit_and,h1,h2];rfl
  rw[h0,Nat.zero_testBit] at this
  cases this
def sc (st fin:Nat) (l:List Ed) (w:List Nat):Prop:= ∃i k,st.testBit i=true∧fin.testBit k=true∧fE l i w k
section
variable {L S st fin:Nat} {l:List Ed} (h:tA L S st fin l)
include h
theorem aj8 (hn: ¬iw (cQ L S st fin l) L S):(fR (cQ L S st fin l) L S).Ok:=by
 unfold fR
 rw[if_neg hn]
 exact dX (ye (oY h) hn)
theorem aj9 (hn: ¬iw (cQ L S st fin l) L S):(fR (cQ L S st fin l) L S).L=L:=by
 unfold fR
 rw[if_neg hn]
 exact ky (ye (oY h) hn)
theorem aka (hn: ¬iw (cQ L S st fin l) L S) {w:List Nat} (hw:WL L w):(fR (cQ L S st fin l) L S).acc (fR (cQ L S st fin l) L S).st w=true↔sc st fin l w:=by
 have aw:=ye (oY h) hn
 unfold fR
 rw[if_neg hn,o0 aw hw,show (iW (cQ L S st fin l) L S).st=0 from rfl,ag3 (oY h) hw]
 show sf fin (w.foldl (sn (rO l)) st)=true↔_
 have hE: ∀e∈rO l,0≤e.f∧0≤e.l∧0≤e.t:=fun e he=>by
  have:=h.E e (yg.1 he)
  unfold Ed.In at this
  exact ⟨this.1,this.2.2.2.2.1,this.2.2.1⟩
 rw[aj7]
 unfold sc
 constructor
 ·rintro ⟨k,h1,h2⟩
  obtain ⟨i,h3,h4⟩:=(Ol hE w st k).1 h1
  exact ⟨i,k,h3,h2,h4.ext fun e he=>yg.1 he⟩
 ·rintro ⟨i,k,h1,h2,h3⟩
  exact ⟨k,(Ol hE w st k).2 ⟨i,h1,h3.ext fun e he=>yg.2 he⟩,h2⟩
theorem akb (hS:S≤9): ¬iw (cQ L S st fin l) L S:=fun ho=>by
 have h1:=yd (oY h) (2^S)
 have h2:2^S≤2^9:=Nat.pow_le_pow_right (by omega) hS
 have h3:(512:Nat)<(aj L (sn (cQ L S st fin l).E) (cQ L S st fin l).st (2^S)).length:=ho
 have h4:(2:Nat)^9=512:=by decide
 omega
end
noncomputable abbrev H2:Code:=cL Tryd.prog (av.aT 51)
noncomputable def Dd (C:ae) (q t36 t37 t41 aK aP:Int) (bc a9:List V) (bX bY nM nO:Int) (ee cM bU bK:List V) (t42 bm ba bp bq:Int) (bS:List V) {β:Type} (kn:(Int × Int × Int × Int × Int × (List V))→Option β) (kr:(Int × Bool × Int × Int × Int × Int × (List V))→Option β):Option β:=
 bif decide ((t42:Int)<t41) then
  (C uW [.int .i64 q,.int .i64 t42,.int .i64 q,.int .i64 bm,.int .i64 ba,.int .u64 bp,.int .u64 bq,.list ar bS]).bind fun r4=>
  kn (IntKind.wrap .i64 (t42+1),(V.nth r4 0).toInt,(V.nth (r4.drop 1) 0).toInt,(V.nth ((r4.drop 1).drop 1) 0).toInt,(V.nth (((r4.drop 1).drop 1).drop 1) 0).toInt,(V.nth (r4.drop 4) 0).toList)
 else
  kr (t42,decide ((t42:Int)<t41),bm,ba,bp,bq,bS)
noncomputable def Om (C:ae) (q t36 t37 t41 aK aP:Int) (bc a9:List V) (bX bY nM nO:Int) (ee cM bU bK:List V):(Int × Int × Int × Int × Int × (List V))→Option ((Int × Int × Int × Int × Int × (List V)) ⊕ (Int × Bool × Int × Int × Int × Int × (List V))):=un fun t42=>un fun bm=>un fun ba=>un fun bp=>un fun bq bS=>Dd C q t36 t37 t41 aK aP bc a9 bX bY nM nO ee cM bU bK t42 bm ba bp bq bS (fun y=>some (.inl y)) (fun r=>some (.inr r))
noncomputable def De (C:ae) (t36 aK aP:Int) (bc a9:List V) (bX bY nM nO:Int) (ee cM bU bK:List V) (t37 bm ba bp bq:Int) (bS:List V) {β:Type} (kn:(Int × Int × Int × Int × Int × (List V))→Option β) (kr:(Int × Bool × Int × Int × Int × Int × (List V))→Option β):Option β:=
 bif decide ((t37:Int)<t36) then
  (Loop (Om C t37 t36 t37 aK aK aP bc a9 bX bY nM nO ee cM bU bK) (0,bm,ba,bp,bq,bS)).bind (un fun (nG:Int)=>un fun (rn:Bool)=>un fun (vP:Int)=>un fun (vQ:Int)=>un fun (sa:Int)=>un fun (Dg:Int) (Ng:List V)=>
   kn (IntKind.wrap .i64 (t37+1),vP,vQ,sa,Dg,Ng))
 else
  kr (t37,decide ((t37:Int)<t36),bm,ba,bp,bq,bS)
noncomputable def On (C:ae) (t36 aK aP:Int) (bc a9:List V) (bX bY nM nO:Int) (ee cM bU bK:List V):(Int × Int × Int × Int × Int × (List V))→Option ((Int × Int × Int × Int × Int × (List V)) ⊕ (Int × Bool × Int × Int × Int × Int × (List V))):=un fun t37=>un fun bm=>un fun ba=>un fun bp=>un fun bq bS=>De C t36 aK aP bc a9 bX bY nM nO ee cM bU bK t37 bm ba bp bq bS (fun y=>some (.inl y)) (fun r=>some (.inr r))
noncomputable def Yn (C:ae):cy:=fun β n ds k=>
 bif Nat.beq n 193 then bw KX [false,false,false,false,true,false,false,false,false,false,false,false,false,true,true,true,true,false,false,false,false,true] [[1,2,3,4,0,0,6,7,8,9,10,11,12,13,0,0,0,0,18,19,20,21,0]] (@Dd C) ds k else
 bif Nat.beq n 145 then bw KY [false,true,false,false,false,false,false,false,false,false,true,true,true,true,false,false,false,false,true] [[1,0,0,3,4,5,6,7,8,9,10,0,0,0,0,15,16,17,18,0]] (@De C) ds k else
 none
abbrev Yo (C:ae) (b:cv):Prop:=cw Tryd.prog av C (Yn C) 51 (cR Tryd.prog (av.aT 51)) (av.sin 51).aX.length b
theorem akc (C:ae):Yo C (.loop (aq [1,1,1,1,1,1,0,1,0,0,1,1,0,0,1,1,0,0] H2)):=
 bC KX [false,false,false,false,true,false,false,false,false,false,false,false,false,true,true,true,true,false,false,false,false,true] [[1,2,3,4,0,0,6,7,8,9,10,11,12,13,0,0,0,0,18,19,20,21,0]] (@Dd C) (by kernel_rfl) (aV (bs:=[]) (by kernel_rfl) au) (fun ds=>by kernel_rfl) (fun i x=>by kernel_rfl) (fun i x β k=>by kernel_rfl) (fun β ds k=>by kernel_rfl)
theorem akd (C:ae):Yo C (.loop (aq [1,1,1,1,1,1,0,1,0,0] H2)):=
 bC KY [false,true,false,false,false,false,false,false,false,false,true,true,true,true,false,false,false,false,true] [[1,0,0,3,4,5,6,7,8,9,10,0,0,0,0,15,16,17,18,0]] (@De C) (by kernel_rfl) (aV (bs:=[.loop (aq [1,1,1,1,1,1,0,1,0,0,1,1,0,0,1,1,0,0] H2)]) (by kernel_rfl) (bf (akc C) au)) (fun ds=>by kernel_rfl) (fun i x=>by kernel_rfl) (fun i x β k=>by kernel_rfl) (fun β ds k=>by kernel_rfl)
noncomputable def Yp (C:ae) (aQ aS:Int) (aF aZ:List V):Option (List V):=
 (C Ar [.int .i64 aQ,.int .i64 aS,.list ak aF,.list an aZ]).bind fun r1=>
 bif (((V.nth (r1.drop 2) 0).toInt):Int) != 0 then
  some [.int .i64 0,.int .i64 0,.int .i64 ((V.nth (r1.drop 2) 0).toInt),.list ak ([]:List V),.list an ([]:List V)]
 else
  (C uU [.int .i64 aQ,.int .i64 (((V.nth (r1.drop 3) 0).toList).length:Int)]).bind fun r2=>
  bif (V.nth r2 0).toBool then
  some [.int .i64 0,.int .i64 0,.int .i64 3,.list ak ([]:List V),.list an ([]:List V)]
  else
  (C uZ [.int .i64 ((V.nth r1 0).toInt),.int .i64 ((V.nth (r1.drop 1) 0).toInt),.list ak ((V.nth (r1.drop 3) 0).toList),.list an ((V.nth ((r1.drop 3).drop 1) 0).toList),.int .i64 0,.int .i64 ((V.nth (r2.drop 1) 0).toInt),.int .i64 ((V.nth ((r2.drop 1).drop 1) 0).toInt),.int .u64 ((V.nth (((r2.drop 1).drop 1).drop 1) 0).toInt),.int .u64 ((V.nth ((((r2.drop 1).drop 1).drop 1).drop 1) 0).toInt),.list ar ((V.nth ((r2.drop 1).drop 4) 0).toList)]).bind fun r3=>
  (Loop (On C (((V.nth (r1.drop 3) 0).toList).length:Int) aQ aS aF aZ 0 0 ((V.nth r1 0).toInt) ((V.nth (r1.drop 1) 0).toInt) ([]:List V) ([]:List V) ((V.nth (r1.drop 3) 0).toList) ((V.nth ((r1.drop 3).drop 1) 0).toList)) (0,(V.nth r3 0).toInt,(V.nth (r3.drop 1) 0).toInt,(V.nth ((r3.drop 1).drop 1) 0).toInt,(V.nth (((r3.drop 1).drop 1).drop 1) 0).toInt,(V.nth (r3.drop 4) 0).toList)).bind (un fun (BV:Int)=>un fun (rD:Bool)=>un fun (Oa:Int)=>un fun (Ob:Int)=>un fun (Oc:Int)=>un fun (ake:Int) (vm:List V)=>
   (C uX [.int .i64 ((V.nth (r1.drop 1) 0).toInt),.int .i64 Oa,.int .i64 Ob,.int .u64 Oc,.int .u64 ake,.list ar vm]).bind fun dk=>
   (C uY [.list ak ((V.nth (r1.drop 3) 0).toList),.int .i64 0,.int .i64 ((V.nth dk 0).toInt),.int .i64 ((V.nth (dk.drop 1) 0).toInt),.int .u64 ((V.nth ((dk.drop 1).drop 1) 0).toInt),.int .u64 ((V.nth (((dk.drop 1).drop 1).drop 1) 0).toInt),.list ar ((V.nth (dk.drop 4) 0).toList)]).bind fun fD=>
   (C qX [.int .i64 ((V.nth fD 0).toInt),.int .i64 ((V.nth (fD.drop 1) 0).toInt),.int .u64 ((V.nth ((fD.drop 1).drop 1) 0).toInt),.int .u64 ((V.nth (((fD.drop 1).drop 1).drop 1) 0).toInt),.list ar ((V.nth (fD.drop 4) 0).toList)]).bind fun oW=>
   some [.int .i64 ((V.nth oW 0).toInt),.int .i64 ((V.nth (oW.drop 1) 0).toInt),.int .i64 ((V.nth (oW.drop 2) 0).toInt),.list ak ((V.nth ((oW.drop 3).drop 5) 0).toList),.list an ((V.nth (((oW.drop 3).drop 5).drop 1) 0).toList)])
theorem akf {aQ aS:Int} {aF aZ:List V} {r:Option (List V)} (h:Yp CC aQ aS aF aZ=r):CC Fe [.int .i64 aQ,.int .i64 aS,.list ak aF,.list an aZ]=r:=
 bh (key:=51) (L:=Yn CC) (bs:=[.loop (aq [1,1,1,1,1,1,0,1,0,0] H2)]) (by kernel_rfl) (bf (akd CC) au) (Eq.trans (by kernel_rfl) h)
theorem Oo {p x q L S:Nat} (hp:p<S) (hx:x<L) (hq:q<S):(dM p x q).In (L:Int) (S:Int):=by unfold Ed.In dM;simp only;omega
theorem Oq {a:Da} (h:a.Ok) {off S:Nat} (hs:a.n+off≤S) {e:Ed} (he:e∈ew a off):e.In (a.L:Int) (S:Int):=by
 obtain ⟨p,x,hp,hx,rfl⟩:=vS.1 he
 have:=h.dS hp hx
 exact Oo (by omega) hx (by omega)
def jR (L n:Nat):List Ed:=fm n fun q=>tab L fun x=>dM q x q
theorem akg {L n:Nat} {e:Ed}:e∈jR L n↔∃q x,q<n∧x<L∧e=dM q x q:=by
 unfold jR
 rw[Yd]
 constructor
 ·rintro ⟨p,hp,he⟩
  obtain ⟨x,hx,rfl⟩:=td.1 he
  exact ⟨p,x,hp,hx,rfl⟩
 ·rintro ⟨p,x,hp,hx,rfl⟩
  exact ⟨p,hp,td.2 ⟨x,hx,rfl⟩⟩
def yN (m:Da):Nf:=cQ m.L m.n (2^m.st) (gI 0 m.fin 0 m.n) (ew m 0++jR m.L m.n)
theorem Yq {m:Da} (h:m.Ok) (hs:m.n≤64):tA m.L m.n (2^m.st) (gI 0 m.fin 0 m.n) (ew m 0++jR m.L m.n) where
 l1:=h.l1
 l6:=h.l6
 pT:=hs
 st:=Nat.pow_lt_pow_right (by omega) h.s
 fin:=Dc (Nat.two_pow_pos _) (by omega)
 E:=fun e he=>by
  rcases List.mem_append.1 he with he|he
  ·exact Oq h (by omega) he
  ·obtain ⟨p,x,hp,hx,rfl⟩:=akg.1 he
   exact Oo (by omega) hx (by omega)
 len:=by
  have h1:=sb h (off:=0) (n:=m.n)
  have h2:(jR m.L m.n).length≤m.n*6:=Of fun p _=>by rw[dJ];exact h.l6
  rw[List.length_append]
  unfold ew
  omega
section
variable {a:Da} (h:a.Ok)
include h
theorem akh (hs:(minD a).n≤64) {X:Da} {e:Int} {n:Nf} (hr:CC qX (aN (minD a).L (minD a).n (2^(minD a).st) (gI 0 (minD a).fin 0 (minD a).n) (ew (minD a) 0++jR (minD a).L (minD a).n))=some (NZ X e n)):CC Fe (dj a)=some (gf X e):=by
 have hm:=dX h
 have h6:=hm.l6
 have hL:=ky h
 have bP:=hm.s
 refine akf ?_
 unfold Yp
 refine bs (Oj h) (bF rfl ?_)
 have e0:(V.nth ((gf (minD a) 0).drop 3) 0).toList=(minD a).bz:=rfl
 rw[e0,Da.kW]
 refine bs (Og hs) (bF rfl ?_)
 refine bs (HX (l:=[]) hm (off:=0) (by omega) (by simp)) ?_
 rw[List.nil_append]
 have hlen:=sb hm (off:=0) (n:=(minD a).n)
 refine bs (yL (minD a).n (fun i=>((i:Int),(a.L:Int),((minD a).n:Int),((0:Nat):Int),((0:Nat):Int),(ew (minD a) 0++jR (minD a).L i).map Ed.enc)) (((minD a).n:Int),false,(a.L:Int),((minD a).n:Int),((0:Nat):Int),((0:Nat):Int),(ew (minD a) 0++jR (minD a).L (minD a).n).map Ed.enc) (by rw[show jR (minD a).L 0=[] from rfl,List.append_nil];rfl) (fun q hq=> ?_) ?_) ?_
 ·have tG:(jR (minD a).L q).length≤q*6:=Of fun p _=>by rw[dJ];exact h6
  simp only[On,De,un]
  refine bT (dE hq) ?_
  refine bs (yL a.L (fun i=>((i:Int),(a.L:Int),((minD a).n:Int),((0:Nat):Int),((0:Nat):Int),((ew (minD a) 0++jR (minD a).L q)++tab i fun x=>dM q x q).map Ed.enc)) ((a.L:Int),false,(a.L:Int),((minD a).n:Int),((0:Nat):Int),((0:Nat):Int),((ew (minD a) 0++jR (minD a).L q)++tab (minD a).L fun x=>dM q x q).map Ed.enc) (by rw[MK,List.append_nil];rfl) (fun x hx=> ?_) ?_) ?_
  ·simp only[Om,Dd,un]
   refine bT (dE hx) ?_
   refine bs (HU (by rw[List.length_append,List.length_append,dJ];unfold ew;omega)) ?_
   rw[cN (by omega),lG,←List.append_assoc]
   rfl
  ·simp only[Om,Dd,un]
   refine bF (bu (Nat.le_refl _)) ?_
   rw[bu (Nat.le_refl _),hL]
  ·simp only[un]
   rw[cN (by omega),show jR (minD a).L (q+1)=jR (minD a).L q++tab (minD a).L fun x=>dM q x q from Oe,←List.append_assoc]
 ·simp only[On,De,un]
  refine bF (bu (Nat.le_refl _)) ?_
  rw[bu (Nat.le_refl _)]
 ·simp only[un]
  refine bs (HV (q:=(minD a).st) (by omega) (by omega)) ?_
  refine bs (Oh (n:=(minD a).n) (f:=(minD a).fin) (off:=0) (by omega) (by omega)) ?_
  rw[Nat.zero_or]
  rw[hL] at hr
  rw[hL]
  refine bs hr ?_
  rfl
end
noncomputable abbrev H3:Code:=cL Tryd.prog (av.aT 30)
noncomputable def H4 (C:ae) (offset:Int) (t66:Bool) (alK alL alM aki bm ba bp bq:Int) (lZ ee cM bU bK:List V) {β:Type} (kr:(Int × Int × Int × Int × (List V))→Option β):Option β:=
 bif t66 then
  (C uX [.int .i64 (IntKind.wrap .i64 (offset+aki)),.int .i64 bm,.int .i64 ba,.int .u64 bp,.int .u64 bq,.list ar bK]).bind fun r8=>
  kr ((V.nth r8 0).toInt,(V.nth (r8.drop 1) 0).toInt,(V.nth ((r8.drop 1).drop 1) 0).toInt,(V.nth (((r8.drop 1).drop 1).drop 1) 0).toInt,(V.nth (r8.drop 4) 0).toList)
 else
  kr (bm,ba,bp,bq,bK)
noncomputable def Yr (C:ae):cy:=fun β n ds k=>
 bif Nat.beq n 1071 then mH KQ [[1,3,4,5,6,0,0,0,0,11,12,13,14,0]] (@H4 C) ds k else
 none
abbrev akj (C:ae) (b:cv):Prop:=cw Tryd.prog av C (Yr C) 30 (cR Tryd.prog (av.aT 30)) (av.sin 30).aX.length b
theorem akk (C:ae):akj C (.cond 66 (aq [1,1,1,1,1,1,1,1,1,1,0,1,0] H3) (aq [1,1,1,1,1,1,1,1,1,1,0,1,1] H3)):=
 nA KQ [[1,3,4,5,6,0,0,0,0,11,12,13,14,0]] (@H4 C) (by kernel_rfl) (aV (bs:=[]) (by kernel_rfl) au) (aV (bs:=[]) (by kernel_rfl) au) (fun ds=>by kernel_rfl) (fun i β k=>by kernel_rfl) (fun β ds k=>by kernel_rfl)
noncomputable def Ot (C:ae) (bW cC:Int) (cA cD:List V) (cI cO:Int) (cP cU:List V):Option (List V):=
 (C As [.int .i64 bW,.int .i64 cC,.list ak cA,.list an cD,.int .i64 cI,.int .i64 cO,.list ak cP,.list an cU]).bind fun r1=>
 bif (((V.nth ((r1.drop 2).drop 2) 0).toInt):Int) != 0 then
  some [.int .i64 0,.int .i64 0,.int .i64 ((V.nth ((r1.drop 2).drop 2) 0).toInt),.list ak ([]:List V),.list an ([]:List V)]
 else
  (C uU [.int .i64 bW,.int .i64 (IntKind.wrap .i64 ((((V.nth (r1.drop 5) 0).toList).length:Int)+(((V.nth (((r1.drop 5).drop 1).drop 1) 0).toList).length:Int)))]).bind fun r2=>
  bif (V.nth r2 0).toBool then
  some [.int .i64 0,.int .i64 0,.int .i64 3,.list ak ([]:List V),.list an ([]:List V)]
  else
  (C uZ [.int .i64 ((V.nth r1 0).toInt),.int .i64 ((V.nth (r1.drop 1) 0).toInt),.list ak ((V.nth (r1.drop 5) 0).toList),.list an ((V.nth ((r1.drop 5).drop 1) 0).toList),.int .i64 0,.int .i64 ((V.nth (r2.drop 1) 0).toInt),.int .i64 ((V.nth ((r2.drop 1).drop 1) 0).toInt),.int .u64 ((V.nth (((r2.drop 1).drop 1).drop 1) 0).toInt),.int .u64 ((V.nth ((((r2.drop 1).drop 1).drop 1).drop 1) 0).toInt),.list ar ((V.nth ((r2.drop 1).drop 4) 0).toList)]).bind fun r3=>
  (C uZ [.int .i64 ((V.nth (r1.drop 2) 0).toInt),.int .i64 ((V.nth ((r1.drop 2).drop 1) 0).toInt),.list ak ((V.nth (((r1.drop 5).drop 1).drop 1) 0).toList),.list an ((V.nth ((((r1.drop 5).drop 1).drop 1).drop 1) 0).toList),.int .i64 (((V.nth (r1.drop 5) 0).toList).length:Int),.int .i64 ((V.nth r3 0).toInt),.int .i64 ((V.nth (r3.drop 1) 0).toInt),.int .u64 ((V.nth ((r3.drop 1).drop 1) 0).toInt),.int .u64 ((V.nth (((r3.drop 1).drop 1).drop 1) 0).toInt),.list ar ((V.nth (r3.drop 4) 0).toList)]).bind fun r4=>
  (C Aw [.list ak ((V.nth (r1.drop 5) 0).toList),.int .i64 (IntKind.wrap .i64 ((((V.nth (r1.drop 5) 0).toList).length:Int)+((V.nth ((r1.drop 2).drop 1) 0).toInt))),.int .i64 ((V.nth r4 0).toInt),.int .i64 ((V.nth (r4.drop 1) 0).toInt),.int .u64 ((V.nth ((r4.drop 1).drop 1) 0).toInt),.int .u64 ((V.nth (((r4.drop 1).drop 1).drop 1) 0).toInt),.list ar ((V.nth (r4.drop 4) 0).toList)]).bind fun r5=>
  (C uX [.int .i64 ((V.nth (r1.drop 1) 0).toInt),.int .i64 ((V.nth r5 0).toInt),.int .i64 ((V.nth (r5.drop 1) 0).toInt),.int .u64 ((V.nth ((r5.drop 1).drop 1) 0).toInt),.int .u64 ((V.nth (((r5.drop 1).drop 1).drop 1) 0).toInt),.list ar ((V.nth (r5.drop 4) 0).toList)]).bind fun r6=>
  bif (decide (0≤((V.nth (r1.drop 1) 0).toInt)))&&(decide (((V.nth (r1.drop 1) 0).toInt)<(((V.nth (r1.drop 5) 0).toList).length:Int))) then
   (((V.nth (r1.drop 5) 0).toList)[((V.nth (r1.drop 1) 0).toInt:Int).toNat]?).bind fun x7=>
   H4 C (((V.nth (r1.drop 5) 0).toList).length:Int) x7.toBool 0 0 ((V.nth (r1.drop 2) 0).toInt) ((V.nth ((r1.drop 2).drop 1) 0).toInt) ((V.nth r6 0).toInt) ((V.nth (r6.drop 1) 0).toInt) ((V.nth ((r6.drop 1).drop 1) 0).toInt) ((V.nth (((r6.drop 1).drop 1).drop 1) 0).toInt) ([]:List V) ([]:List V) ((V.nth (((r1.drop 5).drop 1).drop 1) 0).toList) ((V.nth ((((r1.drop 5).drop 1).drop 1).drop 1) 0).toList) ((V.nth (r6.drop 4) 0).toList) (un fun (sa:Int)=>un fun (Dg:Int)=>un fun (Ou:Int)=>un fun (Ov:Int) (xL:List V)=>
    (C uY [.list ak ((V.nth (((r1.drop 5).drop 1).drop 1) 0).toList),.int .i64 (((V.nth (r1.drop 5) 0).toList).length:Int),.int .i64 sa,.int .i64 Dg,.int .u64 Ou,.int .u64 Ov,.list ar xL]).bind fun iY=>
    (C qX [.int .i64 ((V.nth iY 0).toInt),.int .i64 ((V.nth (iY.drop 1) 0).toInt),.int .u64 ((V.nth ((iY.drop 1).drop 1) 0).toInt),.int .u64 ((V.nth (((iY.drop 1).drop 1).drop 1) 0).toInt),.list ar ((V.nth (iY.drop 4) 0).toList)]).bind fun eH=>
    some [.int .i64 ((V.nth eH 0).toInt),.int .i64 ((V.nth (eH.drop 1) 0).toInt),.int .i64 ((V.nth (eH.drop 2) 0).toInt),.list ak ((V.nth ((eH.drop 3).drop 5) 0).toList),.list an ((V.nth (((eH.drop 3).drop 5).drop 1) 0).toList)])
  else none
theorem Ys {bW cC:Int} {cA cD:List V} {cI cO:Int} {cP cU:List V} {r:Option (List V)} (h:Ot CC bW cC cA cD cI cO cP cU=r):CC pH [.int .i64 bW,.int .i64 cC,.list ak cA,.list an cD,.int .i64 cI,.int .i64 cO,.list ak cP,.list an cU]=r:=
 bh (key:=30) (L:=Yr CC) (bs:=[.cond 66 (aq [1,1,1,1,1,1,1,1,1,1,0,1,0] H3) (aq [1,1,1,1,1,1,1,1,1,1,0,1,1] H3)]) (by kernel_rfl) (bf (akk CC) au) (Eq.trans (by kernel_rfl) h)
def qb (m k:Da):List Ed:=(ew m 0++ew k m.n)++mf m.n m.fin (m.n+k.st) (ew m 0++ew k m.n)
def vU (m k:Da):Nat:=if m.fin m.st=true then 2^m.st|||2^(m.n+k.st) else 2^m.st
def H5 (m k:Da):Nat:=gI 0 k.fin m.n k.n
def Dh (m k:Da):Nf:=cQ m.L (m.n+k.n) (vU m k) (H5 m k) (qb m k)
theorem Yt {L S:Nat} {e:Ed} (h:e.In (L:Int) (S:Int)):0≤e.f∧0≤e.l∧0≤e.t:=by unfold Ed.In at h;omega
section
variable {m k:Da} (hm:m.Ok) (hk:k.Ok) (hL:m.L=k.L)
include hm hk hL
theorem Ow {e:Ed} (he:e∈ew m 0++ew k m.n):e.In (m.L:Int) ((m.n+k.n:Nat):Int):=by
 rcases List.mem_append.1 he with he|he
 ·exact Oq hm (by omega) he
 ·rw[hL];exact Oq hk (by omega) he
theorem akl {e:Ed} (he:e∈qb m k):e.In (m.L:Int) ((m.n+k.n:Nat):Int):=by
 rcases List.mem_append.1 he with he|he
 ·exact Ow hm hk hL he
 ·obtain ⟨e',h1,h2,h3,rfl⟩:=HY.1 he
  have:=Ow hm hk hL h1
  have:=hk.s
  unfold Ed.In at*
  simp only
  omega
theorem Yu (hs:m.n+k.n≤64):tA m.L (m.n+k.n) (vU m k) (H5 m k) (qb m k) where
 l1:=hm.l1
 l6:=hm.l6
 pT:=hs
 st:=by
  have h1:=hm.s
  have h2:=hk.s
  unfold vU
  split
  ·exact Nat.or_lt_two_pow (Nat.pow_lt_pow_right (by omega) (by omega)) (Nat.pow_lt_pow_right (by omega) (by omega))
  ·exact Nat.pow_lt_pow_right (by omega) (by omega)
 fin:=Dc (Nat.two_pow_pos _) (by omega)
 E:=fun e he=>akl hm hk hL he
 len:=by
  have h1:=sb hm (off:=0) (n:=m.n)
  have h2:=sb hk (off:=m.n) (n:=k.n)
  have h3:=HZ (l:=ew m 0++ew k m.n) (n:=m.n) (to:=m.n+k.st) (f:=m.fin)
  unfold qb
  rw[List.length_append]
  rw[List.length_append] at*
  unfold ew at*
  omega
end
section
variable {a b:Da} (ha:a.Ok) (hb:b.Ok) (hL:a.L=b.L)
include ha hb hL
theorem akm (hs:(minD a).n+(minD b).n≤64):CC pH (dt a (dj b))=some (gf (fR (Dh (minD a) (minD b)) a.L ((minD a).n+(minD b).n)) (n7 (Dh (minD a) (minD b)) a.L ((minD a).n+(minD b).n))):=by
 have hm:=dX ha
 have hk:=dX hb
 have vV:=ky ha
 have Ox:=ky hb
 have m7:(minD a).L=(minD b).L:=by rw[vV,Ox,hL]
 have bP:=hm.s
 have hsk:=hk.s
 have hr:=XW (Yu hm hk m7 hs)
 have l1:=sb hm (off:=0) (n:=(minD a).n)
 have l2:=sb hk (off:=(minD a).n) (n:=(minD b).n)
 refine Ys ?_
 unfold Ot
 refine bs (H0 ha hb hL) (bF rfl ?_)
 have e0:(V.nth ((vT (minD a) (minD b) 0).drop 5) 0).toList=(minD a).bz:=rfl
 have e1:(V.nth ((((vT (minD a) (minD b) 0).drop 5).drop 1).drop 1) 0).toList=(minD b).bz:=rfl
 have e2:(V.nth (((vT (minD a) (minD b) 0).drop 2).drop 1) 0).toInt=((minD b).st:Int):=rfl
 have e3:(V.nth ((vT (minD a) (minD b) 0).drop 1) 0).toInt=((minD a).st:Int):=rfl
 rw[e0,e1,e2,e3,Da.kW,Da.kW,vR (by omega),vR (by omega)]
 refine bs (Og hs) (bF rfl ?_)
 refine bs (HX (l:=[]) hm (off:=0) (by omega) (by simp)) ?_
 rw[List.nil_append]
 refine bs (HX hk (off:=(minD a).n) (by omega) (by unfold ew;omega)) ?_
 refine bs (Yg (n:=(minD a).n) (f:=(minD a).fin) (fun e he=>Yt (Ow hm hk m7 he)) (by rw[List.length_append];unfold ew;omega) (by omega)) ?_
 refine bs (HV (q:=(minD a).st) (by omega) (by omega)) ?_
 refine bT (UG bP) ?_
 rw[Int.toNat_natCast]
 refine bs (Gt bP) ?_
 rw[vV] at hr
 have fin: ∀(s:Nat),s=vU (minD a) (minD b)→s<2^64→((CC uY [.list ak (minD b).bz,.int .i64 ((minD a).n:Int),.int .i64 (a.L:Int),.int .i64 (((minD a).n+(minD b).n:Nat):Int),.int .u64 (s:Int),.int .u64 ((0:Nat):Int),.list ar ((qb (minD a) (minD b)).map Ed.enc)]).bind fun iY=>
    (CC qX [.int .i64 ((V.nth iY 0).toInt),.int .i64 ((V.nth (iY.drop 1) 0).toInt),.int .u64 ((V.nth ((iY.drop 1).drop 1) 0).toInt),.int .u64 ((V.nth (((iY.drop 1).drop 1).drop 1) 0).toInt),.list ar ((V.nth (iY.drop 4) 0).toList)]).bind fun eH=>
    some [.int .i64 ((V.nth eH 0).toInt),.int .i64 ((V.nth (eH.drop 1) 0).toInt),.int .i64 ((V.nth (eH.drop 2) 0).toInt),.list ak ((V.nth ((eH.drop 3).drop 5) 0).toList),.list an ((V.nth (((eH.drop 3).drop 5).drop 1) 0).toList)])=some (gf (fR (Dh (minD a) (minD b)) a.L ((minD a).n+(minD b).n)) (n7 (Dh (minD a) (minD b)) a.L ((minD a).n+(minD b).n))):=by
  rintro s rfl mC
  refine bs (Oh (n:=(minD b).n) (f:=(minD b).fin) (off:=(minD a).n) (by omega) (by omega)) ?_
  refine bs hr ?_
  show _=some (gf (fR (cQ (minD a).L _ _ _ _) a.L _) (n7 (cQ (minD a).L _ _ _ _) a.L _))
  rw[vV]
  rfl
 have p1:(2:Nat)^(minD a).st<2^64:=Nat.pow_lt_pow_right (by omega) (by omega)
 have p2:(2:Nat)^((minD a).n+(minD b).st)<2^64:=Nat.pow_lt_pow_right (by omega) (by omega)
 unfold H4
 rw[Nat.zero_or]
 cases hf:(minD a).fin (minD a).st with
 | true=>
  refine bT rfl ?_
  rw[vR (by omega)]
  refine bs (HV (q:=(minD a).n+(minD b).st) (by omega) p1) ?_
  exact fin _ (if_pos hf).symm (Nat.or_lt_two_pow p1 p2)
 | false=>
  refine bF rfl ?_
  exact fin _ (if_neg (by rw[hf];simp)).symm p1
theorem akn (hs:64<(minD a).n+(minD b).n):CC pH (dt a (dj b))=some (gf zD 3):=by
 have h1:=(dX ha).di
 have h2:=(dX hb).di
 refine Ys ?_
 unfold Ot
 refine bs (H0 ha hb hL) (bF rfl ?_)
 have e0:(V.nth ((vT (minD a) (minD b) 0).drop 5) 0).toList=(minD a).bz:=rfl
 have e1:(V.nth ((((vT (minD a) (minD b) 0).drop 5).drop 1).drop 1) 0).toList=(minD b).bz:=rfl
 rw[e0,e1,Da.kW,Da.kW,vR (by omega)]
 refine bs (Yf hs) (bT rfl ?_)
 rfl
end
theorem vW {q i:Nat}:(2^q).testBit i=true↔i=q:=by rw[Nat.testBit_two_pow,decide_eq_true_eq];exact eq_comm
theorem ako {f:Nat→Bool} {off n j:Nat}:(gI 0 f off n).testBit j=true↔off≤j∧j<n+off∧f (j-off)=true:=by
 rw[HW,Nat.zero_testBit,Bool.false_or,Bool.and_eq_true,decide_eq_true_eq,and_assoc]
theorem yO {m k:Da} (hm:m.Ok) (hL:m.L=k.L) {p x q:Nat}:dM p x q∈qb m k↔(p<m.n∧x<m.L∧(q=m.nx p x∨m.fin (m.nx p x)=true∧q=m.n+k.st))∨∃p',p=p'+m.n∧p'<k.n∧x<m.L∧q=k.nx p' x+m.n:=by
 unfold qb
 rw[List.mem_append,List.mem_append,vS,vS,HY]
 constructor
 ·rintro ((⟨p',x',h1,h2,h3⟩|⟨p',x',h1,h2,h3⟩)|⟨e',h1,h2,h3,h4⟩)
  ·obtain ⟨rfl,rfl,rfl⟩:=yM.1 h3
   exact .inl ⟨h1,h2,.inl rfl⟩
  ·obtain ⟨rfl,rfl,rfl⟩:=yM.1 h3
   exact .inr ⟨p',rfl,h1,hL▸h2,rfl⟩
  ·rcases List.mem_append.1 h1 with h1|h1
   ·obtain ⟨p',x',g1,g2,rfl⟩:=vS.1 h1
    have e:dM p x q=dM (p'+0) x' (m.n+k.st):=h4
    obtain ⟨rfl,rfl,rfl⟩:=yM.1 e
    exact .inl ⟨g1,g2,.inr ⟨h3,rfl⟩⟩
   ·obtain ⟨p',x',g1,g2,rfl⟩:=vS.1 h1
    have:(dM (p'+m.n) x' (k.nx p' x'+m.n)).t.toNat=k.nx p' x'+m.n:=rfl
    omega
 ·rintro (⟨h1,h2,rfl|⟨h3,rfl⟩⟩|⟨p',rfl,h1,h2,rfl⟩)
  ·exact .inl (.inl ⟨p,x,h1,h2,rfl⟩)
  ·exact .inr ⟨dM p x (m.nx p x),List.mem_append_left _ (vS.2 ⟨p,x,h1,h2,rfl⟩),hm.dS h1 h2,h3,rfl⟩
  ·exact .inl (.inr ⟨p',x,h1,hL▸h2,rfl⟩)
section
variable {m k:Da} (hm:m.Ok) (hk:k.Ok) (hL:m.L=k.L)
include hm hk hL
theorem H6: ∀{w:List Nat} {j t:Nat},j<k.n→WL m.L w→(fE (qb m k) (j+m.n) w t↔t=k.run j w+m.n)
 | [],j,t,_,_=>by
  show j+m.n=t↔_
  exact eq_comm
 | x::w,j,t,hj,hw=>by
  rw[Da.Ba]
  have ih:=fun t=>H6 (w:=w) (j:=k.nx j x) (t:=t) (hk.dS hj (hL▸hw.head)) hw.tail
  constructor
  ·rintro ⟨q,h1,h2⟩
   rcases (yO hm hL).1 h1 with ⟨h3,_⟩|⟨p',h3,h4,h5,rfl⟩
   ·omega
   ·obtain rfl:j=p':=by omega
    exact (ih t).1 h2
  ·intro h
   exact ⟨_,(yO hm hL).2 (.inr ⟨j,rfl,hj,hw.head,rfl⟩),(ih t).2 h⟩
theorem Oy: ∀{w:List Nat} {i t:Nat},i<m.n→WL m.L w→(fE (qb m k) i w t↔t=m.run i w∨∃u v,w=u++v∧u≠[]∧m.fin (m.run i u)=true∧t=k.run k.st v+m.n)
 | [],i,t,_,_=>by
  show i=t↔_
  constructor
  ·intro h;exact .inl h.symm
  ·rintro (h|⟨u,v,h1,h2,_⟩)
   ·exact h.symm
   ·exact absurd (List.append_eq_nil_iff.1 h1.symm).1 h2
 | x::w,i,t,hi,hw=>by
  rw[Da.Ba]
  have hn:=hm.dS hi hw.head
  have ih:=Oy (w:=w) (i:=m.nx i x) (t:=t) hn hw.tail
  have h2:=H6 hm hk hL (w:=w) (j:=k.st) (t:=t) hk.s hw.tail
  constructor
  ·rintro ⟨q,h3,h4⟩
   rcases (yO hm hL).1 h3 with ⟨_,_,rfl|⟨h5,rfl⟩⟩|⟨p',h5,h6,_⟩
   ·rcases ih.1 h4 with h5|⟨u,v,rfl,h5,h6,h7⟩
    ·exact .inl h5
    ·exact .inr ⟨x::u,v,rfl,by simp,h6,h7⟩
   ·rw[Nat.add_comm] at h4
    exact .inr ⟨[x],w,rfl,by simp,h5,h2.1 h4⟩
   ·omega
  ·rintro (h|⟨u,v,h3,h4,h5,h6⟩)
   ·exact ⟨_,(yO hm hL).2 (.inl ⟨hi,hw.head,.inl rfl⟩),ih.2 (.inl h)⟩
   ·cases u with
    | nil=>exact absurd rfl h4
    | cons y u=>
     simp only[List.cons_append,List.cons.injEq] at h3
     obtain ⟨rfl,rfl⟩:=h3
     rw[Da.Ba] at h5
     by_cases hu:u=[]
     ·subst hu
      refine ⟨m.n+k.st,(yO hm hL).2 (.inl ⟨hi,hw.head,.inr ⟨h5,rfl⟩⟩),?_⟩
      rw[Nat.add_comm]
      exact h2.2 h6
     ·exact ⟨_,(yO hm hL).2 (.inl ⟨hi,hw.head,.inl rfl⟩),ih.2 (.inr ⟨u,v,rfl,hu,h5,h6⟩)⟩
theorem akp {w:List Nat} (hw:WL m.L w):sc (vU m k) (H5 m k) (qb m k) w↔∃u v,w=u++v∧m.acc m.st u=true∧k.acc k.st v=true:=by
 have hs:=hm.s
 have uG:=hk.s
 have hS: ∀i,(vU m k).testBit i=true↔i=m.st∨m.fin m.st=true∧i=m.n+k.st:=by
  intro i
  unfold vU
  split
  ·next h=>rw[Nat.testBit_or,Bool.or_eq_true,vW,vW];simp[h]
  ·next h=>rw[vW];simp[h]
 have hF: ∀t,(H5 m k).testBit t=true↔m.n≤t∧t<k.n+m.n∧k.fin (t-m.n)=true:=fun t=>ako
 unfold sc
 constructor
 ·rintro ⟨i,t,h1,h2,h3⟩
  obtain ⟨h4,h5,h6⟩:=(hF t).1 h2
  rcases (hS i).1 h1 with rfl|⟨h7,rfl⟩
  ·rcases (Oy hm hk hL hs hw).1 h3 with h8|⟨u,v,rfl,h8,h9,rfl⟩
   ·have:=hm.xC w hs hw
    omega
   ·refine ⟨u,v,rfl,h9,?_⟩
    rw[Nat.add_sub_cancel] at h6
    exact h6
  ·rw[Nat.add_comm] at h3
   have h8:=(H6 hm hk hL uG hw).1 h3
   refine ⟨[],w,rfl,h7,?_⟩
   rw[h8,Nat.add_sub_cancel] at h6
   exact h6
 ·rintro ⟨u,v,rfl,h1,h2⟩
  have hv:WL m.L v:=(WL.app.1 hw).2
  have hr:=hk.xC v uG (hL▸hv)
  by_cases hu:u=[]
  ·subst hu
   refine ⟨m.n+k.st,k.run k.st v+m.n,(hS _).2 (.inr ⟨h1,rfl⟩),(hF _).2 ⟨by omega,by omega,?_⟩,?_⟩
   ·rw[Nat.add_sub_cancel];exact h2
   ·rw[Nat.add_comm m.n]
    exact (H6 hm hk hL uG hv).2 rfl
  ·refine ⟨m.st,k.run k.st v+m.n,(hS _).2 (.inl rfl),(hF _).2 ⟨by omega,by omega,?_⟩,?_⟩
   ·rw[Nat.add_sub_cancel];exact h2
   ·exact (Oy hm hk hL hs hw).2 (.inr ⟨u,v,rfl,hu,h1,rfl⟩)
end
inductive ju (K:List Nat→Prop):List Nat→Prop
 | nil:ju K []
 | app {u v:List Nat}:u≠[]→K u→ju K v→ju K (u++v)
section
variable {K:List Nat→Prop}
theorem ju.iff {w:List Nat}:ju K w↔w=[]∨∃u v,w=u++v∧u≠[]∧K u∧ju K v:=by
 constructor
 ·intro h
  cases h with
  | nil=>exact .inl rfl
  | app h1 h2 h3=>exact .inr ⟨_,_,rfl,h1,h2,h3⟩
 ·rintro (rfl|⟨u,v,rfl,h1,h2,h3⟩)
  ·exact .nil
  ·exact .app h1 h2 h3
theorem ju.one {w:List Nat} (h:K w):ju K w:=by
 by_cases hw:w=[]
 ·rw[hw];exact .nil
 ·have:=ju.app hw h .nil
  rwa [List.append_nil] at this
theorem ju.ext {K2:List Nat→Prop} {L:Nat} (h: ∀u,WL L u→(K u↔K2 u)) {w:List Nat} (hw:WL L w):ju K w↔ju K2 w:=by
 constructor
 ·intro hr
  induction hr with
  | nil=>exact .nil
  | app g1 g2 _ ih=>exact .app g1 ((h _ (WL.app.1 hw).1).1 g2) (ih (WL.app.1 hw).2)
 ·intro hr
  induction hr with
  | nil=>exact .nil
  | app g1 g2 _ ih=>exact .app g1 ((h _ (WL.app.1 hw).1).2 g2) (ih (WL.app.1 hw).2)
end
def sd (m:Da):List Ed:=ew m 0++tab m.L fun x=>dM m.n x (m.nx m.st x)
def jS (m:Da):List Ed:=sd m++mf m.n m.fin m.st (sd m)
def Di (m:Da):Nat:=gI (2^m.n) m.fin 0 m.n
def Oz (m:Da):Nf:=cQ m.L (m.n+1) (2^m.n) (Di m) (jS m)
def lb (m:Da) (p:Nat):Nat:=if p=m.n then m.st else p
section
variable {m:Da} (hm:m.Ok)
include hm
theorem OA {p:Nat} (hp:p≤m.n):lb m p<m.n:=by
 have:=hm.s
 unfold lb;split<;>omega
theorem H7 {e:Ed}:e∈sd m↔∃p x,p≤m.n∧x<m.L∧e=dM p x (m.nx (lb m p) x):=by
 have hs:=hm.s
 unfold sd
 rw[List.mem_append,vS,td]
 constructor
 ·rintro (⟨p,x,hp,hx,rfl⟩|⟨x,hx,rfl⟩)
  ·refine ⟨p,x,by omega,hx,?_⟩
   unfold lb;rw[if_neg (by omega)];rfl
  ·refine ⟨m.n,x,Nat.le_refl _,hx,?_⟩
   unfold lb;rw[if_pos rfl]
 ·rintro ⟨p,x,hp,hx,rfl⟩
  by_cases h:p=m.n
  ·exact .inr ⟨x,hx,by unfold lb;rw[if_pos h,h]⟩
  ·exact .inl ⟨p,x,by omega,hx,by unfold lb;rw[if_neg h];rfl⟩
theorem vX {p x q:Nat}:dM p x q∈jS m↔p≤m.n∧x<m.L∧(q=m.nx (lb m p) x∨m.fin (m.nx (lb m p) x)=true∧q=m.st):=by
 unfold jS
 rw[List.mem_append,H7 hm,HY]
 constructor
 ·rintro (⟨p',x',h1,h2,h3⟩|⟨e',h1,h2,h3,h4⟩)
  ·obtain ⟨rfl,rfl,rfl⟩:=yM.1 h3
   exact ⟨h1,h2,.inl rfl⟩
  ·obtain ⟨p',x',g1,g2,rfl⟩:=(H7 hm).1 h1
   have e:dM p x q=dM p' x' m.st:=h4
   obtain ⟨rfl,rfl,rfl⟩:=yM.1 e
   exact ⟨g1,g2,.inr ⟨h3,rfl⟩⟩
 ·rintro ⟨h1,h2,rfl|⟨h3,rfl⟩⟩
  ·exact .inl ⟨p,x,h1,h2,rfl⟩
  ·exact .inr ⟨dM p x (m.nx (lb m p) x),(H7 hm).2 ⟨p,x,h1,h2,rfl⟩,hm.dS (OA hm h1) h2,h3,rfl⟩
theorem OB {e:Ed} (he:e∈sd m):e.In (m.L:Int) ((m.n+1:Nat):Int):=by
 obtain ⟨p,x,hp,hx,rfl⟩:=(H7 hm).1 he
 have:=hm.dS (OA hm hp) hx
 exact Oo (by omega) hx (by omega)
theorem akq {e:Ed} (he:e∈jS m):e.In (m.L:Int) ((m.n+1:Nat):Int):=by
 rcases List.mem_append.1 he with he|he
 ·exact OB hm he
 ·obtain ⟨e',h1,h2,h3,rfl⟩:=HY.1 he
  have:=OB hm h1
  have:=hm.s
  unfold Ed.In at*
  simp only
  omega
theorem Yv:(sd m).length≤(m.n+1)*6:=by
 have h1:=sb hm (off:=0) (n:=m.n)
 have h6:=hm.l6
 unfold sd
 rw[List.length_append,dJ]
 unfold ew
 omega
theorem Yw (hs:m.n+1≤64):tA m.L (m.n+1) (2^m.n) (Di m) (jS m) where
 l1:=hm.l1
 l6:=hm.l6
 pT:=hs
 st:=Nat.pow_lt_pow_right (by omega) (by omega)
 fin:=Dc (Nat.pow_lt_pow_right (by omega) (by omega)) (by omega)
 E:=fun e he=>akq hm he
 len:=by
  have h1:=Yv hm
  have h3:=HZ (l:=sd m) (n:=m.n) (to:=m.st) (f:=m.fin)
  unfold jS
  rw[List.length_append]
  omega
theorem OC: ∀{w:List Nat} {i t:Nat},i<m.n→fE (jS m) i w t→t<m.n
 | [],i,t,hi,h=>by
  have:i=t:=h
  omega
 | x::w,i,t,hi,h=>by
  obtain ⟨q,h1,h2⟩:=h
  obtain ⟨g1,g2,g3⟩:=(vX hm).1 h1
  refine OC (w:=w) ?_ h2
  rcases g3 with rfl|⟨_,rfl⟩
  ·exact hm.dS (OA hm g1) g2
  ·exact hm.s
theorem H8: ∀{w:List Nat} {i t:Nat},i<m.n→WL m.L w→(fE (jS m) i w t↔t=m.run i w∨∃u v,w=u++v∧u≠[]∧m.fin (m.run i u)=true∧fE (jS m) m.st v t)
 | [],i,t,_,_=>by
  show i=t↔_
  constructor
  ·intro h;exact .inl h.symm
  ·rintro (h|⟨u,v,h1,h2,_⟩)
   ·exact h.symm
   ·exact absurd (List.append_eq_nil_iff.1 h1.symm).1 h2
 | x::w,i,t,hi,hw=>by
  rw[Da.Ba]
  have hn:=hm.dS hi hw.head
  have H9:lb m i=i:=by unfold lb;rw[if_neg (by omega)]
  have ih:=H8 (w:=w) (i:=m.nx i x) (t:=t) hn hw.tail
  constructor
  ·rintro ⟨q,h3,h4⟩
   obtain ⟨_,_,h5⟩:=(vX hm).1 h3
   rw[H9] at h5
   rcases h5 with rfl|⟨h5,rfl⟩
   ·rcases ih.1 h4 with h5|⟨u,v,rfl,h5,h6,h7⟩
    ·exact .inl h5
    ·exact .inr ⟨x::u,v,rfl,by simp,h6,h7⟩
   ·exact .inr ⟨[x],w,rfl,by simp,h5,h4⟩
  ·rintro (h|⟨u,v,h3,h4,h5,h6⟩)
   ·exact ⟨_,(vX hm).2 ⟨by omega,hw.head,.inl (by rw[H9])⟩,ih.2 (.inl h)⟩
   ·cases u with
    | nil=>exact absurd rfl h4
    | cons y u=>
     simp only[List.cons_append,List.cons.injEq] at h3
     obtain ⟨rfl,rfl⟩:=h3
     rw[Da.Ba] at h5
     by_cases hu:u=[]
     ·subst hu
      exact ⟨m.st,(vX hm).2 ⟨by omega,hw.head,.inr ⟨by rw[H9];exact h5,rfl⟩⟩,h6⟩
     ·exact ⟨_,(vX hm).2 ⟨by omega,hw.head,.inl (by rw[H9])⟩,ih.2 (.inr ⟨u,v,rfl,hu,h5,h6⟩)⟩
theorem Yx {w:List Nat} {t:Nat} (hw:w≠[]):fE (jS m) m.n w t↔fE (jS m) m.st w t:=by
 have hs:=hm.s
 cases w with
 | nil=>exact absurd rfl hw
 | cons x w=>
  have e: ∀q,dM m.n x q∈jS m↔dM m.st x q∈jS m:=fun q=>by
   have e1:lb m m.n=m.st:=if_pos rfl
   have e2:lb m m.st=m.st:=by unfold lb;rw[if_neg (by omega)]
   rw[vX hm,vX hm,e1,e2]
   constructor
   ·rintro ⟨_,h2,h3⟩;exact ⟨by omega,h2,h3⟩
   ·rintro ⟨_,h2,h3⟩;exact ⟨by omega,h2,h3⟩
  constructor
  ·rintro ⟨q,h1,h2⟩;exact ⟨q,(e q).1 h1,h2⟩
  ·rintro ⟨q,h1,h2⟩;exact ⟨q,(e q).2 h1,h2⟩
theorem akr {w:List Nat} (hw:WL m.L w):(∃t,m.fin t=true∧fE (jS m) m.st w t)↔m.acc m.st w=true∨∃u v,w=u++v∧u≠[]∧m.acc m.st u=true∧∃t,m.fin t=true∧fE (jS m) m.st v t:=by
 constructor
 ·rintro ⟨t,h1,h2⟩
  rcases (H8 hm hm.s hw).1 h2 with rfl|⟨u,v,rfl,h3,h4,h5⟩
  ·exact .inl h1
  ·exact .inr ⟨u,v,rfl,h3,h4,t,h1,h5⟩
 ·rintro (h|⟨u,v,rfl,h3,h4,t,h5,h6⟩)
  ·exact ⟨_,h,(H8 hm hm.s hw).2 (.inl rfl)⟩
  ·exact ⟨t,h5,(H8 hm hm.s hw).2 (.inr ⟨u,v,rfl,h3,h4,h6⟩)⟩
theorem OD: ∀(k:Nat) {w:List Nat},w.length≤k→WL m.L w→w≠[]→((∃t,m.fin t=true∧fE (jS m) m.st w t)↔ju (fun u=>m.acc m.st u=true) w)
 | 0,w,hk,_,h0=>absurd (List.length_eq_zero_iff.1 (by omega)) h0
 | k+1,w,hk,hw,h0=>by
  rw[akr hm hw]
  have len: ∀{u v:List Nat},w=u++v→u≠[]→v.length≤k:=fun {u v} e hu=>by
   have:=List.length_pos_iff.2 hu
   rw[e,List.length_append] at hk
   omega
  constructor
  ·rintro (h|⟨u,v,e,h1,h2,h3⟩)
   ·exact .one h
   ·by_cases hv:v=[]
    ·rw[e,hv];exact .app h1 h2 .nil
    ·rw[e]
     exact .app h1 h2 ((OD k (len e h1) (WL.app.1 (e▸hw)).2 hv).1 h3)
  ·intro h
   rcases ju.iff.1 h with h|⟨u,v,e,h1,h2,h3⟩
   ·exact absurd h h0
   ·by_cases hv:v=[]
    ·rw[hv,List.append_nil] at e
     exact .inl (e▸h2)
    ·exact .inr ⟨u,v,e,h1,h2,(OD k (len e h1) (WL.app.1 (e▸hw)).2 hv).2 h3⟩
theorem aks {w:List Nat} (hw:WL m.L w):sc (2^m.n) (Di m) (jS m) w↔ju (fun u=>m.acc m.st u=true) w:=by
 have hs:=hm.s
 have hF: ∀t,(Di m).testBit t=true↔t=m.n∨t<m.n∧m.fin t=true:=by
  intro t
  unfold Di
  rw[HW,Bool.or_eq_true,vW,Bool.and_eq_true,decide_eq_true_eq,Nat.sub_zero]
  constructor
  ·rintro (h|⟨h1,h2⟩)
   ·exact .inl h
   ·exact .inr ⟨by omega,h2⟩
  ·rintro (h|⟨h1,h2⟩)
   ·exact .inl h
   ·exact .inr ⟨by omega,h2⟩
 unfold sc
 by_cases h0:w=[]
 ·subst h0
  exact ⟨fun _=> .nil,fun _=>⟨m.n,m.n,vW.2 rfl,(hF _).2 (.inl rfl),rfl⟩⟩
 ·rw[←OD hm w.length (Nat.le_refl _) hw h0]
  constructor
  ·rintro ⟨i,t,h1,h2,h3⟩
   rw[vW.1 h1,Yx hm h0] at h3
   have ht:=OC hm hs h3
   rcases (hF t).1 h2 with h4|⟨_,h4⟩
   ·omega
   ·exact ⟨t,h4,h3⟩
  ·rintro ⟨t,h1,h2⟩
   have ht:=OC hm hs h2
   exact ⟨m.n,t,vW.2 rfl,(hF t).2 (.inr ⟨ht,h1⟩),(Yx hm h0).2 h2⟩
end
section
variable {m:Da} (hm:m.Ok)
include hm
end
def Ed.rev (e:Ed):Ed:=⟨e.t,e.l,e.f⟩
@[simp] theorem Ed.rev_rev (e:Ed):e.rev.rev=e:=rfl
theorem WL.rev {L:Nat} {w:List Nat} (h:WL L w):WL L w.reverse:=fun x hx=>h x (List.mem_reverse.1 hx)
section
variable {m:Da} (hm:m.Ok)
include hm
end
section
variable {m:Da} (hm:m.Ok)
include hm
end
end Go.AM
set_option maxRecDepth 100000
namespace Go.AM
open Go.Proofs
namespace Da
end Da
structure mg (X:Da) (L:Nat) (K:List Nat→Prop):Prop where
 ok:X.Ok
 hL:X.L=L
 min:minD X=X
 jJ: ∀w,WL L w→(X.acc X.st w=true↔K w)
theorem mg.eq {X Y:Da} {L:Nat} {K K':List Nat→Prop} (h:mg X L K) (h':mg Y L K') (e: ∀w,WL L w→(K w↔K' w)):X=Y:=by
 rw[←h.min,←h'.min]
 refine Yk h.ok h'.ok (h.hL.trans h'.hL.symm) fun w hw=> ?_
 have jE:WL L w:=h.hL▸hw
 rw[Bool.eq_iff_iff,h.jJ w jE,h'.jJ w jE,e w jE]
theorem mg.ext {X:Da} {L:Nat} {K K':List Nat→Prop} (h:mg X L K) (e: ∀w,WL L w→(K w↔K' w)):mg X L K':=⟨h.ok,h.hL,h.min,fun w hw=>(h.jJ w hw).trans (e w hw)⟩
theorem mg.acc {X:Da} {L:Nat} {K:List Nat→Prop} (h:mg X L K) {w:List Nat} (hw:WL L w) {b:Bool} (e:K w↔b=true):X.acc X.st w=b:=by
 rw[Bool.eq_iff_iff,h.jJ w hw,e]
theorem Yy {a:Da} (h:a.Ok):mg (minD a) a.L (fun w=>a.acc a.st w=true):=⟨dX h,ky h,Oi h,fun w hw=>by rw[o0 h hw]⟩
section
variable {L S st fin:Nat} {l:List Ed} (h:tA L S st fin l)
include h
theorem akt (hn: ¬iw (cQ L S st fin l) L S):mg (fR (cQ L S st fin l) L S) L (sc st fin l) where
 ok:=aj8 h hn
 hL:=aj9 h hn
 min:=by
  unfold fR
  rw[if_neg hn]
  exact Oi (ye (oY h) hn)
 jJ:=fun _ hw=>aka h hn hw
theorem aku (hn: ¬iw (cQ L S st fin l) L S):(fR (cQ L S st fin l) L S).n≤2^S:=by
 have h1:=tC (ye (oY h) hn)
 have h2:=yd (oY h) (2^S)
 have h3:(iW (cQ L S st fin l) L S).n=(iv (cQ L S st fin l) L S).length:=kR
 unfold fR
 rw[if_neg hn]
 unfold iv at h3
 omega
theorem akv:(n7 (cQ L S st fin l) L S=0∧mg (fR (cQ L S st fin l) L S) L (sc st fin l)∧(fR (cQ L S st fin l) L S).n≤2^S)∨(n7 (cQ L S st fin l) L S=3∧fR (cQ L S st fin l) L S=zD∧9<S):=by
 by_cases hn:iw (cQ L S st fin l) L S
 ·refine .inr ⟨if_pos hn,if_pos hn,?_⟩
  rcases Nat.lt_or_ge 9 S with c|c
  ·exact c
  ·exact absurd hn (akb h c)
 ·exact .inl ⟨if_neg hn,akt h hn,aku h hn⟩
end
def tD (r:Option (List V)) (L S:Nat) (K:List Nat→Prop):Prop:=(∃X,r=some (gf X 0)∧mg X L K∧X.n≤2^S)∨(r=some (gf zD 3)∧9<S)
theorem tD.of {L S st fin:Nat} {l:List Ed} (h:tA L S st fin l) {r:Option (List V)} (e:r=some (gf (fR (cQ L S st fin l) L S) (n7 (cQ L S st fin l) L S))) {K:List Nat→Prop} (hK: ∀w,WL L w→(sc st fin l w↔K w)):tD r L S K:=by
 rcases akv h with ⟨h1,h2,h3⟩|⟨h1,h2,h3⟩
 ·exact .inl ⟨_,by rw[e,h1],h2.ext hK,h3⟩
 ·exact .inr ⟨by rw[e,h1,h2],h3⟩
theorem tD.small {r:Option (List V)} {L S:Nat} {K:List Nat→Prop} (h:tD r L S K) (hS:S≤9): ∃X,r=some (gf X 0)∧mg X L K∧X.n≤2^S:=by
 rcases h with h|⟨_,h⟩
 ·exact h
 ·omega
end Go.AM
