/-
  Functions of the program, lifted to plain data.
-/
import Derived.Test.YtbbgbkiefjilcaaGreatDoorP5
set_option linter.unusedVariables false
set_option linter.unusedSimpArgs false
set_option maxRecDepth 100000
namespace Go.AM
open Go.Proofs
noncomputable abbrev xc:Code:=bZ Tryz.prog (ay.aX 133)
noncomputable def Bb (C:af) (a j:Int) (aj:List V) (i:Int) {β:Type} (kn:Int→Option β) (kr:(Int × Bool)→Option β):Option β:=
 bif decide ((i:Int)≤j) then
  bif (decide (0≤a))&&(decide (a<(aj.length:Int))) then
  (aj[(a:Int).toNat]?).bind fun x5=>
  bif (decide (0≤i))&&(decide (i<(aj.length:Int))) then
   (aj[(i:Int).toNat]?).bind fun x6=>
   (C bc [.int .i64 ((x5.cell 0).toInt),.int .i64 ((x5.cell 1).toInt),.list aa ((x5.cell 2).toList),.int .i64 ((x6.cell 0).toInt),.int .i64 ((x6.cell 1).toInt),.list aa ((x6.cell 2).toList)]).bind fun r7=>
   bif !(decide ((((V.nth r7 0).toInt):Int)<0)) then
   kn (IntKind.wrap .i64 (i+1))
   else
   kr (i,!(decide ((((V.nth r7 0).toInt):Int)<0)))
  else none
  else none
 else
  kr (i,false)
noncomputable def Bc (C:af) (a j:Int) (aj:List V):(Int)→Option ((Int) ⊕ (Int × Bool)):=fun i=>Bb C a j aj i (fun y=>some (.inl y)) (fun r=>some (.inr r))
noncomputable def xd (C:af) (a i:Int) (aj:List V) (j:Int) {β:Type} (kn:Int→Option β) (kr:(Int × Bool)→Option β):Option β:=
 bif decide ((i:Int)≤j) then
  bif (decide (0≤a))&&(decide (a<(aj.length:Int))) then
  (aj[(a:Int).toNat]?).bind fun gl=>
  bif (decide (0≤j))&&(decide (j<(aj.length:Int))) then
   (aj[(j:Int).toNat]?).bind fun iT=>
   (C bc [.int .i64 ((gl.cell 0).toInt),.int .i64 ((gl.cell 1).toInt),.list aa ((gl.cell 2).toList),.int .i64 ((iT.cell 0).toInt),.int .i64 ((iT.cell 1).toInt),.list aa ((iT.cell 2).toList)]).bind fun gI=>
   bif decide ((((V.nth gI 0).toInt):Int)<0) then
   kn (IntKind.wrap .i64 (j-1))
   else
   kr (j,decide ((((V.nth gI 0).toInt):Int)<0))
  else none
  else none
 else
  kr (j,false)
noncomputable def xe (C:af) (a i:Int) (aj:List V):(Int)→Option ((Int) ⊕ (Int × Bool)):=fun j=>xd C a i aj j (fun y=>some (.inl y)) (fun r=>some (.inr r))
noncomputable def Bd (C:af) (a i j:Int) (aj:List V) {β:Type} (kn:(Int × Int × (List V))→Option β) (kr:(Int × Int × Bool × (List V))→Option β):Option β:=
 (Loop (Bc C a j aj) i).bind (un fun (eE:Int) (p9:Bool)=>
  (Loop (xe C a eE aj) j).bind (un fun (dR:Int) (Jw:Bool)=>
   bif decide ((eE:Int)>dR) then
    kr (eE,dR,decide ((eE:Int)>dR),aj)
   else
    bif (decide (0≤dR))&&(decide (dR<(aj.length:Int))) then
    (aj[(dR:Int).toNat]?).bind fun eQ=>
    bif (decide (0≤eE))&&(decide (eE<(aj.length:Int))) then
     (aj[(eE:Int).toNat]?).bind fun fu=>
     bif (decide (0≤eE))&&(decide (eE<(aj.length:Int))) then
     (aj[(eE:Int).toNat]?).bind fun tT=>
     bif (decide (0≤dR))&&(decide (dR<((aj.set ((eE:Int).toNat) (.agg [.int .i64 ((eQ.cell 0).toInt),.int .i64 ((eQ.cell 1).toInt),.list aa ((eQ.cell 2).toList)])).length:Int))) then
      ((aj.set ((eE:Int).toNat) (.agg [.int .i64 ((eQ.cell 0).toInt),.int .i64 ((eQ.cell 1).toInt),.list aa ((eQ.cell 2).toList)]))[(dR:Int).toNat]?).bind fun JR=>
      kn (IntKind.wrap .i64 (eE+1),IntKind.wrap .i64 (dR-1),(aj.set ((eE:Int).toNat) (.agg [.int .i64 ((eQ.cell 0).toInt),.int .i64 ((eQ.cell 1).toInt),.list aa ((eQ.cell 2).toList)])).set ((dR:Int).toNat) (.agg [.int .i64 ((fu.cell 0).toInt),.int .i64 ((fu.cell 1).toInt),.list aa ((fu.cell 2).toList)]))
     else none
     else none
    else none
    else none))
noncomputable def xf (C:af) (a:Int):(Int × Int × (List V))→Option ((Int × Int × (List V)) ⊕ (Int × Int × Bool × (List V))):=un fun i=>un fun j aj=>Bd C a i j aj (fun y=>some (.inl y)) (fun r=>some (.inr r))
noncomputable def SK (C:af):cw:=fun β n ds k=>
 bif Nat.beq n 49 then bS IW [false,true,false,false] [[1,0,3,0,4]] (@Bb C) ds k else
 bif Nat.beq n 81 then bS IX [false,false,true,false] [[1,2,0,0,4]] (@xd C) ds k else
 bif Nat.beq n 50 then bS IY [false,true,true,true] [[1,0,0,0,0]] (@Bd C) ds k else
 none
abbrev Kw (C:af) (b:cp):Prop:=cq Tryz.prog ay C (SK C) 133 (cH Tryz.prog (ay.aX 133)) (ay.sin 133).aY.length b
theorem ae0 (C:af):Kw C (.loop (ax [1,1,1,0,0,0,0,0,0,0] xc)):=
 bX IW [false,true,false,false] [[1,0,3,0,4]] (@Bb C) (by kernel_rfl) (bn (bs:=[]) (by kernel_rfl) az) (fun ds=>by kernel_rfl) (fun i x=>by kernel_rfl) (fun i x β k=>by kernel_rfl) (fun β ds k=>by kernel_rfl)
theorem ae1 (C:af):Kw C (.loop (ax [1,1,1,0,0,0,0,1,0,0,0] xc)):=
 bX IX [false,false,true,false] [[1,2,0,0,4]] (@xd C) (by kernel_rfl) (bn (bs:=[]) (by kernel_rfl) az) (fun ds=>by kernel_rfl) (fun i x=>by kernel_rfl) (fun i x β k=>by kernel_rfl) (fun β ds k=>by kernel_rfl)
theorem ae2 (C:af):Kw C (.loop (ax [1,1,1,0,0,0] xc)):=
 bX IY [false,true,true,true] [[1,0,0,0,0]] (@Bd C) (by kernel_rfl) (bn (bs:=[.loop (ax [1,1,1,0,0,0,0,0,0,0] xc),.loop (ax [1,1,1,0,0,0,0,1,0,0,0] xc)]) (by kernel_rfl) (bD (ae0 C) (bD (ae1 C) az))) (fun ds=>by kernel_rfl) (fun i x=>by kernel_rfl) (fun i x β k=>by kernel_rfl) (fun β ds k=>by kernel_rfl)
noncomputable def SL (C:af) (a b' pivot:Int) (aj:List V):Option (List V):=
 bif (decide (0≤pivot))&&(decide (pivot<(aj.length:Int))) then
  (aj[(pivot:Int).toNat]?).bind fun x1=>
  bif (decide (0≤a))&&(decide (a<(aj.length:Int))) then
  (aj[(a:Int).toNat]?).bind fun x2=>
  bif (decide (0≤a))&&(decide (a<(aj.length:Int))) then
   (aj[(a:Int).toNat]?).bind fun x3=>
   bif (decide (0≤pivot))&&(decide (pivot<((aj.set ((a:Int).toNat) (.agg [.int .i64 ((x1.cell 0).toInt),.int .i64 ((x1.cell 1).toInt),.list aa ((x1.cell 2).toList)])).length:Int))) then
   ((aj.set ((a:Int).toNat) (.agg [.int .i64 ((x1.cell 0).toInt),.int .i64 ((x1.cell 1).toInt),.list aa ((x1.cell 2).toList)]))[(pivot:Int).toNat]?).bind fun x4=>
   (Loop (xf C a) (IntKind.wrap .i64 (a+1),IntKind.wrap .i64 (b'-1),(aj.set ((a:Int).toNat) (.agg [.int .i64 ((x1.cell 0).toInt),.int .i64 ((x1.cell 1).toInt),.list aa ((x1.cell 2).toList)])).set ((pivot:Int).toNat) (.agg [.int .i64 ((x2.cell 0).toInt),.int .i64 ((x2.cell 1).toInt),.list aa ((x2.cell 2).toList)]))).bind (un fun (ae3:Int)=>un fun (aix:Int)=>un fun (Pl:Bool) (ae4:List V)=>
    some [.int .i64 ae3,.list aa ae4])
   else none
  else none
  else none
 else none
theorem ae5 {a b' pivot:Int} {aj:List V} {r:Option (List V)} (h:SL CC a b' pivot aj=r):CC tp [.int .i64 a,.int .i64 b',.int .i64 pivot,.list aa aj]=r:=
 bd (key:=133) (L:=SK CC) (bs:=[.loop (ax [1,1,1,0,0,0] xc)]) (by kernel_rfl) (bD (ae2 CC) az) (ba (by kernel_rfl) h)
noncomputable abbrev mH:Code:=bZ Tryz.prog (ay.aX 132)
noncomputable def Be (C:af) (a b' j:Int) (aj:List V) (i:Int) {β:Type} (kn:Int→Option β) (kr:(Int × Bool)→Option β):Option β:=
 bif decide ((i:Int)<b') then
  bif (decide (0≤i))&&(decide (i<(aj.length:Int))) then
  (aj[(i:Int).toNat]?).bind fun x1=>
  bif (decide (0≤(IntKind.wrap .i64 (i-1))))&&(decide ((IntKind.wrap .i64 (i-1))<(aj.length:Int))) then
   (aj[(IntKind.wrap .i64 (i-1):Int).toNat]?).bind fun x2=>
   (C bc [.int .i64 ((x1.cell 0).toInt),.int .i64 ((x1.cell 1).toInt),.list aa ((x1.cell 2).toList),.int .i64 ((x2.cell 0).toInt),.int .i64 ((x2.cell 1).toInt),.list aa ((x2.cell 2).toList)]).bind fun r3=>
   bif !(decide ((((V.nth r3 0).toInt):Int)<0)) then
   kn (IntKind.wrap .i64 (i+1))
   else
   kr (i,!(decide ((((V.nth r3 0).toInt):Int)<0)))
  else none
  else none
 else
  kr (i,false)
noncomputable def Bf (C:af) (a b' j:Int) (aj:List V):(Int)→Option ((Int) ⊕ (Int × Bool)):=fun i=>Be C a b' j aj i (fun y=>some (.inl y)) (fun r=>some (.inr r))
noncomputable def Bg (C:af) (a b' i j j':Int) (aj:List V) {β:Type} (kn:(Int × (List V))→Option β) (kr:(Int × (List V))→Option β):Option β:=
 bif decide ((j':Int)≥1) then
  bif (decide (0≤j'))&&(decide (j'<(aj.length:Int))) then
  (aj[(j':Int).toNat]?).bind fun gl=>
  bif (decide (0≤(IntKind.wrap .i64 (j'-1))))&&(decide ((IntKind.wrap .i64 (j'-1))<(aj.length:Int))) then
   (aj[(IntKind.wrap .i64 (j'-1):Int).toNat]?).bind fun iT=>
   (C bc [.int .i64 ((gl.cell 0).toInt),.int .i64 ((gl.cell 1).toInt),.list aa ((gl.cell 2).toList),.int .i64 ((iT.cell 0).toInt),.int .i64 ((iT.cell 1).toInt),.list aa ((iT.cell 2).toList)]).bind fun gI=>
   bif !(decide ((((V.nth gI 0).toInt):Int)<0)) then
   kr (j',aj)
   else
   bif (decide (0≤(IntKind.wrap .i64 (j'-1))))&&(decide ((IntKind.wrap .i64 (j'-1))<(aj.length:Int))) then
    (aj[(IntKind.wrap .i64 (j'-1):Int).toNat]?).bind fun gH=>
    bif (decide (0≤j'))&&(decide (j'<(aj.length:Int))) then
    (aj[(j':Int).toNat]?).bind fun lD=>
    bif (decide (0≤j'))&&(decide (j'<(aj.length:Int))) then
     (aj[(j':Int).toNat]?).bind fun eQ=>
     bif (decide (0≤(IntKind.wrap .i64 (j'-1))))&&(decide ((IntKind.wrap .i64 (j'-1))<((aj.set ((j':Int).toNat) (.agg [.int .i64 ((gH.cell 0).toInt),.int .i64 ((gH.cell 1).toInt),.list aa ((gH.cell 2).toList)])).length:Int))) then
     ((aj.set ((j':Int).toNat) (.agg [.int .i64 ((gH.cell 0).toInt),.int .i64 ((gH.cell 1).toInt),.list aa ((gH.cell 2).toList)]))[(IntKind.wrap .i64 (j'-1):Int).toNat]?).bind fun fu=>
     kn (IntKind.wrap .i64 (j'-1),(aj.set ((j':Int).toNat) (.agg [.int .i64 ((gH.cell 0).toInt),.int .i64 ((gH.cell 1).toInt),.list aa ((gH.cell 2).toList)])).set ((IntKind.wrap .i64 (j'-1):Int).toNat) (.agg [.int .i64 ((lD.cell 0).toInt),.int .i64 ((lD.cell 1).toInt),.list aa ((lD.cell 2).toList)]))
     else none
    else none
    else none
   else none
  else none
  else none
 else
  kr (j',aj)
noncomputable def Bh (C:af) (a b' i j:Int):(Int × (List V))→Option ((Int × (List V)) ⊕ (Int × (List V))):=un fun j' aj=>Bg C a b' i j j' aj (fun y=>some (.inl y)) (fun r=>some (.inr r))
noncomputable def E6 (C:af) (a b' i j:Int) (t65:Bool) (aj:List V) {β:Type} (kr:(List V)→Option β):Option β:=
 bif t65 then
  (Loop (Bh C a b' i j) (IntKind.wrap .i64 (i-1),aj)).bind (un fun (aiy:Int) (ae6:List V)=>
   kr ae6)
 else
  kr aj
noncomputable def Bi (C:af) (a b' i j j':Int) (aj:List V) {β:Type} (kn:(Int × (List V))→Option β) (kr:(Int × (List V))→Option β):Option β:=
 bif decide ((j':Int)<b') then
  bif (decide (0≤j'))&&(decide (j'<(aj.length:Int))) then
  (aj[(j':Int).toNat]?).bind fun qb=>
  bif (decide (0≤(IntKind.wrap .i64 (j'-1))))&&(decide ((IntKind.wrap .i64 (j'-1))<(aj.length:Int))) then
   (aj[(IntKind.wrap .i64 (j'-1):Int).toNat]?).bind fun wE=>
   (C bc [.int .i64 ((qb.cell 0).toInt),.int .i64 ((qb.cell 1).toInt),.list aa ((qb.cell 2).toList),.int .i64 ((wE.cell 0).toInt),.int .i64 ((wE.cell 1).toInt),.list aa ((wE.cell 2).toList)]).bind fun jD=>
   bif !(decide ((((V.nth jD 0).toInt):Int)<0)) then
   kr (j',aj)
   else
   bif (decide (0≤(IntKind.wrap .i64 (j'-1))))&&(decide ((IntKind.wrap .i64 (j'-1))<(aj.length:Int))) then
    (aj[(IntKind.wrap .i64 (j'-1):Int).toNat]?).bind fun jz=>
    bif (decide (0≤j'))&&(decide (j'<(aj.length:Int))) then
    (aj[(j':Int).toNat]?).bind fun rF=>
    bif (decide (0≤j'))&&(decide (j'<(aj.length:Int))) then
     (aj[(j':Int).toNat]?).bind fun x25=>
     bif (decide (0≤(IntKind.wrap .i64 (j'-1))))&&(decide ((IntKind.wrap .i64 (j'-1))<((aj.set ((j':Int).toNat) (.agg [.int .i64 ((jz.cell 0).toInt),.int .i64 ((jz.cell 1).toInt),.list aa ((jz.cell 2).toList)])).length:Int))) then
     ((aj.set ((j':Int).toNat) (.agg [.int .i64 ((jz.cell 0).toInt),.int .i64 ((jz.cell 1).toInt),.list aa ((jz.cell 2).toList)]))[(IntKind.wrap .i64 (j'-1):Int).toNat]?).bind fun x26=>
     kn (IntKind.wrap .i64 (j'+1),(aj.set ((j':Int).toNat) (.agg [.int .i64 ((jz.cell 0).toInt),.int .i64 ((jz.cell 1).toInt),.list aa ((jz.cell 2).toList)])).set ((IntKind.wrap .i64 (j'-1):Int).toNat) (.agg [.int .i64 ((rF.cell 0).toInt),.int .i64 ((rF.cell 1).toInt),.list aa ((rF.cell 2).toList)]))
     else none
    else none
    else none
   else none
  else none
  else none
 else
  kr (j',aj)
noncomputable def Bj (C:af) (a b' i j:Int):(Int × (List V))→Option ((Int × (List V)) ⊕ (Int × (List V))):=un fun j' aj=>Bi C a b' i j j' aj (fun y=>some (.inl y)) (fun r=>some (.inr r))
noncomputable def Bk (C:af) (a b' i j:Int) (aj:List V) {β:Type} (kn:(Int × Int × (List V))→Option β) (kr:((Bool × (List V)) ⊕ (Int × Int × Bool × (List V)))→Option β):Option β:=
 bif decide ((j:Int)<5) then
  (Loop (Bf C a b' j aj) i).bind (un fun (eC:Int) (iw:Bool)=>
   bif (eC:Int)==b' then
   kr (.inl (true,aj))
   else
   bif decide (((IntKind.wrap .i64 (b'-a)):Int)<50) then
    kr (.inl (false,aj))
   else
    bif (decide (0≤(IntKind.wrap .i64 (eC-1))))&&(decide ((IntKind.wrap .i64 (eC-1))<(aj.length:Int))) then
    (aj[(IntKind.wrap .i64 (eC-1):Int).toNat]?).bind fun x6=>
    bif (decide (0≤eC))&&(decide (eC<(aj.length:Int))) then
     (aj[(eC:Int).toNat]?).bind fun x7=>
     bif (decide (0≤eC))&&(decide (eC<(aj.length:Int))) then
     (aj[(eC:Int).toNat]?).bind fun x8=>
     bif (decide (0≤(IntKind.wrap .i64 (eC-1))))&&(decide ((IntKind.wrap .i64 (eC-1))<((aj.set ((eC:Int).toNat) (.agg [.int .i64 ((x6.cell 0).toInt),.int .i64 ((x6.cell 1).toInt),.list aa ((x6.cell 2).toList)])).length:Int))) then
      ((aj.set ((eC:Int).toNat) (.agg [.int .i64 ((x6.cell 0).toInt),.int .i64 ((x6.cell 1).toInt),.list aa ((x6.cell 2).toList)]))[(IntKind.wrap .i64 (eC-1):Int).toNat]?).bind fun x9=>
      E6 C a b' eC j (decide (((IntKind.wrap .i64 (eC-a)):Int)≥2)) ((aj.set ((eC:Int).toNat) (.agg [.int .i64 ((x6.cell 0).toInt),.int .i64 ((x6.cell 1).toInt),.list aa ((x6.cell 2).toList)])).set ((IntKind.wrap .i64 (eC-1):Int).toNat) (.agg [.int .i64 ((x7.cell 0).toInt),.int .i64 ((x7.cell 1).toInt),.list aa ((x7.cell 2).toList)])) (fun (SM:List V)=>
       bif decide (((IntKind.wrap .i64 (b'-eC)):Int)≥2) then
       (Loop (Bj C a b' eC j) (IntKind.wrap .i64 (eC+1),SM)).bind (un fun (aiz:Int) (ae7:List V)=>
        kn (eC,IntKind.wrap .i64 (j+1),ae7))
       else
       kn (eC,IntKind.wrap .i64 (j+1),SM))
     else none
     else none
    else none
    else none)
 else
  kr (.inr (i,j,decide ((j:Int)<5),aj))
noncomputable def rP (C:af) (a b':Int):(Int × Int × (List V))→Option ((Int × Int × (List V)) ⊕ ((Bool × (List V)) ⊕ (Int × Int × Bool × (List V)))):=un fun i=>un fun j aj=>Bk C a b' i j aj (fun y=>some (.inl y)) (fun r=>some (.inr r))
noncomputable def SN (C:af):cw:=fun β n ds k=>
 bif Nat.beq n 81 then bS IQ [false,false,true,false,false] [[1,2,0,4,0,5]] (@Be C) ds k else
 bif Nat.beq n 225 then bS IS [false,false,false,false,true,true] [[1,2,3,4,0,0]] (@Bg C) ds k else
 bif Nat.beq n 1055 then lq IT [[1,2,3,4,0]] (@E6 C) ds k else
 bif Nat.beq n 321 then bS IU [false,false,false,false,true,true] [[1,2,3,4,0,0]] (@Bi C) ds k else
 bif Nat.beq n 49 then bS IV [false,false,true,true,true] [[0,0],[1,2,0,0,0,0]] (@Bk C) ds k else
 none
abbrev Bl (C:af) (b:cp):Prop:=cq Tryz.prog ay C (SN C) 132 (cH Tryz.prog (ay.aX 132)) (ay.sin 132).aY.length b
theorem ae8 (C:af):Bl C (.loop (ax [1,1,0,1,0,0,1,0,0,0,0,0] mH)):=
 bX IQ [false,false,true,false,false] [[1,2,0,4,0,5]] (@Be C) (by kernel_rfl) (bn (bs:=[]) (by kernel_rfl) az) (fun ds=>by kernel_rfl) (fun i x=>by kernel_rfl) (fun i x β k=>by kernel_rfl) (fun β ds k=>by kernel_rfl)
theorem ae9 (C:af):Bl C (.loop (ax [1,1,0,1,0,0,1,0,0,1,1,1,1,0,1,0,1,0,0] mH)):=
 bX IS [false,false,false,false,true,true] [[1,2,3,4,0,0]] (@Bg C) (by kernel_rfl) (bn (bs:=[]) (by kernel_rfl) az) (fun ds=>by kernel_rfl) (fun i x=>by kernel_rfl) (fun i x β k=>by kernel_rfl) (fun β ds k=>by kernel_rfl)
theorem afa (C:af):Bl C (.cond 65 (ax [1,1,0,1,0,0,1,0,0,1,1,1,1,0,1,0] mH) (ax [1,1,0,1,0,0,1,0,0,1,1,1,1,0,1,1] mH)):=
 mq IT [[1,2,3,4,0]] (@E6 C) (by kernel_rfl) (bn (bs:=[.loop (ax [1,1,0,1,0,0,1,0,0,1,1,1,1,0,1,0,1,0,0] mH)]) (by kernel_rfl) (bD (ae9 C) az)) (bn (bs:=[]) (by kernel_rfl) az) (fun ds=>by kernel_rfl) (fun i β k=>by kernel_rfl) (fun β ds k=>by kernel_rfl)
theorem afb (C:af):Bl C (.loop (ax [1,1,0,1,0,0,1,0,0,1,1,1,1,1,1,0,1,0,0] mH)):=
 bX IU [false,false,false,false,true,true] [[1,2,3,4,0,0]] (@Bi C) (by kernel_rfl) (bn (bs:=[]) (by kernel_rfl) az) (fun ds=>by kernel_rfl) (fun i x=>by kernel_rfl) (fun i x β k=>by kernel_rfl) (fun β ds k=>by kernel_rfl)
theorem afc (C:af):Bl C (.loop (ax [1,1,0,1,0,0] mH)):=
 bX IV [false,false,true,true,true] [[0,0],[1,2,0,0,0,0]] (@Bk C) (by kernel_rfl) (bn (bs:=[.loop (ax [1,1,0,1,0,0,1,0,0,0,0,0] mH),.cond 65 (ax [1,1,0,1,0,0,1,0,0,1,1,1,1,0,1,0] mH) (ax [1,1,0,1,0,0,1,0,0,1,1,1,1,0,1,1] mH),.loop (ax [1,1,0,1,0,0,1,0,0,1,1,1,1,1,1,0,1,0,0] mH)]) (by kernel_rfl) (bD (ae8 C) (bD (afa C) (bD (afb C) az)))) (fun ds=>by kernel_rfl) (fun i x=>by kernel_rfl) (fun i x β k=>by kernel_rfl) (fun β ds k=>by kernel_rfl)
noncomputable def SO (C:af) (a b':Int) (aj:List V):Option (List V):=
 (Loop (rP C a b') (IntKind.wrap .i64 (a+1),0,aj)).bind (cY (un fun (Pq:Bool) (afd:List V)=>
  some [.bool Pq,.list aa afd]) (un fun (aiA:Int)=>un fun (aiB:Int)=>un fun (Ps:Bool) (afe:List V)=>
  some [.bool false,.list aa afe]))
theorem aff {a b':Int} {aj:List V} {r:Option (List V)} (h:SO CC a b' aj=r):CC D4 [.int .i64 a,.int .i64 b',.list aa aj]=r:=
 bd (key:=132) (L:=SN CC) (bs:=[.loop (ax [1,1,0,1,0,0] mH)]) (by kernel_rfl) (bD (afc CC) az) (ba (by kernel_rfl) h)
end Go.AM
set_option maxRecDepth 100000
set_option maxHeartbeats 4000000
namespace Go.AM.SX
open Go.Proofs Go.Sort
theorem xg (p:XE→Bool) (d:Array XE) (j i:Nat):scanUp p d j i=if i≤j then (if p d[i]! =true then scanUp p d j (i+1) else i) else i:=by
 conv=>lhs;rw[scanUp]
 by_cases h:i≤j
 ·rw[ag h];simp only[h,nH,kb]
 ·rw[ai h,ai (by simp[h])]
theorem Kx (p:XE→Bool) (d:Array XE) (i j:Nat):scanDown p d i (j+1)=if i≤j+1 then (if p d[j+1]! =true then scanDown p d i j else j+1) else j+1:=by
 conv=>lhs;rw[scanDown]
 by_cases h:i≤j+1
 ·rw[ag h];simp only[h,nH,kb]
 ·rw[ai h,ai (by simp[h])]
theorem E7 (d:Array XE) (b i:Nat):scanSorted aB d b i=if i<b then (if bU d[i]! d[i-1]! <0 then i else scanSorted aB d b (i+1)) else i:=by
 conv=>lhs;rw[scanSorted]
 by_cases h:i<b
 ·rw[ag h];simp only[h,nH,kb,qo]
  by_cases U:bU d[i]! d[i-1]! <0
  ·rw[ai (pb U),ag U]
  ·rw[ag U,ai U]
 ·rw[ai h,ai (by simp[h])]
theorem SP (j:Nat) (d:Array XE):shiftDown aB (j+1) d=if bU d[j+1]! d[j]! <0 then shiftDown aB j (swp d (j+1) j) else d:=by
 conv=>lhs;rw[shiftDown]
 simp only[qo]
 by_cases U:bU d[j+1]! d[j]! <0
 ·rw[ai (pb U),ag U]
 ·rw[ag U,ai U]
theorem E8 (b j:Nat) (d:Array XE):shiftUp aB b j d=if j<b then (if bU d[j]! d[j-1]! <0 then shiftUp aB b (j+1) (swp d j (j-1)) else d) else d:=by
 conv=>lhs;rw[shiftUp]
 simp only[qo]
 by_cases h:j<b
 ·rw[ag h,ag h]
  by_cases U:bU d[j]! d[j-1]! <0
  ·rw[ai (pb U),ag U]
  ·rw[ag U,ai U]
 ·rw[ai h,ai h]
theorem afg {a:Nat}: ∀(n i j:Nat) (d:Array XE),j+1-i≤n→(partLoop aB a i j d).2.size=d.size∧(partLoop aB a i j d).1≤j:=by
 intro n
 induction n with
 | zero=>
  intro i j d hn
  have h1:=scanUp_ge (fun x=>aB x d[a]!) d j i
  have U:=scanDown_le (fun x=> !aB x d[a]!) d (scanUp (fun x=>aB x d[a]!) d j i) j
  rw[partLoop_eq,ag (by omega)]
  exact ⟨rfl,U⟩
 | succ n ih=>
  intro i j d hn
  rw[partLoop_eq]
  have h1:=scanUp_ge (fun x=>aB x d[a]!) d j i
  have U:=scanDown_le (fun x=> !aB x d[a]!) d (scanUp (fun x=>aB x d[a]!) d j i) j
  split
  ·exact ⟨rfl,U⟩
  ·obtain ⟨h3,h4⟩:=ih (scanUp (fun x=>aB x d[a]!) d j i+1) (scanDown (fun x=> !aB x d[a]!) d (scanUp (fun x=>aB x d[a]!) d j i) j-1) (swp d (scanUp (fun x=>aB x d[a]!) d j i) (scanDown (fun x=> !aB x d[a]!) d (scanUp (fun x=>aB x d[a]!) d j i) j)) (by omega)
   exact ⟨by rw[h3,size_swp],by omega⟩
theorem jE {β:Type} {d:Array XE} {i:Nat} {x y:Option β} (h:i<d.size):(bif (decide (0≤(i:Int)))&&(decide ((i:Int)<((eA d).length:Int))) then x else y)=x:=by
 rw[fv,ca,av,ag (by omega),av,ag (by omega)]
theorem E9 {β:Type} {d:Array XE} {i k:Nat} {v:V} {x y:Option β} (h:i<d.size):(bif (decide (0≤(i:Int)))&&(decide ((i:Int)<(((eA d).set k v).length:Int))) then x else y)=x:=by
 rw[lP,fv,ca,av,ag (by omega),av,ag (by omega)]
theorem jF {β:Type} {d:Array XE} {i:Nat} {f:V→Option β} (h:i<d.size):((eA d)[(i:Int).toNat]?).bind f=f (d[i]!).enc:=by
 rw[Int.toNat_natCast,fx h];rfl
theorem Fa {β:Type} {d:Array XE} {i k:Nat} {v:V} {x:Option β} (h:i<d.size):(((eA d).set k v)[(i:Int).toNat]?).bind (fun _=>x)=x:=by
 rw[Int.toNat_natCast,bO (by rw[lP,fv];exact h)];rfl
theorem qq {β:Type} {d:Array XE} {i:Nat} {f:V→Option β} (h:i<d.size):((eA d)[i]?).bind f=f (d[i]!).enc:=by
 rw[fx h];rfl
theorem Ky {β:Type} {d:Array XE} {i k:Nat} {v:V} {x:Option β} (h:i<d.size):(((eA d).set k v)[i]?).bind (fun _=>x)=x:=by
 rw[bO (by rw[lP,fv];exact h)];rfl
theorem afh {a j:Nat} {d:Array XE} (ha:a<d.size) (hj:j<d.size) (hs:d.size<1152921504606846976): ∀(n i:Nat),j+1-i=n→i≤d.size→
  ∃t,Loop (A6 CC a j (eA d)) (i:Int)=some (((scanUp (fun x=>aB x d[a]!) d j i:Nat):Int),t):=by
 intro n
 induction n with
 | zero=>
  intro i hn hi
  rw[xg,ai (by omega)]
  exact ⟨false,bq (by simp (disch:=omega) only[A6,A5,av,ai])⟩
 | succ n ih=>
  intro i hn hi
  obtain ⟨t,h⟩:=ih (i+1) (by omega) (by omega)
  rw[xg,ag (by omega)]
  have e:A6 CC a j (eA d) (i:Int)=if bU d[i]! d[a]! <0 then some (.inl ((i+1:Nat):Int)) else some (.inr ((i:Int),decide (bU d[i]! d[a]! <0))):=by
   simp (disch:=omega) only[A6,A5,av,ca,fH,ag,ai,wrap64,dt,fy,Int.toNat_natCast,Option.bind_some,fv,fx,XE.bI,XE.bJ,XE.bK,XE.re,fw,gK,fY,fW,V.aI,V.toInt_int,cond_true,cond_false]
  simp only[rO]
  by_cases U:bU d[i]! d[a]! <0
  ·rw[ag U] at e
   rw[ag U]
   exact ⟨t,(ct e).trans h⟩
  ·rw[ai U] at e
   rw[ai U]
   exact ⟨_,bq e⟩
theorem SQ {a j:Nat} {d:Array XE} (ha:a<d.size) (hj:j<d.size) (hs:d.size<1152921504606846976): ∀(n i:Nat),j+1-i=n→i≤d.size→
  ∃t,Loop (A8 CC a j (eA d)) (i:Int)=some (((scanUp (fun x=>aB x d[a]!) d j i:Nat):Int),t):=by
 intro n
 induction n with
 | zero=>
  intro i hn hi
  rw[xg,ai (by omega)]
  exact ⟨false,bq (by simp (disch:=omega) only[A8,A7,av,ai])⟩
 | succ n ih=>
  intro i hn hi
  obtain ⟨t,h⟩:=ih (i+1) (by omega) (by omega)
  rw[xg,ag (by omega)]
  have e:A8 CC a j (eA d) (i:Int)=if bU d[i]! d[a]! <0 then some (.inl ((i+1:Nat):Int)) else some (.inr ((i:Int),decide (bU d[i]! d[a]! <0))):=by
   simp (disch:=omega) only[A8,A7,av,ca,fH,ag,ai,wrap64,dt,fy,Int.toNat_natCast,Option.bind_some,fv,fx,XE.bI,XE.bJ,XE.bK,XE.re,fw,gK,fY,fW,V.aI,V.toInt_int,cond_true,cond_false]
  simp only[rO]
  by_cases U:bU d[i]! d[a]! <0
  ·rw[ag U] at e
   rw[ag U]
   exact ⟨t,(ct e).trans h⟩
  ·rw[ai U] at e
   rw[ai U]
   exact ⟨_,bq e⟩
theorem SR {a i:Nat} {d:Array XE} (ha:a<d.size) (hi:1≤i) (hs:d.size<1152921504606846976): ∀(j:Nat),j<d.size→
  ∃t,Loop (w7 CC a i (eA d)) (j:Int)=some (((scanDown (fun x=> !aB x d[a]!) d i j:Nat):Int),t)
 | 0,hj=>⟨false,bq (by simp (disch:=omega) only[w7,w6,av,ai];rfl)⟩
 | j+1,hj=>by
  obtain ⟨t,h⟩:=SR ha hi hs j (by omega)
  rw[Kx]
  by_cases h1:i≤j+1
  ·rw[ag h1]
   have e:w7 CC a i (eA d) ((j+1:Nat):Int)=if bU d[j+1]! d[a]! <0 then some (.inr (((j+1:Nat):Int),!decide (bU d[j+1]! d[a]! <0))) else some (.inl (j:Int)):=by
    simp (disch:=omega) only[w7,w6,av,ca,fH,ag,ai,wrap64,dt,fy,Int.toNat_natCast,Option.bind_some,fv,fx,XE.bI,XE.bJ,XE.bK,XE.re,fw,gK,fY,fW,V.aI,V.toInt_int,cond_true,cond_false,ug]
   simp only[qo]
   by_cases U:bU d[j+1]! d[a]! <0
   ·rw[ag U] at e
    rw[ai (pb U)]
    exact ⟨_,bq e⟩
   ·rw[ai U] at e
    rw[ag U]
    exact ⟨t,(ct e).trans h⟩
  ·rw[ai h1]
   exact ⟨false,bq (by simp (disch:=omega) only[w7,w6,av,ai])⟩
theorem ny {a i:Nat} {d:Array XE} (ha:a<d.size) (hi:1≤i) (hs:d.size<1152921504606846976): ∀(j:Nat),j<d.size→
  ∃t,Loop (w9 CC a i (eA d)) (j:Int)=some (((scanDown (fun x=> !aB x d[a]!) d i j:Nat):Int),t)
 | 0,hj=>⟨false,bq (by simp (disch:=omega) only[w9,w8,av,ai];rfl)⟩
 | j+1,hj=>by
  obtain ⟨t,h⟩:=ny ha hi hs j (by omega)
  rw[Kx]
  by_cases h1:i≤j+1
  ·rw[ag h1]
   have e:w9 CC a i (eA d) ((j+1:Nat):Int)=if bU d[j+1]! d[a]! <0 then some (.inr (((j+1:Nat):Int),!decide (bU d[j+1]! d[a]! <0))) else some (.inl (j:Int)):=by
    simp (disch:=omega) only[w9,w8,av,ca,fH,ag,ai,wrap64,dt,fy,Int.toNat_natCast,Option.bind_some,fv,fx,XE.bI,XE.bJ,XE.bK,XE.re,fw,gK,fY,fW,V.aI,V.toInt_int,cond_true,cond_false,ug]
   simp only[qo]
   by_cases U:bU d[j+1]! d[a]! <0
   ·rw[ag U] at e
    rw[ai (pb U)]
    exact ⟨_,bq e⟩
   ·rw[ai U] at e
    rw[ag U]
    exact ⟨t,(ct e).trans h⟩
  ·rw[ai h1]
   exact ⟨false,bq (by simp (disch:=omega) only[w9,w8,av,ai])⟩
theorem SS {a j:Nat} {d:Array XE} (ha:a<d.size) (hj:j<d.size) (hs:d.size<1152921504606846976): ∀(n i:Nat),j+1-i=n→i≤d.size→
  ∃t,Loop (Bc CC a j (eA d)) (i:Int)=some (((scanUp (fun x=> !aB d[a]! x) d j i:Nat):Int),t):=by
 intro n
 induction n with
 | zero=>
  intro i hn hi
  rw[xg,ai (by omega)]
  exact ⟨false,bq (by simp (disch:=omega) only[Bc,Bb,av,ai])⟩
 | succ n ih=>
  intro i hn hi
  obtain ⟨t,h⟩:=ih (i+1) (by omega) (by omega)
  rw[xg,ag (by omega)]
  have e:Bc CC a j (eA d) (i:Int)=if bU d[a]! d[i]! <0 then some (.inr ((i:Int),!decide (bU d[a]! d[i]! <0))) else some (.inl ((i+1:Nat):Int)):=by
   simp (disch:=omega) only[Bc,Bb,av,ca,fH,ag,ai,wrap64,dt,fy,Int.toNat_natCast,Option.bind_some,fv,fx,XE.bI,XE.bJ,XE.bK,XE.re,fw,gK,fY,fW,V.aI,V.toInt_int,cond_true,cond_false]
  simp only[qo]
  by_cases U:bU d[a]! d[i]! <0
  ·rw[ag U] at e
   rw[ai (pb U)]
   exact ⟨_,bq e⟩
  ·rw[ai U] at e
   rw[ag U]
   exact ⟨t,(ct e).trans h⟩
theorem Kz {a i:Nat} {d:Array XE} (ha:a<d.size) (hi:1≤i) (hs:d.size<1152921504606846976): ∀(j:Nat),j<d.size→
  ∃t,Loop (xe CC a i (eA d)) (j:Int)=some (((scanDown (fun x=>aB d[a]! x) d i j:Nat):Int),t)
 | 0,hj=>⟨false,bq (by simp (disch:=omega) only[xe,xd,av,ai];rfl)⟩
 | j+1,hj=>by
  obtain ⟨t,h⟩:=Kz ha hi hs j (by omega)
  rw[Kx]
  by_cases h1:i≤j+1
  ·rw[ag h1]
   have e:xe CC a i (eA d) ((j+1:Nat):Int)=if bU d[a]! d[j+1]! <0 then some (.inl (j:Int)) else some (.inr (((j+1:Nat):Int),decide (bU d[a]! d[j+1]! <0))):=by
    simp (disch:=omega) only[xe,xd,av,ca,fH,ag,ai,wrap64,dt,fy,Int.toNat_natCast,Option.bind_some,fv,fx,XE.bI,XE.bJ,XE.bK,XE.re,fw,gK,fY,fW,V.aI,V.toInt_int,cond_true,cond_false,ug]
   simp only[rO]
   by_cases U:bU d[a]! d[j+1]! <0
   ·rw[ag U] at e
    rw[ag U]
    exact ⟨t,(ct e).trans h⟩
   ·rw[ai U] at e
    rw[ai U]
    exact ⟨_,bq e⟩
  ·rw[ai h1]
   exact ⟨false,bq (by simp (disch:=omega) only[xe,xd,av,ai])⟩
theorem afi {a:Nat}: ∀(n i j:Nat) (d:Array XE),j+1-i≤n→1≤i→i≤d.size→a<d.size→j<d.size→d.size<1152921504606846976→
  ∃x z,Loop (xb CC a) ((i:Int),(j:Int),eA d)=some (x,(((partLoop aB a i j d).1:Nat):Int),z,eA (partLoop aB a i j d).2):=by
 intro n
 induction n with
 | zero=>
  intro i j d hn h1 U ha hj hs
  obtain ⟨t3,e3⟩:=SQ (a:=a) ha hj hs _ i rfl U
  have g1:=scanUp_ge (fun x=>aB x d[a]!) d j i
  have g2:=scanDown_le (fun x=> !aB x d[a]!) d (scanUp (fun x=>aB x d[a]!) d j i) j
  obtain ⟨t4,e4⟩:=ny (a:=a) (i:=scanUp (fun x=>aB x d[a]!) d j i) ha (by omega) hs j hj
  rw[partLoop_eq,ag (by omega)]
  refine ⟨((scanUp (fun x=>aB x d[a]!) d j i:Nat):Int),true,bq ?_⟩
  simp only[xb,A9,un]
  rw[e3]
  simp only[Option.bind_some,un]
  rw[e4]
  simp (disch:=omega) only[Option.bind_some,un,mE,cond_true]
 | succ n ih=>
  intro i j d hn h1 U ha hj hs
  obtain ⟨t3,e3⟩:=SQ (a:=a) ha hj hs _ i rfl U
  have g1:=scanUp_ge (fun x=>aB x d[a]!) d j i
  have g2:=scanDown_le (fun x=> !aB x d[a]!) d (scanUp (fun x=>aB x d[a]!) d j i) j
  obtain ⟨t4,e4⟩:=ny (a:=a) (i:=scanUp (fun x=>aB x d[a]!) d j i) ha (by omega) hs j hj
  rw[partLoop_eq]
  have f:xb CC a ((i:Int),(j:Int),eA d)=xb CC a ((i:Int),(j:Int),eA d):=rfl
  conv at f=>rhs;simp only[xb,A9,un];rw[e3];simp only[Option.bind_some,un];rw[e4];simp only[Option.bind_some,un]
  generalize gg:scanUp (fun x=>aB x d[a]!) d j i=i2 at*
  generalize gD:scanDown (fun x=> !aB x d[a]!) d i2 j=j2 at*
  by_cases h:i2>j2
  ·rw[ag h]
   refine ⟨(i2:Int),true,bq (f.trans ?_)⟩
   simp (disch:=omega) only[Option.bind_some,mE,cond_true]
  ·rw[ai h]
   obtain ⟨x,z,e⟩:=ih (i2+1) (j2-1) (swp d i2 j2) (by omega) (by omega) (by rw[size_swp];omega) (by rw[size_swp];omega) (by rw[size_swp];omega) (by rw[size_swp];omega)
   refine ⟨x,z,(ct (f.trans ?_)).trans e⟩
   simp (disch:=omega) only[av,ca,fH,ag,ai,wrap64,dt,fy,Int.toNat_natCast,Option.bind_some,fv,fx,XE.bI,XE.bJ,XE.bK,XE.re,fw,gK,fY,fW,V.aI,V.toInt_int,cond_true,cond_false,jC]
   rfl
theorem afj (d:Array XE) (a b pivot:Nat):partition aB d a b pivot=
  if scanUp (fun x=>aB x (swp d a pivot)[a]!) (swp d a pivot) (b-1) (a+1)>scanDown (fun x=> !aB x (swp d a pivot)[a]!) (swp d a pivot) (scanUp (fun x=>aB x (swp d a pivot)[a]!) (swp d a pivot) (b-1) (a+1)) (b-1) then
   (scanDown (fun x=> !aB x (swp d a pivot)[a]!) (swp d a pivot) (scanUp (fun x=>aB x (swp d a pivot)[a]!) (swp d a pivot) (b-1) (a+1)) (b-1),true,swp (swp d a pivot) (scanDown (fun x=> !aB x (swp d a pivot)[a]!) (swp d a pivot) (scanUp (fun x=>aB x (swp d a pivot)[a]!) (swp d a pivot) (b-1) (a+1)) (b-1)) a)
  else
   ((partLoop aB a (scanUp (fun x=>aB x (swp d a pivot)[a]!) (swp d a pivot) (b-1) (a+1)+1) (scanDown (fun x=> !aB x (swp d a pivot)[a]!) (swp d a pivot) (scanUp (fun x=>aB x (swp d a pivot)[a]!) (swp d a pivot) (b-1) (a+1)) (b-1)-1) (swp (swp d a pivot) (scanUp (fun x=>aB x (swp d a pivot)[a]!) (swp d a pivot) (b-1) (a+1)) (scanDown (fun x=> !aB x (swp d a pivot)[a]!) (swp d a pivot) (scanUp (fun x=>aB x (swp d a pivot)[a]!) (swp d a pivot) (b-1) (a+1)) (b-1)))).1,false,
    swp (partLoop aB a (scanUp (fun x=>aB x (swp d a pivot)[a]!) (swp d a pivot) (b-1) (a+1)+1) (scanDown (fun x=> !aB x (swp d a pivot)[a]!) (swp d a pivot) (scanUp (fun x=>aB x (swp d a pivot)[a]!) (swp d a pivot) (b-1) (a+1)) (b-1)-1) (swp (swp d a pivot) (scanUp (fun x=>aB x (swp d a pivot)[a]!) (swp d a pivot) (b-1) (a+1)) (scanDown (fun x=> !aB x (swp d a pivot)[a]!) (swp d a pivot) (scanUp (fun x=>aB x (swp d a pivot)[a]!) (swp d a pivot) (b-1) (a+1)) (b-1)))).2
    (partLoop aB a (scanUp (fun x=>aB x (swp d a pivot)[a]!) (swp d a pivot) (b-1) (a+1)+1) (scanDown (fun x=> !aB x (swp d a pivot)[a]!) (swp d a pivot) (scanUp (fun x=>aB x (swp d a pivot)[a]!) (swp d a pivot) (b-1) (a+1)) (b-1)-1) (swp (swp d a pivot) (scanUp (fun x=>aB x (swp d a pivot)[a]!) (swp d a pivot) (b-1) (a+1)) (scanDown (fun x=> !aB x (swp d a pivot)[a]!) (swp d a pivot) (scanUp (fun x=>aB x (swp d a pivot)[a]!) (swp d a pivot) (b-1) (a+1)) (b-1)))).1 a):=rfl
theorem xh (d:Array XE) (i j:Nat):eA ((d.setIfInBounds i d[j]!).setIfInBounds j d[i]!)=eA (swp d i j):=rfl
theorem afk {a b pivot:Nat} {d:Array XE} (hp:pivot<b) (fl:a<b) (hb:b≤d.size) (hs:d.size<1152921504606846976):
  CC mr [.int .i64 (a:Int),.int .i64 (b:Int),.int .i64 (pivot:Int),.list aa (eA d)]=
   some [.int .i64 ((partition aB d a b pivot).1:Int),.bool (partition aB d a b pivot).2.1,.list aa (eA (partition aB d a b pivot).2.2)]:=by
 refine aeZ ?_
 unfold SJ
 have z1:(swp d a pivot).size=d.size:=size_swp ..
 obtain ⟨t1,e1⟩:=afh (a:=a) (j:=b-1) (d:=swp d a pivot) (by omega) (by omega) (by omega) _ (a+1) rfl (by omega)
 have g1:=scanUp_ge (fun x=>aB x (swp d a pivot)[a]!) (swp d a pivot) (b-1) (a+1)
 have g2:=scanDown_le (fun x=> !aB x (swp d a pivot)[a]!) (swp d a pivot) (scanUp (fun x=>aB x (swp d a pivot)[a]!) (swp d a pivot) (b-1) (a+1)) (b-1)
 obtain ⟨t2,e2⟩:=SR (a:=a) (i:=scanUp (fun x=>aB x (swp d a pivot)[a]!) (swp d a pivot) (b-1) (a+1)) (d:=swp d a pivot) (by omega) (by omega) (by omega) (b-1) (by omega)
 have e0:=afj d a b pivot
 rw[jE (i:=pivot) (by omega),jF (by omega),jE (i:=a) (by omega),jF (by omega),jE (i:=a) (by omega),jF (by omega),E9 (i:=pivot) (by omega),Fa (by omega)]
 simp only[XE.bI,XE.bJ,XE.bK,XE.re,Int.toNat_natCast,fw,xh]
 simp (disch:=omega) only[jC,dt,wrap64]
 rw[e1]
 simp only[Option.bind_some,un]
 rw[e2]
 simp only[Option.bind_some,un]
 generalize gg:scanUp (fun x=>aB x (swp d a pivot)[a]!) (swp d a pivot) (b-1) (a+1)=i2 at*
 generalize gD:scanDown (fun x=> !aB x (swp d a pivot)[a]!) (swp d a pivot) i2 (b-1)=j2 at*
 generalize swp d a pivot=d1 at*
 by_cases h:i2>j2
 ·rw[ag h] at e0
  rw[e0,av,ag (by omega)]
  rw[jE (i:=a) (by omega)];(first|rw[jF (by omega)]|rw[qq (by omega)]);rw[jE (i:=j2) (by omega)];(first|rw[jF (by omega)]|rw[qq (by omega)]);rw[jE (i:=j2) (by omega)];(first|rw[jF (by omega)]|rw[qq (by omega)]);rw[E9 (i:=a) (by omega)];(first|rw[Fa (by omega)]|rw[Ky (by omega)])
  simp only[XE.bI,XE.bJ,XE.bK,XE.re,Int.toNat_natCast,fw,xh]
 ·rw[ai h] at e0
  rw[e0,av,ai (by omega)]
  have z2:(swp d1 i2 j2).size=d1.size:=size_swp ..
  obtain ⟨x,z,e5⟩:=afi (a:=a) _ (i2+1) (j2-1) (swp d1 i2 j2) (bQ _) (by omega) (by omega) (by omega) (by omega) (by omega)
  obtain ⟨q1,q2⟩:=afg (a:=a) _ (i2+1) (j2-1) (swp d1 i2 j2) (bQ _)
  rw[jE (i:=j2) (by omega)];(first|rw[jF (by omega)]|rw[qq (by omega)]);rw[jE (i:=i2) (by omega)];(first|rw[jF (by omega)]|rw[qq (by omega)]);rw[jE (i:=i2) (by omega)];(first|rw[jF (by omega)]|rw[qq (by omega)]);rw[E9 (i:=j2) (by omega)];(first|rw[Fa (by omega)]|rw[Ky (by omega)])
  simp only[XE.bI,XE.bJ,XE.bK,XE.re,Int.toNat_natCast,fw,xh]
  simp (disch:=omega) only[jC,dt,wrap64]
  rw[e5]
  generalize partLoop aB a (i2+1) (j2-1) (swp d1 i2 j2)=r at*
  simp only[Option.bind_some,un]
  rw[jE (i:=a) (by omega)];(first|rw[jF (by omega)]|rw[qq (by omega)]);rw[jE (i:=r.1) (by omega)];(first|rw[jF (by omega)]|rw[qq (by omega)]);rw[jE (i:=r.1) (by omega)];(first|rw[jF (by omega)]|rw[qq (by omega)]);rw[E9 (i:=a) (by omega)];(first|rw[Fa (by omega)]|rw[Ky (by omega)])
  simp only[XE.bI,XE.bJ,XE.bK,XE.re,Int.toNat_natCast,fw,xh]
theorem afl {a:Nat}: ∀(n i j:Nat) (d:Array XE),j+1-i≤n→1≤i→i≤d.size→a<d.size→j<d.size→d.size<1152921504606846976→
  ∃x z,Loop (xf CC a) ((i:Int),(j:Int),eA d)=some ((((partEqLoop aB a i j d).1:Nat):Int),x,z,eA (partEqLoop aB a i j d).2):=by
 intro n
 induction n with
 | zero=>
  intro i j d hn h1 U ha hj hs
  obtain ⟨t3,e3⟩:=SS (a:=a) ha hj hs _ i rfl U
  have g1:=scanUp_ge (fun x=> !aB d[a]! x) d j i
  have g2:=scanDown_le (fun x=>aB d[a]! x) d (scanUp (fun x=> !aB d[a]! x) d j i) j
  obtain ⟨t4,e4⟩:=Kz (a:=a) (i:=scanUp (fun x=> !aB d[a]! x) d j i) ha (by omega) hs j hj
  rw[partEqLoop_eq,ag (by omega)]
  refine ⟨((scanDown (fun x=>aB d[a]! x) d (scanUp (fun x=> !aB d[a]! x) d j i) j:Nat):Int),true,bq ?_⟩
  simp only[xf,Bd,un]
  rw[e3]
  simp only[Option.bind_some,un]
  rw[e4]
  simp (disch:=omega) only[Option.bind_some,un,mE,cond_true]
 | succ n ih=>
  intro i j d hn h1 U ha hj hs
  obtain ⟨t3,e3⟩:=SS (a:=a) ha hj hs _ i rfl U
  have g1:=scanUp_ge (fun x=> !aB d[a]! x) d j i
  have g2:=scanDown_le (fun x=>aB d[a]! x) d (scanUp (fun x=> !aB d[a]! x) d j i) j
  obtain ⟨t4,e4⟩:=Kz (a:=a) (i:=scanUp (fun x=> !aB d[a]! x) d j i) ha (by omega) hs j hj
  rw[partEqLoop_eq]
  have f:xf CC a ((i:Int),(j:Int),eA d)=xf CC a ((i:Int),(j:Int),eA d):=rfl
  conv at f=>rhs;simp only[xf,Bd,un];rw[e3];simp only[Option.bind_some,un];rw[e4];simp only[Option.bind_some,un]
  generalize gg:scanUp (fun x=> !aB d[a]! x) d j i=i2 at*
  generalize gD:scanDown (fun x=>aB d[a]! x) d i2 j=j2 at*
  by_cases h:i2>j2
  ·rw[ag h]
   refine ⟨(j2:Int),true,bq (f.trans ?_)⟩
   simp (disch:=omega) only[Option.bind_some,mE,cond_true]
  ·rw[ai h]
   obtain ⟨x,z,e⟩:=ih (i2+1) (j2-1) (swp d i2 j2) (by omega) (by omega) (by rw[size_swp];omega) (by rw[size_swp];omega) (by rw[size_swp];omega) (by rw[size_swp];omega)
   refine ⟨x,z,(ct (f.trans ?_)).trans e⟩
   simp (disch:=omega) only[av,ca,fH,ag,ai,wrap64,dt,fy,Int.toNat_natCast,Option.bind_some,fv,fx,XE.bI,XE.bJ,XE.bK,XE.re,fw,gK,fY,fW,V.aI,V.toInt_int,cond_true,cond_false,jC]
   rfl
theorem afm {a b pivot:Nat} {d:Array XE} (hp:pivot<b) (fl:a<b) (hb:b≤d.size) (hs:d.size<1152921504606846976):
  CC tp [.int .i64 (a:Int),.int .i64 (b:Int),.int .i64 (pivot:Int),.list aa (eA d)]=
   some [.int .i64 ((partitionEqual aB d a b pivot).1:Int),.list aa (eA (partitionEqual aB d a b pivot).2)]:=by
 refine ae5 ?_
 unfold SL
 have z1:(swp d a pivot).size=d.size:=size_swp ..
 obtain ⟨x,z,e⟩:=afl (a:=a) _ (a+1) (b-1) (swp d a pivot) (bQ _) (by omega) (by omega) (by omega) (by omega) (by omega)
 simp (disch:=omega) only[av,ca,ag,fv,fx,Int.toNat_natCast,Option.bind_some,XE.bI,XE.bJ,XE.bK,XE.re,fw,gK,fY,jC,dt,wrap64,xh]
 rw[e]
 rfl
theorem afn {a b j:Nat} {d:Array XE} (hb:b≤d.size) (hs:d.size<1152921504606846976): ∀(n i:Nat),b-i=n→1≤i→i≤b→
  ∃t,Loop (Bf CC a b j (eA d)) (i:Int)=some (((scanSorted aB d b i:Nat):Int),t):=by
 intro n
 induction n with
 | zero=>
  intro i hn h1 hi
  rw[E7,ai (by omega)]
  exact ⟨false,bq (by simp (disch:=omega) only[Bf,Be,av,ai])⟩
 | succ n ih=>
  intro i hn h1 hi
  obtain ⟨t,h⟩:=ih (i+1) (by omega) (by omega) (by omega)
  rw[E7,ag (by omega)]
  have e:Bf CC a b j (eA d) (i:Int)=if bU d[i]! d[i-1]! <0 then some (.inr ((i:Int),!decide (bU d[i]! d[i-1]! <0))) else some (.inl ((i+1:Nat):Int)):=by
   simp (disch:=omega) only[Bf,Be,jC,av,ca,fH,ag,ai,wrap64,dt,fy,Int.toNat_natCast,Option.bind_some,fv,fx,XE.bI,XE.bJ,XE.bK,XE.re,fw,gK,fY,fW,V.aI,V.toInt_int,cond_true,cond_false]
  by_cases U:bU d[i]! d[i-1]! <0
  ·rw[ag U] at e⊢
   exact ⟨_,bq e⟩
  ·rw[ai U] at e⊢
   exact ⟨t,(ct e).trans h⟩
theorem SU: ∀(j:Nat) (d:Array XE),(shiftDown aB j d).size=d.size
 | 0,_=>rfl
 | j+1,d=>by
  rw[SP]
  split
  ·rw[SU j,size_swp]
  ·rfl
theorem afo {b:Nat}: ∀(n j:Nat) (d:Array XE),b-j=n→(shiftUp aB b j d).size=d.size:=by
 intro n
 induction n with
 | zero=>intro j d h;rw[E8,ai (by omega)]
 | succ n ih=>
  intro j d h
  rw[E8,ag (by omega)]
  split
  ·rw[ih _ _ (by omega),size_swp]
  ·rfl
theorem SV {a b i k:Nat}: ∀(j:Nat) (d:Array XE),j<d.size→d.size<1152921504606846976→
  ∃t,Loop (Bh CC a b i k) ((j:Int),eA d)=some (t,eA (shiftDown aB j d))
 | 0,d,hj,hs=>⟨(0:Nat),bq (by
   simp (disch:=omega) only[Bh,Bg,un,av,ai]
   rfl)⟩
 | j+1,d,hj,hs=>by
  obtain ⟨t,ih⟩:=SV (a:=a) (b:=b) (i:=i) (k:=k) j (swp d (j+1) j) (by rw[size_swp];omega) (by rw[size_swp];omega)
  rw[SP]
  have e:Bh CC a b i k (((j+1:Nat):Int),eA d)=if bU d[j+1]! d[j]! <0 then some (.inl ((j:Int),eA (swp d (j+1) j))) else some (.inr (((j+1:Nat):Int),eA d)):=by
   simp (disch:=omega) only[Bh,Bg,un,av,ca,fH,ag,ai,wrap64,dt,fy,Int.toNat_natCast,Option.bind_some,fv,fx,XE.bI,XE.bJ,XE.bK,XE.re,fw,gK,fY,fW,V.aI,V.toInt_int,cond_true,cond_false,ug]
   rfl
  by_cases U:bU d[j+1]! d[j]! <0
  ·rw[ag U] at e⊢
   exact ⟨t,(ct e).trans ih⟩
  ·rw[ai U] at e⊢
   exact ⟨_,bq e⟩
theorem afp {a b i k:Nat}: ∀(n j:Nat) (d:Array XE),b-j=n→1≤j→j≤b→b≤d.size→d.size<1152921504606846976→
  ∃t,Loop (Bj CC a b i k) ((j:Int),eA d)=some (t,eA (shiftUp aB b j d)):=by
 intro n
 induction n with
 | zero=>
  intro j d hn h1 hj hb hs
  rw[E8,ai (by omega)]
  exact ⟨(j:Int),bq (by
   simp (disch:=omega) only[Bj,Bi,un,av,ai])⟩
 | succ n ih=>
  intro j d hn h1 hj hb hs
  obtain ⟨t,h⟩:=ih (j+1) (swp d j (j-1)) (by omega) (by omega) (by omega) (by rw[size_swp];omega) (by rw[size_swp];omega)
  rw[E8,ag (by omega)]
  have e:Bj CC a b i k ((j:Int),eA d)=if bU d[j]! d[j-1]! <0 then some (.inl (((j+1:Nat):Int),eA (swp d j (j-1)))) else some (.inr ((j:Int),eA d)):=by
   simp (disch:=omega) only[Bj,Bi,un,jC,av,ca,fH,ag,ai,wrap64,dt,fy,Int.toNat_natCast,Option.bind_some,fv,fx,XE.bI,XE.bJ,XE.bK,XE.re,fw,gK,fY,fW,V.aI,V.toInt_int,cond_true,cond_false]
   rfl
  by_cases U:bU d[j]! d[j-1]! <0
  ·rw[ag U] at e⊢
   exact ⟨t,(ct e).trans h⟩
  ·rw[ai U] at e⊢
   exact ⟨_,bq e⟩
theorem afq {d:Array XE} {b:Nat}: ∀(n i:Nat),b-i=n→i≤b→i≤scanSorted aB d b i∧scanSorted aB d b i≤b:=by
 intro n
 induction n with
 | zero=>intro i hn hi;rw[E7,ai (by omega)];omega
 | succ n ih=>
  intro i hn hi
  rw[E7,ag (by omega)]
  obtain ⟨h1,U⟩:=ih (i+1) (by omega) (by omega)
  split<;>omega
theorem afr {a b:Nat}: ∀(s i:Nat) (d:Array XE),s≤5→a<i→i≤b→b≤d.size→d.size<1152921504606846976→
  (Loop (rP CC a b) ((i:Int),((5-s:Nat):Int),eA d)=some (.inl ((partialIns aB a b s i d).2,eA (partialIns aB a b s i d).1)))∨
  (∃x y z,(partialIns aB a b s i d).2=false∧Loop (rP CC a b) ((i:Int),((5-s:Nat):Int),eA d)=some (.inr (x,y,z,eA (partialIns aB a b s i d).1))):=by
 intro s
 induction s with
 | zero=>
  intro i d hs5 hi KA hb hs
  refine .inr ⟨(i:Int),((5:Nat):Int),false,rfl,bq ?_⟩
  simp (disch:=omega) only[rP,Bk,un,rM,cond_false]
  rfl
 | succ s ih=>
  intro i d hs5 hi KA hb hs
  obtain ⟨t1,e1⟩:=afn (a:=a) (j:=5-(s+1)) hb hs _ i rfl (by omega) KA
  obtain ⟨q1,q2⟩:=afq (d:=d) _ i rfl KA
  rw[partialIns_succ]
  have f:rP CC a b ((i:Int),((5-(s+1):Nat):Int),eA d)=rP CC a b ((i:Int),((5-(s+1):Nat):Int),eA d):=rfl
  conv at f=>rhs;simp only[rP,Bk,un];rw[av,ag (by omega),e1];simp only[Option.bind_some,un]
  generalize scanSorted aB d b i=k at*
  by_cases h1:k=b
  ·rw[ag h1]
   left
   refine bq (f.trans ?_)
   rw[dy,ag (by omega)]
  ·rw[ai h1]
   by_cases U:b-a<50
   ·rw[ag U]
    left
    refine bq (f.trans ?_)
    rw[dy,ai (by omega),wrap64 (by omega) (by omega),av,ag (by omega)]
   ·rw[ai U]
    have z1:(swp d k (k-1)).size=d.size:=size_swp ..
    have z2:(fixDown aB a k (swp d k (k-1))).size=d.size:=by
     unfold fixDown
     split
     ·rw[SU,z1]
     ·exact z1
    have z3:(fixUp aB b k (fixDown aB a k (swp d k (k-1)))).size=d.size:=by
     unfold fixUp
     split
     ·rw[afo _ _ _ rfl,z2]
     ·exact z2
    obtain ⟨t2,e2⟩:=SV (a:=a) (b:=b) (i:=k) (k:=5-(s+1)) (k-1) (swp d k (k-1)) (by omega) (by omega)
    obtain ⟨t4,e4⟩:=afp (a:=a) (b:=b) (i:=k) (k:=5-(s+1)) _ (k+1) (fixDown aB a k (swp d k (k-1))) rfl (by omega) (by omega) (by omega) (by omega)
    have e5:rP CC a b ((i:Int),((5-(s+1):Nat):Int),eA d)=some (.inl ((k:Int),((5-s:Nat):Int),eA (fixUp aB b k (fixDown aB a k (swp d k (k-1)))))):=by
     refine f.trans ?_
     rw[dy,ai (by omega),wrap64 (by omega) (by omega),av,ai (by omega)]
     simp (disch:=omega) only[av,ca,ag,fv,fx,Int.toNat_natCast,Option.bind_some,XE.bI,XE.bJ,XE.bK,XE.re,fw,gK,fY,jC,dt,lI,wrap64,xh,E6]
     rw[show 5-(s+1)+1=5-s by omega]
     unfold fixDown at e4⊢
     unfold fixUp
     have c1:(((k-a:Nat):Int)≥2)=(k-a≥2):=propext (by omega)
     have c2:(((b-k:Nat):Int)≥2)=(b-k≥2):=propext (by omega)
     simp only[c1,c2]
     by_cases g1:k-a≥2
     ·by_cases g2:b-k≥2
      ·simp only[g1,g2,cP,e2,Option.bind_some,un] at e4⊢
       rw[e4]
       rfl
      ·simp only[g1,g2,cP,fa,e2,Option.bind_some,un]
     ·by_cases g2:b-k≥2
      ·simp only[g1,g2,cP,fa] at e4⊢
       rw[e4]
       rfl
      ·exact absurd (show b-k≥2 by omega) g2
    rw[ct e5]
    exact ih k _ (by omega) (by omega) (by omega) (by omega) (by omega)
theorem SW {a b:Nat} {d:Array XE} (fl:a<b) (hb:b≤d.size) (hs:d.size<1152921504606846976):
  CC D4 [.int .i64 (a:Int),.int .i64 (b:Int),.list aa (eA d)]=
   some [.bool (partialInsertionSort aB d a b).2,.list aa (eA (partialInsertionSort aB d a b).1)]:=by
 refine aff ?_
 unfold SO
 simp (disch:=omega) only[dt,wrap64]
 rcases afr (a:=a) (b:=b) 5 (a+1) d (bQ _) (by omega) (by omega) hb hs with h|⟨x,y,z,h0,h⟩
 ·rw[show ((5-5:Nat):Int)=0 from rfl] at h
  rw[h]
  rfl
 ·rw[show ((5-5:Nat):Int)=0 from rfl] at h
  rw[h]
  unfold partialInsertionSort
  rw[h0]
  rfl
end Go.AM.SX
set_option maxRecDepth 100000
namespace Go.AM
open Go.Proofs
noncomputable abbrev rQ:Code:=bZ Tryz.prog (ay.aX 130)
noncomputable def Bm (C:af) (data:List V) (i j k':Int) (t36:Bool) (gn:Int) {β:Type} (kr:(Int × Int × Int × Int)→Option β):Option β:=
 bif t36 then
  (C vY [.list aa data,.int .i64 i,.int .i64 gn]).bind fun r1=>
  (C vY [.list aa data,.int .i64 j,.int .i64 ((V.nth (r1.drop 1) 0).toInt)]).bind fun r2=>
  (C vY [.list aa data,.int .i64 k',.int .i64 ((V.nth (r2.drop 1) 0).toInt)]).bind fun r3=>
  kr ((V.nth r1 0).toInt,(V.nth r2 0).toInt,(V.nth r3 0).toInt,(V.nth (r3.drop 1) 0).toInt)
 else
  kr (i,j,k',gn)
noncomputable def Bn (C:af) (data:List V) (l i j k':Int) (t34:Bool) (gn:Int) {β:Type} (kr:(Int × Int)→Option β):Option β:=
 bif t34 then
  Bm C data i j k' (decide ((l:Int)≥50)) gn (un fun (eC:Int)=>un fun (j_5:Int)=>un fun (k_6:Int) (afs:Int)=>
   (C zx [.list aa data,.int .i64 eC,.int .i64 j_5,.int .i64 k_6,.int .i64 afs]).bind fun r8=>
   kr ((V.nth r8 0).toInt,(V.nth (r8.drop 1) 0).toInt))
 else
  kr (j,gn)
noncomputable def SY (C:af):cw:=fun β n ds k=>
 bif Nat.beq n 591 then lq IM [[1,0,0,0,0]] (@Bm C) ds k else
 bif Nat.beq n 559 then lq IN [[0,0]] (@Bn C) ds k else
 none
abbrev SZ (C:af) (b:cp):Prop:=cq Tryz.prog ay C (SY C) 130 (cH Tryz.prog (ay.aX 130)) (ay.sin 130).aY.length b
theorem aft (C:af):SZ C (.cond 36 (ax [1,1,1,1,1,1,0,1,0,0,1,0] rQ) (ax [1,1,1,1,1,1,0,1,0,0,1,1] rQ)):=
 mq IM [[1,0,0,0,0]] (@Bm C) (by kernel_rfl) (bn (bs:=[]) (by kernel_rfl) az) (bn (bs:=[]) (by kernel_rfl) az) (fun ds=>by kernel_rfl) (fun i β k=>by kernel_rfl) (fun β ds k=>by kernel_rfl)
theorem afu (C:af):SZ C (.cond 34 (ax [1,1,1,1,1,1,0,1,0] rQ) (ax [1,1,1,1,1,1,0,1,1] rQ)):=
 mq IN [[0,0]] (@Bn C) (by kernel_rfl) (bn (bs:=[.cond 36 (ax [1,1,1,1,1,1,0,1,0,0,1,0] rQ) (ax [1,1,1,1,1,1,0,1,0,0,1,1] rQ)]) (by kernel_rfl) (bD (aft C) az)) (bn (bs:=[]) (by kernel_rfl) az) (fun ds=>by kernel_rfl) (fun i β k=>by kernel_rfl) (fun β ds k=>by kernel_rfl)
noncomputable def KC (C:af) (data:List V) (a b':Int):Option (List V):=
 Bn C data (IntKind.wrap .i64 (b'-a)) (IntKind.wrap .i64 (a+(IntKind.wrap .i64 (1*(IntKind.wrap .i64 (Int.tdiv (IntKind.wrap .i64 (b'-a)) 4)))))) (IntKind.wrap .i64 (a+(IntKind.wrap .i64 (2*(IntKind.wrap .i64 (Int.tdiv (IntKind.wrap .i64 (b'-a)) 4)))))) (IntKind.wrap .i64 (a+(IntKind.wrap .i64 (3*(IntKind.wrap .i64 (Int.tdiv (IntKind.wrap .i64 (b'-a)) 4)))))) (decide (((IntKind.wrap .i64 (b'-a)):Int)≥8)) 0 (un fun (KD:Int) (S0:Int)=>
  bif (S0:Int)==0 then
   some [.int .i64 KD,.int .i64 1]
  else
   bif (S0:Int)==12 then
   some [.int .i64 KD,.int .i64 2]
   else
   some [.int .i64 KD,.int .i64 0])
theorem S3 {data:List V} {a b':Int} {r:Option (List V)} (h:KC CC data a b'=r):CC zu [.list aa data,.int .i64 a,.int .i64 b']=r:=
 bd (key:=130) (L:=SY CC) (bs:=[.cond 34 (ax [1,1,1,1,1,1,0,1,0] rQ) (ax [1,1,1,1,1,1,0,1,1] rQ)]) (by kernel_rfl) (bD (afu CC) az) (ba (by kernel_rfl) h)
noncomputable def S4 (C:af) (data:List V) (a b' c gn:Int):Option (List V):=
 (C vZ [.list aa data,.int .i64 a,.int .i64 b',.int .i64 gn]).bind fun r1=>
 (C vZ [.list aa data,.int .i64 ((V.nth (r1.drop 1) 0).toInt),.int .i64 c,.int .i64 ((V.nth (r1.drop 2) 0).toInt)]).bind fun r2=>
 (C vZ [.list aa data,.int .i64 ((V.nth r1 0).toInt),.int .i64 ((V.nth r2 0).toInt),.int .i64 ((V.nth (r2.drop 2) 0).toInt)]).bind fun r3=>
 some [.int .i64 ((V.nth (r3.drop 1) 0).toInt),.int .i64 ((V.nth (r3.drop 2) 0).toInt)]
theorem afv {data:List V} {a b' c gn:Int} {r:Option (List V)} (h:S4 CC data a b' c gn=r):CC zx [.list aa data,.int .i64 a,.int .i64 b',.int .i64 c,.int .i64 gn]=r:=
 bd (key:=154) (L:=cr) (bs:=[]) (by kernel_rfl) az (ba (by kernel_rfl) h)
noncomputable def KE (C:af) (data:List V) (a b' gn:Int):Option (List V):=
 (idx data b').bind fun x1=>
 (idx data a).bind fun x2=>
 (C bc [.int .i64 ((x1.cell 0).toInt),.int .i64 ((x1.cell 1).toInt),.list aa ((x1.cell 2).toList),.int .i64 ((x2.cell 0).toInt),.int .i64 ((x2.cell 1).toInt),.list aa ((x2.cell 2).toList)]).bind fun r3=>
 bif decide ((((V.nth r3 0).toInt):Int)<0) then
  some [.int .i64 b',.int .i64 a,.int .i64 (IntKind.wrap .i64 (gn+1))]
 else
  some [.int .i64 a,.int .i64 b',.int .i64 gn]
theorem S5 {data:List V} {a b' gn:Int} {r:Option (List V)} (h:KE CC data a b' gn=r):CC vZ [.list aa data,.int .i64 a,.int .i64 b',.int .i64 gn]=r:=
 bd (key:=160) (L:=cr) (bs:=[]) (by kernel_rfl) az (ba (by kernel_rfl) h)
noncomputable def S6 (C:af) (data:List V) (a gn:Int):Option (List V):=
 (C zx [.list aa data,.int .i64 (IntKind.wrap .i64 (a-1)),.int .i64 a,.int .i64 (IntKind.wrap .i64 (a+1)),.int .i64 gn]).bind fun r1=>
 some [.int .i64 ((V.nth r1 0).toInt),.int .i64 ((V.nth (r1.drop 1) 0).toInt)]
theorem afw {data:List V} {a gn:Int} {r:Option (List V)} (h:S6 CC data a gn=r):CC vY [.list aa data,.int .i64 a,.int .i64 gn]=r:=
 bd (key:=153) (L:=cr) (bs:=[]) (by kernel_rfl) az (ba (by kernel_rfl) h)
noncomputable abbrev xi:Code:=bZ Tryz.prog (ay.aX 129)
noncomputable def Fb (C:af) (a length xj iW other:Int) (t45:Bool) (aj:List V) (Bo:Int) {β:Type} (kr:(Int)→Option β):Option β:=
 bif t45 then
  kr (IntKind.wrap .i64 (other-length))
 else
  kr other
noncomputable def Bp (C:af) (a length xj iW:Int) (aj:List V) (Bo:Int) {β:Type} (kn:(Int × (List V) × Int)→Option β) (kr:(Int × Bool × (List V) × Int)→Option β):Option β:=
 bif decide ((iW:Int)≤(IntKind.wrap .i64 ((IntKind.wrap .i64 (a+(IntKind.wrap .i64 (2*(IntKind.wrap .i64 (Int.tdiv length 4))))))+1))) then
  (C D6 [.int .u64 Bo]).bind fun r2=>
  Fb C a length xj iW (IntKind.wrap .i64 (IntKind.wrap .u64 ((BitVec.ofInt (IntKind.bits .u64) ((V.nth r2 0).toInt)&&&BitVec.ofInt (IntKind.bits .u64) (IntKind.wrap .u64 (xj-1))).toNat))) (decide (((IntKind.wrap .i64 (IntKind.wrap .u64 ((BitVec.ofInt (IntKind.bits .u64) ((V.nth r2 0).toInt)&&&BitVec.ofInt (IntKind.bits .u64) (IntKind.wrap .u64 (xj-1))).toNat))):Int)≥length)) aj ((V.nth (r2.drop 1) 0).toInt) (fun (um:Int)=>
   bif (decide (0≤(IntKind.wrap .i64 (a+um))))&&(decide ((IntKind.wrap .i64 (a+um))<(aj.length:Int))) then
   (aj[(IntKind.wrap .i64 (a+um):Int).toNat]?).bind fun x4=>
   bif (decide (0≤iW))&&(decide (iW<(aj.length:Int))) then
    (aj[(iW:Int).toNat]?).bind fun x5=>
    bif (decide (0≤iW))&&(decide (iW<(aj.length:Int))) then
    (aj[(iW:Int).toNat]?).bind fun x6=>
    bif (decide (0≤(IntKind.wrap .i64 (a+um))))&&(decide ((IntKind.wrap .i64 (a+um))<((aj.set ((iW:Int).toNat) (.agg [.int .i64 ((x4.cell 0).toInt),.int .i64 ((x4.cell 1).toInt),.list aa ((x4.cell 2).toList)])).length:Int))) then
     ((aj.set ((iW:Int).toNat) (.agg [.int .i64 ((x4.cell 0).toInt),.int .i64 ((x4.cell 1).toInt),.list aa ((x4.cell 2).toList)]))[(IntKind.wrap .i64 (a+um):Int).toNat]?).bind fun x7=>
     kn (IntKind.wrap .i64 (iW+1),(aj.set ((iW:Int).toNat) (.agg [.int .i64 ((x4.cell 0).toInt),.int .i64 ((x4.cell 1).toInt),.list aa ((x4.cell 2).toList)])).set ((IntKind.wrap .i64 (a+um):Int).toNat) (.agg [.int .i64 ((x5.cell 0).toInt),.int .i64 ((x5.cell 1).toInt),.list aa ((x5.cell 2).toList)]),(V.nth (r2.drop 1) 0).toInt)
    else none
    else none
   else none
   else none)
 else
  kr (iW,decide ((iW:Int)≤(IntKind.wrap .i64 ((IntKind.wrap .i64 (a+(IntKind.wrap .i64 (2*(IntKind.wrap .i64 (Int.tdiv length 4))))))+1))),aj,Bo)
noncomputable def Fc (C:af) (a length xj:Int):(Int × (List V) × Int)→Option ((Int × (List V) × Int) ⊕ (Int × Bool × (List V) × Int)):=un fun iW=>un fun aj Bo=>Bp C a length xj iW aj Bo (fun y=>some (.inl y)) (fun r=>some (.inr r))
noncomputable def S7 (C:af):cw:=fun β n ds k=>
 bif Nat.beq n 735 then lq IK [[1,2,3,4,0,7,8]] (@Fb C) ds k else
 bif Nat.beq n 81 then bS IL [false,false,false,true,true,true] [[1,2,3,0,0,0,0]] (@Bp C) ds k else
 none
abbrev S8 (C:af) (b:cp):Prop:=cq Tryz.prog ay C (S7 C) 129 (cH Tryz.prog (ay.aX 129)) (ay.sin 129).aY.length b
theorem afx (C:af):S8 C (.cond 45 (ax [1,1,0,1,1,1,0,0,1,0,0,1,0,1,0] xi) (ax [1,1,0,1,1,1,0,0,1,0,0,1,0,1,1] xi)):=
 mq IK [[1,2,3,4,0,7,8]] (@Fb C) (by kernel_rfl) (bn (bs:=[]) (by kernel_rfl) az) (bn (bs:=[]) (by kernel_rfl) az) (fun ds=>by kernel_rfl) (fun i β k=>by kernel_rfl) (fun β ds k=>by kernel_rfl)
theorem afy (C:af):S8 C (.loop (ax [1,1,0,1,1,1,0,0] xi)):=
 bX IL [false,false,false,true,true,true] [[1,2,3,0,0,0,0]] (@Bp C) (by kernel_rfl) (bn (bs:=[.cond 45 (ax [1,1,0,1,1,1,0,0,1,0,0,1,0,1,0] xi) (ax [1,1,0,1,1,1,0,0,1,0,0,1,0,1,1] xi)]) (by kernel_rfl) (bD (afx C) az)) (fun ds=>by kernel_rfl) (fun i x=>by kernel_rfl) (fun i x β k=>by kernel_rfl) (fun β ds k=>by kernel_rfl)
noncomputable def S9 (C:af) (a b':Int) (aj:List V):Option (List V):=
 bif decide (((IntKind.wrap .i64 (b'-a)):Int)≥8) then
  (C D5 [.int .i64 (IntKind.wrap .i64 (b'-a))]).bind fun r1=>
  (Loop (Fc C a (IntKind.wrap .i64 (b'-a)) ((V.nth r1 0).toInt)) (IntKind.wrap .i64 ((IntKind.wrap .i64 (a+(IntKind.wrap .i64 (2*(IntKind.wrap .i64 (Int.tdiv (IntKind.wrap .i64 (b'-a)) 4))))))-1),aj,IntKind.wrap .u64 (IntKind.wrap .i64 (b'-a)))).bind (un fun (aiC:Int)=>un fun (p9:Bool)=>un fun (nD:List V) (aiD:Int)=>
   some [.list aa nD])
 else
  some [.list aa aj]
theorem afz {a b':Int} {aj:List V} {r:Option (List V)} (h:S9 CC a b' aj=r):CC D2 [.int .i64 a,.int .i64 b',.list aa aj]=r:=
 bd (key:=129) (L:=S7 CC) (bs:=[.loop (ax [1,1,0,1,1,1,0,0] xi)]) (by kernel_rfl) (bD (afy CC) az) (ba (by kernel_rfl) h)
noncomputable def Ta (C:af) (hU:Int):Option (List V):=
 some [.int .u64 (IntKind.wrap .u64 ((BitVec.ofInt (IntKind.bits .u64) (IntKind.wrap .u64 ((BitVec.ofInt (IntKind.bits .u64) (IntKind.wrap .u64 ((BitVec.ofInt (IntKind.bits .u64) hU ^^^ BitVec.ofInt (IntKind.bits .u64) (IntKind.wrap .u64 (hU*2^(min (13:Int).toNat (IntKind.bits .u64))))).toNat)) ^^^ BitVec.ofInt (IntKind.bits .u64) (Int.fdiv (IntKind.wrap .u64 ((BitVec.ofInt (IntKind.bits .u64) hU ^^^ BitVec.ofInt (IntKind.bits .u64) (IntKind.wrap .u64 (hU*2^(min (13:Int).toNat (IntKind.bits .u64))))).toNat)) (2^(min (7:Int).toNat (IntKind.bits .u64))))).toNat)) ^^^ BitVec.ofInt (IntKind.bits .u64) (IntKind.wrap .u64 ((IntKind.wrap .u64 ((BitVec.ofInt (IntKind.bits .u64) (IntKind.wrap .u64 ((BitVec.ofInt (IntKind.bits .u64) hU ^^^ BitVec.ofInt (IntKind.bits .u64) (IntKind.wrap .u64 (hU*2^(min (13:Int).toNat (IntKind.bits .u64))))).toNat)) ^^^ BitVec.ofInt (IntKind.bits .u64) (Int.fdiv (IntKind.wrap .u64 ((BitVec.ofInt (IntKind.bits .u64) hU ^^^ BitVec.ofInt (IntKind.bits .u64) (IntKind.wrap .u64 (hU*2^(min (13:Int).toNat (IntKind.bits .u64))))).toNat)) (2^(min (7:Int).toNat (IntKind.bits .u64))))).toNat))*2^(min (17:Int).toNat (IntKind.bits .u64))))).toNat)),.int .u64 (IntKind.wrap .u64 ((BitVec.ofInt (IntKind.bits .u64) (IntKind.wrap .u64 ((BitVec.ofInt (IntKind.bits .u64) (IntKind.wrap .u64 ((BitVec.ofInt (IntKind.bits .u64) hU ^^^ BitVec.ofInt (IntKind.bits .u64) (IntKind.wrap .u64 (hU*2^(min (13:Int).toNat (IntKind.bits .u64))))).toNat)) ^^^ BitVec.ofInt (IntKind.bits .u64) (Int.fdiv (IntKind.wrap .u64 ((BitVec.ofInt (IntKind.bits .u64) hU ^^^ BitVec.ofInt (IntKind.bits .u64) (IntKind.wrap .u64 (hU*2^(min (13:Int).toNat (IntKind.bits .u64))))).toNat)) (2^(min (7:Int).toNat (IntKind.bits .u64))))).toNat)) ^^^ BitVec.ofInt (IntKind.bits .u64) (IntKind.wrap .u64 ((IntKind.wrap .u64 ((BitVec.ofInt (IntKind.bits .u64) (IntKind.wrap .u64 ((BitVec.ofInt (IntKind.bits .u64) hU ^^^ BitVec.ofInt (IntKind.bits .u64) (IntKind.wrap .u64 (hU*2^(min (13:Int).toNat (IntKind.bits .u64))))).toNat)) ^^^ BitVec.ofInt (IntKind.bits .u64) (Int.fdiv (IntKind.wrap .u64 ((BitVec.ofInt (IntKind.bits .u64) hU ^^^ BitVec.ofInt (IntKind.bits .u64) (IntKind.wrap .u64 (hU*2^(min (13:Int).toNat (IntKind.bits .u64))))).toNat)) (2^(min (7:Int).toNat (IntKind.bits .u64))))).toNat))*2^(min (17:Int).toNat (IntKind.bits .u64))))).toNat))]
theorem afA {hU:Int} {r:Option (List V)} (h:Ta CC hU=r):CC D6 [.int .u64 hU]=r:=
 bd (key:=137) (L:=cr) (bs:=[]) (by kernel_rfl) az (ba (by kernel_rfl) h)
noncomputable def Tb (C:af) (length:Int):Option (List V):=
 (C zm [.int .u64 (IntKind.wrap .u64 length)]).bind fun r1=>
 bif decide (0≤((V.nth r1 0).toInt)) then
  some [.int .u64 (IntKind.wrap .u64 (1*2^(min ((V.nth r1 0).toInt).toNat (IntKind.bits .u64))))]
 else none
theorem afB {length:Int} {r:Option (List V)} (h:Tb CC length=r):CC D5 [.int .i64 length]=r:=
 bd (key:=136) (L:=cr) (bs:=[]) (by kernel_rfl) az (ba (by kernel_rfl) h)
noncomputable def Tc (C:af) (x:Int):Option (List V):=
 (C DY [.int .u64 x]).bind fun r1=>
 some [.int .i64 ((V.nth r1 0).toInt)]
theorem afC {x:Int} {r:Option (List V)} (h:Tc CC x=r):CC zm [.int .u64 x]=r:=
 bd (key:=69) (L:=cr) (bs:=[]) (by kernel_rfl) az (ba (by kernel_rfl) h)
noncomputable abbrev rR:Code:=bZ Tryz.prog (ay.aX 106)
noncomputable def uo (C:af) (x n:Int) (t4:Bool) {β:Type} (kr:(Int × Int)→Option β):Option β:=
 bif t4 then
  kr (Int.fdiv x (2^(min (32:Int).toNat (IntKind.bits .u64))),32)
 else
  kr (x,n)
noncomputable def uq (C:af) (x n:Int) (t8:Bool) {β:Type} (kr:(Int × Int)→Option β):Option β:=
 bif t8 then
  kr (Int.fdiv x (2^(min (16:Int).toNat (IntKind.bits .u64))),IntKind.wrap .i64 (n+16))
 else
  kr (x,n)
noncomputable def Td (C:af):cw:=fun β n ds k=>
 bif Nat.beq n 79 then lq IA [[0,0]] (@uo C) ds k else
 bif Nat.beq n 143 then lq IB [[0,0]] (@uq C) ds k else
 none
abbrev Te (C:af) (b:cp):Prop:=cq Tryz.prog ay C (Td C) 106 (cH Tryz.prog (ay.aX 106)) (ay.sin 106).aY.length b
theorem afD (C:af):Te C (.cond 4 (ax [1,0,1,0] rR) (ax [1,0,1,1] rR)):=
 mq IA [[0,0]] (@uo C) (by kernel_rfl) (bn (bs:=[]) (by kernel_rfl) az) (bn (bs:=[]) (by kernel_rfl) az) (fun ds=>by kernel_rfl) (fun i β k=>by kernel_rfl) (fun β ds k=>by kernel_rfl)
theorem afE (C:af):Te C (.cond 8 (ax [1,1,0,1,0] rR) (ax [1,1,0,1,1] rR)):=
 mq IB [[0,0]] (@uq C) (by kernel_rfl) (bn (bs:=[]) (by kernel_rfl) az) (bn (bs:=[]) (by kernel_rfl) az) (fun ds=>by kernel_rfl) (fun i β k=>by kernel_rfl) (fun β ds k=>by kernel_rfl)
noncomputable def afF (C:af) (x:Int):Option (List V):=
 uo C x 0 (decide ((x:Int)≥4294967296)) (un fun (rS:Int) (Bq:Int)=>
  uq C rS Bq (decide ((rS:Int)≥65536)) (un fun (Br:Int) (Tf:Int)=>
   bif decide ((Br:Int)≥256) then
    (bif decide (0≤(IntKind.wrap .u8 (Int.fdiv Br (2^(min (8:Int).toNat (IntKind.bits .u64)))))) then (([0,1,2,2,3,3,3,3,4,4,4,4,4,4,4,4,5,5,5,5,5,5,5,5,5,5,5,5,5,5,5,5,6,6,6,6,6,6,6,6,6,6,6,6,6,6,6,6,6,6,6,6,6,6,6,6,6,6,6,6,6,6,6,6,7,7,7,7,7,7,7,7,7,7,7,7,7,7,7,7,7,7,7,7,7,7,7,7,7,7,7,7,7,7,7,7,7,7,7,7,7,7,7,7,7,7,7,7,7,7,7,7,7,7,7,7,7,7,7,7,7,7,7,7,7,7,7,7,8,8,8,8,8,8,8,8,8,8,8,8,8,8,8,8,8,8,8,8,8,8,8,8,8,8,8,8,8,8,8,8,8,8,8,8,8,8,8,8,8,8,8,8,8,8,8,8,8,8,8,8,8,8,8,8,8,8,8,8,8,8,8,8,8,8,8,8,8,8,8,8,8,8,8,8,8,8,8,8,8,8,8,8,8,8,8,8,8,8,8,8,8,8,8,8,8,8,8,8,8,8,8,8,8,8,8,8,8,8,8,8,8,8,8,8,8,8,8,8,8,8,8,8,8,8,8,8]:List UInt8)[(IntKind.wrap .u8 (Int.fdiv Br (2^(min (8:Int).toNat (IntKind.bits .u64)))):Int).toNat]?).map fun b=>V.int .u8 b.toNat else none).bind fun x5=>
    some [.int .i64 (IntKind.wrap .i64 ((IntKind.wrap .i64 (Tf+8))+(IntKind.wrap .i64 x5.toInt)))]
   else
    (bif decide (0≤(IntKind.wrap .u8 Br)) then (([0,1,2,2,3,3,3,3,4,4,4,4,4,4,4,4,5,5,5,5,5,5,5,5,5,5,5,5,5,5,5,5,6,6,6,6,6,6,6,6,6,6,6,6,6,6,6,6,6,6,6,6,6,6,6,6,6,6,6,6,6,6,6,6,7,7,7,7,7,7,7,7,7,7,7,7,7,7,7,7,7,7,7,7,7,7,7,7,7,7,7,7,7,7,7,7,7,7,7,7,7,7,7,7,7,7,7,7,7,7,7,7,7,7,7,7,7,7,7,7,7,7,7,7,7,7,7,7,8,8,8,8,8,8,8,8,8,8,8,8,8,8,8,8,8,8,8,8,8,8,8,8,8,8,8,8,8,8,8,8,8,8,8,8,8,8,8,8,8,8,8,8,8,8,8,8,8,8,8,8,8,8,8,8,8,8,8,8,8,8,8,8,8,8,8,8,8,8,8,8,8,8,8,8,8,8,8,8,8,8,8,8,8,8,8,8,8,8,8,8,8,8,8,8,8,8,8,8,8,8,8,8,8,8,8,8,8,8,8,8,8,8,8,8,8,8,8,8,8,8,8,8,8,8,8,8]:List UInt8)[(IntKind.wrap .u8 Br:Int).toNat]?).map fun b=>V.int .u8 b.toNat else none).bind fun x6=>
    some [.int .i64 (IntKind.wrap .i64 (Tf+(IntKind.wrap .i64 x6.toInt)))]))
theorem Tg {x:Int} {r:Option (List V)} (h:afF CC x=r):CC DY [.int .u64 x]=r:=
 bd (key:=106) (L:=Td CC) (bs:=[.cond 4 (ax [1,0,1,0] rR) (ax [1,0,1,1] rR),.cond 8 (ax [1,1,0,1,0] rR) (ax [1,1,0,1,1] rR)]) (by kernel_rfl) (bD (afD CC) (bD (afE CC) az)) (ba (by kernel_rfl) h)
noncomputable abbrev kP:Code:=bZ Tryz.prog (ay.aX 95)
noncomputable def xk (C:af) (a b' iA:Int) (ej eF:Bool) (length:Int) (t39:Bool) (aj:List V) {β:Type} (kr:(Int × (List V))→Option β):Option β:=
 bif t39 then
  (C D2 [.int .i64 a,.int .i64 b',.list aa aj]).bind fun r3=>
  kr (IntKind.wrap .i64 (iA-1),(V.nth r3 0).toList)
 else
  kr (iA,aj)
noncomputable def xl (C:af) (a b' iA:Int) (ej eF:Bool) (length pivot hint:Int) (t56:Bool) (aj:List V) {β:Type} (kr:(Int × Int × (List V))→Option β):Option β:=
 bif t56 then
  (C D3 [.int .i64 a,.int .i64 b',.list aa aj]).bind fun r7=>
  kr (IntKind.wrap .i64 ((IntKind.wrap .i64 (b'-1))-(IntKind.wrap .i64 (pivot-a))),1,(V.nth r7 0).toList)
 else
  kr (pivot,hint,aj)
noncomputable def lL (C:af) (a b' iA:Int) (ej eF:Bool) (length pivot:Int) (t75:Bool) (aj:List V) {β:Type} (kr:((Bool × (List V)) ⊕ (List V))→Option β):Option β:=
 bif t75 then
  (C D4 [.int .i64 a,.int .i64 b',.list aa aj]).bind fun kM=>
  bif (V.nth kM 0).toBool then
  kr (.inl ((V.nth kM 0).toBool,(V.nth (kM.drop 1) 0).toList))
  else
  kr (.inr ((V.nth (kM.drop 1) 0).toList))
 else
  kr (.inr aj)
noncomputable def oZ (C:af) (a b' iA:Int) (ej eF:Bool) (aj:List V) {β:Type} (kn:(Int × Int × Int × Bool × Bool × (List V))→Option β) (kr:(List V)→Option β):Option β:=
 bif decide (((IntKind.wrap .i64 (b'-a)):Int)≤12) then
  (C zr [.int .i64 a,.int .i64 b',.list aa aj]).bind fun r1=>
  kr ((V.nth r1 0).toList)
 else
  bif (iA:Int)==0 then
  (C zt [.int .i64 a,.int .i64 b',.list aa aj]).bind fun r2=>
  kr ((V.nth r2 0).toList)
  else
  xk C a b' iA ej eF (IntKind.wrap .i64 (b'-a)) (!ej) aj (un fun (cz:Int) (Bs:List V)=>
   (C zu [.list aa Bs,.int .i64 a,.int .i64 b']).bind fun r6=>
   xl C a b' cz ej eF (IntKind.wrap .i64 (b'-a)) ((V.nth r6 0).toInt) ((V.nth (r6.drop 1) 0).toInt) ((((V.nth (r6.drop 1) 0).toInt):Int)==2) Bs (un fun (dv:Int)=>un fun (KF:Int) (nD:List V)=>
    bif ej then
     bif eF then
     lL C a b' cz ej eF (IntKind.wrap .i64 (b'-a)) dv ((KF:Int)==1) nD (cY (un fun (zJ:Bool) (Kt:List V)=>
      kr Kt) (fun (ur:List V)=>
      bif decide ((a:Int)>0) then
       bif (decide (0≤(IntKind.wrap .i64 (a-1))))&&(decide ((IntKind.wrap .i64 (a-1))<(ur.length:Int))) then
       (ur[(IntKind.wrap .i64 (a-1):Int).toNat]?).bind fun eQ=>
       bif (decide (0≤dv))&&(decide (dv<(ur.length:Int))) then
        (ur[(dv:Int).toNat]?).bind fun fu=>
        (C bc [.int .i64 ((eQ.cell 0).toInt),.int .i64 ((eQ.cell 1).toInt),.list aa ((eQ.cell 2).toList),.int .i64 ((fu.cell 0).toInt),.int .i64 ((fu.cell 1).toInt),.list aa ((fu.cell 2).toList)]).bind fun eG=>
        bif !(decide ((((V.nth eG 0).toInt):Int)<0)) then
        (C tp [.int .i64 a,.int .i64 b',.int .i64 dv,.list aa ur]).bind fun xm=>
        kn ((V.nth xm 0).toInt,b',cz,ej,eF,(V.nth (xm.drop 1) 0).toList)
        else
        (C mr [.int .i64 a,.int .i64 b',.int .i64 dv,.list aa ur]).bind fun jG=>
        bif decide (((IntKind.wrap .i64 (((V.nth jG 0).toInt)-a)):Int)<(IntKind.wrap .i64 (b'-((V.nth jG 0).toInt)))) then
         (C fT [.int .i64 a,.int .i64 ((V.nth jG 0).toInt),.int .i64 cz,.list aa ((V.nth (jG.drop 2) 0).toList)]).bind fun kQ=>
         kn (IntKind.wrap .i64 (((V.nth jG 0).toInt)+1),b',cz,decide (((IntKind.wrap .i64 (((V.nth jG 0).toInt)-a)):Int)≥(IntKind.wrap .i64 (Int.tdiv (IntKind.wrap .i64 (b'-a)) 8))),(V.nth (jG.drop 1) 0).toBool,(V.nth kQ 0).toList)
        else
         (C fT [.int .i64 (IntKind.wrap .i64 (((V.nth jG 0).toInt)+1)),.int .i64 b',.int .i64 cz,.list aa ((V.nth (jG.drop 2) 0).toList)]).bind fun KG=>
         kn (a,(V.nth jG 0).toInt,cz,decide (((IntKind.wrap .i64 (b'-((V.nth jG 0).toInt))):Int)≥(IntKind.wrap .i64 (Int.tdiv (IntKind.wrap .i64 (b'-a)) 8))),(V.nth (jG.drop 1) 0).toBool,(V.nth KG 0).toList)
       else none
       else none
      else
       (C mr [.int .i64 a,.int .i64 b',.int .i64 dv,.list aa ur]).bind fun jD=>
       bif decide (((IntKind.wrap .i64 (((V.nth jD 0).toInt)-a)):Int)<(IntKind.wrap .i64 (b'-((V.nth jD 0).toInt)))) then
       (C fT [.int .i64 a,.int .i64 ((V.nth jD 0).toInt),.int .i64 cz,.list aa ((V.nth (jD.drop 2) 0).toList)]).bind fun r23=>
       kn (IntKind.wrap .i64 (((V.nth jD 0).toInt)+1),b',cz,decide (((IntKind.wrap .i64 (((V.nth jD 0).toInt)-a)):Int)≥(IntKind.wrap .i64 (Int.tdiv (IntKind.wrap .i64 (b'-a)) 8))),(V.nth (jD.drop 1) 0).toBool,(V.nth r23 0).toList)
       else
       (C fT [.int .i64 (IntKind.wrap .i64 (((V.nth jD 0).toInt)+1)),.int .i64 b',.int .i64 cz,.list aa ((V.nth (jD.drop 2) 0).toList)]).bind fun r24=>
       kn (a,(V.nth jD 0).toInt,cz,decide (((IntKind.wrap .i64 (b'-((V.nth jD 0).toInt))):Int)≥(IntKind.wrap .i64 (Int.tdiv (IntKind.wrap .i64 (b'-a)) 8))),(V.nth (jD.drop 1) 0).toBool,(V.nth r24 0).toList)))
     else
     lL C a b' cz ej eF (IntKind.wrap .i64 (b'-a)) dv false nD (cY (un fun (Po:Bool) (afG:List V)=>
      kr afG) (fun (qn:List V)=>
      bif decide ((a:Int)>0) then
       bif (decide (0≤(IntKind.wrap .i64 (a-1))))&&(decide ((IntKind.wrap .i64 (a-1))<(qn.length:Int))) then
       (qn[(IntKind.wrap .i64 (a-1):Int).toNat]?).bind fun ui=>
       bif (decide (0≤dv))&&(decide (dv<(qn.length:Int))) then
        (qn[(dv:Int).toNat]?).bind fun uj=>
        (C bc [.int .i64 ((ui.cell 0).toInt),.int .i64 ((ui.cell 1).toInt),.list aa ((ui.cell 2).toList),.int .i64 ((uj.cell 0).toInt),.int .i64 ((uj.cell 1).toInt),.list aa ((uj.cell 2).toList)]).bind fun E5=>
        bif !(decide ((((V.nth E5 0).toInt):Int)<0)) then
        (C tp [.int .i64 a,.int .i64 b',.int .i64 dv,.list aa qn]).bind fun Th=>
        kn ((V.nth Th 0).toInt,b',cz,ej,eF,(V.nth (Th.drop 1) 0).toList)
        else
        (C mr [.int .i64 a,.int .i64 b',.int .i64 dv,.list aa qn]).bind fun mI=>
        bif decide (((IntKind.wrap .i64 (((V.nth mI 0).toInt)-a)):Int)<(IntKind.wrap .i64 (b'-((V.nth mI 0).toInt)))) then
         (C fT [.int .i64 a,.int .i64 ((V.nth mI 0).toInt),.int .i64 cz,.list aa ((V.nth (mI.drop 2) 0).toList)]).bind fun r33=>
         kn (IntKind.wrap .i64 (((V.nth mI 0).toInt)+1),b',cz,decide (((IntKind.wrap .i64 (((V.nth mI 0).toInt)-a)):Int)≥(IntKind.wrap .i64 (Int.tdiv (IntKind.wrap .i64 (b'-a)) 8))),(V.nth (mI.drop 1) 0).toBool,(V.nth r33 0).toList)
        else
         (C fT [.int .i64 (IntKind.wrap .i64 (((V.nth mI 0).toInt)+1)),.int .i64 b',.int .i64 cz,.list aa ((V.nth (mI.drop 2) 0).toList)]).bind fun r34=>
         kn (a,(V.nth mI 0).toInt,cz,decide (((IntKind.wrap .i64 (b'-((V.nth mI 0).toInt))):Int)≥(IntKind.wrap .i64 (Int.tdiv (IntKind.wrap .i64 (b'-a)) 8))),(V.nth (mI.drop 1) 0).toBool,(V.nth r34 0).toList)
       else none
       else none
      else
       (C mr [.int .i64 a,.int .i64 b',.int .i64 dv,.list aa qn]).bind fun mJ=>
       bif decide (((IntKind.wrap .i64 (((V.nth mJ 0).toInt)-a)):Int)<(IntKind.wrap .i64 (b'-((V.nth mJ 0).toInt)))) then
       (C fT [.int .i64 a,.int .i64 ((V.nth mJ 0).toInt),.int .i64 cz,.list aa ((V.nth (mJ.drop 2) 0).toList)]).bind fun r36=>
       kn (IntKind.wrap .i64 (((V.nth mJ 0).toInt)+1),b',cz,decide (((IntKind.wrap .i64 (((V.nth mJ 0).toInt)-a)):Int)≥(IntKind.wrap .i64 (Int.tdiv (IntKind.wrap .i64 (b'-a)) 8))),(V.nth (mJ.drop 1) 0).toBool,(V.nth r36 0).toList)
       else
       (C fT [.int .i64 (IntKind.wrap .i64 (((V.nth mJ 0).toInt)+1)),.int .i64 b',.int .i64 cz,.list aa ((V.nth (mJ.drop 2) 0).toList)]).bind fun r37=>
       kn (a,(V.nth mJ 0).toInt,cz,decide (((IntKind.wrap .i64 (b'-((V.nth mJ 0).toInt))):Int)≥(IntKind.wrap .i64 (Int.tdiv (IntKind.wrap .i64 (b'-a)) 8))),(V.nth (mJ.drop 1) 0).toBool,(V.nth r37 0).toList)))
    else
     lL C a b' cz ej eF (IntKind.wrap .i64 (b'-a)) dv false nD (cY (un fun (Pv:Bool) (afH:List V)=>
      kr afH) (fun (iV:List V)=>
      bif decide ((a:Int)>0) then
      bif (decide (0≤(IntKind.wrap .i64 (a-1))))&&(decide ((IntKind.wrap .i64 (a-1))<(iV.length:Int))) then
       (iV[(IntKind.wrap .i64 (a-1):Int).toNat]?).bind fun lK=>
       bif (decide (0≤dv))&&(decide (dv<(iV.length:Int))) then
       (iV[(dv:Int).toNat]?).bind fun uk=>
       (C bc [.int .i64 ((lK.cell 0).toInt),.int .i64 ((lK.cell 1).toInt),.list aa ((lK.cell 2).toList),.int .i64 ((uk.cell 0).toInt),.int .i64 ((uk.cell 1).toInt),.list aa ((uk.cell 2).toList)]).bind fun r43=>
       bif !(decide ((((V.nth r43 0).toInt):Int)<0)) then
        (C tp [.int .i64 a,.int .i64 b',.int .i64 dv,.list aa iV]).bind fun Ti=>
        kn ((V.nth Ti 0).toInt,b',cz,ej,eF,(V.nth (Ti.drop 1) 0).toList)
       else
        (C mr [.int .i64 a,.int .i64 b',.int .i64 dv,.list aa iV]).bind fun mK=>
        bif decide (((IntKind.wrap .i64 (((V.nth mK 0).toInt)-a)):Int)<(IntKind.wrap .i64 (b'-((V.nth mK 0).toInt)))) then
        (C fT [.int .i64 a,.int .i64 ((V.nth mK 0).toInt),.int .i64 cz,.list aa ((V.nth (mK.drop 2) 0).toList)]).bind fun r46=>
        kn (IntKind.wrap .i64 (((V.nth mK 0).toInt)+1),b',cz,decide (((IntKind.wrap .i64 (((V.nth mK 0).toInt)-a)):Int)≥(IntKind.wrap .i64 (Int.tdiv (IntKind.wrap .i64 (b'-a)) 8))),(V.nth (mK.drop 1) 0).toBool,(V.nth r46 0).toList)
        else
        (C fT [.int .i64 (IntKind.wrap .i64 (((V.nth mK 0).toInt)+1)),.int .i64 b',.int .i64 cz,.list aa ((V.nth (mK.drop 2) 0).toList)]).bind fun r47=>
        kn (a,(V.nth mK 0).toInt,cz,decide (((IntKind.wrap .i64 (b'-((V.nth mK 0).toInt))):Int)≥(IntKind.wrap .i64 (Int.tdiv (IntKind.wrap .i64 (b'-a)) 8))),(V.nth (mK.drop 1) 0).toBool,(V.nth r47 0).toList)
       else none
      else none
      else
      (C mr [.int .i64 a,.int .i64 b',.int .i64 dv,.list aa iV]).bind fun mL=>
      bif decide (((IntKind.wrap .i64 (((V.nth mL 0).toInt)-a)):Int)<(IntKind.wrap .i64 (b'-((V.nth mL 0).toInt)))) then
       (C fT [.int .i64 a,.int .i64 ((V.nth mL 0).toInt),.int .i64 cz,.list aa ((V.nth (mL.drop 2) 0).toList)]).bind fun r49=>
       kn (IntKind.wrap .i64 (((V.nth mL 0).toInt)+1),b',cz,decide (((IntKind.wrap .i64 (((V.nth mL 0).toInt)-a)):Int)≥(IntKind.wrap .i64 (Int.tdiv (IntKind.wrap .i64 (b'-a)) 8))),(V.nth (mL.drop 1) 0).toBool,(V.nth r49 0).toList)
      else
       (C fT [.int .i64 (IntKind.wrap .i64 (((V.nth mL 0).toInt)+1)),.int .i64 b',.int .i64 cz,.list aa ((V.nth (mL.drop 2) 0).toList)]).bind fun r50=>
       kn (a,(V.nth mL 0).toInt,cz,decide (((IntKind.wrap .i64 (b'-((V.nth mL 0).toInt))):Int)≥(IntKind.wrap .i64 (Int.tdiv (IntKind.wrap .i64 (b'-a)) 8))),(V.nth (mL.drop 1) 0).toBool,(V.nth r50 0).toList)))))
noncomputable def Tj (C:af):(Int × Int × Int × Bool × Bool × (List V))→Option ((Int × Int × Int × Bool × Bool × (List V)) ⊕ (List V)):=un fun a=>un fun b'=>un fun iA=>un fun ej=>un fun eF aj=>oZ C a b' iA ej eF aj (fun y=>some (.inl y)) (fun r=>some (.inr r))
noncomputable def Tk (C:af):cw:=fun β n ds k=>
 bif Nat.beq n 639 then lq Iw [[1,2,0,4,5,6,0]] (@xk C) ds k else
 bif Nat.beq n 911 then lq Ix [[1,2,3,4,5,6,0,0,0]] (@xl C) ds k else
 bif Nat.beq n 1215 then lq Iy [[1,2,3,4,5,6,7,0,0],[1,2,3,4,5,6,7,0]] (@lL C) ds k else
 bif Nat.beq n 33 then bS Iz [true,true,true,true,true,true] [[0]] (@oZ C) ds k else
 none
abbrev Fe (C:af) (b:cp):Prop:=cq Tryz.prog ay C (Tk C) 95 (cH Tryz.prog (ay.aX 95)) (ay.sin 95).aY.length b
theorem afI (C:af):Fe C (.cond 39 (ax [1,1,0,0,0,1,1,1,0,1,0] kP) (ax [1,1,0,0,0,1,1,1,0,1,1] kP)):=
 mq Iw [[1,2,0,4,5,6,0]] (@xk C) (by kernel_rfl) (bn (bs:=[]) (by kernel_rfl) az) (bn (bs:=[]) (by kernel_rfl) az) (fun ds=>by kernel_rfl) (fun i β k=>by kernel_rfl) (fun β ds k=>by kernel_rfl)
theorem afJ (C:af):Fe C (.cond 56 (ax [1,1,0,0,0,1,1,1,1,1,0,1,0] kP) (ax [1,1,0,0,0,1,1,1,1,1,0,1,1] kP)):=
 mq Ix [[1,2,3,4,5,6,0,0,0]] (@xl C) (by kernel_rfl) (bn (bs:=[]) (by kernel_rfl) az) (bn (bs:=[]) (by kernel_rfl) az) (fun ds=>by kernel_rfl) (fun i β k=>by kernel_rfl) (fun β ds k=>by kernel_rfl)
theorem afK (C:af):Fe C (.cond 75 (ax [1,1,0,0,0,1,1,1,1,1,1,0,1,0] kP) (ax [1,1,0,0,0,1,1,1,1,1,1,0,1,1] kP)):=
 mq Iy [[1,2,3,4,5,6,7,0,0],[1,2,3,4,5,6,7,0]] (@lL C) (by kernel_rfl) (bn (bs:=[]) (by kernel_rfl) az) (bn (bs:=[]) (by kernel_rfl) az) (fun ds=>by kernel_rfl) (fun i β k=>by kernel_rfl) (fun β ds k=>by kernel_rfl)
theorem afL (C:af):Fe C (.loop (ax [1,1,0,0] kP)):=
 bX Iz [true,true,true,true,true,true] [[0]] (@oZ C) (by kernel_rfl) (bn (bs:=[.cond 39 (ax [1,1,0,0,0,1,1,1,0,1,0] kP) (ax [1,1,0,0,0,1,1,1,0,1,1] kP),.cond 56 (ax [1,1,0,0,0,1,1,1,1,1,0,1,0] kP) (ax [1,1,0,0,0,1,1,1,1,1,0,1,1] kP),.cond 75 (ax [1,1,0,0,0,1,1,1,1,1,1,0,1,0] kP) (ax [1,1,0,0,0,1,1,1,1,1,1,0,1,1] kP)]) (by kernel_rfl) (bD (afI C) (bD (afJ C) (bD (afK C) az)))) (fun ds=>by kernel_rfl) (fun i x=>by kernel_rfl) (fun i x β k=>by kernel_rfl) (fun β ds k=>by kernel_rfl)
noncomputable def Tl (C:af) (a b' iA:Int) (aj:List V):Option (List V):=
 (Loop (Tj C) (a,b',iA,true,true,aj)).bind (fun (afM:List V)=>
  some [.list aa afM])
theorem afN {a b' iA:Int} {aj:List V} {r:Option (List V)} (h:Tl CC a b' iA aj=r):CC fT [.int .i64 a,.int .i64 b',.int .i64 iA,.list aa aj]=r:=
 bd (key:=95) (L:=Tk CC) (bs:=[.loop (ax [1,1,0,0] kP)]) (by kernel_rfl) (bD (afL CC) az) (ba (by kernel_rfl) h)
noncomputable def Tm (C:af) (xs:List V):Option (List V):=
 (C zm [.int .u64 (IntKind.wrap .u64 (xs.length:Int))]).bind fun r1=>
 (C fT [.int .i64 0,.int .i64 (xs.length:Int),.int .i64 ((V.nth r1 0).toInt),.list aa xs]).bind fun r2=>
 some [.list aa ((V.nth r2 0).toList)]
theorem afO {xs:List V} {r:Option (List V)} (h:Tm CC xs=r):CC zl [.list aa xs]=r:=
 bd (key:=59) (L:=cr) (bs:=[]) (by kernel_rfl) az (ba (by kernel_rfl) h)
end Go.AM
set_option maxRecDepth 100000
set_option maxHeartbeats 4000000
namespace Go.AM.SX
open Go.Proofs Go.Sort
theorem afP (a b:XE):bU a b<0↔a.lt b:=Iff.rfl
theorem Tn (a b:XE):(aB a b=true)=(a.lt b):=by rw[rO];rfl
theorem Ff (a b:XE):(aB a b=false)= ¬(a.lt b):=by rw[←Tn];simp
theorem xn:SWO aB where
 irrefl x:=by rw[Ff];exact XE.lt_irrefl x
 trans x y z:=by simp only[Tn];exact XE.lt_trans
 ntrans x y z:=by simp only[Ff];exact XE.aey
def Fg:List UInt8:=([0,1,2,2,3,3,3,3,4,4,4,4,4,4,4,4,5,5,5,5,5,5,5,5,5,5,5,5,5,5,5,5,6,6,6,6,6,6,6,6,6,6,6,6,6,6,6,6,6,6,6,6,6,6,6,6,6,6,6,6,6,6,6,6,7,7,7,7,7,7,7,7,7,7,7,7,7,7,7,7,7,7,7,7,7,7,7,7,7,7,7,7,7,7,7,7,7,7,7,7,7,7,7,7,7,7,7,7,7,7,7,7,7,7,7,7,7,7,7,7,7,7,7,7,7,7,7,7,8,8,8,8,8,8,8,8,8,8,8,8,8,8,8,8,8,8,8,8,8,8,8,8,8,8,8,8,8,8,8,8,8,8,8,8,8,8,8,8,8,8,8,8,8,8,8,8,8,8,8,8,8,8,8,8,8,8,8,8,8,8,8,8,8,8,8,8,8,8,8,8,8,8,8,8,8,8,8,8,8,8,8,8,8,8,8,8,8,8,8,8,8,8,8,8,8,8,8,8,8,8,8,8,8,8,8,8,8,8,8,8,8,8,8,8,8,8,8,8,8,8,8,8,8,8,8,8]:List UInt8)
theorem afQ:(List.range 256).all (fun y=>match Fg[y]? with|some b=>decide (b.toNat≤8)&&(Nat.beq y 0||(decide (1≤b.toNat)&&decide (2^(b.toNat-1)≤y)))|none=>false)=true:=by decide+kernel
theorem To {y:Nat} (h:y<256): ∃b,Fg[y]? =some b∧b.toNat≤8∧(0<y→1≤b.toNat∧2^(b.toNat-1)≤y):=by
 have:=eS.1 afQ y (xz.2 h)
 cases hb:Fg[y]? with
 | none=>rw[hb] at this;cases this
 | some b=>
  rw[hb] at this
  simp only[aM,xD,dw] at this
  refine ⟨b,rfl,this.1,fun hy=> ?_⟩
  rcases this.2 with U|U
  ·have:=xu U;omega
  ·exact U
theorem KH {y t k:Nat} (h:2^(t-1)≤y/2^k) (ht:1≤t):2^(t+k-1)≤y:=by
 have e:t+k-1=(t-1)+k:=by omega
 rw[e,Nat.pow_add]
 exact kR (dx _ h) (Nat.div_mul_le_self _ _)
noncomputable def xo (y n:Int):Option (List V):=
(bif decide ((y:Int)≥256) then
    (bif decide (0≤(IntKind.wrap .u8 (Int.fdiv y (2^(min (8:Int).toNat (IntKind.bits .u64)))))) then (([0,1,2,2,3,3,3,3,4,4,4,4,4,4,4,4,5,5,5,5,5,5,5,5,5,5,5,5,5,5,5,5,6,6,6,6,6,6,6,6,6,6,6,6,6,6,6,6,6,6,6,6,6,6,6,6,6,6,6,6,6,6,6,6,7,7,7,7,7,7,7,7,7,7,7,7,7,7,7,7,7,7,7,7,7,7,7,7,7,7,7,7,7,7,7,7,7,7,7,7,7,7,7,7,7,7,7,7,7,7,7,7,7,7,7,7,7,7,7,7,7,7,7,7,7,7,7,7,8,8,8,8,8,8,8,8,8,8,8,8,8,8,8,8,8,8,8,8,8,8,8,8,8,8,8,8,8,8,8,8,8,8,8,8,8,8,8,8,8,8,8,8,8,8,8,8,8,8,8,8,8,8,8,8,8,8,8,8,8,8,8,8,8,8,8,8,8,8,8,8,8,8,8,8,8,8,8,8,8,8,8,8,8,8,8,8,8,8,8,8,8,8,8,8,8,8,8,8,8,8,8,8,8,8,8,8,8,8,8,8,8,8,8,8,8,8,8,8,8,8,8,8,8,8,8,8]:List UInt8)[(IntKind.wrap .u8 (Int.fdiv y (2^(min (8:Int).toNat (IntKind.bits .u64)))):Int).toNat]?).map fun b=>V.int .u8 b.toNat else none).bind fun x5=>
    some [V.int .i64 (IntKind.wrap .i64 ((IntKind.wrap .i64 (n+8))+(IntKind.wrap .i64 x5.toInt)))]
   else
    (bif decide (0≤(IntKind.wrap .u8 y)) then (([0,1,2,2,3,3,3,3,4,4,4,4,4,4,4,4,5,5,5,5,5,5,5,5,5,5,5,5,5,5,5,5,6,6,6,6,6,6,6,6,6,6,6,6,6,6,6,6,6,6,6,6,6,6,6,6,6,6,6,6,6,6,6,6,7,7,7,7,7,7,7,7,7,7,7,7,7,7,7,7,7,7,7,7,7,7,7,7,7,7,7,7,7,7,7,7,7,7,7,7,7,7,7,7,7,7,7,7,7,7,7,7,7,7,7,7,7,7,7,7,7,7,7,7,7,7,7,7,8,8,8,8,8,8,8,8,8,8,8,8,8,8,8,8,8,8,8,8,8,8,8,8,8,8,8,8,8,8,8,8,8,8,8,8,8,8,8,8,8,8,8,8,8,8,8,8,8,8,8,8,8,8,8,8,8,8,8,8,8,8,8,8,8,8,8,8,8,8,8,8,8,8,8,8,8,8,8,8,8,8,8,8,8,8,8,8,8,8,8,8,8,8,8,8,8,8,8,8,8,8,8,8,8,8,8,8,8,8,8,8,8,8,8,8,8,8,8,8,8,8,8,8,8,8,8,8]:List UInt8)[(IntKind.wrap .u8 y:Int).toNat]?).map fun b=>V.int .u8 b.toNat else none).bind fun x6=>
    some [V.int .i64 (IntKind.wrap .i64 (n+(IntKind.wrap .i64 x6.toInt)))])
theorem afR {x:Nat} (h:x<2^64): ∃L:Nat,CC DY [.int .u64 (x:Int)]=some [.int .i64 (L:Int)]∧L≤64∧(0<x→1≤L∧2^(L-1)≤x):=by
 have last: ∀y n:Nat,y<65536→n≤48→∃t:Nat,
   xo (y:Int) (n:Int)=some [V.int .i64 ((n+t:Nat):Int)]∧t≤16∧(0<y→1≤t∧2^(t-1)≤y):=by
  intro y n hy hn
  unfold xo
  rw[show ([0,1,2,2,3,3,3,3,4,4,4,4,4,4,4,4,5,5,5,5,5,5,5,5,5,5,5,5,5,5,5,5,6,6,6,6,6,6,6,6,6,6,6,6,6,6,6,6,6,6,6,6,6,6,6,6,6,6,6,6,6,6,6,6,7,7,7,7,7,7,7,7,7,7,7,7,7,7,7,7,7,7,7,7,7,7,7,7,7,7,7,7,7,7,7,7,7,7,7,7,7,7,7,7,7,7,7,7,7,7,7,7,7,7,7,7,7,7,7,7,7,7,7,7,7,7,7,7,8,8,8,8,8,8,8,8,8,8,8,8,8,8,8,8,8,8,8,8,8,8,8,8,8,8,8,8,8,8,8,8,8,8,8,8,8,8,8,8,8,8,8,8,8,8,8,8,8,8,8,8,8,8,8,8,8,8,8,8,8,8,8,8,8,8,8,8,8,8,8,8,8,8,8,8,8,8,8,8,8,8,8,8,8,8,8,8,8,8,8,8,8,8,8,8,8,8,8,8,8,8,8,8,8,8,8,8,8,8,8,8,8,8,8,8,8,8,8,8,8,8,8,8,8,8,8,8]:List UInt8)=Fg from rfl]
  by_cases h1:y≥256
  ·have e:Int.fdiv (y:Int) (2^(min (8:Int).toNat (IntKind.bits .u64)))=((y/2^8:Nat):Int):=wg (m:=8) (by omega)
   obtain ⟨b,hb,b1,b2⟩:=To (y:=y/2^8) (by omega)
   refine ⟨b.toNat+8,?_,by omega,fun _=> ?_⟩
   ·rw[e,av,ag (by omega),HI (by omega) (by omega),av,ag (by omega),Int.toNat_natCast,hb]
    simp only[Option.map_some,Option.bind_some,V.toInt_int]
    simp (disch:=omega) only[wrap64]
    congr 3
    omega
   ·obtain ⟨b3,b4⟩:=b2 (by omega)
    exact ⟨by omega,KH b4 b3⟩
  ·obtain ⟨b,hb,b1,b2⟩:=To (y:=y) (by omega)
   refine ⟨b.toNat,?_,by omega,b2⟩
   rw[av,ai (by omega),HI (by omega) (by omega),av,ag (by omega),Int.toNat_natCast,hb]
   simp (disch:=omega) only[Option.map_some,Option.bind_some,V.toInt_int,wrap64]
   congr 3
 have mid: ∀y n:Nat,y<4294967296→n≤32→∃t:Nat,∀F:Int→Int→Option (List V),
   (∀y n:Nat,y<65536→n≤48→∃t:Nat,F (y:Int) (n:Int)=some [V.int .i64 ((n+t:Nat):Int)]∧t≤16∧(0<y→1≤t∧2^(t-1)≤y))→
   ∃t:Nat,uq CC (y:Int) (n:Int) (decide (((y:Int):Int)≥65536)) (un F)=some [V.int .i64 ((n+t:Nat):Int)]∧t≤32∧(0<y→1≤t∧2^(t-1)≤y):=by
  intro y n hy hn
  refine ⟨0,fun F hF=> ?_⟩
  unfold uq
  by_cases h1:y≥65536
  ·have e:Int.fdiv (y:Int) (2^(min (16:Int).toNat (IntKind.bits .u64)))=((y/2^16:Nat):Int):=wg (m:=16) (by omega)
   rw[av,ag (by omega),e,wrap64 (by omega) (by omega)]
   obtain ⟨t,U,h3,h4⟩:=hF (y/2^16) (n+16) (by omega) (by omega)
   refine ⟨t+16,?_,by omega,fun _=> ?_⟩
   ·rw[show ((n:Int)+16)=((n+16:Nat):Int) by omega]
    simp only[un]
    rw[U]
    congr 3
    omega
   ·obtain ⟨b3,b4⟩:=h4 (by omega)
    exact ⟨by omega,KH b4 b3⟩
  ·rw[av,ai (by omega)]
   obtain ⟨t,U,h3,h4⟩:=hF y n (by omega) (by omega)
   exact ⟨t,U,by omega,h4⟩
 by_cases h1:x≥4294967296
 ·have e:Int.fdiv (x:Int) (2^(min (32:Int).toNat (IntKind.bits .u64)))=((x/2^32:Nat):Int):=wg (m:=32) (by omega)
  obtain ⟨_,hm⟩:=mid (x/2^32) 32 (by omega) (by omega)
  obtain ⟨t,U,h3,h4⟩:=hm xo last
  refine ⟨32+t,Tg ?_,by omega,fun _=> ?_⟩
  ·show uo CC (x:Int) 0 (decide (((x:Int):Int)≥4294967296)) (un fun (rS:Int) (Bq:Int)=>uq CC rS Bq (decide ((rS:Int)≥65536)) (un xo))=_
   unfold uo
   rw[av,ag (by omega),e]
   exact U
  ·obtain ⟨b3,b4⟩:=h4 (by omega)
   rw[Nat.add_comm 32 t]
   exact ⟨by omega,KH b4 b3⟩
 ·obtain ⟨_,hm⟩:=mid x 0 (by omega) (by omega)
  obtain ⟨t,U,h3,h4⟩:=hm xo last
  refine ⟨t,Tg ?_,by omega,h4⟩
  show uo CC (x:Int) 0 (decide (((x:Int):Int)≥4294967296)) (un fun (rS:Int) (Bq:Int)=>uq CC rS Bq (decide ((rS:Int)≥65536)) (un xo))=_
  unfold uo
  rw[av,ai (by omega)]
  rw[ia] at U
  exact U
theorem Tp {x:Nat} (h:x<2^64): ∃L:Nat,CC zm [.int .u64 (x:Int)]=some [.int .i64 (L:Int)]∧L≤64∧(0<x→1≤L∧2^(L-1)≤x):=by
 obtain ⟨L,h1,U⟩:=afR h
 refine ⟨L,afC ?_,U⟩
 unfold Tc
 rw[h1]
 rfl
theorem afS {x:Nat} (h0:0<x) (h:x<1152921504606846976): ∃M:Nat,CC D5 [.int .i64 (x:Int)]=some [.int .u64 (M:Int)]∧1≤M∧M≤2*x:=by
 obtain ⟨L,h1,U,h3⟩:=Tp (x:=x) (by omega)
 obtain ⟨h4,h5⟩:=h3 h0
 have e:2^L=2*2^(L-1):=by
  obtain ⟨k,rfl⟩: ∃k,L=k+1:=⟨L-1,by omega⟩
  rw[Nat.pow_succ];simp only[uE];omega
 have hL:L<64:=by
  by_cases hx:L<64
  ·exact hx
  ·have:2^63≤2^(L-1):=Nat.pow_le_pow_right (by omega) (by omega)
   omega
 refine ⟨2^L,afB ?_,sa (by simp),by omega⟩
 unfold Tb
 rw[rr (A:=x) (by omega),h1]
 simp only[Option.bind_some,V.aI,V.toInt_int]
 rw[av,ag (by omega),Int.toNat_natCast,Jv hL]
theorem afT (r:Int): ∃R:Nat,CC D6 [.int .u64 r]=some [.int .u64 (R:Int),.int .u64 (R:Int)]∧R<2^64:=by
 have h: ∀n:Int,∃R:Nat,IntKind.wrap .u64 n=(R:Int)∧R<2^64:=fun n=>⟨(IntKind.wrap .u64 n).toNat,by rw[wrap_u64];omega,by rw[wrap_u64];omega⟩
 obtain ⟨R,h1,U⟩:=h _
 exact ⟨R,afA (by unfold Ta;rw[h1]),U⟩
theorem Fh {d:Array XE} {i:Nat} (h:i<d.size):idx (eA d) (i:Int)=some (d[i]!).enc:=by rw[mn,fx h]
theorem KI {d:Array XE} {a b:Nat} {s:Int} (ha:a<d.size) (hb:b<d.size): ∃(x y:Nat) (s':Int),CC vZ [.list aa (eA d),.int .i64 (a:Int),.int .i64 (b:Int),.int .i64 s]=some [.int .i64 (x:Int),.int .i64 (y:Int),.int .i64 s']∧(x=a∧y=b∨x=b∧y=a):=by
 by_cases h:bU d[b]! d[a]! <0
 ·refine ⟨b,a,_,S5 (by unfold KE;rw[Fh hb,Fh ha];simp only[Option.bind_some,XE.bI,XE.bJ,XE.bK,fW,V.aI,V.toInt_int];rw[av,ag h]),.inr ⟨rfl,rfl⟩⟩
 ·refine ⟨a,b,_,S5 (by unfold KE;rw[Fh hb,Fh ha];simp only[Option.bind_some,XE.bI,XE.bJ,XE.bK,fW,V.aI,V.toInt_int];rw[av,ai h]),.inl ⟨rfl,rfl⟩⟩
theorem KJ {d:Array XE} {a b c:Nat} {s:Int} (ha:a<d.size) (hb:b<d.size) (hc:c<d.size): ∃(m:Nat) (s':Int),CC zx [.list aa (eA d),.int .i64 (a:Int),.int .i64 (b:Int),.int .i64 (c:Int),.int .i64 s]=some [.int .i64 (m:Int),.int .i64 s']∧(m=a∨m=b∨m=c):=by
 obtain ⟨x1,y1,s1,e1,o1⟩:=KI (s:=s) ha hb
 obtain ⟨x2,y2,s2,e2,o2⟩:=KI (d:=d) (a:=y1) (b:=c) (s:=s1) (by omega) hc
 obtain ⟨x3,y3,s3,e3,o3⟩:=KI (d:=d) (a:=x1) (b:=x2) (s:=s2) (by omega) (by omega)
 refine ⟨y3,s3,afv ?_,by omega⟩
 unfold S4
 rw[e1]
 simp only[Option.bind_some,V.aI,V.pY,V.toInt_int,dG,dh]
 rw[e2]
 simp only[Option.bind_some,V.aI,V.pY,V.toInt_int,dG,dh]
 rw[e3]
 rfl
theorem KK {d:Array XE} {a:Nat} {s:Int} (h1:1≤a) (ha:a+1<d.size) (hs:d.size<1152921504606846976): ∃(m:Nat) (s':Int),CC vY [.list aa (eA d),.int .i64 (a:Int),.int .i64 s]=some [.int .i64 (m:Int),.int .i64 s']∧a≤m+1∧m≤a+1:=by
 obtain ⟨m,s',e,o⟩:=KJ (d:=d) (a:=a-1) (b:=a) (c:=a+1) (s:=s) (by omega) (by omega) (by omega)
 refine ⟨m,s',afw ?_,by omega,by omega⟩
 unfold S6
 simp (disch:=omega) only[jC,dt,wrap64]
 rw[e]
 rfl
theorem KL (n:Nat):Int.tdiv (n:Int) 4=((n/4:Nat):Int):=by
 have:=divC n 4
 exact this
theorem mulC (k n:Nat):((k:Nat):Int)*(n:Int)=((k*n:Nat):Int):=(Int.natCast_mul k n).symm
theorem afU {d:Array XE} {a b:Nat} (fl:a+12<b) (hb:b≤d.size) (hs:d.size<1152921504606846976): ∃(p:Nat) (h:Int),CC zu [.list aa (eA d),.int .i64 (a:Int),.int .i64 (b:Int)]=some [.int .i64 (p:Int),.int .i64 h]∧a≤p∧p<b:=by
 have fin: ∀(p:Nat) (s:Int),∃h:Int,(bif (s:Int)==0 then some [V.int .i64 (p:Int),V.int .i64 1] else bif (s:Int)==12 then some [V.int .i64 (p:Int),V.int .i64 2] else some [V.int .i64 (p:Int),V.int .i64 0])=some [V.int .i64 (p:Int),V.int .i64 h]:=by
  intro p s
  rw[dy]
  split
  ·exact ⟨1,rfl⟩
  ·rw[dy]
   split
   ·exact ⟨2,rfl⟩
   ·exact ⟨0,rfl⟩
 have e1:IntKind.wrap .i64 ((b:Int)-(a:Int))=((b-a:Nat):Int):=by rw[lI (by omega),wrap64 (by omega) (by omega)]
 have e2:IntKind.wrap .i64 (Int.tdiv ((b-a:Nat):Int) 4)=(((b-a)/4:Nat):Int):=by rw[KL,wrap64 (by omega) (by omega)]
 have e3: ∀k:Nat,k≤3→IntKind.wrap .i64 ((a:Int)+IntKind.wrap .i64 ((k:Int)*(((b-a)/4:Nat):Int)))=((a+k*((b-a)/4):Nat):Int):=by
  intro k hk
  have oo:k*((b-a)/4)≤3*((b-a)/4):=dx _ hk
  simp (disch:=omega) only[mulC,wrap64,fy]
 have KM:=e3 1 (by omega)
 have rT:=e3 2 (by omega)
 have KN:=e3 3 (by omega)
 rw[show ((1:Nat):Int)=1 from rfl] at KM
 rw[show ((2:Nat):Int)=2 from rfl] at rT
 rw[show ((3:Nat):Int)=3 from rfl] at KN
 by_cases h50:b-a≥50
 ·obtain ⟨m1,s1,q1,r1⟩:=KK (d:=d) (a:=a+1*((b-a)/4)) (s:=0) (by omega) (by omega) hs
  obtain ⟨m2,s2,q2,r2⟩:=KK (d:=d) (a:=a+2*((b-a)/4)) (s:=s1) (by omega) (by omega) hs
  obtain ⟨m3,s3,q3,r3⟩:=KK (d:=d) (a:=a+3*((b-a)/4)) (s:=s2) (by omega) (by omega) hs
  obtain ⟨m,s,q,r⟩:=KJ (d:=d) (a:=m1) (b:=m2) (c:=m3) (s:=s3) (by omega) (by omega) (by omega)
  obtain ⟨h,hf⟩:=fin m s
  refine ⟨m,h,S3 ?_,by omega,by omega⟩
  unfold KC Bn Bm
  rw[e1,e2,KM,rT,KN,mE (by omega),cond_true,mE (by omega),cond_true,q1]
  simp only[Option.bind_some,V.aI,V.pY,V.toInt_int,dG,dh]
  rw[q2]
  simp only[Option.bind_some,V.aI,V.pY,V.toInt_int,dG,dh]
  rw[q3]
  simp only[Option.bind_some,V.aI,V.pY,V.toInt_int,dG,dh,un]
  rw[q]
  exact hf
 ·obtain ⟨m,s,q,r⟩:=KJ (d:=d) (a:=a+1*((b-a)/4)) (b:=a+2*((b-a)/4)) (c:=a+3*((b-a)/4)) (s:=0) (by omega) (by omega) (by omega)
  obtain ⟨h,hf⟩:=fin m s
  refine ⟨m,h,S3 ?_,by omega,by omega⟩
  unfold KC Bn Bm
  rw[e1,e2,KM,rT,KN,mE (by omega),cond_true,rM (by omega),cond_false]
  simp only[un]
  rw[q]
  exact hf
theorem afV {a b M:Nat} (hM1:1≤M) (hM:M≤2*(b-a)) (h8:8≤b-a) (hB:b<1152921504606846976): ∀(n i:Nat) (d:Array XE) (r:Int),a+2*((b-a)/4)+2-i=n→a≤i→b≤d.size→d.size<1152921504606846976→
  ∃x y z R,Loop (Fc CC a (b-a:Nat) M) ((i:Int),eA d,r)=some (x,y,eA R,z)∧PermIn a b d R:=by
 have e2:IntKind.wrap .i64 (Int.tdiv ((b-a:Nat):Int) 4)=(((b-a)/4:Nat):Int):=by rw[KL,wrap64 (by omega) (by omega)]
 have rT:IntKind.wrap .i64 ((a:Int)+IntKind.wrap .i64 (2*(((b-a)/4:Nat):Int)))=((a+2*((b-a)/4):Nat):Int):=by
  have:=mulC 2 ((b-a)/4)
  rw[show ((2:Nat):Int)=2 from rfl] at this
  rw[this]
  simp (disch:=omega) only[wrap64,fy]
 intro n
 induction n with
 | zero=>
  intro i d r hn hi hb hs
  refine ⟨(i:Int),false,r,d,bq ?_,permIn_refl _ _ _⟩
  simp only[Fc,Bp,un]
  rw[e2,rT,dt,wrap64 (by omega) (by omega),rM (by omega),cond_false]
 | succ n ih=>
  intro i d r hn hi hb hs
  obtain ⟨R1,q1,q2⟩:=afT r
  obtain ⟨o,ho,l8⟩: ∃o:Nat,(o=if R1&&&(M-1)≥b-a then (R1&&&(M-1))-(b-a) else R1&&&(M-1))∧o<b-a:=by
   refine ⟨_,rfl,?_⟩
   have:R1&&&(M-1)≤M-1:=Nat.and_le_right
   split<;>omega
  have hand:R1&&&(M-1)≤M-1:=Nat.and_le_right
  have hP:=swp_permIn (α:=XE) d a b i (a+o) hi (by omega) (by omega) (by omega) hb
  obtain ⟨x,y,z,R,e,hR⟩:=ih (i+1) (swp d i (a+o)) (R1:Int) (by omega) (by omega) (by rw[size_swp];exact hb) (by rw[size_swp];exact hs)
  refine ⟨x,y,z,R,(ct ?_).trans e,permIn_trans _ _ _ a b hP hR⟩
  simp only[Fc,Bp,un]
  rw[e2,rT,dt,wrap64 (x:=((a+2*((b-a)/4)+1:Nat):Int)) (by omega) (by omega),mE (by omega),cond_true,q1]
  simp only[Option.bind_some,V.aI,V.pY,V.toInt_int,dG,dh]
  have e5:IntKind.wrap .u64 ((M:Int)-1)=((M-1:Nat):Int):=by rw[jC hM1,rr (by omega)]
  rw[e5,u64_and q2 (by omega),wrap64 (x:=((R1&&&(M-1):Nat):Int)) (by omega) (by omega)]
  have fin: ∀k:Int,k=(o:Int)→(bif (decide (0≤(IntKind.wrap .i64 ((a:Int)+k))))&&(decide ((IntKind.wrap .i64 ((a:Int)+k))<((eA d).length:Int))) then
   ((eA d)[(IntKind.wrap .i64 ((a:Int)+k):Int).toNat]?).bind fun x4=>
   bif (decide (0≤(i:Int)))&&(decide ((i:Int)<((eA d).length:Int))) then
    ((eA d)[((i:Int):Int).toNat]?).bind fun x5=>
    bif (decide (0≤(i:Int)))&&(decide ((i:Int)<((eA d).length:Int))) then
    ((eA d)[((i:Int):Int).toNat]?).bind fun x6=>
    bif (decide (0≤(IntKind.wrap .i64 ((a:Int)+k))))&&(decide ((IntKind.wrap .i64 ((a:Int)+k))<(((eA d).set (((i:Int):Int).toNat) (.agg [.int .i64 ((x4.cell 0).toInt),.int .i64 ((x4.cell 1).toInt),.list aa ((x4.cell 2).toList)])).length:Int))) then
     (((eA d).set (((i:Int):Int).toNat) (.agg [.int .i64 ((x4.cell 0).toInt),.int .i64 ((x4.cell 1).toInt),.list aa ((x4.cell 2).toList)]))[(IntKind.wrap .i64 ((a:Int)+k):Int).toNat]?).bind fun x7=>
     some (.inl (IntKind.wrap .i64 ((i:Int)+1),((eA d).set (((i:Int):Int).toNat) (.agg [.int .i64 ((x4.cell 0).toInt),.int .i64 ((x4.cell 1).toInt),.list aa ((x4.cell 2).toList)])).set ((IntKind.wrap .i64 ((a:Int)+k):Int).toNat) (.agg [.int .i64 ((x5.cell 0).toInt),.int .i64 ((x5.cell 1).toInt),.list aa ((x5.cell 2).toList)]),(R1:Int)))
    else none
    else none
   else none
   else none:Option ((Int × List V × Int) ⊕ (Int × Bool × List V × Int)))=some (.inl (((i+1:Nat):Int),eA (swp d i (a+o)),(R1:Int))):=by
   intro k hk
   subst hk
   simp (disch:=omega) only[av,ca,fH,ag,ai,wrap64,dt,fy,Int.toNat_natCast,Option.bind_some,fv,fx,XE.bI,XE.bJ,XE.bK,XE.re,fw,gK,fY,fW,V.aI,V.toInt_int,cond_true,cond_false]
   rfl
  unfold Fb
  by_cases h:R1&&&(M-1)≥b-a
  ·rw[ag h] at ho
   rw[mE (by omega),cond_true]
   exact fin _ (by rw[lI (by omega),wrap64 (by omega) (by omega)];omega)
  ·rw[ai h] at ho
   rw[rM (by omega),cond_false]
   exact fin _ (by omega)
theorem afW {a b:Nat} {d:Array XE} (fl:a+12<b) (hb:b≤d.size) (hs:d.size<1152921504606846976): ∃R,CC D2 [.int .i64 (a:Int),.int .i64 (b:Int),.list aa (eA d)]=some [.list aa (eA R)]∧PermIn a b d R:=by
 obtain ⟨M,q1,q2,q3⟩:=afS (x:=b-a) (by omega) (by omega)
 have e1:IntKind.wrap .i64 ((b:Int)-(a:Int))=((b-a:Nat):Int):=by rw[lI (by omega),wrap64 (by omega) (by omega)]
 have e2:IntKind.wrap .i64 (Int.tdiv ((b-a:Nat):Int) 4)=(((b-a)/4:Nat):Int):=by rw[KL,wrap64 (by omega) (by omega)]
 have rT:IntKind.wrap .i64 ((a:Int)+IntKind.wrap .i64 (2*(((b-a)/4:Nat):Int)))=((a+2*((b-a)/4):Nat):Int):=by
  have:=mulC 2 ((b-a)/4)
  rw[show ((2:Nat):Int)=2 from rfl] at this
  rw[this]
  simp (disch:=omega) only[wrap64,fy]
 obtain ⟨x,y,z,R,e,hR⟩:=afV (a:=a) (b:=b) (M:=M) q2 q3 (by omega) (by omega) _ (a+2*((b-a)/4)-1) d (IntKind.wrap .u64 ((b-a:Nat):Int)) rfl (by omega) hb hs
 refine ⟨R,afz ?_,hR⟩
 unfold S9
 rw[e1,av,ag (by omega),q1]
 simp only[Option.bind_some,V.aI,V.toInt_int]
 rw[e2,rT,jC (by omega),wrap64 (x:=((a+2*((b-a)/4)-1:Nat):Int)) (by omega) (by omega),e]
 rfl
noncomputable def rU (C:af) (a b':Int) (ej eF:Bool) (cz dv:Int) (lJ:List V) {β:Type} (kn:(Int × Int × Int × Bool × Bool × (List V))→Option β):Option β:=
      bif decide ((a:Int)>0) then
       bif (decide (0≤(IntKind.wrap .i64 (a-1))))&&(decide ((IntKind.wrap .i64 (a-1))<(lJ.length:Int))) then
       (lJ[(IntKind.wrap .i64 (a-1):Int).toNat]?).bind fun gH=>
       bif (decide (0≤dv))&&(decide (dv<(lJ.length:Int))) then
        (lJ[(dv:Int).toNat]?).bind fun lD=>
        (C bc [.int .i64 ((gH.cell 0).toInt),.int .i64 ((gH.cell 1).toInt),.list aa ((gH.cell 2).toList),.int .i64 ((lD.cell 0).toInt),.int .i64 ((lD.cell 1).toInt),.list aa ((lD.cell 2).toList)]).bind fun E1=>
        bif !(decide ((((V.nth E1 0).toInt):Int)<0)) then
        (C tp [.int .i64 a,.int .i64 b',.int .i64 dv,.list aa lJ]).bind fun Tq=>
        kn ((V.nth Tq 0).toInt,b',cz,ej,eF,(V.nth (Tq.drop 1) 0).toList)
        else
        (C mr [.int .i64 a,.int .i64 b',.int .i64 dv,.list aa lJ]).bind fun eG=>
        bif decide (((IntKind.wrap .i64 (((V.nth eG 0).toInt)-a)):Int)<(IntKind.wrap .i64 (b'-((V.nth eG 0).toInt)))) then
         (C fT [.int .i64 a,.int .i64 ((V.nth eG 0).toInt),.int .i64 cz,.list aa ((V.nth (eG.drop 2) 0).toList)]).bind fun xm=>
         kn (IntKind.wrap .i64 (((V.nth eG 0).toInt)+1),b',cz,decide (((IntKind.wrap .i64 (((V.nth eG 0).toInt)-a)):Int)≥(IntKind.wrap .i64 (Int.tdiv (IntKind.wrap .i64 (b'-a)) 8))),(V.nth (eG.drop 1) 0).toBool,(V.nth xm 0).toList)
        else
         (C fT [.int .i64 (IntKind.wrap .i64 (((V.nth eG 0).toInt)+1)),.int .i64 b',.int .i64 cz,.list aa ((V.nth (eG.drop 2) 0).toList)]).bind fun jG=>
         kn (a,(V.nth eG 0).toInt,cz,decide (((IntKind.wrap .i64 (b'-((V.nth eG 0).toInt))):Int)≥(IntKind.wrap .i64 (Int.tdiv (IntKind.wrap .i64 (b'-a)) 8))),(V.nth (eG.drop 1) 0).toBool,(V.nth jG 0).toList)
       else none
       else none
      else
       (C mr [.int .i64 a,.int .i64 b',.int .i64 dv,.list aa lJ]).bind fun kQ=>
       bif decide (((IntKind.wrap .i64 (((V.nth kQ 0).toInt)-a)):Int)<(IntKind.wrap .i64 (b'-((V.nth kQ 0).toInt)))) then
       (C fT [.int .i64 a,.int .i64 ((V.nth kQ 0).toInt),.int .i64 cz,.list aa ((V.nth (kQ.drop 2) 0).toList)]).bind fun KG=>
       kn (IntKind.wrap .i64 (((V.nth kQ 0).toInt)+1),b',cz,decide (((IntKind.wrap .i64 (((V.nth kQ 0).toInt)-a)):Int)≥(IntKind.wrap .i64 (Int.tdiv (IntKind.wrap .i64 (b'-a)) 8))),(V.nth (kQ.drop 1) 0).toBool,(V.nth KG 0).toList)
       else
       (C fT [.int .i64 (IntKind.wrap .i64 (((V.nth kQ 0).toInt)+1)),.int .i64 b',.int .i64 cz,.list aa ((V.nth (kQ.drop 2) 0).toList)]).bind fun jD=>
       kn (a,(V.nth kQ 0).toInt,cz,decide (((IntKind.wrap .i64 (b'-((V.nth kQ 0).toInt))):Int)≥(IntKind.wrap .i64 (Int.tdiv (IntKind.wrap .i64 (b'-a)) 8))),(V.nth (kQ.drop 1) 0).toBool,(V.nth jD 0).toList)
theorem Fi (C:af) (a b' iA:Int) (ej eF:Bool) (aj:List V) {β:Type} (kn:(Int × Int × Int × Bool × Bool × (List V))→Option β) (kr:(List V)→Option β):
  oZ C a b' iA ej eF aj kn kr=
 bif decide (((IntKind.wrap .i64 (b'-a)):Int)≤12) then
  (C zr [.int .i64 a,.int .i64 b',.list aa aj]).bind fun r1=>
  kr ((V.nth r1 0).toList)
 else
  bif (iA:Int)==0 then
  (C zt [.int .i64 a,.int .i64 b',.list aa aj]).bind fun r2=>
  kr ((V.nth r2 0).toList)
  else
  xk C a b' iA ej eF (IntKind.wrap .i64 (b'-a)) (!ej) aj (un fun (cz:Int) (Bs:List V)=>
   (C zu [.list aa Bs,.int .i64 a,.int .i64 b']).bind fun r6=>
   xl C a b' cz ej eF (IntKind.wrap .i64 (b'-a)) ((V.nth r6 0).toInt) ((V.nth (r6.drop 1) 0).toInt) ((((V.nth (r6.drop 1) 0).toInt):Int)==2) Bs (un fun (dv:Int)=>un fun (KF:Int) (nD:List V)=>
    bif ej then
     bif eF then
     lL C a b' cz ej eF (IntKind.wrap .i64 (b'-a)) dv ((KF:Int)==1) nD (cY (un fun (Pn:Bool) (KO:List V)=>
      kr KO) (fun (lJ:List V)=>rU C a b' ej eF cz dv lJ kn))
     else
     lL C a b' cz ej eF (IntKind.wrap .i64 (b'-a)) dv false nD (cY (un fun (Pu:Bool) (afX:List V)=>
      kr afX) (fun (afY:List V)=>rU C a b' ej eF cz dv afY kn))
    else
     lL C a b' cz ej eF (IntKind.wrap .i64 (b'-a)) dv false nD (cY (un fun (Zo:Bool) (afZ:List V)=>
      kr afZ) (fun (af0:List V)=>rU C a b' ej eF cz dv af0 kn)))):=rfl
section
variable {a b:Nat} {lim:Int} {wb wp:Bool}
theorem af1 {d:Array XE} (fl:a+12<b) (hb:b≤d.size) (hs:d.size<1152921504606846976) (len:Int) (t:Bool): ∃(l1:Int) (d1:Array XE),PermIn a b d d1∧∀(β:Type) (kr:(Int × List V)→Option β),xk CC a b lim wb wp len t (eA d) kr=kr (l1,eA d1):=by
 cases t with
 | true=>
  obtain ⟨R,e,hR⟩:=afW fl hb hs
  refine ⟨IntKind.wrap .i64 (lim-1),R,hR,fun β kr=> ?_⟩
  unfold xk
  rw[cond_true,e]
  rfl
 | false=>exact ⟨lim,d,permIn_refl _ _ _,fun β kr=>rfl⟩
theorem af2 {d:Array XE} (fl:a+12<b) (hb:b≤d.size) (hs:d.size<1152921504606846976) (len h:Int) (t:Bool) {p:Nat} (h1:a≤p) (U:p<b): ∃(p2:Nat) (U:Int) (d1:Array XE),a≤p2∧p2<b∧PermIn a b d d1∧∀(β:Type) (kr:(Int × Int × List V)→Option β),xl CC a b lim wb wp len p h t (eA d) kr=kr ((p2:Int),U,eA d1):=by
 cases t with
 | true=>
  refine ⟨b-1-(p-a),1,reverseRange d a b,by omega,by omega,reverseRange_holds d a b (by omega) hb,fun β kr=> ?_⟩
  unfold xl
  rw[cond_true,aeT (by omega) hb hs]
  simp (disch:=omega) only[Option.bind_some,V.aI,V.bR,jC,lI,wrap64]
 | false=>exact ⟨p,h,d,h1,U,permIn_refl _ _ _,fun β kr=>rfl⟩
theorem af3 {d:Array XE} (fl:a+12<b) (hb:b≤d.size) (hs:d.size<1152921504606846976) (hB:Below aB a b d) (len p:Int) (t:Bool): ∃d1:Array XE,PermIn a b d d1∧
  ((∀(β:Type) (kr:((Bool × List V) ⊕ List V)→Option β),lL CC a b lim wb wp len p t (eA d) kr=kr (.inr (eA d1)))∨
  (SortedIn aB a b d1∧∀(β:Type) (kr:((Bool × List V) ⊕ List V)→Option β),lL CC a b lim wb wp len p t (eA d) kr=kr (.inl (true,eA d1)))):=by
 cases t with
 | true=>
  have hp:=partialInsertionSort_holds (lt:=aB) xn d a b (by omega) hb hB
  refine ⟨_,hp.1,?_⟩
  cases h:(partialInsertionSort aB d a b).2 with
  | true=>
   refine .inr ⟨hp.2 h,fun β kr=> ?_⟩
   unfold lL
   rw[cond_true,SW (by omega) hb hs,h]
   rfl
  | false=>
   refine .inl fun β kr=> ?_
   unfold lL
   rw[cond_true,SW (by omega) hb hs,h]
   rfl
 | false=>exact ⟨d,permIn_refl _ _ _,.inl fun β kr=>rfl⟩
end
def Fj (a b:Nat) (d:Array XE):Prop:= ∀(lim:Int) (wb wp:Bool),∃R,Loop (Tj CC) ((a:Int),(b:Int),lim,wb,wp,eA d)=some (eA R)∧PermIn a b d R∧SortedIn aB a b R
theorem Fj.call {a b:Nat} {d:Array XE} (h:Fj a b d) (lim:Int): ∃R,CC fT [.int .i64 (a:Int),.int .i64 (b:Int),.int .i64 lim,.list aa (eA d)]=some [.list aa (eA R)]∧PermIn a b d R∧SortedIn aB a b R:=by
 obtain ⟨R,e,h1,U⟩:=h lim true true
 refine ⟨R,afN ?_,h1,U⟩
 unfold Tl
 rw[e]
 rfl
theorem af4 {a b p:Nat} {d:Array XE} (fl:a+12<b) (hb:b≤d.size) (hs:d.size<1152921504606846976) (hB:Below aB a b d) (h1:a≤p) (U:p<b)
  (ih: ∀(a2 b2:Nat) (d2:Array XE),b2-a2<b-a→a2≤b2→b2≤d2.size→d2.size<1152921504606846976→Below aB a2 b2 d2→Fj a2 b2 d2) (wb wp:Bool) (lim:Int):
  ∃(a2 b2:Nat) (uu uv:Bool) (d2:Array XE),b2-a2<b-a∧a2≤b2∧b2≤d2.size∧d2.size<1152921504606846976∧Below aB a2 b2 d2∧
   (∀R,PermIn a2 b2 d2 R→SortedIn aB a2 b2 R→PermIn a b d R∧SortedIn aB a b R)∧
   ∀(β:Type) (kn:(Int × Int × Int × Bool × Bool × (List V))→Option β),rU CC a b wb wp lim p (eA d) kn=kn ((a2:Int),(b2:Int),lim,uu,uv,eA d2):=by
 have part: ∃(a2 b2:Nat) (uu uv:Bool) (d2:Array XE),b2-a2<b-a∧a2≤b2∧b2≤d2.size∧d2.size<1152921504606846976∧Below aB a2 b2 d2∧
   (∀R,PermIn a2 b2 d2 R→SortedIn aB a2 b2 R→PermIn a b d R∧SortedIn aB a b R)∧
   ∀(β:Type) (kn:(Int × Int × Int × Bool × Bool × (List V))→Option β),
    ((CC mr [.int .i64 (a:Int),.int .i64 (b:Int),.int .i64 (p:Int),.list aa (eA d)]).bind fun eG=>
        bif decide (((IntKind.wrap .i64 (((V.nth eG 0).toInt)-(a:Int))):Int)<(IntKind.wrap .i64 ((b:Int)-((V.nth eG 0).toInt)))) then
         (CC fT [.int .i64 (a:Int),.int .i64 ((V.nth eG 0).toInt),.int .i64 lim,.list aa ((V.nth (eG.drop 2) 0).toList)]).bind fun xm=>
         kn (IntKind.wrap .i64 (((V.nth eG 0).toInt)+1),(b:Int),lim,decide (((IntKind.wrap .i64 (((V.nth eG 0).toInt)-(a:Int))):Int)≥(IntKind.wrap .i64 (Int.tdiv (IntKind.wrap .i64 ((b:Int)-(a:Int))) 8))),(V.nth (eG.drop 1) 0).toBool,(V.nth xm 0).toList)
        else
         (CC fT [.int .i64 (IntKind.wrap .i64 (((V.nth eG 0).toInt)+1)),.int .i64 (b:Int),.int .i64 lim,.list aa ((V.nth (eG.drop 2) 0).toList)]).bind fun jG=>
         kn ((a:Int),(V.nth eG 0).toInt,lim,decide (((IntKind.wrap .i64 ((b:Int)-((V.nth eG 0).toInt))):Int)≥(IntKind.wrap .i64 (Int.tdiv (IntKind.wrap .i64 ((b:Int)-(a:Int))) 8))),(V.nth (eG.drop 1) 0).toBool,(V.nth jG 0).toList))=kn ((a2:Int),(b2:Int),lim,uu,uv,eA d2):=by
  obtain ⟨mid,ap,d4,hx⟩: ∃mid ap d4,partition aB d a b p=(mid,ap,d4):=⟨_,_,_,rfl⟩
  obtain ⟨g1,g2,nG,hBa,hBr,af5,af6⟩:=round_part xn (partition_holds aB) h1 U hb hB hx
  have hc:=afk (a:=a) (b:=b) (pivot:=p) (d:=d) U (by omega) hb hs
  rw[hx] at hc
  by_cases hl:mid-a<b-mid
  ·obtain ⟨L,e,l1,l2⟩:=(ih a mid d4 (by omega) g1 (by rw[nG];omega) (by rw[nG];exact hs) hBa).call lim
   obtain ⟨KP,Bt⟩:=af5 _ l1 l2
   refine ⟨mid+1,b,decide (((IntKind.wrap .i64 ((mid:Int)-(a:Int))):Int)≥(IntKind.wrap .i64 (Int.tdiv (IntKind.wrap .i64 ((b:Int)-(a:Int))) 8))),ap,L,by omega,by omega,by rw[l1.1,nG];exact hb,by rw[l1.1,nG];exact hs,KP,Bt,fun β kn=> ?_⟩
   ·rw[hc]
    simp only[Option.bind_some,V.aI,V.pY,V.toInt_int,V.cK,V.bR,dG,dh]
    rw[av,ag (by rw[lI g1,lI (by omega),wrap64 (by omega) (by omega),wrap64 (by omega) (by omega)];omega),e]
    simp only[Option.bind_some,V.aI,V.bR]
    rw[dt,wrap64 (x:=((mid+1:Nat):Int)) (by omega) (by omega)]
  ·obtain ⟨L,e,l1,l2⟩:=(ih (mid+1) b d4 (by omega) (by omega) (by rw[nG];exact hb) (by rw[nG];exact hs) hBr).call lim
   obtain ⟨KP,Bt⟩:=af6 _ l1 l2
   refine ⟨a,mid,decide (((IntKind.wrap .i64 ((b:Int)-(mid:Int))):Int)≥(IntKind.wrap .i64 (Int.tdiv (IntKind.wrap .i64 ((b:Int)-(a:Int))) 8))),ap,L,by omega,by omega,by rw[l1.1,nG];omega,by rw[l1.1,nG];exact hs,KP,Bt,fun β kn=> ?_⟩
   ·rw[hc]
    simp only[Option.bind_some,V.aI,V.pY,V.toInt_int,V.cK,V.bR,dG,dh]
    rw[av,ai (by rw[lI g1,lI (by omega),wrap64 (by omega) (by omega),wrap64 (by omega) (by omega)];omega),dt,wrap64 (x:=((mid+1:Nat):Int)) (by omega) (by omega),e]
    simp only[Option.bind_some,V.aI,V.bR]
 by_cases ha:0<a
 ·by_cases hc:bU d[a-1]! d[p]! <0
  ·obtain ⟨a2,b2,uu,uv,d2,q1,q2,q3,q4,q5,q6,q7⟩:=part
   refine ⟨a2,b2,uu,uv,d2,q1,q2,q3,q4,q5,q6,fun β kn=> ?_⟩
   rw[←q7 β kn]
   unfold rU
   rw[av,ag (by omega),jC ha,wrap64 (by omega) (by omega),jE (i:=a-1) (by omega),jF (by omega),jE (i:=p) (by omega),jF (by omega)]
   simp only[XE.bI,XE.bJ,XE.bK,fW,Option.bind_some,V.aI,V.toInt_int]
   rw[fH,av,ag hc]
  ·obtain ⟨mid,d4,hx⟩: ∃mid d4,partitionEqual aB d a b p=(mid,d4):=⟨_,_,rfl⟩
   obtain ⟨g1,F3,nG,hB4,Bt⟩:=round_eq xn (partitionEqual_holds aB) ha h1 U hb hB (by rw[Ff,←propext (afP _ _)];exact hc) hx
   have he:=afm (a:=a) (b:=b) (pivot:=p) (d:=d) U (by omega) hb hs
   rw[hx] at he
   refine ⟨mid,b,wb,wp,d4,by omega,F3,by rw[nG];exact hb,by rw[nG];exact hs,hB4,Bt,fun β kn=> ?_⟩
   unfold rU
   rw[av,ag (by omega),jC ha,wrap64 (by omega) (by omega),jE (i:=a-1) (by omega),jF (by omega),jE (i:=p) (by omega),jF (by omega)]
   simp only[XE.bI,XE.bJ,XE.bK,fW,Option.bind_some,V.aI,V.toInt_int]
   rw[fH,av,ai hc,he]
   rfl
 ·obtain ⟨a2,b2,uu,uv,d2,q1,q2,q3,q4,q5,q6,q7⟩:=part
  refine ⟨a2,b2,uu,uv,d2,q1,q2,q3,q4,q5,q6,fun β kn=> ?_⟩
  rw[←q7 β kn]
  unfold rU
  rw[av,ai (by omega)]
theorem af7: ∀(n a b:Nat) (d:Array XE),b-a≤n→a≤b→b≤d.size→d.size<1152921504606846976→Below aB a b d→Fj a b d:=by
 intro n
 induction n with
 | zero=>
  intro a b d hn fl hb hs hB lim wb wp
  have hi:=insertionSort_holds (lt:=aB) xn d a b fl hb
  refine ⟨_,bq ?_,hi⟩
  show oZ CC a b lim wb wp (eA d) (fun y=>some (Sum.inl y)) (fun r=>some (Sum.inr r))=_
  rw[Fi,av,ag (by rw[lI fl,wrap64 (by omega) (by omega)];omega),SD hb hs (by omega)]
  rfl
 | succ n ih=>
  intro a b d hn fl hb hs hB lim wb wp
  by_cases Rr:b-a≤12
  ·have hi:=insertionSort_holds (lt:=aB) xn d a b fl hb
   refine ⟨_,bq ?_,hi⟩
   show oZ CC a b lim wb wp (eA d) (fun y=>some (Sum.inl y)) (fun r=>some (Sum.inr r))=_
   rw[Fi,av,ag (by rw[lI fl,wrap64 (by omega) (by omega)];omega),SD hb hs (by omega)]
   rfl
  ·have Bu:a+12<b:=by omega
   have rh: ¬(((IntKind.wrap .i64 ((b:Int)-(a:Int))):Int)≤12):=by rw[lI fl,wrap64 (by omega) (by omega)];omega
   by_cases h0:lim=0
   ·have hi:=heapSort_holds (lt:=aB) xn d a b fl hb
    refine ⟨_,bq ?_,hi⟩
    show oZ CC a b lim wb wp (eA d) (fun y=>some (Sum.inl y)) (fun r=>some (Sum.inr r))=_
    rw[Fi,av,ai rh,dy,ag h0,aeR (by omega) hb hs]
    rfl
   ·obtain ⟨l1,d1,s1,k1⟩:=af1 (lim:=lim) (wb:=wb) (wp:=wp) Bu hb hs (IntKind.wrap .i64 ((b:Int)-(a:Int))) (!wb)
    have b1:b≤d1.size:=by rw[s1.1];exact hb
    have z1:d1.size<1152921504606846976:=by rw[s1.1];exact hs
    obtain ⟨p,h,c1,p1,p2⟩:=afU Bu b1 z1
    obtain ⟨q,U,d2,q1,q2,s2,k2⟩:=af2 (lim:=l1) (wb:=wb) (wp:=wp) Bu b1 z1 (IntKind.wrap .i64 ((b:Int)-(a:Int))) h (h==2) p1 p2
    have b2:b≤d2.size:=by rw[s2.1];exact b1
    have z2:d2.size<1152921504606846976:=by rw[s2.1];exact z1
    have B2:Below aB a b d2:=(hB.perm hb s1).perm b1 s2
    obtain ⟨t,ht⟩: ∃t:Bool,t=(bif wb then (bif wp then (U==1) else false) else false):=⟨_,rfl⟩
    obtain ⟨d3,s3,k3⟩:=af3 (lim:=l1) (wb:=wb) (wp:=wp) Bu b2 z2 B2 (IntKind.wrap .i64 ((b:Int)-(a:Int))) (q:Int) t
    have b3:b≤d3.size:=by rw[s3.1];exact b2
    have z3:d3.size<1152921504606846976:=by rw[s3.1];exact z2
    have B3:Below aB a b d3:=B2.perm b2 s3
    have P3:PermIn a b d d3:=permIn_trans _ _ _ a b (permIn_trans _ _ _ a b s1 s2) s3
    have step: ∀(β:Type) (kn:(Int × Int × Int × Bool × Bool × (List V))→Option β) (kr:(List V)→Option β),oZ CC a b lim wb wp (eA d) kn kr=
      lL CC a b l1 wb wp (IntKind.wrap .i64 ((b:Int)-(a:Int))) (q:Int) t (eA d2) (cY (un fun (Pn:Bool) (KO:List V)=>kr KO) (fun (lJ:List V)=>rU CC a b wb wp l1 q lJ kn)):=by
     intro β kn kr
     rw[Fi,av,ai rh,dy,ai h0,k1]
     simp only[un]
     rw[c1]
     simp only[Option.bind_some,V.aI,V.pY,V.toInt_int,dG,dh]
     rw[k2]
     simp only[un]
     rw[ht]
     cases wb
     ·rfl
     ·cases wp
      ·rfl
      ·rfl
    rcases k3 with k3|⟨k3s,k3⟩
    ·obtain ⟨a4,b4,wb4,wp4,d4,r1,r2,r3,r4,r5,r6,r7⟩:=af4 Bu b3 z3 B3 q1 q2 (fun a2 b2 d2 aR h1 U h3 h4=>ih a2 b2 d2 (by omega) h1 U h3 h4) wb wp l1
     obtain ⟨R,e,e1,e2⟩:=ih a4 b4 d4 (by omega) r2 r3 r4 r5 l1 wb4 wp4
     obtain ⟨f1,f2⟩:=r6 R e1 e2
     refine ⟨R,(ct ?_).trans e,permIn_trans _ _ _ a b P3 f1,f2⟩
     show oZ CC a b lim wb wp (eA d) (fun y=>some (Sum.inl y)) (fun r=>some (Sum.inr r))=_
     rw[step,k3]
     exact r7 _ (fun y=>some (Sum.inl y))
    ·refine ⟨d3,bq ?_,P3,k3s⟩
     show oZ CC a b lim wb wp (eA d) (fun y=>some (Sum.inl y)) (fun r=>some (Sum.inr r))=_
     rw[step,k3]
     rfl
theorem af8 (l:List XE) (hs:l.length<1152921504606846976): ∃R:List XE,CC zl [.list aa (l.map XE.enc)]=some [.list aa (R.map XE.enc)]∧R.Perm l∧R.Pairwise (fun x y=> ¬y.lt x):=by
 obtain ⟨L,e1,_⟩:=Tp (x:=l.length) (by omega)
 obtain ⟨R,e2,h1,U⟩:=(af7 _ 0 l.toArray.size l.toArray (bQ _) (jI _) (bQ _) (by simpa using hs) (.inl rfl)).call (L:Int)
 have aW:R.size=l.length:=by rw[h1.1];simp
 refine ⟨R.toList,afO ?_,?_,?_⟩
 ·unfold Tm
  rw[bM,rr (A:=l.length) (by omega),e1]
  simp only[Option.bind_some,V.aI,V.toInt_int]
  have e3:eA l.toArray=l.map XE.enc:=by simp[oW]
  rw[e3,show ((l.toArray.size:Nat):Int)=(l.length:Int) by simp,show ((0:Nat):Int)=0 from rfl] at e2
  rw[e2]
  rfl
 ·have h3:=h1.2.2
  rw[show l.toArray.size=R.size from h1.1.symm,Array.extract_size,h1.1,Array.extract_size] at h3
  exact h3
 ·rw[BE]
  intro i j hi hj sQ
  have h3:=U i j (jI _) sQ (by simpa[←aW] using hj)
  rw[Ff] at h3
  have dD:i<R.size:=by simpa using hi
  have fm:j<R.size:=by simpa using hj
  rw[getElem!_pos R i dD,getElem!_pos R j fm] at h3
  simpa using h3
end Go.AM.SX
set_option maxRecDepth 100000
namespace Go.AM
open Go.Proofs
noncomputable abbrev Fk:Code:=bZ Tryz.prog (ay.aX 203)
noncomputable def xp (C:af) (Bv uw:Nat) (k' jH:Int) (ss:List V) {β:Type} (kn:(Int × Int × (List V))→Option β) (kr:(Int × Int × Bool × (List V))→Option β):Option β:=
 bif decide ((jH:Int)<(uw:Int)) then
  bif (decide (0≤jH))&&(decide (jH<(uw:Int))) then
  (ss[Bv+((jH:Int).toNat)]?).bind fun x4=>
  bif (decide (0≤(IntKind.wrap .i64 (jH-1))))&&(decide ((IntKind.wrap .i64 (jH-1))<(uw:Int))) then
   (ss[Bv+((IntKind.wrap .i64 (jH-1):Int).toNat)]?).bind fun x5=>
   (C oF [.int .i64 ((x4.cell 0).toInt),.int .i64 ((x4.cell 1).toInt),.list aa ((x4.cell 2).toList),.int .i64 ((x5.cell 0).toInt),.int .i64 ((x5.cell 1).toInt),.list aa ((x5.cell 2).toList)]).bind fun r6=>
   bif !((V.nth r6 0).toBool) then
   bif (decide (0≤jH))&&(decide (jH<(uw:Int))) then
    (ss[Bv+((jH:Int).toNat)]?).bind fun x7=>
    bif (decide (0≤k'))&&(decide (k'<(ss.length:Int))) then
    (ss[(k':Int).toNat]?).bind fun x8=>
    kn (IntKind.wrap .i64 (k'+1),IntKind.wrap .i64 (jH+1),ss.set ((k':Int).toNat) (.agg [.int .i64 ((x7.cell 0).toInt),.int .i64 ((x7.cell 1).toInt),.list aa ((x7.cell 2).toList)]))
    else none
   else none
   else
   kn (k',IntKind.wrap .i64 (jH+1),ss)
  else none
  else none
 else
  kr (k',jH,decide ((jH:Int)<(uw:Int)),ss)
noncomputable def ux (C:af) (Bv uw:Nat):(Int × Int × (List V))→Option ((Int × Int × (List V)) ⊕ (Int × Int × Bool × (List V))):=un fun k'=>un fun jH ss=>xp C Bv uw k' jH ss (fun y=>some (.inl y)) (fun r=>some (.inr r))
noncomputable def xq (C:af) (ss:List V) (k':Int) {β:Type} (kn:Int→Option β) (kr:((List V) ⊕ (Int × Bool))→Option β):Option β:=
 bif decide ((k':Int)<(ss.length:Int)) then
  bif (decide (0≤k'))&&(decide (k'<(ss.length:Int))) then
  (ss[(k':Int).toNat]?).bind fun x1=>
  bif (decide (0≤(IntKind.wrap .i64 (k'-1))))&&(decide ((IntKind.wrap .i64 (k'-1))<(ss.length:Int))) then
   (ss[(IntKind.wrap .i64 (k'-1):Int).toNat]?).bind fun x2=>
   (C oF [.int .i64 ((x1.cell 0).toInt),.int .i64 ((x1.cell 1).toInt),.list aa ((x1.cell 2).toList),.int .i64 ((x2.cell 0).toInt),.int .i64 ((x2.cell 1).toInt),.list aa ((x2.cell 2).toList)]).bind fun r3=>
   bif (V.nth r3 0).toBool then
   bif (decide (0≤k'))&&(decide (k'≤(ss.length:Int))) then
    (Loop (ux C ((k':Int).toNat) (ss.length-((k':Int).toNat))) (k',1,ss)).bind (un fun (lM:Int)=>un fun (aiE:Int)=>un fun (wo:Bool) (qs:List V)=>
     bif (decide (0≤lM))&&(decide (lM≤(qs.length:Int))) then
     bif (decide (0≤lM))&&(decide (lM≤((qs.take ((lM:Int).toNat)++(List.replicate (qs.length-((lM:Int).toNat)) (V.agg [.int .i64 0,.int .i64 0,.list aa ([]:List V)])++qs.drop (((lM:Int).toNat)+(qs.length-((lM:Int).toNat))))).length:Int))) then
      kr (.inl ((qs.take ((lM:Int).toNat)++(List.replicate (qs.length-((lM:Int).toNat)) (V.agg [.int .i64 0,.int .i64 0,.list aa ([]:List V)])++qs.drop (((lM:Int).toNat)+(qs.length-((lM:Int).toNat))))).take ((lM:Int).toNat)))
     else none
     else none)
   else none
   else
   kn (IntKind.wrap .i64 (k'+1))
  else none
  else none
 else
  kr (.inr (k',decide ((k':Int)<(ss.length:Int))))
noncomputable def uy (C:af) (ss:List V):(Int)→Option ((Int) ⊕ ((List V) ⊕ (Int × Bool))):=fun k'=>xq C ss k' (fun y=>some (.inl y)) (fun r=>some (.inr r))
noncomputable def Tr (C:af):cw:=fun β n ds k=>
 bif Nat.beq n 145 then bS Jo [true,false,false,true,true] [[0,2,3,0,0,0]] (@xp C) ds k else
 bif Nat.beq n 65 then bS Jp [true,false] [[0],[0,0,2]] (@xq C) ds k else
 none
abbrev Ts (C:af) (b:cp):Prop:=cq Tryz.prog ay C (Tr C) 203 (cH Tryz.prog (ay.aX 203)) (ay.sin 203).aY.length b
theorem af9 (C:af):Ts C (.loop (ax [1,1,0,1,0,0,1,0,0,1,0,1,0,1,0,0] Fk)):=
 bX Jo [true,false,false,true,true] [[0,2,3,0,0,0]] (@xp C) (by kernel_rfl) (bn (bs:=[]) (by kernel_rfl) az) (fun ds=>by kernel_rfl) (fun i x=>by kernel_rfl) (fun i x β k=>by kernel_rfl) (fun β ds k=>by kernel_rfl)
theorem aga (C:af):Ts C (.loop (ax [1,1,0,1,0,0] Fk)):=
 bX Jp [true,false] [[0],[0,0,2]] (@xq C) (by kernel_rfl) (bn (bs:=[.loop (ax [1,1,0,1,0,0,1,0,0,1,0,1,0,1,0,0] Fk)]) (by kernel_rfl) (bD (af9 C) az)) (fun ds=>by kernel_rfl) (fun i x=>by kernel_rfl) (fun i x β k=>by kernel_rfl) (fun β ds k=>by kernel_rfl)
noncomputable def Fl (C:af) (ss:List V):Option (List V):=
 bif decide (((ss.length:Int):Int)<2) then
  some [V.bool true,.list aa ss]
 else
  (Loop (uy C ss) 1).bind (cY (fun (agb:List V)=>
   some [V.bool false,.list aa agb]) (un fun (aiF:Int) (Jx:Bool)=>
   some [V.bool true,.list aa ss]))
theorem KQ {ss:List V} {r:Option (List V)} (h:Fl CC ss=r):CC H2 [.list aa ss]=r:=
 bd (key:=203) (L:=Tr CC) (bs:=[.loop (ax [1,1,0,1,0,0] Fk)]) (by kernel_rfl) (bD (aga CC) az) (ba (by kernel_rfl) h)
noncomputable def Tt (C:af) (mC:List V):Option (List V):=
 (C zl [.list aa mC]).bind fun r1=>
 (C H2 [.list aa ((V.nth r1 0).toList)]).bind fun r2=>
 bif (V.nth r2 0).toBool then
  some [V.bool true,.list aa ((V.nth (r2.drop 1) 0).toList)]
 else
  some [V.bool false,.list aa ((V.nth (r2.drop 1) 0).toList)]
theorem agc {mC:List V} {r:Option (List V)} (h:Tt CC mC=r):CC tq [.list aa mC]=r:=
 bd (key:=149) (L:=cr) (bs:=[]) (by kernel_rfl) az (ba (by kernel_rfl) h)
noncomputable def Tu (C:af) (oQ oR:Int) (qh:List V) (oS oT:Int) (qi:List V):Option (List V):=
 (C bc [.int .i64 oQ,.int .i64 oR,.list aa qh,.int .i64 oS,.int .i64 oT,.list aa qi]).bind fun r1=>
 some [.bool ((((V.nth r1 0).toInt):Int)==0)]
theorem agd {oQ oR:Int} {qh:List V} {oS oT:Int} {qi:List V} {r:Option (List V)} (h:Tu CC oQ oR qh oS oT qi=r):CC oF [.int .i64 oQ,.int .i64 oR,.list aa qh,.int .i64 oS,.int .i64 oT,.list aa qi]=r:=
 bd (key:=159) (L:=cr) (bs:=[]) (by kernel_rfl) az (ba (by kernel_rfl) h)
end Go.AM
set_option maxRecDepth 100000
namespace Go.AM
open Go.Proofs Ex
def mM (prev:Ex):List Ex→List Ex
 | []=>[]
 | x::l=>if cmp x prev=0 then mM x l else x::mM x l
def hX:List Ex→List Ex
 | []=>[]
 | x::l=>x::mM x l
theorem Tv: ∀(m:List Ex) (prev x:Ex),mM prev (m++[x])=mM prev m++(if cmp x ((prev::m).getD m.length bG)=0 then [] else [x])
 | [],prev,x=>by simp only[List.nil_append,mM,List.length_nil,BI]
 | y::m,prev,x=>by
  have ih:=Tv m y x
  simp only[List.cons_append,mM,List.length_cons,List.getD_cons_succ]
  split
  ·exact ih
  ·rw[ih];rfl
theorem Tw {l:List Ex} {p:Nat} (h1:1≤p) (U:p<l.length):hX (l.take (p+1))=hX (l.take p)++(if cmp (l.getD p bG) (l.getD (p-1) bG)=0 then [] else [l.getD p bG]):=by
 match l,p,h1,U with
 | y::l,p+1,_,U=>
  simp only[List.length_cons] at U
  rw[List.take_succ_cons,List.take_succ_cons,hX,hX,j5 (by omega),Tv]
  simp only[List.getD_cons_succ,fb,uE]
  rw[show min p l.length=p by omega]
  have:(y::l.take p).getD p bG=(y::l).getD p bG:=by
   match p with
   | 0=>rfl
   | q+1=>simp only[List.getD_cons_succ];rw[BG,BG,ez (by omega)]
  rw[this];rfl
theorem Tx: ∀(m:List Ex) (prev:Ex),(prev::m).Pairwise (fun x y=> ¬y.lx x)→jB (prev::mM prev m)∧∀x,x∈prev::mM prev m↔x∈prev::m
 | [],prev,_=>⟨by simp[mM],by simp[mM]⟩
 | y::m,prev,h=>by
  have h1:=rZ.1 h
  obtain ⟨i1,i2⟩:=Tx m y h1.2
  rw[mM]
  by_cases hc:cmp y prev=0
  ·rw[ag hc]
   have:=tY _ _ hc
   subst this
   refine ⟨i1,fun x=> ?_⟩
   rw[i2 x];simp
  ·rw[ai hc]
   have aR:prev.lx y:=by
    by_cases U:prev.lx y
    ·exact U
    ·exact absurd (Ex.RL U (h1.1 y (by simp))) fun e=>hc (by rw[e];exact AI _)
   refine ⟨rZ.2 ⟨fun x hx=> ?_,i1⟩,fun x=> ?_⟩
   ·rcases eH.1 hx with rfl|hx
    ·exact aR
    ·exact Ex.J8 aR ((rZ.1 i1).1 x hx)
   ·rw[eH,i2 x,←eH]
theorem age {l:List Ex} (h:l.Pairwise (fun x y=> ¬y.lx x)):jB (hX l)∧∀x,x∈hX l↔x∈l:=by
 match l,h with
 | [],_=>exact ⟨List.Pairwise.nil,fun _=>Iff.rfl⟩
 | y::l,h=>exact Tx l y h
theorem Tz (a:Ex) (ha:a.Ok) (b:Ex) (hb:b.Ok):CC oF (c6 a (c6 b []))=some [.bool (decide (cmp a b=0))]:=by
 refine agd ?_
 unfold Tu
 refine (congrArg (fun o=>Option.bind o _) (RE a ha b hb)).trans ?_
 simp only[Option.bind_some,V.aI,V.toInt_int]
 rw[AF]
section
variable {l:List Ex} (hn:l.length≤1000000) (ar: ∀k∈l,k.Ok)
include hn ar
theorem agf {k:Nat}: ∀(d k2 i:Nat) (ss:List Ex),k+k2+d=l.length→1≤k2→i+1≤k+k2→ss.length=l.length→ss.take i=hX (l.take (k+k2))→ss.drop (k+k2-1)=l.drop (k+k2-1)→
  ∃t u eD,Loop (ux CC k (l.length-k)) ((i:Int),(k2:Int),ss.map enc)=some (((hX l).length:Int),u,t,List.map enc eD)∧eD.take (hX l).length=hX l∧eD.length=l.length:=by
 intro d
 induction d with
 | zero=>
  intro k2 i ss hj oo hi hl ht hd
  have e0:l.take (k+k2)=l:=List.take_of_length_le (by omega)
  rw[e0] at ht
  have gg:i=(hX l).length:=by rw[←ht,fb];omega
  refine ⟨false,(k2:Int),ss,bq ?_,by rw[←gg];exact ht,hl⟩
  simp only[ux,xp,un,bM,av]
  rw[ai (by omega),c7 (by omega),gg]
 | succ d ih=>
  intro k2 i ss hj oo hi hl ht hd
  have hp:k+k2<l.length:=by omega
  have gR:ss.drop (k+k2)=l.drop (k+k2):=by
   have h:=congrArg (List.drop 1) hd
   rw[nL,nL] at h
   rwa [show k+k2-1+1=k+k2 by omega] at h
  have g1:=AX hl gR hp
  have g0:=AX hl hd (show k+k2-1<l.length by omega)
  have x1:(ss.map enc)[k+k2]? =some (l.getD (k+k2) bG).enc:=by rw[nC (by omega),g1]
  have x0:(ss.map enc)[k+(k2-1)]? =some (l.getD (k+k2-1) bG).enc:=by rw[show k+(k2-1)=k+k2-1 by omega,nC (by omega),g0]
  have w1:IntKind.wrap .i64 ((k2:Int)-1)=((k2-1:Nat):Int):=by rw[wrap64 (by omega) (by omega)];omega
  have t1:((k2:Nat):Int)<((l.length-k:Nat):Int):=by omega
  have t2:(0:Int)≤((k2:Nat):Int):=by omega
  have t3:(0:Int)≤((k2-1:Nat):Int):=by omega
  have t4:((k2-1:Nat):Int)<((l.length-k:Nat):Int):=by omega
  have t5:((i:Nat):Int)<(ss.length:Int):=by omega
  have t6:(0:Int)≤((i:Nat):Int):=by omega
  have dg: ∃y,(ss.map enc)[i]? =some y:=⟨_,nC (by omega)⟩
  obtain ⟨y,hy⟩:=dg
  have co:=Tz (l.getD (k+k2) bG) (EP ar hp) (l.getD (k+k2-1) bG) (EP ar (by omega))
  have cs:=Tw (l:=l) (p:=k+k2) (by omega) hp
  by_cases he:cmp (l.getD (k+k2) bG) (l.getD (k+k2-1) bG)=0
  ·have bL:ux CC k (l.length-k) ((i:Int),(k2:Int),ss.map enc)=some (.inl ((i:Int),((k2+1:Nat):Int),ss.map enc)):=by
    simp only[ux,xp,un,bM,av,ca,w1,t1,t2,t3,t4,cP,Int.toNat_natCast,x1,x0,Option.bind_some,bI,bJ,bK]
    refine (congrArg (fun o=>Option.bind o _) co).trans ?_
    simp only[Option.bind_some,V.aI,V.cK]
    rw[nM he,qy,cond_false,wrap64 (by omega) (by omega)]
    rfl
   rw[ct bL]
   refine ih (k2+1) i ss (by omega) (by omega) (by omega) hl ?_ (by rw[show k+(k2+1)-1=k+k2 by omega];exact gR)
   rw[show k+(k2+1)=k+k2+1 by omega,cs,ag he,eI,ht]
  ·have bL:ux CC k (l.length-k) ((i:Int),(k2:Int),ss.map enc)=some (.inl (((i+1:Nat):Int),((k2+1:Nat):Int),(ss.set i (l.getD (k+k2) bG)).map enc)):=by
    simp only[ux,xp,un,bM,av,ca,w1,t1,t2,t3,t4,t5,t6,cP,Int.toNat_natCast,x1,x0,hy,Option.bind_some,bI,bJ,bK]
    refine (congrArg (fun o=>Option.bind o _) co).trans ?_
    simp only[Option.bind_some,V.aI,V.cK]
    rw[c7 he,r0,cond_true,wrap64 (by omega) (by omega),wrap64 (by omega) (by omega),←j6,xG]
    rfl
   rw[ct bL]
   refine ih (k2+1) (i+1) (ss.set i (l.getD (k+k2) bG)) (by omega) (by omega) (by omega) (by simpa using hl) ?_ ?_
   ·rw[j5 (by rw[lP];omega),BJ (bQ i),ht,show k+(k2+1)=k+k2+1 by omega,cs,ai he]
    simp[show i<ss.length by omega]
   ·rw[show k+(k2+1)-1=k+k2 by omega,BK (by omega),gR]
theorem agh: ∀(d p:Nat),p+d=l.length→1≤p→hX (l.take p)=l.take p→
  (hX l=l∧∃t,Loop (uy CC (l.map enc)) (p:Int)=some (.inr t))∨Loop (uy CC (l.map enc)) (p:Int)=some (.inl ((hX l).map enc)):=by
 intro d
 induction d with
 | zero=>
  intro p hp h1 hc
  obtain rfl:p=l.length:=by omega
  rw[qv] at hc
  refine .inl ⟨hc,((l.length:Int),false),bq ?_⟩
  simp only[uy,xq,bM,av]
  rw[ai (by omega),c7 (by omega)]
 | succ d ih=>
  intro p hp h1 hc
  have cU:p<l.length:=by omega
  have cs:=Tw (l:=l) h1 cU
  have co:=Tz (l.getD p bG) (EP ar cU) (l.getD (p-1) bG) (EP ar (by omega))
  have x1:(l.map enc)[p]? =some (l.getD p bG).enc:=nC cU
  have x0:(l.map enc)[p-1]? =some (l.getD (p-1) bG).enc:=nC (by omega)
  have w1:IntKind.wrap .i64 ((p:Int)-1)=((p-1:Nat):Int):=by rw[wrap64 (by omega) (by omega)];omega
  have t1:((p:Nat):Int)<(l.length:Int):=by omega
  have t2:(0:Int)≤((p:Nat):Int):=by omega
  have t3:(0:Int)≤((p-1:Nat):Int):=by omega
  have t4:((p-1:Nat):Int)<(l.length:Int):=by omega
  have t5:((p:Nat):Int)≤(l.length:Int):=by omega
  by_cases he:cmp (l.getD p bG) (l.getD (p-1) bG)=0
  ·refine .inr (bq ?_)
   obtain ⟨t,u,eD,e1,e2,e3⟩:=agf hn ar (k:=p) (l.length-(p+1)) 1 p l (by omega) (by omega) (by omega) rfl (by rw[cs,ag he,eI,hc]) rfl
   have hm:(hX l).length≤eD.length:=by
    have:=congrArg List.length e2
    rw[fb] at this
    omega
   have m1:(0:Int)≤(((hX l).length:Nat):Int):=by omega
   have m2:(((hX l).length:Nat):Int)≤((eD.map enc).length:Int):=by rw[bM];omega
   simp only[uy,xq,bM,av,ca,w1,t1,t2,t3,t4,t5,cP,Int.toNat_natCast,x1,x0,Option.bind_some,bI,bJ,bK]
   refine (congrArg (fun o=>Option.bind o _) co).trans ?_
   simp only[Option.bind_some,V.aI,V.cK]
   rw[nM he,cond_true]
   refine (congrArg (fun o=>Option.bind o _) e1).trans ?_
   simp only[Option.bind_some,un,ca,av,Int.toNat_natCast]
   rw[ag m1,ag m2,ag m1,ag (by simp only[dM,fb,uH,rY,bM];omega),EY _ _ _ hm,e2]
  ·have bL:uy CC (l.map enc) (p:Int)=some (.inl ((p+1:Nat):Int)):=by
    simp only[uy,xq,bM,av,ca,w1,t1,t2,t3,t4,cP,Int.toNat_natCast,x1,x0,Option.bind_some,bI,bJ,bK]
    refine (congrArg (fun o=>Option.bind o _) co).trans ?_
    simp only[Option.bind_some,V.aI,V.cK]
    rw[c7 he,cond_false,wrap64 (by omega) (by omega)]
    rfl
   rw[ct bL]
   exact ih (p+1) (by omega) (by omega) (by rw[cs,ai he,hc,←j5 cU])
theorem agi: ∃b,CC H2 [.list aa (l.map enc)]=some [.bool b,.list aa ((hX l).map enc)]:=by
 by_cases U:l.length<2
 ·refine ⟨true,KQ ?_⟩
  unfold Fl
  rw[bM,av,ag (by omega)]
  match l,U with
  | [],_=>rfl
  | [k],_=>rfl
 ·rcases agh hn ar (l.length-1) 1 (by omega) (by omega) (by
   match l,U with
   | k::l,_=>rfl) with ⟨h3,t,h4⟩|h4
  ·refine ⟨true,KQ ?_⟩
   unfold Fl
   rw[bM,av,ai (by omega)]
   refine (congrArg (fun o=>Option.bind o _) h4).trans ?_
   rw[h3];rfl
  ·refine ⟨false,KQ ?_⟩
   unfold Fl
   rw[bM,av,ai (by omega)]
   refine (congrArg (fun o=>Option.bind o _) h4).trans ?_
   rfl
theorem agj: ∃R:List Ex,CC zl [.list aa (l.map enc)]=some [.list aa (R.map enc)]∧R.Perm l∧R.Pairwise (fun x y=> ¬y.lx x):=by
 have hx: ∃L:List SX.XE,L.map SX.XE.e=l:=by
  clear hn
  induction l with
  | nil=>exact ⟨[],rfl⟩
  | cons k l ih=>
   obtain ⟨L,hL⟩:=ih fun k hk=>ar k (by simp[hk])
   exact ⟨⟨k,ar k (by simp)⟩::L,by rw[dB,hL]⟩
 obtain ⟨L,rfl⟩:=hx
 have he: ∀L:List SX.XE,L.map SX.XE.enc=(L.map SX.XE.e).map enc:=fun L=>by rw[List.map_map];rfl
 obtain ⟨R,e1,h1,U⟩:=SX.af8 L (by rw[bM] at hn;omega)
 refine ⟨R.map SX.XE.e,?_,h1.map _,List.pairwise_map.2 U⟩
 rw[←he,←he];exact e1
theorem TA: ∃b,CC tq [.list aa (l.map enc)]=some [.bool b,.list aa ((l.foldl fV []).map enc)]:=by
 obtain ⟨R,e1,h1,U⟩:=agj hn ar
 obtain ⟨b,e2⟩:=agi (l:=R) (by rw[h1.length_eq];exact hn) fun k hk=>ar k (h1.mem_iff.1 hk)
 obtain ⟨c1,c2⟩:=age U
 have hc:hX R=l.foldl fV []:=RM c1 Kh fun x=>by rw[c2,qm,h1.mem_iff]
 rw[hc] at e2
 refine ⟨b,agc ?_⟩
 unfold Tt
 refine (congrArg (fun o=>Option.bind o _) e1).trans ?_
 simp only[Option.bind_some,V.aI,V.bR]
 refine (congrArg (fun o=>Option.bind o _) e2).trans ?_
 cases b<;>rfl
end
end Go.AM
set_option maxRecDepth 100000
namespace Go.AM
open Go.Proofs
noncomputable def TB (C:af) (kids:List V):Option (List V):=
 (C HV [.list aa kids]).bind fun r1=>
 bif (V.nth r1 0).toBool then
  (C rl []).bind fun r2=>
  some [.int .i64 ((V.nth r2 0).toInt),.int .i64 ((V.nth (r2.drop 1) 0).toInt),.list aa ((V.nth (r2.drop 2) 0).toList)]
 else
  (C vX [.int .i64 4,.list aa kids]).bind fun r3=>
  (C Ed [.list aa ((V.nth r3 0).toList)]).bind fun r4=>
  bif (V.nth r4 0).toBool then
  (C tq [.list aa ((V.nth (r4.drop 1) 0).toList)]).bind fun r5=>
  bif (V.nth r5 0).toBool then
   (C oE []).bind fun r6=>
   (C ly [.int .i64 4,.list aa ((V.nth (r5.drop 1) 0).toList),.int .i64 ((V.nth r6 0).toInt),.int .i64 ((V.nth (r6.drop 1) 0).toInt),.list aa ((V.nth (r6.drop 2) 0).toList)]).bind fun r7=>
   some [.int .i64 ((V.nth r7 0).toInt),.int .i64 ((V.nth (r7.drop 1) 0).toInt),.list aa ((V.nth ((r7.drop 1).drop 1) 0).toList)]
  else
   (C oE []).bind fun r8=>
   (C ly [.int .i64 4,.list aa ((V.nth (r5.drop 1) 0).toList),.int .i64 ((V.nth r8 0).toInt),.int .i64 ((V.nth (r8.drop 1) 0).toInt),.list aa ((V.nth (r8.drop 2) 0).toList)]).bind fun r9=>
   some [.int .i64 ((V.nth r9 0).toInt),.int .i64 ((V.nth (r9.drop 1) 0).toInt),.list aa ((V.nth ((r9.drop 1).drop 1) 0).toList)]
  else
  (C tq [.list aa ((V.nth (r4.drop 1) 0).toList)]).bind fun qe=>
  bif (V.nth qe 0).toBool then
   (C oE []).bind fun kM=>
   (C ly [.int .i64 4,.list aa ((V.nth (qe.drop 1) 0).toList),.int .i64 ((V.nth kM 0).toInt),.int .i64 ((V.nth (kM.drop 1) 0).toInt),.list aa ((V.nth (kM.drop 2) 0).toList)]).bind fun gI=>
   some [.int .i64 ((V.nth gI 0).toInt),.int .i64 ((V.nth (gI.drop 1) 0).toInt),.list aa ((V.nth ((gI.drop 1).drop 1) 0).toList)]
  else
   (C oE []).bind fun uz=>
   (C ly [.int .i64 4,.list aa ((V.nth (qe.drop 1) 0).toList),.int .i64 ((V.nth uz 0).toInt),.int .i64 ((V.nth (uz.drop 1) 0).toInt),.list aa ((V.nth (uz.drop 2) 0).toList)]).bind fun uA=>
   some [.int .i64 ((V.nth uA 0).toInt),.int .i64 ((V.nth (uA.drop 1) 0).toInt),.list aa ((V.nth ((uA.drop 1).drop 1) 0).toList)]
theorem agk {kids:List V} {r:Option (List V)} (h:TB CC kids=r):CC DZ [.list aa kids]=r:=
 bd (key:=123) (L:=cr) (bs:=[]) (by kernel_rfl) az (ba (by kernel_rfl) h)
noncomputable def TC (C:af) (kids:List V):Option (List V):=
 (C zy [.list aa kids]).bind fun r1=>
 bif (V.nth r1 0).toBool then
  (C oE []).bind fun r2=>
  some [.int .i64 ((V.nth r2 0).toInt),.int .i64 ((V.nth (r2.drop 1) 0).toInt),.list aa ((V.nth (r2.drop 2) 0).toList)]
 else
  (C vX [.int .i64 5,.list aa kids]).bind fun r3=>
  (C Eb [.list aa ((V.nth r3 0).toList)]).bind fun r4=>
  bif (V.nth r4 0).toBool then
  (C tn []).bind fun r5=>
  (C ly [.int .i64 5,.list aa ((V.nth (r4.drop 1) 0).toList),.int .i64 ((V.nth r5 0).toInt),.int .i64 ((V.nth (r5.drop 1) 0).toInt),.list aa ((V.nth (r5.drop 2) 0).toList)]).bind fun r6=>
  some [.int .i64 ((V.nth r6 0).toInt),.int .i64 ((V.nth (r6.drop 1) 0).toInt),.list aa ((V.nth ((r6.drop 1).drop 1) 0).toList)]
  else
  (C tn []).bind fun r7=>
  (C ly [.int .i64 5,.list aa ((V.nth (r4.drop 1) 0).toList),.int .i64 ((V.nth r7 0).toInt),.int .i64 ((V.nth (r7.drop 1) 0).toInt),.list aa ((V.nth (r7.drop 2) 0).toList)]).bind fun r8=>
  some [.int .i64 ((V.nth r8 0).toInt),.int .i64 ((V.nth (r8.drop 1) 0).toInt),.list aa ((V.nth ((r8.drop 1).drop 1) 0).toList)]
theorem agl {kids:List V} {r:Option (List V)} (h:TC CC kids=r):CC D0 [.list aa kids]=r:=
 bd (key:=124) (L:=cr) (bs:=[]) (by kernel_rfl) az (ba (by kernel_rfl) h)
noncomputable def TD (C:af) (kids:List V):Option (List V):=
 (C zy [.list aa kids]).bind fun r1=>
 bif (V.nth r1 0).toBool then
  (C oE []).bind fun r2=>
  some [.int .i64 ((V.nth r2 0).toInt),.int .i64 ((V.nth (r2.drop 1) 0).toInt),.list aa ((V.nth (r2.drop 2) 0).toList)]
 else
  (C vX [.int .i64 6,.list aa kids]).bind fun r3=>
  (C vT [.list aa ((V.nth r3 0).toList)]).bind fun r4=>
  bif (V.nth r4 0).toBool then
  (C tq [.list aa ((V.nth (r4.drop 1) 0).toList)]).bind fun r5=>
  bif (V.nth r5 0).toBool then
   (C rl []).bind fun r6=>
   (C ly [.int .i64 6,.list aa ((V.nth (r5.drop 1) 0).toList),.int .i64 ((V.nth r6 0).toInt),.int .i64 ((V.nth (r6.drop 1) 0).toInt),.list aa ((V.nth (r6.drop 2) 0).toList)]).bind fun r7=>
   some [.int .i64 ((V.nth r7 0).toInt),.int .i64 ((V.nth (r7.drop 1) 0).toInt),.list aa ((V.nth ((r7.drop 1).drop 1) 0).toList)]
  else
   (C rl []).bind fun r8=>
   (C ly [.int .i64 6,.list aa ((V.nth (r5.drop 1) 0).toList),.int .i64 ((V.nth r8 0).toInt),.int .i64 ((V.nth (r8.drop 1) 0).toInt),.list aa ((V.nth (r8.drop 2) 0).toList)]).bind fun r9=>
   some [.int .i64 ((V.nth r9 0).toInt),.int .i64 ((V.nth (r9.drop 1) 0).toInt),.list aa ((V.nth ((r9.drop 1).drop 1) 0).toList)]
  else
  (C tq [.list aa ((V.nth (r4.drop 1) 0).toList)]).bind fun qe=>
  bif (V.nth qe 0).toBool then
   (C rl []).bind fun kM=>
   (C ly [.int .i64 6,.list aa ((V.nth (qe.drop 1) 0).toList),.int .i64 ((V.nth kM 0).toInt),.int .i64 ((V.nth (kM.drop 1) 0).toInt),.list aa ((V.nth (kM.drop 2) 0).toList)]).bind fun gI=>
   some [.int .i64 ((V.nth gI 0).toInt),.int .i64 ((V.nth (gI.drop 1) 0).toInt),.list aa ((V.nth ((gI.drop 1).drop 1) 0).toList)]
  else
   (C rl []).bind fun uz=>
   (C ly [.int .i64 6,.list aa ((V.nth (qe.drop 1) 0).toList),.int .i64 ((V.nth uz 0).toInt),.int .i64 ((V.nth (uz.drop 1) 0).toInt),.list aa ((V.nth (uz.drop 2) 0).toList)]).bind fun uA=>
   some [.int .i64 ((V.nth uA 0).toInt),.int .i64 ((V.nth (uA.drop 1) 0).toInt),.list aa ((V.nth ((uA.drop 1).drop 1) 0).toList)]
theorem agm {kids:List V} {r:Option (List V)} (h:TD CC kids=r):CC D1 [.list aa kids]=r:=
 bd (key:=125) (L:=cr) (bs:=[]) (by kernel_rfl) az (ba (by kernel_rfl) h)
noncomputable def KR (C:af) (op:Int) (kids:List V):Option (List V):=
 bif (op:Int)==4 then
  (C DZ [.list aa kids]).bind fun r1=>
  some [.int .i64 ((V.nth r1 0).toInt),.int .i64 ((V.nth (r1.drop 1) 0).toInt),.list aa ((V.nth ((r1.drop 1).drop 1) 0).toList)]
 else
  bif (op:Int)==5 then
  (C D0 [.list aa kids]).bind fun r2=>
  some [.int .i64 ((V.nth r2 0).toInt),.int .i64 ((V.nth (r2.drop 1) 0).toInt),.list aa ((V.nth ((r2.drop 1).drop 1) 0).toList)]
  else
  bif (op:Int)==6 then
   (C D1 [.list aa kids]).bind fun r3=>
   some [.int .i64 ((V.nth r3 0).toInt),.int .i64 ((V.nth (r3.drop 1) 0).toInt),.list aa ((V.nth ((r3.drop 1).drop 1) 0).toList)]
  else
   bif ((kids.length:Int):Int) != 1 then
   some [.int .i64 0,.int .i64 0,.list aa ([]:List V)]
   else
   (kids[0]?).bind fun x4=>
   bif (op:Int)==8 then
    bif (((x4.cell 0).toInt):Int)==8 then
    bif ((((x4.cell 2).toList).length:Int):Int)==1 then
     (((x4.cell 2).toList)[0]?).bind fun x5=>
     some [.int .i64 ((x5.cell 0).toInt),.int .i64 ((x5.cell 1).toInt),.list aa ((x5.cell 2).toList)]
    else
     some [.int .i64 8,.int .i64 0,.list aa ([.agg [.int .i64 ((x4.cell 0).toInt),.int .i64 ((x4.cell 1).toInt),.list aa ((x4.cell 2).toList)]]:List V)]
    else
    some [.int .i64 8,.int .i64 0,.list aa ([.agg [.int .i64 ((x4.cell 0).toInt),.int .i64 ((x4.cell 1).toInt),.list aa ((x4.cell 2).toList)]]:List V)]
   else
    bif (op:Int)==7 then
    bif (((x4.cell 0).toInt):Int)==1 then
     (C tn []).bind fun r6=>
     some [.int .i64 ((V.nth r6 0).toInt),.int .i64 ((V.nth (r6.drop 1) 0).toInt),.list aa ((V.nth (r6.drop 2) 0).toList)]
    else
     bif (((x4.cell 0).toInt):Int)==2 then
     (C tn []).bind fun r7=>
     some [.int .i64 ((V.nth r7 0).toInt),.int .i64 ((V.nth (r7.drop 1) 0).toInt),.list aa ((V.nth (r7.drop 2) 0).toList)]
     else
     bif (((x4.cell 0).toInt):Int)==7 then
      some [.int .i64 ((x4.cell 0).toInt),.int .i64 ((x4.cell 1).toInt),.list aa ((x4.cell 2).toList)]
     else
      (C jZ [.int .i64 ((x4.cell 0).toInt),.int .i64 ((x4.cell 1).toInt),.list aa ((x4.cell 2).toList)]).bind fun r8=>
      bif (V.nth r8 0).toBool then
      some [.int .i64 ((x4.cell 0).toInt),.int .i64 ((x4.cell 1).toInt),.list aa ((x4.cell 2).toList)]
      else
      some [.int .i64 7,.int .i64 0,.list aa ([.agg [.int .i64 ((x4.cell 0).toInt),.int .i64 ((x4.cell 1).toInt),.list aa ((x4.cell 2).toList)]]:List V)]
    else
    some [.int .i64 0,.int .i64 0,.list aa ([]:List V)]
theorem TE {op:Int} {kids:List V} {r:Option (List V)} (h:KR CC op kids=r):CC zp [.int .i64 op,.list aa kids]=r:=
 bd (key:=88) (L:=cr) (bs:=[]) (by kernel_rfl) az (ba (by kernel_rfl) h)
noncomputable abbrev TF:Code:=bZ Tryz.prog (ay.aX 50)
noncomputable def Bw (C:af) (t20:List V) (t21 kI iQ:Int) (iR:List V) (mz nA:Int) (aA:List V) (t22:Int) (xr:List V) {β:Type} (kn:(Int × (List V))→Option β) (kr:(Int × Bool × (List V))→Option β):Option β:=
 bif decide ((t22:Int)<t21) then
  (idx t20 t22).bind fun x1=>
  (C vS [.int .i64 ((x1.cell 0).toInt),.int .i64 ((x1.cell 1).toInt),.list aa ((x1.cell 2).toList)]).bind fun r2=>
  bif (decide (0≤t22))&&(decide (t22<(xr.length:Int))) then
  (xr[(t22:Int).toNat]?).bind fun x3=>
  kn (IntKind.wrap .i64 (t22+1),xr.set ((t22:Int).toNat) (.agg [.int .i64 ((V.nth r2 0).toInt),.int .i64 ((V.nth (r2.drop 1) 0).toInt),.list aa ((V.nth ((r2.drop 1).drop 1) 0).toList)]))
  else none
 else
  kr (t22,decide ((t22:Int)<t21),xr)
noncomputable def Fm (C:af) (t20:List V) (t21 kI iQ:Int) (iR:List V) (mz nA:Int) (aA:List V):(Int × (List V))→Option ((Int × (List V)) ⊕ (Int × Bool × (List V))):=un fun t22 xr=>Bw C t20 t21 kI iQ iR mz nA aA t22 xr (fun y=>some (.inl y)) (fun r=>some (.inr r))
noncomputable def TG (C:af):cw:=fun β n ds k=>
 bif Nat.beq n 81 then bS Ik [false,false,true,false,false,false,false,false,true,false] [[1,2,0,0,4,5,6,7,8,0,10]] (@Bw C) ds k else
 none
abbrev agn (C:af) (b:cp):Prop:=cq Tryz.prog ay C (TG C) 50 (cH Tryz.prog (ay.aX 50)) (ay.sin 50).aY.length b
theorem ago (C:af):agn C (.loop (ax [1,1,1,0,1,0,0] TF)):=
 bX Ik [false,false,true,false,false,false,false,false,true,false] [[1,2,0,0,4,5,6,7,8,0,10]] (@Bw C) (by kernel_rfl) (bn (bs:=[]) (by kernel_rfl) az) (fun ds=>by kernel_rfl) (fun i x=>by kernel_rfl) (fun i x β k=>by kernel_rfl) (fun β ds k=>by kernel_rfl)
noncomputable def TH (C:af) (an aw:Int) (ah:List V):Option (List V):=
 bif ((ah.length:Int):Int)==0 then
  some [.int .i64 an,.int .i64 aw,.list aa ([]:List V)]
 else
  bif (decide (0≤(ah.length:Int)))&&((decide ((ah.length:Int)≤(ah.length:Int)))&&(Nat.ble ((((ah.length:Int):Int).toNat)*40) dN)) then
  (Loop (Fm C ah (ah.length:Int) an aw ah 0 0 ([]:List V)) (0,List.replicate (((ah.length:Int):Int).toNat) (V.agg [.int .i64 0,.int .i64 0,.list aa ([]:List V)]))).bind (un fun (tA:Int)=>un fun (iw:Bool) (agp:List V)=>
   (C zp [.int .i64 an,.list aa agp]).bind fun r7=>
   some [.int .i64 ((V.nth r7 0).toInt),.int .i64 ((V.nth (r7.drop 1) 0).toInt),.list aa ((V.nth ((r7.drop 1).drop 1) 0).toList)])
  else none
theorem agq {an aw:Int} {ah:List V} {r:Option (List V)} (h:TH CC an aw ah=r):CC vS [.int .i64 an,.int .i64 aw,.list aa ah]=r:=
 bd (key:=50) (L:=TG CC) (bs:=[.loop (ax [1,1,1,0,1,0,0] TF)]) (by kernel_rfl) (bD (ago CC) az) (ba (by kernel_rfl) h)
noncomputable def TI (C:af) (an aw:Int) (ah:List V):Option (List V):=
 (C zk [.int .i64 an,.int .i64 aw,.list aa ah]).bind fun r1=>
 bif !((V.nth r1 0).toBool) then
  some [.int .i64 0,.int .i64 0,.list aa ([]:List V)]
 else
  (C vS [.int .i64 an,.int .i64 aw,.list aa ah]).bind fun r2=>
  some [.int .i64 ((V.nth r2 0).toInt),.int .i64 ((V.nth (r2.drop 1) 0).toInt),.list aa ((V.nth ((r2.drop 1).drop 1) 0).toList)]
theorem agr {an aw:Int} {ah:List V} {r:Option (List V)} (h:TI CC an aw ah=r):CC DN [.int .i64 an,.int .i64 aw,.list aa ah]=r:=
 bd (key:=15) (L:=cr) (bs:=[]) (by kernel_rfl) az (ba (by kernel_rfl) h)
end Go.AM
set_option maxRecDepth 100000
namespace Go.AM
open Go.Proofs Ex
theorem uB:CC oE []=some (jA e7):=adH rfl
theorem Fo:CC tn []=some (jA lG):=adJ rfl
theorem Bx:CC rl []=some (jA gm):=by
 refine adK ?_
 unfold RJ
 refine bs uB ?_
 simp[jA,e7,gm,Ex.op,Ex.letter,Ex.kids,j6]
theorem TJ (o:Int) (l:List Ex):(l.filter fun k=> !(decide (k.op=o)))=l.filter fun k=>decide (k.op≠o):=by
 congr 1;funext k;simp
theorem TK {ks:List Ex} (hlen:ks.length≤1000000):CC zy [.list aa (ks.map enc)]=some [.bool (ks.any fun k=>decide (k.op=1))]:=aem hlen
theorem ags {ks:List Ex} (hn:ks.length≤1000000): ∃b,CC Ed [.list aa (ks.map enc)]=some [.bool b,.list aa ((ks.filter (fun k=>decide (k.op≠1))).map enc)]:=by
 rw[←TJ];exact aeo hn
theorem agt {ks:List Ex} (hn:ks.length≤1000000): ∃b,CC Eb [.list aa (ks.map enc)]=some [.bool b,.list aa ((ks.filter (fun k=>decide (k.op≠2))).map enc)]:=by
 rw[←TJ];exact aes hn
theorem TL {o:Int} {ks:List Ex} (h: ∀k∈ks,k.Ok): ∀k∈bP o ks,k.Ok:=fun x hx=>by
 obtain ⟨k,h1,U|U⟩:=iz.1 hx
 ·have:=h k h1
  obtain ⟨o2,l2,kN⟩:=k
  exact this.oJ x U.2
 ·rw[U.2];exact h k h1
theorem agu {n:Int} {ks:List Ex} (hk: ∀k∈ks,Gd n k) (hs:bt ks≤1000000):CC D0 [.list aa (ks.map enc)]=some (jA (fK 5 0 ks)):=by
 have hl:=qk ks
 have a1:=wP 5 ks
 have a2:=qk (bP 5 ks)
 refine agl ?_
 unfold TC
 rw[AP,adW hk]
 refine bs (TK (by omega)) ?_
 cases hu:ks.any fun k=>decide (k.op=1) with
 | true=>
  refine bT rfl ?_
  refine bs uB ?_
  rfl
 | false=>
  refine bF rfl ?_
  refine bs (J7 (by omega) (by omega)) ?_
  obtain ⟨b,e⟩:=agt (ks:=bP 5 ks) (by omega)
  refine bs e ?_
  cases b
  ·exact bF rfl (bs Fo (bs (oU (z:=lG)) rfl))
  ·exact bT rfl (bs Fo (bs (oU (z:=lG)) rfl))
section
variable {n:Int} {ks:List Ex} (hk: ∀k∈ks,Gd n k) (ar: ∀k∈ks,k.Ok) (hs:bt ks≤1000000)
include hk ar hs
theorem agv:CC DZ [.list aa (ks.map enc)]=some (jA (fK 4 0 ks)):=by
 have hl:=qk ks
 have a1:=wP 4 ks
 have a2:=qk (bP 4 ks)
 refine agk ?_
 unfold TB
 rw[AQ,adY hk]
 refine bs (aeu (by omega)) ?_
 cases hu:ks.any univ with
 | true=>
  refine bT rfl ?_
  refine bs Bx ?_
  rfl
 | false=>
  refine bF rfl ?_
  refine bs (J7 (by omega) (by omega)) ?_
  obtain ⟨b,e⟩:=ags (ks:=bP 4 ks) (by omega)
  refine bs e ?_
  obtain ⟨b2,e2⟩:=TA (l:=(bP 4 ks).filter fun k=>decide (k.op≠1)) (by have:=xH (fun k:Ex=>decide (k.op≠1)) (bP 4 ks);omega) fun k h=>TL ar k (jc.1 h).1
  cases b
  ·refine bF rfl ?_
   refine bs e2 ?_
   cases b2
   ·exact bF rfl (bs uB (bs (oU (z:=e7)) rfl))
   ·exact bT rfl (bs uB (bs (oU (z:=e7)) rfl))
  ·refine bT rfl ?_
   refine bs e2 ?_
   cases b2
   ·exact bF rfl (bs uB (bs (oU (z:=e7)) rfl))
   ·exact bT rfl (bs uB (bs (oU (z:=e7)) rfl))
theorem agw:CC D1 [.list aa (ks.map enc)]=some (jA (fK 6 0 ks)):=by
 have hl:=qk ks
 have a1:=wP 6 ks
 have a2:=qk (bP 6 ks)
 refine agm ?_
 unfold TD
 rw[AR,adX hk]
 refine bs (TK (by omega)) ?_
 cases hu:ks.any fun k=>decide (k.op=1) with
 | true=>
  refine bT rfl ?_
  refine bs uB ?_
  rfl
 | false=>
  refine bF rfl ?_
  refine bs (J7 (by omega) (by omega)) ?_
  obtain ⟨b,e⟩:=aew (ks:=bP 6 ks) (by omega)
  refine bs e ?_
  obtain ⟨b2,e2⟩:=TA (l:=(bP 6 ks).filter fun k=> !(univ k)) (by have:=xH (fun k:Ex=> !(univ k)) (bP 6 ks);omega) fun k h=>TL ar k (jc.1 h).1
  cases b
  ·refine bF rfl ?_
   refine bs e2 ?_
   cases b2
   ·exact bF rfl (bs Bx (bs (oU (z:=gm)) rfl))
   ·exact bT rfl (bs Bx (bs (oU (z:=gm)) rfl))
  ·refine bT rfl ?_
   refine bs e2 ?_
   cases b2
   ·exact bF rfl (bs Bx (bs (oU (z:=gm)) rfl))
   ·exact bT rfl (bs Bx (bs (oU (z:=gm)) rfl))
theorem agx {o:Int} (ho:o=4∨o=5∨o=6):CC zp [.int .i64 o,.list aa (ks.map enc)]=some (jA (fK o 0 ks)):=by
 refine TE ?_
 unfold KR
 rcases ho with rfl|rfl|rfl
 ·exact bT rfl (bs (agv hk ar hs) rfl)
 ·exact bF rfl (bT rfl (bs (agu hk hs) rfl))
 ·exact bF rfl (bF rfl (bT rfl (bs (agw hk ar hs) rfl)))
end
theorem TM (k:Ex):[V.agg [.int .i64 k.op,.int .i64 k.letter,.list aa (k.kids.map enc)]]=[k].map enc:=by rw[←j6];rfl
theorem agy {n o:Int} {k:Ex} (hk:Gd n k) (ho:o=7∨o=8):CC zp [.int .i64 o,.list aa ([k].map enc)]=some (jA (fK o 0 [k])):=by
 refine TE ?_
 unfold KR
 rcases ho with rfl|rfl
 ·refine bF rfl (bF rfl (bF rfl (bF rfl (bs (a:=k.enc) rfl (bF rfl (bT rfl ?_))))))
  rw[AS,bI,bJ,bK,dy,dy,dy]
  by_cases h1:k.op=1
  ·rw[ag h1,ag (.inl h1)];exact bs Fo rfl
  ·rw[ai h1]
   by_cases U:k.op=2
   ·rw[ag U,ag (.inr U)];exact bs Fo rfl
   ·rw[ai U,ai (show¬(k.op=1∨k.op=2) by omega)]
    by_cases h7:k.op=7
    ·rw[ag h7,ag (.inl h7)];rfl
    ·rw[ai h7]
     refine bs (AW k) ?_
     cases hu:univ k with
     | true=>rw[ag (.inr rfl)];exact bT rfl rfl
     | false=>
      rw[ai (by rintro (h|h);exact h7 h;cases h)]
      refine bF rfl ?_
      rw[TM];rfl
 ·refine bF rfl (bF rfl (bF rfl (bF rfl (bs (a:=k.enc) rfl (bT rfl ?_)))))
  rw[AT,bI,bJ,bK,dy]
  by_cases h8:k.op=8
  ·rw[ag h8,ag h8]
   have hs:=mD hk.shape
   obtain ⟨o2,l2,kN⟩:=k
   simp only[Ex.op,Ex.kids,Ex.letter] at*
   match kN,(show (kN.length:Int)=1 by omega) with
   | [x],_=>
    refine bT (by simp) (bs (a:=x.enc) rfl ?_)
    rw[bI,bJ,bK];rfl
  ·rw[ai h8,ai h8,TM];rfl
theorem agz {α:Type} (a:List α) (x y:α) (b:List α) {i:Nat} (h:i=a.length):(a++x::b).set i y=(a++[y])++b:=by
 subst h;simp[List.set_append_right]
theorem agA {ks:List Ex} {a b c d:Int} {l1 l2:List V} (hn:ks.length≤1000000) (ih: ∀k∈ks,CC vS (c6 k [])=some (jA (ew k))):
  ∀(bp pre:List Ex),ks=pre++bp→∃t,Loop (Fm CC (ks.map enc) ((ks.map enc).length:Int) a b l1 c d l2) (((pre.length:Nat):Int),(pre.map ew).map enc++List.replicate bp.length (V.agg [.int .i64 0,.int .i64 0,.list aa ([]:List V)]))=some (((ks.map enc).length:Int),t,(ks.map ew).map enc):=by
 intro bp
 induction bp with
 | nil=>
  intro pre e
  rw[eI] at e
  subst e
  refine ⟨false,bq ?_⟩
  simp only[Fm,Bw,un,bM]
  rw[av,ai (by omega),c7 (by omega)]
  simp
 | cons k bp nx=>
  intro pre e
  have cU:pre.length<ks.length:=by rw[e];simp
  have dg:idx (ks.map enc) (pre.length:Int)=some k.enc:=by rw[e];exact lC _ _ _
  obtain ⟨t,ht⟩:=nx (pre++[k]) (by simp[e])
  refine ⟨t,(ct ?_).trans ht⟩
  simp only[Fm,Bw,un,bM]
  rw[av,ag (by omega),dg]
  simp only[Option.bind_some,bI,bJ,bK]
  refine bs (ih k (by rw[e];simp)) ?_
  refine bT (by simp only[aM,dw,dM,bM,uH,List.length_cons];omega) ?_
  refine bs (a:=V.agg [.int .i64 0,.int .i64 0,.list aa ([]:List V)]) ?_ ?_
  ·rw[Int.toNat_natCast,ja (by simp)]
   simp
  ·rw[wrap64 (by omega) (by omega),Int.toNat_natCast,List.length_cons,List.replicate_succ,agz _ _ _ _ (by simp)]
   show some (Sum.inl _)=some (Sum.inl _)
   refine congrArg (fun x=>some (Sum.inl x)) (Prod.ext ?_ ?_)
   ·simp
   ·simp only[o7,dB,nJ]
    rw[j6 (ew k)];rfl
theorem agB {n:Int} (hn:n≤6): ∀e:Ex,e.wf n=true→e.size≤1000000→CC vS (c6 e [])=some (jA (ew e)):=
 ind fun o l ks ih hw hs=>by
  obtain ⟨h1,U⟩:=qg hw
  have hl:=qk ks
  simp only[size] at hs
  have h3:=mD h1
  refine agq ?_
  unfold TH
  simp only[Ex.op,Ex.kids,Ex.letter,bM,dy]
  rw[AU]
  by_cases h0:ks=[]
  ·subst h0
   rw[ag (by simp),lH (by simp only[List.length_nil] at h3;omega)]
   rfl
  ·have hp:0<ks.length:=List.length_pos_iff.2 h0
   rw[ai (by omega)]
   refine bT (by simp only[aM,dw,eR,wh,Int.toNat_natCast];omega) ?_
   obtain ⟨t,ht⟩:=agA (a:=o) (b:=l) (c:=0) (d:=0) (l1:=ks.map enc) (l2:=[]) (ks:=ks) (by omega) (fun k hk=>ih k hk (U k hk) (by have:=JZ hk;omega)) ks [] rfl
   rw[bM] at ht
   refine bs ht ?_
   have hg: ∀k∈ks.map ew,Gd n k:=fun x hx=>by
    obtain ⟨k,hk,rfl⟩:=ib.1 hx
    exact EW k (U k hk)
   have hz:bt (ks.map ew)≤bt ks:=by
    clear ht h3 h1 hw ih hp h0 hl hs hg
    induction ks with
    | nil=>simp[bt]
    | cons k ks ih=>have a:=Ki k (U k (by simp));have b:=ih fun k hk=>U k (by simp[hk]);simp only[dB,bt];omega
   have ar: ∀k∈ks.map ew,k.Ok:=fun k hk=>RV hn k (hg k hk).2 (by have:=JZ hk;omega)
   rcases (show (o=4∨o=5∨o=6)∨(o=7∨o=8) by omega) with ho|ho
   ·obtain rfl:l=0:=by omega
    exact bs (agx hg ar (by omega) ho) rfl
   ·obtain rfl:l=0:=by omega
    have h5:ks.length=1:=by omega
    match ks,h5 with
    | [k],_=>exact bs (agy (hg (ew k) (by simp)) ho) rfl
theorem agC (e:Ex) (h:e.Ok):CC DN (c6 e [])=some (jA (if e.val 6=0 then ew e else bG)):=by
 refine agr ?_
 unfold TI
 refine bs (Ro e h) ?_
 by_cases hv:e.val 6=0
 ·have:=wL hv
  rw[ag hv]
  refine bF (by simp[hv]) ?_
  exact bs (agB (by omega) e this.2.2 (by omega)) rfl
 ·rw[ai hv]
  refine bT (by simp[hv]) ?_
  rfl
theorem agD {e:Ex} (hv:e.val 6=0):(ew e).Ok:=by
 have:=wL hv
 have U:=Ki e this.2.2
 exact RV (n:=6) (by omega) _ (EW e this.2.2).2 (by omega)
def hY:List Lg→Lg
 | []=>fun w=>w=[]
 | L::Ls=>L2 L (hY Ls)
theorem TN {A B C:Lg}:L2 (L2 A B) C=L2 A (L2 B C):=by
 funext w
 refine propext ⟨?_,?_⟩
 ·rintro ⟨_,z,rfl,⟨u,v,rfl,h1,U⟩,h3⟩
  exact ⟨u,v++z,da _ _ _,h1,v,z,rfl,U,h3⟩
 ·rintro ⟨u,_,rfl,h1,v,z,rfl,U,h3⟩
  exact ⟨u++v,z,(da _ _ _).symm,⟨u,v,rfl,h1,U⟩,h3⟩
theorem KS {A:Lg}:L2 A (fun w=>w=[])=A:=by
 funext w
 refine propext ⟨?_,fun h=>⟨w,[],by simp,h,rfl⟩⟩
 rintro ⟨u,v,rfl,h1,rfl⟩
 rwa [eI]
theorem TO {A:Lg}:L2 (fun w=>w=[]) A=A:=by
 funext w
 refine propext ⟨?_,fun h=>⟨[],w,rfl,rfl,h⟩⟩
 rintro ⟨u,v,rfl,rfl,h1⟩
 exact h1
theorem TP: ∀(Ls:List Lg) (A:Lg),Ls.foldl L2 A=L2 A (hY Ls)
 | [],A=>KS.symm
 | L::Ls,A=>by
  rw[List.foldl_cons,TP Ls,TN];rfl
theorem agE: ∀Ls:List Lg,zK Ls=hY Ls
 | []=>rfl
 | L::Ls=>TP Ls L
theorem TQ: ∀(A B:List Lg),hY (A++B)=L2 (hY A) (hY B)
 | [],B=>TO.symm
 | L::A,B=>by
  show L2 L (hY (A++B))=L2 (L2 L (hY A)) (hY B)
  rw[TQ A B,TN]
theorem agF {A:List Lg} (h:(fun _=>False)∈A):hY A=fun _=>False:=by
 induction A with
 | nil=>cases h
 | cons L A ih=>
  funext w
  refine propext ⟨?_,False.elim⟩
  rintro ⟨u,v,rfl,h1,U⟩
  rcases eH.1 h with rfl|h
  ·exact h1
  ·rw[ih h] at U;exact U
section
variable {n:Int}
theorem rV {e:Ex} (h:e.op=1):e.a9=fun _=>False:=by
 obtain ⟨o,l,ks⟩:=e
 rw[kK]
 have:o=1:=h
 subst this
 funext w;simp[ec]
theorem Fp {e:Ex} (h:e.op=2):e.a9=fun w=>w=[]:=by
 obtain ⟨o,l,ks⟩:=e
 rw[kK]
 have:o=2:=h
 subst this
 funext w;simp[ec]
theorem By:gm.a9=fun _=>True:=by
 unfold gm
 rw[kK]
 funext w
 simp[ec,qa,rV (e:=e7) rfl]
theorem Fq {l:Int} {ks:List Ex} {w:List UInt8}:(Ex.node 4 l ks).a9 w↔∃k∈ks,k.a9 w:=by
 rw[kK]
 show (∃L∈ks.map a9,L w)↔_
 constructor
 ·rintro ⟨L,hL,hw⟩
  obtain ⟨k,hk,rfl⟩:=ib.1 hL
  exact ⟨k,hk,hw⟩
 ·rintro ⟨k,hk,hw⟩
  exact ⟨_,ib.2 ⟨k,hk,rfl⟩,hw⟩
theorem Fs {l:Int} {ks:List Ex} {w:List UInt8}:(Ex.node 6 l ks).a9 w↔∀k∈ks,k.a9 w:=by
 rw[kK];simp[ec]
theorem KT {l:Int} {ks:List Ex}:(Ex.node 5 l ks).a9=hY (ks.map Ex.a9):=by
 rw[kK,←agE]
 funext w;simp[ec]
theorem KU {l:Int} {k:Ex}:(Ex.node 7 l [k]).a9=dr k.a9:=by
 rw[kK]
 funext w;simp[ec,qa]
theorem KV {l:Int} {k:Ex}:(Ex.node 8 l [k]).a9=fun w=> ¬k.a9 w:=by
 rw[kK]
 funext w;simp[ec,qa]
theorem uC {e:Ex} {o:Int} (h:e.op=o):e= .node o e.letter e.kids:=by
 obtain ⟨o',l,ks⟩:=e
 have:o'=o:=h
 subst this
 rfl
theorem agG {ks:List Ex} {w:List UInt8}:(∃x∈bP 4 ks,x.a9 w)↔∃k∈ks,k.a9 w:=by
 constructor
 ·rintro ⟨x,hx,hw⟩
  obtain ⟨k,hk,⟨h1,U⟩|⟨h1,rfl⟩⟩:=iz.1 hx
  ·exact ⟨k,hk,by rw[uC h1,Fq];exact ⟨x,U,hw⟩⟩
  ·exact ⟨x,hk,hw⟩
 ·rintro ⟨k,hk,hw⟩
  by_cases h:k.op=4
  ·rw[uC h,Fq] at hw
   obtain ⟨x,hx,hw⟩:=hw
   exact ⟨x,iz.2 ⟨k,hk,.inl ⟨h,hx⟩⟩,hw⟩
  ·exact ⟨k,iz.2 ⟨k,hk,.inr ⟨h,rfl⟩⟩,hw⟩
theorem agH {ks:List Ex} {w:List UInt8}:(∀x∈bP 6 ks,x.a9 w)↔∀k∈ks,k.a9 w:=by
 constructor
 ·intro h k hk
  by_cases ho:k.op=6
  ·rw[uC ho,Fs]
   exact fun x hx=>h x (iz.2 ⟨k,hk,.inl ⟨ho,hx⟩⟩)
  ·exact h k (iz.2 ⟨k,hk,.inr ⟨ho,rfl⟩⟩)
 ·intro h x hx
  obtain ⟨k,hk,⟨h1,U⟩|⟨h1,rfl⟩⟩:=iz.1 hx
  ·have:=h k hk
   rw[uC h1,Fs] at this
   exact this x U
  ·exact h x hk
theorem TR: ∀ks:List Ex,hY ((bP 5 ks).map Ex.a9)=hY (ks.map Ex.a9)
 | []=>rfl
 | k::ks=>by
  have ih:=TR ks
  unfold bP at*
  rw[o8,o7,TQ,ih,dB]
  show _=L2 k.a9 (hY (ks.map Ex.a9))
  by_cases h:k.op=5
  ·rw[ag h]
   have:k.a9=hY (k.kids.map Ex.a9):=by
    have:=congrArg Ex.a9 (uC h)
    rw[this,KT]
   rw[this]
  ·rw[ai h]
   show L2 (L2 k.a9 fun w=>w=[]) _=_
   rw[KS]
theorem TS: ∀ks:List Ex,hY ((ks.filter fun k=>decide (k.op≠2)).map Ex.a9)=hY (ks.map Ex.a9)
 | []=>rfl
 | k::ks=>by
  have ih:=TS ks
  by_cases h:k.op=2
  ·rw[List.filter_cons_of_neg (by simp[h]),ih]
   show _=L2 k.a9 (hY (ks.map Ex.a9))
   rw[Fp h,TO]
  ·rw[List.filter_cons_of_pos (by simp[h]),dB,dB]
   show L2 k.a9 _=L2 k.a9 _
   rw[ih]
theorem agI {R:List Ex} {w:List UInt8}:(fJ 4 R e7).a9 w↔∃k∈R,k.a9 w:=by
 match R with
 | []=>simp[fJ,rV (e:=e7) rfl]
 | [k]=>simp[fJ]
 | k::k2::R=>exact Fq
theorem agJ {R:List Ex} {w:List UInt8}:(fJ 6 R gm).a9 w↔∀k∈R,k.a9 w:=by
 match R with
 | []=>simp[fJ,By]
 | [k]=>simp[fJ]
 | k::k2::R=>exact Fs
theorem agK {R:List Ex}:(fJ 5 R lG).a9=hY (R.map Ex.a9):=by
 match R with
 | []=>exact Fp rfl
 | [k]=>exact KS.symm
 | k::k2::R=>exact KT
theorem agL {A:Lg}:dr (dr A)=dr A:=by
 funext w
 refine propext ⟨fun h=> ?_,.one⟩
 induction h with
 | nil=>exact .nil
 | cons a _ ih=>exact a.append ih
theorem agM {A:Lg} (h: ∀w,A w→w=[]):dr A=fun w=>w=[]:=by
 funext w
 refine propext ⟨fun hs=> ?_,fun e=>e▸ .nil⟩
 induction hs with
 | nil=>rfl
 | cons a _ ih=>rw[h _ a,ih];rfl
theorem agN {o l:Int} {ks:List Ex} (hk: ∀k∈ks,Gd n k) (hs:iy o l ks.length n=true):(fK o l ks).a9=(Ex.node o l ks).a9:=by
 rcases mD hs with ⟨rfl,_⟩|⟨_,⟨rfl,_⟩|⟨rfl,_⟩|⟨rfl,_⟩|⟨rfl,_⟩|⟨rfl,_⟩|⟨rfl,hlen⟩|⟨rfl,hlen⟩⟩
 ·rw[lH (by simp)]
 ·rw[lH (by simp)]
 ·rw[lH (by simp)]
 ·funext w
  refine propext ?_
  rw[AQ,Fq,←agG]
  by_cases h:(bP 4 ks).any univ=true
  ·rw[ag h]
   obtain ⟨x,hx,hu⟩:=ke.1 h
   have:=J9 (AO hk 4 x hx) hu
   subst this
   rw[By]
   exact ⟨fun _=>⟨gm,hx,by rw[By];trivial⟩,fun _=>trivial⟩
  ·rw[ai h,agI]
   constructor
   ·rintro ⟨x,hx,hw⟩
    exact ⟨x,(jc.1 (qm.1 hx)).1,hw⟩
   ·rintro ⟨x,hx,hw⟩
    refine ⟨x,qm.2 (jc.2 ⟨hx,?_⟩),hw⟩
    rw[dw]
    intro h1
    rw[rV h1] at hw
    exact hw
 ·rw[AP,KT,←TR]
  by_cases h:(bP 5 ks).any (fun k=>decide (k.op=1))=true
  ·rw[ag h,rV rfl]
   obtain ⟨x,hx,hu⟩:=ke.1 h
   rw[agF (ib.2 ⟨x,hx,rV (iB hu)⟩)]
  ·rw[ai h,agK,TS]
 ·funext w
  refine propext ?_
  rw[AR,Fs,←agH]
  by_cases h:(bP 6 ks).any (fun k=>decide (k.op=1))=true
  ·rw[ag h,rV rfl]
   obtain ⟨x,hx,hu⟩:=ke.1 h
   refine ⟨False.elim,fun kC=> ?_⟩
   have:=kC x hx
   rw[rV (iB hu)] at this
   exact this
  ·rw[ai h,agJ]
   constructor
   ·intro kC x hx
    by_cases hu:univ x=true
    ·rw[J9 (AO hk 6 x hx) hu,By];trivial
    ·exact kC x (qm.2 (jc.2 ⟨hx,by simp[hu]⟩))
   ·intro kC x hx
    exact kC x (jc.1 (qm.1 hx)).1
 ·obtain ⟨k,rfl⟩: ∃k,ks=[k]:=BL.1 (by omega)
  have hg:=hk k (by simp)
  rw[AS,KU]
  by_cases h:k.op=1∨k.op=2
  ·rw[ag h,Fp rfl]
   refine (agM fun w hw=> ?_).symm
   rcases h with h|h
   ·rw[rV h] at hw;exact hw.elim
   ·rw[Fp h] at hw;exact hw
  ·rw[ai h]
   by_cases h7:k.op=7∨univ k=true
   ·rw[ag h7]
    rcases h7 with h7|h7
    ·have rq:=hg.shape
     rw[h7] at rq
     have hl:k.kids.length=1:=by
      rcases mD rq with h|⟨_,h|h|h|h|h|h|h⟩<;>omega
     obtain ⟨z,hz⟩:=BL.1 hl
     have:=congrArg Ex.a9 (uC h7)
     rw[this,hz,KU,agL]
    ·rw[J9 hg h7,By]
     funext w
     exact propext ⟨fun _=> .one trivial,fun _=>trivial⟩
   ·rw[ai h7,KU]
 ·obtain ⟨k,rfl⟩: ∃k,ks=[k]:=BL.1 (by omega)
  have hg:=hk k (by simp)
  rw[AT,KV]
  by_cases h:k.op=8
  ·rw[ag h]
   have rq:=hg.shape
   rw[h] at rq
   have hl:k.kids.length=1:=by
    rcases mD rq with h|⟨_,h|h|h|h|h|h|h⟩<;>omega
   obtain ⟨z,hz⟩:=BL.1 hl
   have:=congrArg Ex.a9 (uC h)
   rw[this,hz,KV]
   funext w
   exact propext ⟨fun h1 U=>U h1,fun h1=>Classical.not_not.1 h1⟩
  ·rw[ai h,KV]
theorem agO {o l:Int} {A B:List Ex} (h:A.map Ex.a9=B.map Ex.a9):(Ex.node o l A).a9=(Ex.node o l B).a9:=by rw[kK,kK,h]
theorem agP: ∀e:Ex,e.wf n=true→(ew e).a9=e.a9:=ind fun o l ks ih hw=>by
 obtain ⟨h1,U⟩:=qg hw
 rw[AU,agN (n:=n) (fun k hk=>by
  obtain ⟨x,hx,rfl⟩:=ib.1 hk
  exact EW x (U x hx)) (by rw[bM];exact h1)]
 refine agO ?_
 rw[List.map_map]
 exact mR fun k hk=>ih k hk (U k hk)
end
end Go.AM
set_option maxRecDepth 100000
namespace Go.AM
open Go.Proofs
noncomputable def TT (C:af) (an aw:Int) (ah:List V) (cd:Int):Option (List V):=
 (C DQ [.int .i64 an,.int .i64 aw,.list aa ah]).bind fun r1=>
 bif (V.nth r1 0).toBool then
  (C DL [.int .i64 an,.int .i64 aw,.list aa ah]).bind fun r2=>
  bif decide ((((V.nth r2 0).toInt):Int)≤cd) then
  (C DR [.int .i64 an,.int .i64 aw,.list aa ah]).bind fun r3=>
  some [.bool (decide ((((V.nth r3 0).toInt):Int)≤12))]
  else
  some [.bool false]
 else
  some [.bool false]
theorem agQ {an aw:Int} {ah:List V} {cd:Int} {r:Option (List V)} (h:TT CC an aw ah cd=r):CC DM [.int .i64 an,.int .i64 aw,.list aa ah,.int .i64 cd]=r:=
 bd (key:=12) (L:=cr) (bs:=[]) (by kernel_rfl) az (ba (by kernel_rfl) h)
noncomputable def TU (C:af) (an aw:Int) (ah:List V):Option (List V):=
 (C rk [.int .i64 an,.int .i64 aw,.list aa ah,.int .i64 400]).bind fun r1=>
 some [.int .i64 ((V.nth (r1.drop 1) 0).toInt)]
theorem agR {an aw:Int} {ah:List V} {r:Option (List V)} (h:TU CC an aw ah=r):CC DR [.int .i64 an,.int .i64 aw,.list aa ah]=r:=
 bd (key:=41) (L:=cr) (bs:=[]) (by kernel_rfl) az (ba (by kernel_rfl) h)
end Go.AM
set_option maxRecDepth 100000
namespace Go.AM
open Go.Proofs Ex
theorem agS (e:Ex) (h:e.Ok) (hs:e.size≤400):CC DR (c6 e [])=some [.int .i64 e.depth]:=by
 obtain ⟨d,e1,e2⟩:=Jz e h 400 (by omega) (by omega)
 refine agR ?_
 unfold TU
 rw[e1,e2 (by omega)]
 simp
def lit (e:Ex) (cd:Int):Prop:=e.val 6=0∧(e.size:Int)≤cd∧e.depth≤12
instance (e:Ex) (cd:Int):Decidable (lit e cd):=by unfold lit;infer_instance
theorem agT (e:Ex) (h:e.Ok) (cd:Int):CC DM (c6 e [.int .i64 cd])=some [.bool (decide (lit e cd))]:=by
 refine agQ ?_
 unfold TT
 refine (congrArg (fun o=>Option.bind o _) (adb e h)).trans ?_
 simp only[Option.bind_some,V.aI,V.cK,av]
 by_cases h1:e.val 6=0
 ·have hs:=(wL h1).2.1
  rw[ag h1]
  refine (congrArg (fun o=>Option.bind o _) (adf e h hs)).trans ?_
  simp only[Option.bind_some,V.aI,V.toInt_int,av]
  by_cases U:(e.size:Int)≤cd
  ·rw[ag U]
   refine (congrArg (fun o=>Option.bind o _) (agS e h hs)).trans ?_
   simp only[Option.bind_some,V.aI,V.toInt_int]
   congr 3
   rw[decide_eq_decide]
   unfold lit
   exact ⟨fun h3=>⟨h1,U,by omega⟩,fun h3=>by have:=h3.2.2;omega⟩
  ·rw[ai U,c7 (fun h=>U h.2.1)]
 ·rw[ai h1,c7 (fun h=>h1 h.1)]
end Go.AM
set_option maxRecDepth 100000
namespace Go.AM
open Go.Proofs
theorem KW:CC zi []=some [.bool true]:=XO (N:=40) (n:=40) (by kernel_rfl)
noncomputable def TV (C:af) (an aw:Int) (ah:List V) (w:List UInt8):Option (List V):=
 (C DM [.int .i64 an,.int .i64 aw,.list aa ah,.int .i64 40]).bind fun r1=>
 bif !((V.nth r1 0).toBool) then
  (C zi []).bind fun r2=>
  some [.bool ((V.nth r2 0).toBool)]
 else
  bif decide (((w.length:Int):Int)>8) then
  (C zi []).bind fun r3=>
  some [.bool ((V.nth r3 0).toBool)]
  else
  (C DN [.int .i64 an,.int .i64 aw,.list aa ah]).bind fun r4=>
  (C zj [.int .i64 ((V.nth r4 0).toInt),.int .i64 ((V.nth (r4.drop 1) 0).toInt),.list aa ((V.nth ((r4.drop 1).drop 1) 0).toList),.str w]).bind fun r5=>
  (C zj [.int .i64 an,.int .i64 aw,.list aa ah,.str w]).bind fun r6=>
  bif ((V.nth r5 0).toBool)==((V.nth r6 0).toBool) then
   (C zi []).bind fun r7=>
   some [.bool ((V.nth r7 0).toBool)]
  else
   some [.bool false]
theorem agU {an aw:Int} {ah:List V} {w:List UInt8} {r:Option (List V)} (h:TV CC an aw ah w=r):CC HT [.int .i64 an,.int .i64 aw,.list aa ah,.str w]=r:=
 bd (key:=4) (L:=cr) (bs:=[]) (by kernel_rfl) az (ba (by kernel_rfl) h)
end Go.AM
set_option maxRecDepth 100000
namespace Go.AM
open Go.Proofs Ex
theorem TY (e:Ex) (h:e.Ok) (w:List UInt8):CC HT (c6 e [.str w])=some [.bool true]:=by
 refine agU ?_
 unfold TV
 refine bs (agT e h 40) ?_
 by_cases hl:lit e 40
 case neg=>exact bT (by rw[V.aI,V.cK,c7 hl];rfl) (bs KW rfl)
 refine bF (by rw[V.aI,V.cK,nM hl];rfl) ?_
 rw[av]
 by_cases h8:(w.length:Int)>8
 ·rw[ag h8];exact bs KW rfl
 rw[ai h8]
 have hN:=agC e h
 rw[ag hl.1] at hN
 have hw:=(wL hl.1).2.2
 have hm:tW (ew e) w=tW e w:=by
  rw[qC,AH,AH,agP e hw]
  have hv:(ew e).val 6=0:=by
   have a:=wL hl.1
   have b:=Ki e hw
   have c:=ad5 e hw
   have d:=(EW e hw).2
   unfold Ex.val
   rw[ag (by omega),ag ⟨by omega,by omega⟩,ag d]
  exact ⟨fun a=>⟨hl.1,a.2⟩,fun a=>⟨hv,a.2⟩⟩
 refine bs hN (bs (Rs (ew e) (agD hl.1) w) (bs (Rs e h w) (bT ?_ (bs KW rfl))))
 rw[V.aI,V.aI,V.cK,V.cK,hm]
 exact beq_self_eq_true _
end Go.AM
