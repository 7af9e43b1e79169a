/-
  Functions of the program, lifted to plain data.
-/
import Derived.Test.YtbbgbkiefjilcaaGreatDoorP6
set_option linter.unusedVariables false
set_option linter.unusedSimpArgs false
set_option maxRecDepth 100000
namespace Go.AM
open Go.Proofs
noncomputable abbrev J6:Code:=bU Tryz.prog (az.aT 97)
noncomputable def Ah (C:af) (a b' i j:Int) (ae:List V) {β:Type} (kn:(Int × (List V))→Option β) (kr:(Int × Bool × (List V))→Option β):Option β:=
 bif decide ((j:Int)>a) then
  bif (decide (0≤j))&&(decide (j<(ae.length:Int))) then
  (ae[(j:Int).toNat]?).bind fun x1=>
  bif (decide (0≤(IntKind.wrap .i64 (j-1))))&&(decide ((IntKind.wrap .i64 (j-1))<(ae.length:Int))) then
   (ae[(IntKind.wrap .i64 (j-1):Int).toNat]?).bind fun x2=>
   (C bE [.int .i64 ((x1.cell 0).toInt),.int .i64 ((x1.cell 1).toInt),.int .i64 ((x1.cell 2).toInt),.int .i64 ((x2.cell 0).toInt),.int .i64 ((x2.cell 1).toInt),.int .i64 ((x2.cell 2).toInt)]).bind fun r3=>
   bif decide ((((V.nth r3 0).toInt):Int)<0) then
   bif (decide (0≤(IntKind.wrap .i64 (j-1))))&&(decide ((IntKind.wrap .i64 (j-1))<(ae.length:Int))) then
    (ae[(IntKind.wrap .i64 (j-1):Int).toNat]?).bind fun x4=>
    bif (decide (0≤j))&&(decide (j<(ae.length:Int))) then
    (ae[(j:Int).toNat]?).bind fun x5=>
    bif (decide (0≤j))&&(decide (j<(ae.length:Int))) then
     (ae[(j:Int).toNat]?).bind fun x6=>
     bif (decide (0≤(IntKind.wrap .i64 (j-1))))&&(decide ((IntKind.wrap .i64 (j-1))<((ae.set ((j:Int).toNat) (.agg [.int .i64 ((x4.cell 0).toInt),.int .i64 ((x4.cell 1).toInt),.int .i64 ((x4.cell 2).toInt)])).length:Int))) then
     ((ae.set ((j:Int).toNat) (.agg [.int .i64 ((x4.cell 0).toInt),.int .i64 ((x4.cell 1).toInt),.int .i64 ((x4.cell 2).toInt)]))[(IntKind.wrap .i64 (j-1):Int).toNat]?).bind fun x7=>
     kn (IntKind.wrap .i64 (j-1),(ae.set ((j:Int).toNat) (.agg [.int .i64 ((x4.cell 0).toInt),.int .i64 ((x4.cell 1).toInt),.int .i64 ((x4.cell 2).toInt)])).set ((IntKind.wrap .i64 (j-1):Int).toNat) (.agg [.int .i64 ((x5.cell 0).toInt),.int .i64 ((x5.cell 1).toInt),.int .i64 ((x5.cell 2).toInt)]))
     else none
    else none
    else none
   else none
   else
   kr (j,decide ((((V.nth r3 0).toInt):Int)<0),ae)
  else none
  else none
 else
  kr (j,false,ae)
noncomputable def Ai (C:af) (a b' i:Int):(Int × (List V))→Option ((Int × (List V)) ⊕ (Int × Bool × (List V))):=un fun j ae=>Ah C a b' i j ae (fun y=>some (.inl y)) (fun r=>some (.inr r))
noncomputable def EP (C:af) (a b' i:Int) (ae:List V) {β:Type} (kn:(Int × (List V))→Option β) (kr:(Int × Bool × (List V))→Option β):Option β:=
 bif decide ((i:Int)<b') then
  (Loop (Ai C a b' i) (i,ae)).bind (un fun (j_8:Int)=>un fun (oW:Bool) (iy:List V)=>
   kn (IntKind.wrap .i64 (i+1),iy))
 else
  kr (i,decide ((i:Int)<b'),ae)
noncomputable def J7 (C:af) (a b':Int):(Int × (List V))→Option ((Int × (List V)) ⊕ (Int × Bool × (List V))):=un fun i ae=>EP C a b' i ae (fun y=>some (.inl y)) (fun r=>some (.inr r))
noncomputable def aaO (C:af):cj:=fun β n ds k=>
 bif Nat.beq n 65 then bt NY [false,false,false,true,true] [[1,2,3,0,0,0]] (@Ah C) ds k else
 bif Nat.beq n 17 then bt NZ [false,false,true,true] [[1,2,0,0,0]] (@EP C) ds k else
 none
abbrev aaP (C:af) (b:cg):Prop:=ch Tryz.prog az C (aaO C) 97 (cv Tryz.prog (az.aT 97)) (az.sin 97).bf.length b
theorem amz (C:af):aaP C (.loop (aq [1,0,0,1,0,0,1,0,0] J6)):=
 bw NY [false,false,false,true,true] [[1,2,3,0,0,0]] (@Ah C) (by kernel_rfl) (aM (bs:=[]) (by kernel_rfl) aw) (fun ds=>by kernel_rfl) (fun i x=>by kernel_rfl) (fun i x β k=>by kernel_rfl) (fun β ds k=>by kernel_rfl)
theorem amA (C:af):aaP C (.loop (aq [1,0,0] J6)):=
 bw NZ [false,false,true,true] [[1,2,0,0,0]] (@EP C) (by kernel_rfl) (aM (bs:=[.loop (aq [1,0,0,1,0,0,1,0,0] J6)]) (by kernel_rfl) (aZ (amz C) aw)) (fun ds=>by kernel_rfl) (fun i x=>by kernel_rfl) (fun i x β k=>by kernel_rfl) (fun β ds k=>by kernel_rfl)
noncomputable def aaQ (C:af) (a b':Int) (ae:List V):Option (List V):=
 (Loop (J7 C a b') (IntKind.wrap .i64 (a+1),ae)).bind (un fun (aje:Int)=>un fun (CR:Bool) (wy:List V)=>
  some [.list aS wy])
theorem amB {a b':Int} {ae:List V} {r:Option (List V)} (h:aaQ CC a b' ae=r):CC Cr [.int .i64 a,.int .i64 b',.list aS ae]=r:=
 bn (key:=97) (L:=aaO CC) (bs:=[.loop (aq [1,0,0] J6)]) (by kernel_rfl) (aZ (amA CC) aw) (bm (by kernel_rfl) h)
noncomputable abbrev Aj:Code:=bU Tryz.prog (az.aT 135)
noncomputable def w7 (C:af) (hi first root child:Int) (t40:Bool) (ae:List V) {β:Type} (kr:(Int)→Option β):Option β:=
 bif t40 then
  kr (IntKind.wrap .i64 (child+1))
 else
  kr child
noncomputable def uA (C:af) (hi first root:Int) (ae:List V) {β:Type} (kn:(Int × (List V))→Option β) (kr:((Int × Int × Bool × (List V)) ⊕ (Int × Int × Bool × (List V)))→Option β):Option β:=
 bif decide (((IntKind.wrap .i64 ((IntKind.wrap .i64 (root*2))+1)):Int)≥hi) then
  kr (.inl (root,IntKind.wrap .i64 ((IntKind.wrap .i64 (root*2))+1),decide (((IntKind.wrap .i64 ((IntKind.wrap .i64 (root*2))+1)):Int)≥hi),ae))
 else
  bif decide (((IntKind.wrap .i64 ((IntKind.wrap .i64 ((IntKind.wrap .i64 (root*2))+1))+1)):Int)<hi) then
  bif (decide (0≤(IntKind.wrap .i64 (first+(IntKind.wrap .i64 ((IntKind.wrap .i64 (root*2))+1))))))&&(decide ((IntKind.wrap .i64 (first+(IntKind.wrap .i64 ((IntKind.wrap .i64 (root*2))+1))))<(ae.length:Int))) then
   (ae[(IntKind.wrap .i64 (first+(IntKind.wrap .i64 ((IntKind.wrap .i64 (root*2))+1))):Int).toNat]?).bind fun x1=>
   bif (decide (0≤(IntKind.wrap .i64 ((IntKind.wrap .i64 (first+(IntKind.wrap .i64 ((IntKind.wrap .i64 (root*2))+1))))+1))))&&(decide ((IntKind.wrap .i64 ((IntKind.wrap .i64 (first+(IntKind.wrap .i64 ((IntKind.wrap .i64 (root*2))+1))))+1))<(ae.length:Int))) then
   (ae[(IntKind.wrap .i64 ((IntKind.wrap .i64 (first+(IntKind.wrap .i64 ((IntKind.wrap .i64 (root*2))+1))))+1):Int).toNat]?).bind fun x2=>
   (C bE [.int .i64 ((x1.cell 0).toInt),.int .i64 ((x1.cell 1).toInt),.int .i64 ((x1.cell 2).toInt),.int .i64 ((x2.cell 0).toInt),.int .i64 ((x2.cell 1).toInt),.int .i64 ((x2.cell 2).toInt)]).bind fun r3=>
   w7 C hi first root (IntKind.wrap .i64 ((IntKind.wrap .i64 (root*2))+1)) (decide ((((V.nth r3 0).toInt):Int)<0)) ae (fun (gK:Int)=>
    bif (decide (0≤(IntKind.wrap .i64 (first+root))))&&(decide ((IntKind.wrap .i64 (first+root))<(ae.length:Int))) then
     (ae[(IntKind.wrap .i64 (first+root):Int).toNat]?).bind fun x5=>
     bif (decide (0≤(IntKind.wrap .i64 (first+gK))))&&(decide ((IntKind.wrap .i64 (first+gK))<(ae.length:Int))) then
     (ae[(IntKind.wrap .i64 (first+gK):Int).toNat]?).bind fun x6=>
     (C bE [.int .i64 ((x5.cell 0).toInt),.int .i64 ((x5.cell 1).toInt),.int .i64 ((x5.cell 2).toInt),.int .i64 ((x6.cell 0).toInt),.int .i64 ((x6.cell 1).toInt),.int .i64 ((x6.cell 2).toInt)]).bind fun r7=>
     bif !(decide ((((V.nth r7 0).toInt):Int)<0)) then
      kr (.inr (root,gK,!(decide ((((V.nth r7 0).toInt):Int)<0)),ae))
     else
      bif (decide (0≤(IntKind.wrap .i64 (first+gK))))&&(decide ((IntKind.wrap .i64 (first+gK))<(ae.length:Int))) then
      (ae[(IntKind.wrap .i64 (first+gK):Int).toNat]?).bind fun x8=>
      bif (decide (0≤(IntKind.wrap .i64 (first+root))))&&(decide ((IntKind.wrap .i64 (first+root))<(ae.length:Int))) then
       (ae[(IntKind.wrap .i64 (first+root):Int).toNat]?).bind fun x9=>
       bif (decide (0≤(IntKind.wrap .i64 (first+root))))&&(decide ((IntKind.wrap .i64 (first+root))<(ae.length:Int))) then
       (ae[(IntKind.wrap .i64 (first+root):Int).toNat]?).bind fun fB=>
       bif (decide (0≤(IntKind.wrap .i64 (first+gK))))&&(decide ((IntKind.wrap .i64 (first+gK))<((ae.set ((IntKind.wrap .i64 (first+root):Int).toNat) (.agg [.int .i64 ((x8.cell 0).toInt),.int .i64 ((x8.cell 1).toInt),.int .i64 ((x8.cell 2).toInt)])).length:Int))) then
        ((ae.set ((IntKind.wrap .i64 (first+root):Int).toNat) (.agg [.int .i64 ((x8.cell 0).toInt),.int .i64 ((x8.cell 1).toInt),.int .i64 ((x8.cell 2).toInt)]))[(IntKind.wrap .i64 (first+gK):Int).toNat]?).bind fun fC=>
        kn (gK,(ae.set ((IntKind.wrap .i64 (first+root):Int).toNat) (.agg [.int .i64 ((x8.cell 0).toInt),.int .i64 ((x8.cell 1).toInt),.int .i64 ((x8.cell 2).toInt)])).set ((IntKind.wrap .i64 (first+gK):Int).toNat) (.agg [.int .i64 ((x9.cell 0).toInt),.int .i64 ((x9.cell 1).toInt),.int .i64 ((x9.cell 2).toInt)]))
       else none
       else none
      else none
      else none
     else none
    else none)
   else none
  else none
  else
  w7 C hi first root (IntKind.wrap .i64 ((IntKind.wrap .i64 (root*2))+1)) false ae (fun (gL:Int)=>
   bif (decide (0≤(IntKind.wrap .i64 (first+root))))&&(decide ((IntKind.wrap .i64 (first+root))<(ae.length:Int))) then
    (ae[(IntKind.wrap .i64 (first+root):Int).toNat]?).bind fun dS=>
    bif (decide (0≤(IntKind.wrap .i64 (first+gL))))&&(decide ((IntKind.wrap .i64 (first+gL))<(ae.length:Int))) then
    (ae[(IntKind.wrap .i64 (first+gL):Int).toNat]?).bind fun iz=>
    (C bE [.int .i64 ((dS.cell 0).toInt),.int .i64 ((dS.cell 1).toInt),.int .i64 ((dS.cell 2).toInt),.int .i64 ((iz.cell 0).toInt),.int .i64 ((iz.cell 1).toInt),.int .i64 ((iz.cell 2).toInt)]).bind fun pZ=>
    bif !(decide ((((V.nth pZ 0).toInt):Int)<0)) then
     kr (.inr (root,gL,!(decide ((((V.nth pZ 0).toInt):Int)<0)),ae))
    else
     bif (decide (0≤(IntKind.wrap .i64 (first+gL))))&&(decide ((IntKind.wrap .i64 (first+gL))<(ae.length:Int))) then
     (ae[(IntKind.wrap .i64 (first+gL):Int).toNat]?).bind fun da=>
     bif (decide (0≤(IntKind.wrap .i64 (first+root))))&&(decide ((IntKind.wrap .i64 (first+root))<(ae.length:Int))) then
      (ae[(IntKind.wrap .i64 (first+root):Int).toNat]?).bind fun p5=>
      bif (decide (0≤(IntKind.wrap .i64 (first+root))))&&(decide ((IntKind.wrap .i64 (first+root))<(ae.length:Int))) then
      (ae[(IntKind.wrap .i64 (first+root):Int).toNat]?).bind fun kJ=>
      bif (decide (0≤(IntKind.wrap .i64 (first+gL))))&&(decide ((IntKind.wrap .i64 (first+gL))<((ae.set ((IntKind.wrap .i64 (first+root):Int).toNat) (.agg [.int .i64 ((da.cell 0).toInt),.int .i64 ((da.cell 1).toInt),.int .i64 ((da.cell 2).toInt)])).length:Int))) then
       ((ae.set ((IntKind.wrap .i64 (first+root):Int).toNat) (.agg [.int .i64 ((da.cell 0).toInt),.int .i64 ((da.cell 1).toInt),.int .i64 ((da.cell 2).toInt)]))[(IntKind.wrap .i64 (first+gL):Int).toNat]?).bind fun gM=>
       kn (gL,(ae.set ((IntKind.wrap .i64 (first+root):Int).toNat) (.agg [.int .i64 ((da.cell 0).toInt),.int .i64 ((da.cell 1).toInt),.int .i64 ((da.cell 2).toInt)])).set ((IntKind.wrap .i64 (first+gL):Int).toNat) (.agg [.int .i64 ((p5.cell 0).toInt),.int .i64 ((p5.cell 1).toInt),.int .i64 ((p5.cell 2).toInt)]))
      else none
      else none
     else none
     else none
    else none
   else none)
noncomputable def qj (C:af) (hi first:Int):(Int × (List V))→Option ((Int × (List V)) ⊕ ((Int × Int × Bool × (List V)) ⊕ (Int × Int × Bool × (List V)))):=un fun root ae=>uA C hi first root ae (fun y=>some (.inl y)) (fun r=>some (.inr r))
noncomputable def aaR (C:af):cj:=fun β n ds k=>
 bif Nat.beq n 655 then fM OP [[1,2,3,0,6]] (@w7 C) ds k else
 bif Nat.beq n 17 then bt OQ [false,false,true,true] [[1,2,0,0,0,0],[1,2,0,0,0,0]] (@uA C) ds k else
 none
abbrev aaS (C:af) (b:cg):Prop:=ch Tryz.prog az C (aaR C) 135 (cv Tryz.prog (az.aT 135)) (az.sin 135).bf.length b
theorem amC (C:af):aaS C (.cond 40 (aq [1,0,0,0,1,1,0,1,0] Aj) (aq [1,0,0,0,1,1,0,1,1] Aj)):=
 fX OP [[1,2,3,0,6]] (@w7 C) (by kernel_rfl) (aM (bs:=[]) (by kernel_rfl) aw) (aM (bs:=[]) (by kernel_rfl) aw) (fun ds=>by kernel_rfl) (fun i β k=>by kernel_rfl) (fun β ds k=>by kernel_rfl)
theorem amD (C:af):aaS C (.loop (aq [1,0,0] Aj)):=
 bw OQ [false,false,true,true] [[1,2,0,0,0,0],[1,2,0,0,0,0]] (@uA C) (by kernel_rfl) (aM (bs:=[.cond 40 (aq [1,0,0,0,1,1,0,1,0] Aj) (aq [1,0,0,0,1,1,0,1,1] Aj)]) (by kernel_rfl) (aZ (amC C) aw)) (fun ds=>by kernel_rfl) (fun i x=>by kernel_rfl) (fun i x β k=>by kernel_rfl) (fun β ds k=>by kernel_rfl)
noncomputable def aaT (C:af) (lo hi first:Int) (ae:List V):Option (List V):=
 (Loop (qj C hi first) (lo,ae)).bind (bD (un fun (aji:Int)=>un fun (ajj:Int)=>un fun (y9:Bool) (PU:List V)=>
  some [.list aS PU]) (un fun (ajk:Int)=>un fun (ajl:Int)=>un fun (CT:Bool) (jL:List V)=>
  some [.list aS jL]))
theorem amE {lo hi first:Int} {ae:List V} {r:Option (List V)} (h:aaT CC lo hi first ae=r):CC Cy [.int .i64 lo,.int .i64 hi,.int .i64 first,.list aS ae]=r:=
 bn (key:=135) (L:=aaR CC) (bs:=[.loop (aq [1,0,0] Aj)]) (by kernel_rfl) (aZ (amD CC) aw) (bm (by kernel_rfl) h)
noncomputable abbrev J8:Code:=bU Tryz.prog (az.aT 98)
noncomputable def ER (C:af) (first lo hi i:Int) (ae:List V) {β:Type} (kn:(Int × (List V))→Option β) (kr:(Int × Bool × (List V))→Option β):Option β:=
 bif decide ((i:Int)≥0) then
  (C Cy [.int .i64 i,.int .i64 hi,.int .i64 first,.list aS ae]).bind fun r1=>
  kn (IntKind.wrap .i64 (i-1),(V.nth r1 0).toList)
 else
  kr (i,decide ((i:Int)≥0),ae)
noncomputable def J9 (C:af) (first lo hi:Int):(Int × (List V))→Option ((Int × (List V)) ⊕ (Int × Bool × (List V))):=un fun i ae=>ER C first lo hi i ae (fun y=>some (.inl y)) (fun r=>some (.inr r))
noncomputable def ES (C:af) (first lo i:Int) (ae:List V) {β:Type} (kn:(Int × (List V))→Option β) (kr:(Int × Bool × (List V))→Option β):Option β:=
 bif decide ((i:Int)≥0) then
  bif (decide (0≤(IntKind.wrap .i64 (first+i))))&&(decide ((IntKind.wrap .i64 (first+i))<(ae.length:Int))) then
  (ae[(IntKind.wrap .i64 (first+i):Int).toNat]?).bind fun x5=>
  bif (decide (0≤first))&&(decide (first<(ae.length:Int))) then
   (ae[(first:Int).toNat]?).bind fun x6=>
   bif (decide (0≤first))&&(decide (first<(ae.length:Int))) then
   (ae[(first:Int).toNat]?).bind fun x7=>
   bif (decide (0≤(IntKind.wrap .i64 (first+i))))&&(decide ((IntKind.wrap .i64 (first+i))<((ae.set ((first:Int).toNat) (.agg [.int .i64 ((x5.cell 0).toInt),.int .i64 ((x5.cell 1).toInt),.int .i64 ((x5.cell 2).toInt)])).length:Int))) then
    ((ae.set ((first:Int).toNat) (.agg [.int .i64 ((x5.cell 0).toInt),.int .i64 ((x5.cell 1).toInt),.int .i64 ((x5.cell 2).toInt)]))[(IntKind.wrap .i64 (first+i):Int).toNat]?).bind fun x8=>
    (C Cy [.int .i64 lo,.int .i64 i,.int .i64 first,.list aS ((ae.set ((first:Int).toNat) (.agg [.int .i64 ((x5.cell 0).toInt),.int .i64 ((x5.cell 1).toInt),.int .i64 ((x5.cell 2).toInt)])).set ((IntKind.wrap .i64 (first+i):Int).toNat) (.agg [.int .i64 ((x6.cell 0).toInt),.int .i64 ((x6.cell 1).toInt),.int .i64 ((x6.cell 2).toInt)]))]).bind fun r9=>
    kn (IntKind.wrap .i64 (i-1),(V.nth r9 0).toList)
   else none
   else none
  else none
  else none
 else
  kr (i,decide ((i:Int)≥0),ae)
noncomputable def Ka (C:af) (first lo:Int):(Int × (List V))→Option ((Int × (List V)) ⊕ (Int × Bool × (List V))):=un fun i ae=>ES C first lo i ae (fun y=>some (.inl y)) (fun r=>some (.inr r))
noncomputable def aaU (C:af):cj:=fun β n ds k=>
 bif Nat.beq n 65 then bt N0 [false,false,false,true,true] [[1,2,3,0,0,0]] (@ER C) ds k else
 bif Nat.beq n 129 then bt N3 [false,false,true,true] [[1,2,0,0,0]] (@ES C) ds k else
 none
abbrev aaV (C:af) (b:cg):Prop:=ch Tryz.prog az C (aaU C) 98 (cv Tryz.prog (az.aT 98)) (az.sin 98).bf.length b
theorem amF (C:af):aaV C (.loop (aq [1,1,1,0,1,0,0] J8)):=
 bw N0 [false,false,false,true,true] [[1,2,3,0,0,0]] (@ER C) (by kernel_rfl) (aM (bs:=[]) (by kernel_rfl) aw) (fun ds=>by kernel_rfl) (fun i x=>by kernel_rfl) (fun i x β k=>by kernel_rfl) (fun β ds k=>by kernel_rfl)
theorem amG (C:af):aaV C (.loop (aq [1,1,1,1,1,0,0] J8)):=
 bw N3 [false,false,true,true] [[1,2,0,0,0]] (@ES C) (by kernel_rfl) (aM (bs:=[]) (by kernel_rfl) aw) (fun ds=>by kernel_rfl) (fun i x=>by kernel_rfl) (fun i x β k=>by kernel_rfl) (fun β ds k=>by kernel_rfl)
noncomputable def aaW (C:af) (a b':Int) (ae:List V):Option (List V):=
 (Loop (J9 C a 0 (IntKind.wrap .i64 (b'-a))) (IntKind.wrap .i64 (Int.tdiv (IntKind.wrap .i64 ((IntKind.wrap .i64 (b'-a))-1)) 2),ae)).bind (un fun (i_2:Int)=>un fun (fN:Bool) (PV:List V)=>
  (Loop (Ka C a 0) (IntKind.wrap .i64 ((IntKind.wrap .i64 (b'-a))-1),PV)).bind (un fun (ajp:Int)=>un fun (CQ:Bool) (ga:List V)=>
   some [.list aS ga]))
theorem amH {a b':Int} {ae:List V} {r:Option (List V)} (h:aaW CC a b' ae=r):CC Cs [.int .i64 a,.int .i64 b',.list aS ae]=r:=
 bn (key:=98) (L:=aaU CC) (bs:=[.loop (aq [1,1,1,0,1,0,0] J8),.loop (aq [1,1,1,1,1,0,0] J8)]) (by kernel_rfl) (aZ (amF CC) (aZ (amG CC) aw)) (bm (by kernel_rfl) h)
noncomputable abbrev aaX:Code:=bU Tryz.prog (az.aT 101)
noncomputable def Ak (C:af) (i j:Int) (ae:List V) {β:Type} (kn:(Int × Int × (List V))→Option β) (kr:(Int × Int × Bool × (List V))→Option β):Option β:=
 bif decide ((i:Int)<j) then
  bif (decide (0≤j))&&(decide (j<(ae.length:Int))) then
  (ae[(j:Int).toNat]?).bind fun x1=>
  bif (decide (0≤i))&&(decide (i<(ae.length:Int))) then
   (ae[(i:Int).toNat]?).bind fun x2=>
   bif (decide (0≤i))&&(decide (i<(ae.length:Int))) then
   (ae[(i:Int).toNat]?).bind fun x3=>
   bif (decide (0≤j))&&(decide (j<((ae.set ((i:Int).toNat) (.agg [.int .i64 ((x1.cell 0).toInt),.int .i64 ((x1.cell 1).toInt),.int .i64 ((x1.cell 2).toInt)])).length:Int))) then
    ((ae.set ((i:Int).toNat) (.agg [.int .i64 ((x1.cell 0).toInt),.int .i64 ((x1.cell 1).toInt),.int .i64 ((x1.cell 2).toInt)]))[(j:Int).toNat]?).bind fun x4=>
    kn (IntKind.wrap .i64 (i+1),IntKind.wrap .i64 (j-1),(ae.set ((i:Int).toNat) (.agg [.int .i64 ((x1.cell 0).toInt),.int .i64 ((x1.cell 1).toInt),.int .i64 ((x1.cell 2).toInt)])).set ((j:Int).toNat) (.agg [.int .i64 ((x2.cell 0).toInt),.int .i64 ((x2.cell 1).toInt),.int .i64 ((x2.cell 2).toInt)]))
   else none
   else none
  else none
  else none
 else
  kr (i,j,decide ((i:Int)<j),ae)
noncomputable def ET (C:af):(Int × Int × (List V))→Option ((Int × Int × (List V)) ⊕ (Int × Int × Bool × (List V))):=un fun i=>un fun j ae=>Ak C i j ae (fun y=>some (.inl y)) (fun r=>some (.inr r))
noncomputable def aaY (C:af):cj:=fun β n ds k=>
 bif Nat.beq n 33 then bt N8 [true,true,true] [[0,0,0,0]] (@Ak C) ds k else
 none
abbrev amI (C:af) (b:cg):Prop:=ch Tryz.prog az C (aaY C) 101 (cv Tryz.prog (az.aT 101)) (az.sin 101).bf.length b
theorem amJ (C:af):amI C (.loop (aq [1,1,0,0] aaX)):=
 bw N8 [true,true,true] [[0,0,0,0]] (@Ak C) (by kernel_rfl) (aM (bs:=[]) (by kernel_rfl) aw) (fun ds=>by kernel_rfl) (fun i x=>by kernel_rfl) (fun i x β k=>by kernel_rfl) (fun β ds k=>by kernel_rfl)
noncomputable def aaZ (C:af) (a b':Int) (ae:List V):Option (List V):=
 (Loop (ET C) (a,IntKind.wrap .i64 (b'-1),ae)).bind (un fun (cB:Int)=>un fun (Db:Int)=>un fun (sC:Bool) (PW:List V)=>
  some [.list aS PW])
theorem amK {a b':Int} {ae:List V} {r:Option (List V)} (h:aaZ CC a b' ae=r):CC H5 [.int .i64 a,.int .i64 b',.list aS ae]=r:=
 bn (key:=101) (L:=aaY CC) (bs:=[.loop (aq [1,1,0,0] aaX)]) (by kernel_rfl) (aZ (amJ CC) aw) (bm (by kernel_rfl) h)
end Go.AM
set_option maxRecDepth 100000
set_option maxHeartbeats 4000000
namespace Go.AM
open Go.Proofs Go.Sort
def an (a b:Ed):Bool:=decide (cD a b<0)
theorem kK (a b:Ed):(an a b=true)=(cD a b<0):=by unfold an;rw[dX]
theorem jM (a b:Ed):((!an a b)=true)= ¬(cD a b<0):=by unfold an;simp
abbrev eA (d:Array Ed):List V:=o6 Ed.enc d
theorem PX (a j:Nat) (d:Array Ed):insInner an a (j+1) d=if j+1>a then (if cD d[j+1]! d[j]! <0 then insInner an a j (swp d (j+1) j) else d) else d:=by
 rw[PT]
 by_cases h1:j+1>a
 ·rw[ag h1];simp only[h1,og,lE,kK]
 ·rw[ah h1,ah (by simp[h1])]
theorem wA (hi first root:Nat) (d:Array Ed):siftDown an hi first root d=
  if 2*root+1≥hi then d else
   if 2*root+2<hi then
    (if cD d[first+(2*root+1)]! d[first+(2*root+2)]! <0 then
     (if cD d[first+root]! d[first+(2*root+2)]! <0 then siftDown an hi first (2*root+2) (swp d (first+root) (first+(2*root+2))) else d)
    else (if cD d[first+root]! d[first+(2*root+1)]! <0 then siftDown an hi first (2*root+1) (swp d (first+root) (first+(2*root+1))) else d))
   else (if cD d[first+root]! d[first+(2*root+1)]! <0 then siftDown an hi first (2*root+1) (swp d (first+root) (first+(2*root+1))) else d):=by
 rw[siftDown]
 by_cases h1:2*root+1≥hi
 ·rw[qk h1,ag h1]
 rw[dif_neg h1,ah h1]
 by_cases h2:2*root+2<hi
 ·rw[ag h2]
  by_cases h3:cD d[first+(2*root+1)]! d[first+(2*root+2)]! <0
  ·rw[ag h3,ag (by simp only[aU,dX,kK];exact ⟨h2,h3⟩)]
   simp only[jM]
   by_cases h4:cD d[first+root]! d[first+(2*root+2)]! <0
   ·rw[ah (jU h4),qk h2,ag h4]
   ·rw[ag h4,ah h4]
  ·rw[ah h3,ah (by simp only[aU,dX,kK];exact fun h=>h3 h.2)]
   simp only[jM]
   by_cases h4:cD d[first+root]! d[first+(2*root+1)]! <0
   ·rw[ah (jU h4),ag h4]
   ·rw[ag h4,ah h4]
 ·rw[ah h2,ah (by simp only[aU,dX,kK];exact fun h=>h2 h.1)]
  simp only[jM]
  by_cases h4:cD d[first+root]! d[first+(2*root+1)]! <0
  ·rw[ah (jU h4),ag h4]
  ·rw[ag h4,ah h4]
theorem Dk {a b i:Nat}: ∀(j:Nat) (d:Array Ed),j<d.size→d.size<1152921504606846976→
  ∃j' t,Loop (Ai CC a b i) ((j:Int),eA d)=some (j',t,eA (insInner an a j d))
 | 0,d,hj,hs=>⟨(0:Nat),false,aG (by
   simp (disch:=omega) only[Ai,Ah,un,ar,ah]
   rfl)⟩
 | j+1,d,hj,hs=>by
  obtain ⟨j',t,ih⟩:=Dk (a:=a) (b:=b) (i:=i) j (swp d (j+1) j) (by rw[size_swp];omega) (by rw[size_swp];omega)
  rw[PX]
  by_cases h1:j+1>a
  ·rw[ag h1]
   have e:Ai CC a b i (((j+1:Nat):Int),eA d)=if cD d[j+1]! d[j]! <0 then some (.inl ((j:Int),eA (swp d (j+1) j))) else some (.inr (((j+1:Nat):Int),decide (cD d[j+1]! d[j]! <0),eA d)):=by
    simp (disch:=omega) only[Ai,Ah,un,ar,bK,dH,ag,ah,wrap64,bW,di,Int.toNat_natCast,Option.bind_some,dg,dm,Ed.aH,Ed.aN,Ed.aK,Ed.re,dh,dM,dF,iO,V.aD,V.toInt_int,cond_true,cond_false,lU]
    rfl
   by_cases h2:cD d[j+1]! d[j]! <0
   ·rw[ag h2] at e⊢
    exact ⟨j',t,(br e).trans ih⟩
   ·rw[ah h2] at e⊢
    exact ⟨_,_,aG e⟩
  ·rw[ah h1]
   exact ⟨((j+1:Nat):Int),false,aG (by
    simp (disch:=omega) only[Ai,Ah,un,ar,ah])⟩
theorem PY {a b:Nat}: ∀(n i:Nat) (d:Array Ed),b-i=n→b≤d.size→d.size<1152921504606846976→
  ∃j' t,Loop (J7 CC a b) ((i:Int),eA d)=some (j',t,eA (insOuter an a b i d)):=by
 intro n
 induction n with
 | zero=>
  intro i d hn hb hs
  rw[insOuter,ah (by omega)]
  exact ⟨(i:Int),false,aG (by
   simp (disch:=omega) only[J7,EP,un,ke,cond_false])⟩
 | succ n ih=>
  intro i d hn hb hs
  obtain ⟨j1,t1,h1⟩:=Dk (a:=a) (b:=b) (i:=i) i d (by omega) hs
  obtain ⟨j',t,h2⟩:=ih (i+1) (insInner an a i d) (by omega) (by rw[De];omega) (by rw[De];omega)
  rw[insOuter,ag (by omega)]
  refine ⟨j',t,(br ?_).trans h2⟩
  simp (disch:=omega) only[J7,EP,un,ar,ag,h1,Option.bind_some,bW,wrap64]
theorem Dl {a b:Nat} {d:Array Ed} (hb:b≤d.size) (hs:d.size<1152921504606846976) (ha:a<1152921504606846976):
  CC Cr [.int .i64 (a:Int),.int .i64 (b:Int),.list aS (eA d)]=some [.list aS (eA (insertionSort an d a b))]:=by
 refine amB ?_
 unfold aaQ
 obtain ⟨j',t,h⟩:=PY (a:=a) (b:=b) _ (a+1) d rfl hb hs
 simp (disch:=omega) only[bW,wrap64]
 rw[h]
 rfl
theorem PZ (hi first:Nat): ∀(n root:Nat) (d:Array Ed),hi-root≤n→root<1152921504606846976→first+hi≤d.size→d.size<1152921504606846976→
  (∃x y z,Loop (qj CC hi first) ((root:Int),eA d)=some (.inl (x,y,z,eA (siftDown an hi first root d))))∨
  (∃x y z,Loop (qj CC hi first) ((root:Int),eA d)=some (.inr (x,y,z,eA (siftDown an hi first root d)))):=by
 intro n
 induction n with
 | zero=>
  intro root d hn hr hb hs
  rw[wA,ag (by omega)]
  exact .inl ⟨(root:Int),((root*2+1:Nat):Int),true,aG (by
   simp (disch:=omega) only[qj,uA,un,rm,bW,wrap64];rw[hD (by omega)];rfl)⟩
 | succ n ih=>
  intro root d hn hr hb hs
  by_cases h1:2*root+1≥hi
  ·rw[wA,ag h1]
   exact .inl ⟨(root:Int),((root*2+1:Nat):Int),true,aG (by
    simp (disch:=omega) only[qj,uA,un,rm,bW,wrap64];rw[hD (by omega)];rfl)⟩
  ·have go: ∀c:Nat,c<hi→root<c→(qj CC hi first ((root:Int),eA d)=
      if cD d[first+root]! d[first+c]! <0 then some (.inl ((c:Int),eA (swp d (first+root) (first+c)))) else some (.inr (.inr ((root:Int),(c:Int),true,eA d))))→
     siftDown an hi first root d=(if cD d[first+root]! d[first+c]! <0 then siftDown an hi first c (swp d (first+root) (first+c)) else d)→
     ((∃x y z,Loop (qj CC hi first) ((root:Int),eA d)=some (.inl (x,y,z,eA (siftDown an hi first root d))))∨
     (∃x y z,Loop (qj CC hi first) ((root:Int),eA d)=some (.inr (x,y,z,eA (siftDown an hi first root d))))):=by
    intro c hc hrc e1 e2
    rw[e2]
    by_cases h3:cD d[first+root]! d[first+c]! <0
    ·rw[ag h3] at e1
     rw[ag h3,br e1]
     exact ih c _ (by omega) (by omega) (by rw[size_swp];omega) (by rw[size_swp];omega)
    ·rw[ah h3] at e1
     rw[ah h3,aG e1]
     exact .inr ⟨_,_,_,rfl⟩
   have e0:=wA hi first root d
   rw[ah h1] at e0
   by_cases h2:2*root+2<hi
   ·rw[ag h2] at e0
    by_cases h3:cD d[first+(2*root+1)]! d[first+(2*root+2)]! <0
    ·rw[ag h3] at e0
     refine go (2*root+2) (by omega) (by omega) ?_ e0
     rw[kS 2 root] at h3
     simp (disch:=omega) only[qj,uA,un,rm,bW,di,wrap64]
     rw[ar,ah (by omega),ar,ag (by omega)]
     simp (disch:=omega) only[w7,ar,bK,dH,ag,ah,wrap64,bW,di,Int.toNat_natCast,Option.bind_some,dg,dm,Ed.aH,Ed.aN,Ed.aK,Ed.re,dh,dM,dF,iO,V.aD,V.toInt_int,cond_true,cond_false,kS 2 root,hD]
     by_cases h4:cD d[first+root]! d[first+(root*2+2)]! <0
     ·simp only[h4,cy];rfl
     ·simp only[h4,fg];rfl
    ·rw[ah h3] at e0
     refine go (2*root+1) (by omega) (by omega) ?_ e0
     rw[kS 2 root] at h3
     simp (disch:=omega) only[qj,uA,un,rm,bW,di,wrap64]
     rw[ar,ah (by omega),ar,ag (by omega)]
     simp (disch:=omega) only[w7,ar,bK,dH,ag,ah,wrap64,bW,di,Int.toNat_natCast,Option.bind_some,dg,dm,Ed.aH,Ed.aN,Ed.aK,Ed.re,dh,dM,dF,iO,V.aD,V.toInt_int,cond_true,cond_false,kS 2 root,ke]
     by_cases h4:cD d[first+root]! d[first+(root*2+1)]! <0
     ·simp only[h4,cy];rfl
     ·simp only[h4,fg];rfl
   ·rw[ah h2] at e0
    refine go (2*root+1) (by omega) (by omega) ?_ e0
    simp (disch:=omega) only[qj,uA,un,rm,bW,di,wrap64]
    rw[ar,ah (by omega),ar,ah (by omega)]
    simp (disch:=omega) only[w7,ar,bK,dH,ag,ah,wrap64,bW,di,Int.toNat_natCast,Option.bind_some,dg,dm,Ed.aH,Ed.aN,Ed.aK,Ed.re,dh,dM,dF,iO,V.aD,V.toInt_int,cond_true,cond_false,kS 2 root]
    by_cases h4:cD d[first+root]! d[first+(root*2+1)]! <0
    ·simp only[h4,cy];rfl
    ·simp only[h4,fg];rfl
theorem Dm {lo hi first:Nat} {d:Array Ed} (hl:lo<1152921504606846976) (hb:first+hi≤d.size) (hs:d.size<1152921504606846976):
  CC Cy [.int .i64 (lo:Int),.int .i64 (hi:Int),.int .i64 (first:Int),.list aS (eA d)]=some [.list aS (eA (siftDown an hi first lo d))]:=by
 refine amE ?_
 unfold aaT
 rcases PZ hi first _ lo d (bN _) hl hb hs with ⟨x,y,z,h⟩|⟨x,y,z,h⟩
 ·rw[h];rfl
 ·rw[h];rfl
theorem Dn {hi first:Nat}: ∀(k:Nat) (d:Array Ed),k<1152921504606846976→first+hi≤d.size→d.size<1152921504606846976→
  ∃x y,Loop (J9 CC first 0 hi) ((k:Int)-1,eA d)=some (x,y,eA (heapBuild an hi first k d))
 | 0,d,hk,hb,hs=>⟨-1,false,aG (by
   simp (disch:=omega) only[J9,ER,un,ar,ah]
   rfl)⟩
 | k+1,d,hk,hb,hs=>by
  obtain ⟨x,y,ih⟩:=Dn (hi:=hi) (first:=first) k (siftDown an hi first k d) (by omega) (by rw[sG _ _ _ _ _ (bN _)];omega) (by rw[sG _ _ _ _ _ (bN _)];omega)
  refine ⟨x,y,(br ?_).trans ih⟩
  simp (disch:=omega) only[J9,ER,un,ar,ag,lU,Dm,Option.bind_some,V.aD,V.e8,wrap64]
theorem Dp {first:Nat}: ∀(k:Nat) (d:Array Ed),k<1152921504606846976→first+k≤d.size→d.size<1152921504606846976→
  ∃x y,Loop (Ka CC first 0) ((k:Int)-1,eA d)=some (x,y,eA (heapPop an first k d))
 | 0,d,hk,hb,hs=>⟨-1,false,aG (by
   simp (disch:=omega) only[Ka,ES,un,ar,ah]
   rfl)⟩
 | k+1,d,hk,hb,hs=>by
  obtain ⟨x,y,ih⟩:=Dp (first:=first) k (siftDown an k first 0 (swp d first (first+k))) (by omega) (by rw[sG _ _ _ _ _ (bN _),size_swp];omega) (by rw[sG _ _ _ _ _ (bN _),size_swp];omega)
  refine ⟨x,y,(br ?_).trans ih⟩
  have jD:=Dm (lo:=0) (hi:=k) (first:=first) (d:=swp d first (first+k)) (by omega) (by rw[size_swp];omega) (by rw[size_swp];omega)
  unfold swp at jD⊢
  rw[show ((0:Nat):Int)=0 from rfl] at jD
  simp (disch:=omega) only[Ka,ES,un,lU,ar,bK,dH,ag,ah,wrap64,bW,di,Int.toNat_natCast,Option.bind_some,dg,dm,Ed.aH,Ed.aN,Ed.aK,Ed.re,dh,dM,dF,iO,V.aD,V.toInt_int,cond_true,cond_false]
  rw[jD]
  simp (disch:=omega) only[Option.bind_some,V.aD,V.e8,wrap64]
theorem P0 {a b:Nat} {d:Array Ed} (dq:a<b) (hb:b≤d.size) (hs:d.size<1152921504606846976):
  CC Cs [.int .i64 (a:Int),.int .i64 (b:Int),.list aS (eA d)]=some [.list aS (eA (heapSort an d a b))]:=by
 refine amH ?_
 unfold aaW
 obtain ⟨x,y,h1⟩:=Dn (hi:=b-a) (first:=a) ((b-a-1)/2+1) d (by omega) (by omega) hs
 obtain ⟨x2,y2,h2⟩:=Dp (first:=a) (b-a) (heapBuild an (b-a) a ((b-a-1)/2+1) d) (by omega) (by rw[Df];omega) (by rw[Df];omega)
 have e1:((((b-a-1)/2+1:Nat):Int)-1)=Int.tdiv (((b-a:Nat):Int)-1) 2:=by
  rw[Int.tdiv_eq_ediv_of_nonneg (by omega)]
  omega
 rw[e1] at h1
 simp (disch:=omega) only[gx,wrap64]
 rw[h1]
 simp only[Option.bind_some,un]
 rw[h2]
 rfl
theorem P1: ∀(n i j:Nat) (d:Array Ed),j-i≤n→j<d.size→d.size<1152921504606846976→
  ∃x y z,Loop (ET CC) ((i:Int),(j:Int),eA d)=some (x,y,z,eA (reverseLoop i j d)):=by
 intro n
 induction n with
 | zero=>
  intro i j d hn hj hs
  rw[reverseLoop,ah (by omega)]
  exact ⟨(i:Int),(j:Int),false,aG (by
   simp (disch:=omega) only[ET,Ak,un,ke,cond_false])⟩
 | succ n ih=>
  intro i j d hn hj hs
  rw[reverseLoop]
  by_cases h:i<j
  ·rw[ag h]
   obtain ⟨x,y,z,h2⟩:=ih (i+1) (j-1) (swp d i j) (by omega) (by rw[size_swp];omega) (by rw[size_swp];omega)
   refine ⟨x,y,z,(br ?_).trans h2⟩
   simp (disch:=omega) only[ET,Ak,un,ar,bK,dH,ag,ah,wrap64,bW,di,Int.toNat_natCast,Option.bind_some,dg,dm,Ed.aH,Ed.aN,Ed.aK,Ed.re,dh,dM,dF,iO,V.aD,V.toInt_int,cond_true,cond_false,eS]
   rfl
  ·rw[ah h]
   exact ⟨(i:Int),(j:Int),false,aG (by
    simp (disch:=omega) only[ET,Ak,un,ke,cond_false])⟩
theorem P2 {a b:Nat} {d:Array Ed} (dq:a<b) (hb:b≤d.size) (hs:d.size<1152921504606846976):
  CC H5 [.int .i64 (a:Int),.int .i64 (b:Int),.list aS (eA d)]=some [.list aS (eA (reverseRange d a b))]:=by
 refine amK ?_
 unfold aaZ
 obtain ⟨x,y,z,h⟩:=P1 _ a (b-1) d (bN _) (by omega) hs
 simp (disch:=omega) only[eS,wrap64]
 rw[h]
 rfl
end Go.AM
set_option maxRecDepth 100000
namespace Go.AM
open Go.Proofs
noncomputable abbrev rr:Code:=bU Tryz.prog (az.aT 104)
noncomputable def EU (C:af) (a j:Int) (ae:List V) (i:Int) {β:Type} (kn:Int→Option β) (kr:(Int × Bool)→Option β):Option β:=
 bif decide ((i:Int)≤j) then
  bif (decide (0≤i))&&(decide (i<(ae.length:Int))) then
  (ae[(i:Int).toNat]?).bind fun x5=>
  bif (decide (0≤a))&&(decide (a<(ae.length:Int))) then
   (ae[(a:Int).toNat]?).bind fun x6=>
   (C bE [.int .i64 ((x5.cell 0).toInt),.int .i64 ((x5.cell 1).toInt),.int .i64 ((x5.cell 2).toInt),.int .i64 ((x6.cell 0).toInt),.int .i64 ((x6.cell 1).toInt),.int .i64 ((x6.cell 2).toInt)]).bind fun r7=>
   bif decide ((((V.nth r7 0).toInt):Int)<0) then
   kn (IntKind.wrap .i64 (i+1))
   else
   kr (i,decide ((((V.nth r7 0).toInt):Int)<0))
  else none
  else none
 else
  kr (i,false)
noncomputable def EV (C:af) (a j:Int) (ae:List V):(Int)→Option ((Int) ⊕ (Int × Bool)):=fun i=>EU C a j ae i (fun y=>some (.inl y)) (fun r=>some (.inr r))
noncomputable def Al (C:af) (a i:Int) (ae:List V) (j:Int) {β:Type} (kn:Int→Option β) (kr:(Int × Bool)→Option β):Option β:=
 bif decide ((i:Int)≤j) then
  bif (decide (0≤j))&&(decide (j<(ae.length:Int))) then
  (ae[(j:Int).toNat]?).bind fun fB=>
  bif (decide (0≤a))&&(decide (a<(ae.length:Int))) then
   (ae[(a:Int).toNat]?).bind fun fC=>
   (C bE [.int .i64 ((fB.cell 0).toInt),.int .i64 ((fB.cell 1).toInt),.int .i64 ((fB.cell 2).toInt),.int .i64 ((fC.cell 0).toInt),.int .i64 ((fC.cell 1).toInt),.int .i64 ((fC.cell 2).toInt)]).bind fun fP=>
   bif !(decide ((((V.nth fP 0).toInt):Int)<0)) then
   kn (IntKind.wrap .i64 (j-1))
   else
   kr (j,!(decide ((((V.nth fP 0).toInt):Int)<0)))
  else none
  else none
 else
  kr (j,false)
noncomputable def Am (C:af) (a i:Int) (ae:List V):(Int)→Option ((Int) ⊕ (Int × Bool)):=fun j=>Al C a i ae j (fun y=>some (.inl y)) (fun r=>some (.inr r))
noncomputable def EW (C:af) (a j:Int) (ae:List V) (i:Int) {β:Type} (kn:Int→Option β) (kr:(Int × Bool)→Option β):Option β:=
 bif decide ((i:Int)≤j) then
  bif (decide (0≤i))&&(decide (i<(ae.length:Int))) then
  (ae[(i:Int).toNat]?).bind fun ez=>
  bif (decide (0≤a))&&(decide (a<(ae.length:Int))) then
   (ae[(a:Int).toNat]?).bind fun jN=>
   (C bE [.int .i64 ((ez.cell 0).toInt),.int .i64 ((ez.cell 1).toInt),.int .i64 ((ez.cell 2).toInt),.int .i64 ((jN.cell 0).toInt),.int .i64 ((jN.cell 1).toInt),.int .i64 ((jN.cell 2).toInt)]).bind fun uh=>
   bif decide ((((V.nth uh 0).toInt):Int)<0) then
   kn (IntKind.wrap .i64 (i+1))
   else
   kr (i,decide ((((V.nth uh 0).toInt):Int)<0))
  else none
  else none
 else
  kr (i,false)
noncomputable def EX (C:af) (a j:Int) (ae:List V):(Int)→Option ((Int) ⊕ (Int × Bool)):=fun i=>EW C a j ae i (fun y=>some (.inl y)) (fun r=>some (.inr r))
noncomputable def An (C:af) (a i:Int) (ae:List V) (j:Int) {β:Type} (kn:Int→Option β) (kr:(Int × Bool)→Option β):Option β:=
 bif decide ((i:Int)≤j) then
  bif (decide (0≤j))&&(decide (j<(ae.length:Int))) then
  (ae[(j:Int).toNat]?).bind fun lV=>
  bif (decide (0≤a))&&(decide (a<(ae.length:Int))) then
   (ae[(a:Int).toNat]?).bind fun lW=>
   (C bE [.int .i64 ((lV.cell 0).toInt),.int .i64 ((lV.cell 1).toInt),.int .i64 ((lV.cell 2).toInt),.int .i64 ((lW.cell 0).toInt),.int .i64 ((lW.cell 1).toInt),.int .i64 ((lW.cell 2).toInt)]).bind fun sH=>
   bif !(decide ((((V.nth sH 0).toInt):Int)<0)) then
   kn (IntKind.wrap .i64 (j-1))
   else
   kr (j,!(decide ((((V.nth sH 0).toInt):Int)<0)))
  else none
  else none
 else
  kr (j,false)
noncomputable def Ao (C:af) (a i:Int) (ae:List V):(Int)→Option ((Int) ⊕ (Int × Bool)):=fun j=>An C a i ae j (fun y=>some (.inl y)) (fun r=>some (.inr r))
noncomputable def EY (C:af) (a i j:Int) (ae:List V) {β:Type} (kn:(Int × Int × (List V))→Option β) (kr:(Int × Int × Bool × (List V))→Option β):Option β:=
 (Loop (EX C a j ae) i).bind (un fun (fD:Int) (Pc:Bool)=>
  (Loop (Ao C a fD ae) j).bind (un fun (iA:Int) (Pd:Bool)=>
   bif decide ((fD:Int)>iA) then
    kr (fD,iA,decide ((fD:Int)>iA),ae)
   else
    bif (decide (0≤iA))&&(decide (iA<(ae.length:Int))) then
    (ae[(iA:Int).toNat]?).bind fun jO=>
    bif (decide (0≤fD))&&(decide (fD<(ae.length:Int))) then
     (ae[(fD:Int).toNat]?).bind fun p7=>
     bif (decide (0≤fD))&&(decide (fD<(ae.length:Int))) then
     (ae[(fD:Int).toNat]?).bind fun x35=>
     bif (decide (0≤iA))&&(decide (iA<((ae.set ((fD:Int).toNat) (.agg [.int .i64 ((jO.cell 0).toInt),.int .i64 ((jO.cell 1).toInt),.int .i64 ((jO.cell 2).toInt)])).length:Int))) then
      ((ae.set ((fD:Int).toNat) (.agg [.int .i64 ((jO.cell 0).toInt),.int .i64 ((jO.cell 1).toInt),.int .i64 ((jO.cell 2).toInt)]))[(iA:Int).toNat]?).bind fun x36=>
      kn (IntKind.wrap .i64 (fD+1),IntKind.wrap .i64 (iA-1),(ae.set ((fD:Int).toNat) (.agg [.int .i64 ((jO.cell 0).toInt),.int .i64 ((jO.cell 1).toInt),.int .i64 ((jO.cell 2).toInt)])).set ((iA:Int).toNat) (.agg [.int .i64 ((p7.cell 0).toInt),.int .i64 ((p7.cell 1).toInt),.int .i64 ((p7.cell 2).toInt)]))
     else none
     else none
    else none
    else none))
noncomputable def Ap (C:af) (a:Int):(Int × Int × (List V))→Option ((Int × Int × (List V)) ⊕ (Int × Int × Bool × (List V))):=un fun i=>un fun j ae=>EY C a i j ae (fun y=>some (.inl y)) (fun r=>some (.inr r))
noncomputable def aa0 (C:af):cj:=fun β n ds k=>
 bif Nat.beq n 49 then bt Oh [false,true,false,false] [[1,0,3,0,4]] (@EU C) ds k else
 bif Nat.beq n 81 then bt Oi [false,false,true,false] [[1,2,0,0,4]] (@Al C) ds k else
 bif Nat.beq n 209 then bt Oj [false,true,false,false] [[1,0,3,0,4]] (@EW C) ds k else
 bif Nat.beq n 241 then bt Ol [false,false,true,false] [[1,2,0,0,4]] (@An C) ds k else
 bif Nat.beq n 210 then bt Om [false,true,true,true] [[1,0,0,0,0]] (@EY C) ds k else
 none
abbrev EZ (C:af) (b:cg):Prop:=ch Tryz.prog az C (aa0 C) 104 (cv Tryz.prog (az.aT 104)) (az.sin 104).bf.length b
theorem amL (C:af):EZ C (.loop (aq [1,1,1,0,0,0] rr)):=
 bw Oh [false,true,false,false] [[1,0,3,0,4]] (@EU C) (by kernel_rfl) (aM (bs:=[]) (by kernel_rfl) aw) (fun ds=>by kernel_rfl) (fun i x=>by kernel_rfl) (fun i x β k=>by kernel_rfl) (fun β ds k=>by kernel_rfl)
theorem amM (C:af):EZ C (.loop (aq [1,1,1,1,0,0,0] rr)):=
 bw Oi [false,false,true,false] [[1,2,0,0,4]] (@Al C) (by kernel_rfl) (aM (bs:=[]) (by kernel_rfl) aw) (fun ds=>by kernel_rfl) (fun i x=>by kernel_rfl) (fun i x β k=>by kernel_rfl) (fun β ds k=>by kernel_rfl)
theorem amN (C:af):EZ C (.loop (aq [1,1,1,1,1,1,1,1,1,0,0,0,0,0,0,0] rr)):=
 bw Oj [false,true,false,false] [[1,0,3,0,4]] (@EW C) (by kernel_rfl) (aM (bs:=[]) (by kernel_rfl) aw) (fun ds=>by kernel_rfl) (fun i x=>by kernel_rfl) (fun i x β k=>by kernel_rfl) (fun β ds k=>by kernel_rfl)
theorem amO (C:af):EZ C (.loop (aq [1,1,1,1,1,1,1,1,1,0,0,0,0,1,0,0,0] rr)):=
 bw Ol [false,false,true,false] [[1,2,0,0,4]] (@An C) (by kernel_rfl) (aM (bs:=[]) (by kernel_rfl) aw) (fun ds=>by kernel_rfl) (fun i x=>by kernel_rfl) (fun i x β k=>by kernel_rfl) (fun β ds k=>by kernel_rfl)
theorem amP (C:af):EZ C (.loop (aq [1,1,1,1,1,1,1,1,1,0,0,0] rr)):=
 bw Om [false,true,true,true] [[1,0,0,0,0]] (@EY C) (by kernel_rfl) (aM (bs:=[.loop (aq [1,1,1,1,1,1,1,1,1,0,0,0,0,0,0,0] rr),.loop (aq [1,1,1,1,1,1,1,1,1,0,0,0,0,1,0,0,0] rr)]) (by kernel_rfl) (aZ (amN C) (aZ (amO C) aw))) (fun ds=>by kernel_rfl) (fun i x=>by kernel_rfl) (fun i x β k=>by kernel_rfl) (fun β ds k=>by kernel_rfl)
noncomputable def aa1 (C:af) (a b' pivot:Int) (ae:List V):Option (List V):=
 bif (decide (0≤pivot))&&(decide (pivot<(ae.length:Int))) then
  (ae[(pivot:Int).toNat]?).bind fun x1=>
  bif (decide (0≤a))&&(decide (a<(ae.length:Int))) then
  (ae[(a:Int).toNat]?).bind fun x2=>
  bif (decide (0≤a))&&(decide (a<(ae.length:Int))) then
   (ae[(a:Int).toNat]?).bind fun x3=>
   bif (decide (0≤pivot))&&(decide (pivot<((ae.set ((a:Int).toNat) (.agg [.int .i64 ((x1.cell 0).toInt),.int .i64 ((x1.cell 1).toInt),.int .i64 ((x1.cell 2).toInt)])).length:Int))) then
   ((ae.set ((a:Int).toNat) (.agg [.int .i64 ((x1.cell 0).toInt),.int .i64 ((x1.cell 1).toInt),.int .i64 ((x1.cell 2).toInt)]))[(pivot:Int).toNat]?).bind fun x4=>
   (Loop (EV C a (IntKind.wrap .i64 (b'-1)) ((ae.set ((a:Int).toNat) (.agg [.int .i64 ((x1.cell 0).toInt),.int .i64 ((x1.cell 1).toInt),.int .i64 ((x1.cell 2).toInt)])).set ((pivot:Int).toNat) (.agg [.int .i64 ((x2.cell 0).toInt),.int .i64 ((x2.cell 1).toInt),.int .i64 ((x2.cell 2).toInt)]))) (IntKind.wrap .i64 (a+1))).bind (un fun (cM:Int) (oW:Bool)=>
    (Loop (Am C a cM ((ae.set ((a:Int).toNat) (.agg [.int .i64 ((x1.cell 0).toInt),.int .i64 ((x1.cell 1).toInt),.int .i64 ((x1.cell 2).toInt)])).set ((pivot:Int).toNat) (.agg [.int .i64 ((x2.cell 0).toInt),.int .i64 ((x2.cell 1).toInt),.int .i64 ((x2.cell 2).toInt)]))) (IntKind.wrap .i64 (b'-1))).bind (un fun (cm:Int) (v5:Bool)=>
     bif decide ((cM:Int)>cm) then
      bif (decide (0≤a))&&(decide (a<(((ae.set ((a:Int).toNat) (.agg [.int .i64 ((x1.cell 0).toInt),.int .i64 ((x1.cell 1).toInt),.int .i64 ((x1.cell 2).toInt)])).set ((pivot:Int).toNat) (.agg [.int .i64 ((x2.cell 0).toInt),.int .i64 ((x2.cell 1).toInt),.int .i64 ((x2.cell 2).toInt)])).length:Int))) then
      (((ae.set ((a:Int).toNat) (.agg [.int .i64 ((x1.cell 0).toInt),.int .i64 ((x1.cell 1).toInt),.int .i64 ((x1.cell 2).toInt)])).set ((pivot:Int).toNat) (.agg [.int .i64 ((x2.cell 0).toInt),.int .i64 ((x2.cell 1).toInt),.int .i64 ((x2.cell 2).toInt)]))[(a:Int).toNat]?).bind fun db=>
      bif (decide (0≤cm))&&(decide (cm<(((ae.set ((a:Int).toNat) (.agg [.int .i64 ((x1.cell 0).toInt),.int .i64 ((x1.cell 1).toInt),.int .i64 ((x1.cell 2).toInt)])).set ((pivot:Int).toNat) (.agg [.int .i64 ((x2.cell 0).toInt),.int .i64 ((x2.cell 1).toInt),.int .i64 ((x2.cell 2).toInt)])).length:Int))) then
       (((ae.set ((a:Int).toNat) (.agg [.int .i64 ((x1.cell 0).toInt),.int .i64 ((x1.cell 1).toInt),.int .i64 ((x1.cell 2).toInt)])).set ((pivot:Int).toNat) (.agg [.int .i64 ((x2.cell 0).toInt),.int .i64 ((x2.cell 1).toInt),.int .i64 ((x2.cell 2).toInt)]))[(cm:Int).toNat]?).bind fun da=>
       bif (decide (0≤cm))&&(decide (cm<(((ae.set ((a:Int).toNat) (.agg [.int .i64 ((x1.cell 0).toInt),.int .i64 ((x1.cell 1).toInt),.int .i64 ((x1.cell 2).toInt)])).set ((pivot:Int).toNat) (.agg [.int .i64 ((x2.cell 0).toInt),.int .i64 ((x2.cell 1).toInt),.int .i64 ((x2.cell 2).toInt)])).length:Int))) then
       (((ae.set ((a:Int).toNat) (.agg [.int .i64 ((x1.cell 0).toInt),.int .i64 ((x1.cell 1).toInt),.int .i64 ((x1.cell 2).toInt)])).set ((pivot:Int).toNat) (.agg [.int .i64 ((x2.cell 0).toInt),.int .i64 ((x2.cell 1).toInt),.int .i64 ((x2.cell 2).toInt)]))[(cm:Int).toNat]?).bind fun p5=>
       bif (decide (0≤a))&&(decide (a<((((ae.set ((a:Int).toNat) (.agg [.int .i64 ((x1.cell 0).toInt),.int .i64 ((x1.cell 1).toInt),.int .i64 ((x1.cell 2).toInt)])).set ((pivot:Int).toNat) (.agg [.int .i64 ((x2.cell 0).toInt),.int .i64 ((x2.cell 1).toInt),.int .i64 ((x2.cell 2).toInt)])).set ((cm:Int).toNat) (.agg [.int .i64 ((db.cell 0).toInt),.int .i64 ((db.cell 1).toInt),.int .i64 ((db.cell 2).toInt)])).length:Int))) then
        ((((ae.set ((a:Int).toNat) (.agg [.int .i64 ((x1.cell 0).toInt),.int .i64 ((x1.cell 1).toInt),.int .i64 ((x1.cell 2).toInt)])).set ((pivot:Int).toNat) (.agg [.int .i64 ((x2.cell 0).toInt),.int .i64 ((x2.cell 1).toInt),.int .i64 ((x2.cell 2).toInt)])).set ((cm:Int).toNat) (.agg [.int .i64 ((db.cell 0).toInt),.int .i64 ((db.cell 1).toInt),.int .i64 ((db.cell 2).toInt)]))[(a:Int).toNat]?).bind fun kJ=>
        some [.int .i64 cm,.bool true,.list aS ((((ae.set ((a:Int).toNat) (.agg [.int .i64 ((x1.cell 0).toInt),.int .i64 ((x1.cell 1).toInt),.int .i64 ((x1.cell 2).toInt)])).set ((pivot:Int).toNat) (.agg [.int .i64 ((x2.cell 0).toInt),.int .i64 ((x2.cell 1).toInt),.int .i64 ((x2.cell 2).toInt)])).set ((cm:Int).toNat) (.agg [.int .i64 ((db.cell 0).toInt),.int .i64 ((db.cell 1).toInt),.int .i64 ((db.cell 2).toInt)])).set ((a:Int).toNat) (.agg [.int .i64 ((da.cell 0).toInt),.int .i64 ((da.cell 1).toInt),.int .i64 ((da.cell 2).toInt)]))]
       else none
       else none
      else none
      else none
     else
      bif (decide (0≤cm))&&(decide (cm<(((ae.set ((a:Int).toNat) (.agg [.int .i64 ((x1.cell 0).toInt),.int .i64 ((x1.cell 1).toInt),.int .i64 ((x1.cell 2).toInt)])).set ((pivot:Int).toNat) (.agg [.int .i64 ((x2.cell 0).toInt),.int .i64 ((x2.cell 1).toInt),.int .i64 ((x2.cell 2).toInt)])).length:Int))) then
      (((ae.set ((a:Int).toNat) (.agg [.int .i64 ((x1.cell 0).toInt),.int .i64 ((x1.cell 1).toInt),.int .i64 ((x1.cell 2).toInt)])).set ((pivot:Int).toNat) (.agg [.int .i64 ((x2.cell 0).toInt),.int .i64 ((x2.cell 1).toInt),.int .i64 ((x2.cell 2).toInt)]))[(cm:Int).toNat]?).bind fun gM=>
      bif (decide (0≤cM))&&(decide (cM<(((ae.set ((a:Int).toNat) (.agg [.int .i64 ((x1.cell 0).toInt),.int .i64 ((x1.cell 1).toInt),.int .i64 ((x1.cell 2).toInt)])).set ((pivot:Int).toNat) (.agg [.int .i64 ((x2.cell 0).toInt),.int .i64 ((x2.cell 1).toInt),.int .i64 ((x2.cell 2).toInt)])).length:Int))) then
       (((ae.set ((a:Int).toNat) (.agg [.int .i64 ((x1.cell 0).toInt),.int .i64 ((x1.cell 1).toInt),.int .i64 ((x1.cell 2).toInt)])).set ((pivot:Int).toNat) (.agg [.int .i64 ((x2.cell 0).toInt),.int .i64 ((x2.cell 1).toInt),.int .i64 ((x2.cell 2).toInt)]))[(cM:Int).toNat]?).bind fun lX=>
       bif (decide (0≤cM))&&(decide (cM<(((ae.set ((a:Int).toNat) (.agg [.int .i64 ((x1.cell 0).toInt),.int .i64 ((x1.cell 1).toInt),.int .i64 ((x1.cell 2).toInt)])).set ((pivot:Int).toNat) (.agg [.int .i64 ((x2.cell 0).toInt),.int .i64 ((x2.cell 1).toInt),.int .i64 ((x2.cell 2).toInt)])).length:Int))) then
       (((ae.set ((a:Int).toNat) (.agg [.int .i64 ((x1.cell 0).toInt),.int .i64 ((x1.cell 1).toInt),.int .i64 ((x1.cell 2).toInt)])).set ((pivot:Int).toNat) (.agg [.int .i64 ((x2.cell 0).toInt),.int .i64 ((x2.cell 1).toInt),.int .i64 ((x2.cell 2).toInt)]))[(cM:Int).toNat]?).bind fun sI=>
       bif (decide (0≤cm))&&(decide (cm<((((ae.set ((a:Int).toNat) (.agg [.int .i64 ((x1.cell 0).toInt),.int .i64 ((x1.cell 1).toInt),.int .i64 ((x1.cell 2).toInt)])).set ((pivot:Int).toNat) (.agg [.int .i64 ((x2.cell 0).toInt),.int .i64 ((x2.cell 1).toInt),.int .i64 ((x2.cell 2).toInt)])).set ((cM:Int).toNat) (.agg [.int .i64 ((gM.cell 0).toInt),.int .i64 ((gM.cell 1).toInt),.int .i64 ((gM.cell 2).toInt)])).length:Int))) then
        ((((ae.set ((a:Int).toNat) (.agg [.int .i64 ((x1.cell 0).toInt),.int .i64 ((x1.cell 1).toInt),.int .i64 ((x1.cell 2).toInt)])).set ((pivot:Int).toNat) (.agg [.int .i64 ((x2.cell 0).toInt),.int .i64 ((x2.cell 1).toInt),.int .i64 ((x2.cell 2).toInt)])).set ((cM:Int).toNat) (.agg [.int .i64 ((gM.cell 0).toInt),.int .i64 ((gM.cell 1).toInt),.int .i64 ((gM.cell 2).toInt)]))[(cm:Int).toNat]?).bind fun x22=>
        (Loop (Ap C a) (IntKind.wrap .i64 (cM+1),IntKind.wrap .i64 (cm-1),(((ae.set ((a:Int).toNat) (.agg [.int .i64 ((x1.cell 0).toInt),.int .i64 ((x1.cell 1).toInt),.int .i64 ((x1.cell 2).toInt)])).set ((pivot:Int).toNat) (.agg [.int .i64 ((x2.cell 0).toInt),.int .i64 ((x2.cell 1).toInt),.int .i64 ((x2.cell 2).toInt)])).set ((cM:Int).toNat) (.agg [.int .i64 ((gM.cell 0).toInt),.int .i64 ((gM.cell 1).toInt),.int .i64 ((gM.cell 2).toInt)])).set ((cm:Int).toNat) (.agg [.int .i64 ((lX.cell 0).toInt),.int .i64 ((lX.cell 1).toInt),.int .i64 ((lX.cell 2).toInt)]))).bind (un fun (Xi:Int)=>un fun (iZ:Int)=>un fun (Pe:Bool) (eB:List V)=>
         bif (decide (0≤a))&&(decide (a<(eB.length:Int))) then
         (eB[(a:Int).toNat]?).bind fun gb=>
         bif (decide (0≤iZ))&&(decide (iZ<(eB.length:Int))) then
          (eB[(iZ:Int).toNat]?).bind fun lY=>
          bif (decide (0≤iZ))&&(decide (iZ<(eB.length:Int))) then
          (eB[(iZ:Int).toNat]?).bind fun x43=>
          bif (decide (0≤a))&&(decide (a<((eB.set ((iZ:Int).toNat) (.agg [.int .i64 ((gb.cell 0).toInt),.int .i64 ((gb.cell 1).toInt),.int .i64 ((gb.cell 2).toInt)])).length:Int))) then
           ((eB.set ((iZ:Int).toNat) (.agg [.int .i64 ((gb.cell 0).toInt),.int .i64 ((gb.cell 1).toInt),.int .i64 ((gb.cell 2).toInt)]))[(a:Int).toNat]?).bind fun x44=>
           some [.int .i64 iZ,.bool false,.list aS ((eB.set ((iZ:Int).toNat) (.agg [.int .i64 ((gb.cell 0).toInt),.int .i64 ((gb.cell 1).toInt),.int .i64 ((gb.cell 2).toInt)])).set ((a:Int).toNat) (.agg [.int .i64 ((lY.cell 0).toInt),.int .i64 ((lY.cell 1).toInt),.int .i64 ((lY.cell 2).toInt)]))]
          else none
          else none
         else none
         else none)
       else none
       else none
      else none
      else none))
   else none
  else none
  else none
 else none
theorem amQ {a b' pivot:Int} {ae:List V} {r:Option (List V)} (h:aa1 CC a b' pivot ae=r):CC oS [.int .i64 a,.int .i64 b',.int .i64 pivot,.list aS ae]=r:=
 bn (key:=104) (L:=aa0 CC) (bs:=[.loop (aq [1,1,1,0,0,0] rr),.loop (aq [1,1,1,1,0,0,0] rr),.loop (aq [1,1,1,1,1,1,1,1,1,0,0,0] rr)]) (by kernel_rfl) (aZ (amL CC) (aZ (amM CC) (aZ (amP CC) aw))) (bm (by kernel_rfl) h)
noncomputable abbrev Aq:Code:=bU Tryz.prog (az.aT 103)
noncomputable def E0 (C:af) (a j:Int) (ae:List V) (i:Int) {β:Type} (kn:Int→Option β) (kr:(Int × Bool)→Option β):Option β:=
 bif decide ((i:Int)≤j) then
  bif (decide (0≤a))&&(decide (a<(ae.length:Int))) then
  (ae[(a:Int).toNat]?).bind fun x5=>
  bif (decide (0≤i))&&(decide (i<(ae.length:Int))) then
   (ae[(i:Int).toNat]?).bind fun x6=>
   (C bE [.int .i64 ((x5.cell 0).toInt),.int .i64 ((x5.cell 1).toInt),.int .i64 ((x5.cell 2).toInt),.int .i64 ((x6.cell 0).toInt),.int .i64 ((x6.cell 1).toInt),.int .i64 ((x6.cell 2).toInt)]).bind fun r7=>
   bif !(decide ((((V.nth r7 0).toInt):Int)<0)) then
   kn (IntKind.wrap .i64 (i+1))
   else
   kr (i,!(decide ((((V.nth r7 0).toInt):Int)<0)))
  else none
  else none
 else
  kr (i,false)
noncomputable def E1 (C:af) (a j:Int) (ae:List V):(Int)→Option ((Int) ⊕ (Int × Bool)):=fun i=>E0 C a j ae i (fun y=>some (.inl y)) (fun r=>some (.inr r))
noncomputable def Ar (C:af) (a i:Int) (ae:List V) (j:Int) {β:Type} (kn:Int→Option β) (kr:(Int × Bool)→Option β):Option β:=
 bif decide ((i:Int)≤j) then
  bif (decide (0≤a))&&(decide (a<(ae.length:Int))) then
  (ae[(a:Int).toNat]?).bind fun fB=>
  bif (decide (0≤j))&&(decide (j<(ae.length:Int))) then
   (ae[(j:Int).toNat]?).bind fun fC=>
   (C bE [.int .i64 ((fB.cell 0).toInt),.int .i64 ((fB.cell 1).toInt),.int .i64 ((fB.cell 2).toInt),.int .i64 ((fC.cell 0).toInt),.int .i64 ((fC.cell 1).toInt),.int .i64 ((fC.cell 2).toInt)]).bind fun fP=>
   bif decide ((((V.nth fP 0).toInt):Int)<0) then
   kn (IntKind.wrap .i64 (j-1))
   else
   kr (j,decide ((((V.nth fP 0).toInt):Int)<0))
  else none
  else none
 else
  kr (j,false)
noncomputable def As (C:af) (a i:Int) (ae:List V):(Int)→Option ((Int) ⊕ (Int × Bool)):=fun j=>Ar C a i ae j (fun y=>some (.inl y)) (fun r=>some (.inr r))
noncomputable def E2 (C:af) (a i j:Int) (ae:List V) {β:Type} (kn:(Int × Int × (List V))→Option β) (kr:(Int × Int × Bool × (List V))→Option β):Option β:=
 (Loop (E1 C a j ae) i).bind (un fun (cM:Int) (oW:Bool)=>
  (Loop (As C a cM ae) j).bind (un fun (cm:Int) (v5:Bool)=>
   bif decide ((cM:Int)>cm) then
    kr (cM,cm,decide ((cM:Int)>cm),ae)
   else
    bif (decide (0≤cm))&&(decide (cm<(ae.length:Int))) then
    (ae[(cm:Int).toNat]?).bind fun db=>
    bif (decide (0≤cM))&&(decide (cM<(ae.length:Int))) then
     (ae[(cM:Int).toNat]?).bind fun da=>
     bif (decide (0≤cM))&&(decide (cM<(ae.length:Int))) then
     (ae[(cM:Int).toNat]?).bind fun p5=>
     bif (decide (0≤cm))&&(decide (cm<((ae.set ((cM:Int).toNat) (.agg [.int .i64 ((db.cell 0).toInt),.int .i64 ((db.cell 1).toInt),.int .i64 ((db.cell 2).toInt)])).length:Int))) then
      ((ae.set ((cM:Int).toNat) (.agg [.int .i64 ((db.cell 0).toInt),.int .i64 ((db.cell 1).toInt),.int .i64 ((db.cell 2).toInt)]))[(cm:Int).toNat]?).bind fun kJ=>
      kn (IntKind.wrap .i64 (cM+1),IntKind.wrap .i64 (cm-1),(ae.set ((cM:Int).toNat) (.agg [.int .i64 ((db.cell 0).toInt),.int .i64 ((db.cell 1).toInt),.int .i64 ((db.cell 2).toInt)])).set ((cm:Int).toNat) (.agg [.int .i64 ((da.cell 0).toInt),.int .i64 ((da.cell 1).toInt),.int .i64 ((da.cell 2).toInt)]))
     else none
     else none
    else none
    else none))
noncomputable def Au (C:af) (a:Int):(Int × Int × (List V))→Option ((Int × Int × (List V)) ⊕ (Int × Int × Bool × (List V))):=un fun i=>un fun j ae=>E2 C a i j ae (fun y=>some (.inl y)) (fun r=>some (.inr r))
noncomputable def aa2 (C:af):cj:=fun β n ds k=>
 bif Nat.beq n 49 then bt Oe [false,true,false,false] [[1,0,3,0,4]] (@E0 C) ds k else
 bif Nat.beq n 81 then bt Of [false,false,true,false] [[1,2,0,0,4]] (@Ar C) ds k else
 bif Nat.beq n 50 then bt Og [false,true,true,true] [[1,0,0,0,0]] (@E2 C) ds k else
 none
abbrev RN (C:af) (b:cg):Prop:=ch Tryz.prog az C (aa2 C) 103 (cv Tryz.prog (az.aT 103)) (az.sin 103).bf.length b
theorem amR (C:af):RN C (.loop (aq [1,1,1,0,0,0,0,0,0,0] Aq)):=
 bw Oe [false,true,false,false] [[1,0,3,0,4]] (@E0 C) (by kernel_rfl) (aM (bs:=[]) (by kernel_rfl) aw) (fun ds=>by kernel_rfl) (fun i x=>by kernel_rfl) (fun i x β k=>by kernel_rfl) (fun β ds k=>by kernel_rfl)
theorem amS (C:af):RN C (.loop (aq [1,1,1,0,0,0,0,1,0,0,0] Aq)):=
 bw Of [false,false,true,false] [[1,2,0,0,4]] (@Ar C) (by kernel_rfl) (aM (bs:=[]) (by kernel_rfl) aw) (fun ds=>by kernel_rfl) (fun i x=>by kernel_rfl) (fun i x β k=>by kernel_rfl) (fun β ds k=>by kernel_rfl)
theorem amT (C:af):RN C (.loop (aq [1,1,1,0,0,0] Aq)):=
 bw Og [false,true,true,true] [[1,0,0,0,0]] (@E2 C) (by kernel_rfl) (aM (bs:=[.loop (aq [1,1,1,0,0,0,0,0,0,0] Aq),.loop (aq [1,1,1,0,0,0,0,1,0,0,0] Aq)]) (by kernel_rfl) (aZ (amR C) (aZ (amS C) aw))) (fun ds=>by kernel_rfl) (fun i x=>by kernel_rfl) (fun i x β k=>by kernel_rfl) (fun β ds k=>by kernel_rfl)
noncomputable def aa3 (C:af) (a b' pivot:Int) (ae:List V):Option (List V):=
 bif (decide (0≤pivot))&&(decide (pivot<(ae.length:Int))) then
  (ae[(pivot:Int).toNat]?).bind fun x1=>
  bif (decide (0≤a))&&(decide (a<(ae.length:Int))) then
  (ae[(a:Int).toNat]?).bind fun x2=>
  bif (decide (0≤a))&&(decide (a<(ae.length:Int))) then
   (ae[(a:Int).toNat]?).bind fun x3=>
   bif (decide (0≤pivot))&&(decide (pivot<((ae.set ((a:Int).toNat) (.agg [.int .i64 ((x1.cell 0).toInt),.int .i64 ((x1.cell 1).toInt),.int .i64 ((x1.cell 2).toInt)])).length:Int))) then
   ((ae.set ((a:Int).toNat) (.agg [.int .i64 ((x1.cell 0).toInt),.int .i64 ((x1.cell 1).toInt),.int .i64 ((x1.cell 2).toInt)]))[(pivot:Int).toNat]?).bind fun x4=>
   (Loop (Au C a) (IntKind.wrap .i64 (a+1),IntKind.wrap .i64 (b'-1),(ae.set ((a:Int).toNat) (.agg [.int .i64 ((x1.cell 0).toInt),.int .i64 ((x1.cell 1).toInt),.int .i64 ((x1.cell 2).toInt)])).set ((pivot:Int).toNat) (.agg [.int .i64 ((x2.cell 0).toInt),.int .i64 ((x2.cell 1).toInt),.int .i64 ((x2.cell 2).toInt)]))).bind (un fun (P5:Int)=>un fun (ajD:Int)=>un fun (CS:Bool) (P6:List V)=>
    some [.int .i64 P5,.list aS P6])
   else none
  else none
  else none
 else none
theorem amU {a b' pivot:Int} {ae:List V} {r:Option (List V)} (h:aa3 CC a b' pivot ae=r):CC vT [.int .i64 a,.int .i64 b',.int .i64 pivot,.list aS ae]=r:=
 bn (key:=103) (L:=aa2 CC) (bs:=[.loop (aq [1,1,1,0,0,0] Aq)]) (by kernel_rfl) (aZ (amT CC) aw) (bm (by kernel_rfl) h)
noncomputable abbrev pe:Code:=bU Tryz.prog (az.aT 102)
noncomputable def E3 (C:af) (a b' j:Int) (ae:List V) (i:Int) {β:Type} (kn:Int→Option β) (kr:(Int × Bool)→Option β):Option β:=
 bif decide ((i:Int)<b') then
  bif (decide (0≤i))&&(decide (i<(ae.length:Int))) then
  (ae[(i:Int).toNat]?).bind fun x1=>
  bif (decide (0≤(IntKind.wrap .i64 (i-1))))&&(decide ((IntKind.wrap .i64 (i-1))<(ae.length:Int))) then
   (ae[(IntKind.wrap .i64 (i-1):Int).toNat]?).bind fun x2=>
   (C bE [.int .i64 ((x1.cell 0).toInt),.int .i64 ((x1.cell 1).toInt),.int .i64 ((x1.cell 2).toInt),.int .i64 ((x2.cell 0).toInt),.int .i64 ((x2.cell 1).toInt),.int .i64 ((x2.cell 2).toInt)]).bind fun r3=>
   bif !(decide ((((V.nth r3 0).toInt):Int)<0)) then
   kn (IntKind.wrap .i64 (i+1))
   else
   kr (i,!(decide ((((V.nth r3 0).toInt):Int)<0)))
  else none
  else none
 else
  kr (i,false)
noncomputable def E4 (C:af) (a b' j:Int) (ae:List V):(Int)→Option ((Int) ⊕ (Int × Bool)):=fun i=>E3 C a b' j ae i (fun y=>some (.inl y)) (fun r=>some (.inr r))
noncomputable def E5 (C:af) (a b' i j j':Int) (ae:List V) {β:Type} (kn:(Int × (List V))→Option β) (kr:(Int × (List V))→Option β):Option β:=
 bif decide ((j':Int)≥1) then
  bif (decide (0≤j'))&&(decide (j'<(ae.length:Int))) then
  (ae[(j':Int).toNat]?).bind fun fB=>
  bif (decide (0≤(IntKind.wrap .i64 (j'-1))))&&(decide ((IntKind.wrap .i64 (j'-1))<(ae.length:Int))) then
   (ae[(IntKind.wrap .i64 (j'-1):Int).toNat]?).bind fun fC=>
   (C bE [.int .i64 ((fB.cell 0).toInt),.int .i64 ((fB.cell 1).toInt),.int .i64 ((fB.cell 2).toInt),.int .i64 ((fC.cell 0).toInt),.int .i64 ((fC.cell 1).toInt),.int .i64 ((fC.cell 2).toInt)]).bind fun fP=>
   bif !(decide ((((V.nth fP 0).toInt):Int)<0)) then
   kr (j',ae)
   else
   bif (decide (0≤(IntKind.wrap .i64 (j'-1))))&&(decide ((IntKind.wrap .i64 (j'-1))<(ae.length:Int))) then
    (ae[(IntKind.wrap .i64 (j'-1):Int).toNat]?).bind fun dS=>
    bif (decide (0≤j'))&&(decide (j'<(ae.length:Int))) then
    (ae[(j':Int).toNat]?).bind fun iz=>
    bif (decide (0≤j'))&&(decide (j'<(ae.length:Int))) then
     (ae[(j':Int).toNat]?).bind fun db=>
     bif (decide (0≤(IntKind.wrap .i64 (j'-1))))&&(decide ((IntKind.wrap .i64 (j'-1))<((ae.set ((j':Int).toNat) (.agg [.int .i64 ((dS.cell 0).toInt),.int .i64 ((dS.cell 1).toInt),.int .i64 ((dS.cell 2).toInt)])).length:Int))) then
     ((ae.set ((j':Int).toNat) (.agg [.int .i64 ((dS.cell 0).toInt),.int .i64 ((dS.cell 1).toInt),.int .i64 ((dS.cell 2).toInt)]))[(IntKind.wrap .i64 (j'-1):Int).toNat]?).bind fun da=>
     kn (IntKind.wrap .i64 (j'-1),(ae.set ((j':Int).toNat) (.agg [.int .i64 ((dS.cell 0).toInt),.int .i64 ((dS.cell 1).toInt),.int .i64 ((dS.cell 2).toInt)])).set ((IntKind.wrap .i64 (j'-1):Int).toNat) (.agg [.int .i64 ((iz.cell 0).toInt),.int .i64 ((iz.cell 1).toInt),.int .i64 ((iz.cell 2).toInt)]))
     else none
    else none
    else none
   else none
  else none
  else none
 else
  kr (j',ae)
noncomputable def E6 (C:af) (a b' i j:Int):(Int × (List V))→Option ((Int × (List V)) ⊕ (Int × (List V))):=un fun j' ae=>E5 C a b' i j j' ae (fun y=>some (.inl y)) (fun r=>some (.inr r))
noncomputable def Kb (C:af) (a b' i j:Int) (t65:Bool) (ae:List V) {β:Type} (kr:(List V)→Option β):Option β:=
 bif t65 then
  (Loop (E6 C a b' i j) (IntKind.wrap .i64 (i-1),ae)).bind (un fun (ajF:Int) (P7:List V)=>
   kr P7)
 else
  kr ae
noncomputable def E7 (C:af) (a b' i j j':Int) (ae:List V) {β:Type} (kn:(Int × (List V))→Option β) (kr:(Int × (List V))→Option β):Option β:=
 bif decide ((j':Int)<b') then
  bif (decide (0≤j'))&&(decide (j'<(ae.length:Int))) then
  (ae[(j':Int).toNat]?).bind fun lX=>
  bif (decide (0≤(IntKind.wrap .i64 (j'-1))))&&(decide ((IntKind.wrap .i64 (j'-1))<(ae.length:Int))) then
   (ae[(IntKind.wrap .i64 (j'-1):Int).toNat]?).bind fun sI=>
   (C bE [.int .i64 ((lX.cell 0).toInt),.int .i64 ((lX.cell 1).toInt),.int .i64 ((lX.cell 2).toInt),.int .i64 ((sI.cell 0).toInt),.int .i64 ((sI.cell 1).toInt),.int .i64 ((sI.cell 2).toInt)]).bind fun eT=>
   bif !(decide ((((V.nth eT 0).toInt):Int)<0)) then
   kr (j',ae)
   else
   bif (decide (0≤(IntKind.wrap .i64 (j'-1))))&&(decide ((IntKind.wrap .i64 (j'-1))<(ae.length:Int))) then
    (ae[(IntKind.wrap .i64 (j'-1):Int).toNat]?).bind fun ez=>
    bif (decide (0≤j'))&&(decide (j'<(ae.length:Int))) then
    (ae[(j':Int).toNat]?).bind fun jN=>
    bif (decide (0≤j'))&&(decide (j'<(ae.length:Int))) then
     (ae[(j':Int).toNat]?).bind fun DE=>
     bif (decide (0≤(IntKind.wrap .i64 (j'-1))))&&(decide ((IntKind.wrap .i64 (j'-1))<((ae.set ((j':Int).toNat) (.agg [.int .i64 ((ez.cell 0).toInt),.int .i64 ((ez.cell 1).toInt),.int .i64 ((ez.cell 2).toInt)])).length:Int))) then
     ((ae.set ((j':Int).toNat) (.agg [.int .i64 ((ez.cell 0).toInt),.int .i64 ((ez.cell 1).toInt),.int .i64 ((ez.cell 2).toInt)]))[(IntKind.wrap .i64 (j'-1):Int).toNat]?).bind fun sJ=>
     kn (IntKind.wrap .i64 (j'+1),(ae.set ((j':Int).toNat) (.agg [.int .i64 ((ez.cell 0).toInt),.int .i64 ((ez.cell 1).toInt),.int .i64 ((ez.cell 2).toInt)])).set ((IntKind.wrap .i64 (j'-1):Int).toNat) (.agg [.int .i64 ((jN.cell 0).toInt),.int .i64 ((jN.cell 1).toInt),.int .i64 ((jN.cell 2).toInt)]))
     else none
    else none
    else none
   else none
  else none
  else none
 else
  kr (j',ae)
noncomputable def E8 (C:af) (a b' i j:Int):(Int × (List V))→Option ((Int × (List V)) ⊕ (Int × (List V))):=un fun j' ae=>E7 C a b' i j j' ae (fun y=>some (.inl y)) (fun r=>some (.inr r))
noncomputable def E9 (C:af) (a b' i j:Int) (ae:List V) {β:Type} (kn:(Int × Int × (List V))→Option β) (kr:((Bool × (List V)) ⊕ (Int × Int × Bool × (List V)))→Option β):Option β:=
 bif decide ((j:Int)<5) then
  (Loop (E4 C a b' j ae) i).bind (un fun (cQ:Int) (kF:Bool)=>
   bif (cQ:Int)==b' then
   kr (.inl (true,ae))
   else
   bif decide (((IntKind.wrap .i64 (b'-a)):Int)<50) then
    kr (.inl (false,ae))
   else
    bif (decide (0≤(IntKind.wrap .i64 (cQ-1))))&&(decide ((IntKind.wrap .i64 (cQ-1))<(ae.length:Int))) then
    (ae[(IntKind.wrap .i64 (cQ-1):Int).toNat]?).bind fun x6=>
    bif (decide (0≤cQ))&&(decide (cQ<(ae.length:Int))) then
     (ae[(cQ:Int).toNat]?).bind fun x7=>
     bif (decide (0≤cQ))&&(decide (cQ<(ae.length:Int))) then
     (ae[(cQ:Int).toNat]?).bind fun x8=>
     bif (decide (0≤(IntKind.wrap .i64 (cQ-1))))&&(decide ((IntKind.wrap .i64 (cQ-1))<((ae.set ((cQ:Int).toNat) (.agg [.int .i64 ((x6.cell 0).toInt),.int .i64 ((x6.cell 1).toInt),.int .i64 ((x6.cell 2).toInt)])).length:Int))) then
      ((ae.set ((cQ:Int).toNat) (.agg [.int .i64 ((x6.cell 0).toInt),.int .i64 ((x6.cell 1).toInt),.int .i64 ((x6.cell 2).toInt)]))[(IntKind.wrap .i64 (cQ-1):Int).toNat]?).bind fun x9=>
      Kb C a b' cQ j (decide (((IntKind.wrap .i64 (cQ-a)):Int)≥2)) ((ae.set ((cQ:Int).toNat) (.agg [.int .i64 ((x6.cell 0).toInt),.int .i64 ((x6.cell 1).toInt),.int .i64 ((x6.cell 2).toInt)])).set ((IntKind.wrap .i64 (cQ-1):Int).toNat) (.agg [.int .i64 ((x7.cell 0).toInt),.int .i64 ((x7.cell 1).toInt),.int .i64 ((x7.cell 2).toInt)])) (fun (DH:List V)=>
       bif decide (((IntKind.wrap .i64 (b'-cQ)):Int)≥2) then
       (Loop (E8 C a b' cQ j) (IntKind.wrap .i64 (cQ+1),DH)).bind (un fun (ajG:Int) (P8:List V)=>
        kn (cQ,IntKind.wrap .i64 (j+1),P8))
       else
       kn (cQ,IntKind.wrap .i64 (j+1),DH))
     else none
     else none
    else none
    else none)
 else
  kr (.inr (i,j,decide ((j:Int)<5),ae))
noncomputable def uB (C:af) (a b':Int):(Int × Int × (List V))→Option ((Int × Int × (List V)) ⊕ ((Bool × (List V)) ⊕ (Int × Int × Bool × (List V)))):=un fun i=>un fun j ae=>E9 C a b' i j ae (fun y=>some (.inl y)) (fun r=>some (.inr r))
noncomputable def aa4 (C:af):cj:=fun β n ds k=>
 bif Nat.beq n 81 then bt N9 [false,false,true,false,false] [[1,2,0,4,0,5]] (@E3 C) ds k else
 bif Nat.beq n 225 then bt Oa [false,false,false,false,true,true] [[1,2,3,4,0,0]] (@E5 C) ds k else
 bif Nat.beq n 1055 then fM Ob [[1,2,3,4,0]] (@Kb C) ds k else
 bif Nat.beq n 321 then bt Oc [false,false,false,false,true,true] [[1,2,3,4,0,0]] (@E7 C) ds k else
 bif Nat.beq n 49 then bt Od [false,false,true,true,true] [[0,0],[1,2,0,0,0,0]] (@E9 C) ds k else
 none
abbrev Fa (C:af) (b:cg):Prop:=ch Tryz.prog az C (aa4 C) 102 (cv Tryz.prog (az.aT 102)) (az.sin 102).bf.length b
theorem amV (C:af):Fa C (.loop (aq [1,1,0,1,0,0,1,0,0,0,0,0] pe)):=
 bw N9 [false,false,true,false,false] [[1,2,0,4,0,5]] (@E3 C) (by kernel_rfl) (aM (bs:=[]) (by kernel_rfl) aw) (fun ds=>by kernel_rfl) (fun i x=>by kernel_rfl) (fun i x β k=>by kernel_rfl) (fun β ds k=>by kernel_rfl)
theorem amW (C:af):Fa C (.loop (aq [1,1,0,1,0,0,1,0,0,1,1,1,1,0,1,0,1,0,0] pe)):=
 bw Oa [false,false,false,false,true,true] [[1,2,3,4,0,0]] (@E5 C) (by kernel_rfl) (aM (bs:=[]) (by kernel_rfl) aw) (fun ds=>by kernel_rfl) (fun i x=>by kernel_rfl) (fun i x β k=>by kernel_rfl) (fun β ds k=>by kernel_rfl)
theorem amX (C:af):Fa C (.cond 65 (aq [1,1,0,1,0,0,1,0,0,1,1,1,1,0,1,0] pe) (aq [1,1,0,1,0,0,1,0,0,1,1,1,1,0,1,1] pe)):=
 fX Ob [[1,2,3,4,0]] (@Kb C) (by kernel_rfl) (aM (bs:=[.loop (aq [1,1,0,1,0,0,1,0,0,1,1,1,1,0,1,0,1,0,0] pe)]) (by kernel_rfl) (aZ (amW C) aw)) (aM (bs:=[]) (by kernel_rfl) aw) (fun ds=>by kernel_rfl) (fun i β k=>by kernel_rfl) (fun β ds k=>by kernel_rfl)
theorem amY (C:af):Fa C (.loop (aq [1,1,0,1,0,0,1,0,0,1,1,1,1,1,1,0,1,0,0] pe)):=
 bw Oc [false,false,false,false,true,true] [[1,2,3,4,0,0]] (@E7 C) (by kernel_rfl) (aM (bs:=[]) (by kernel_rfl) aw) (fun ds=>by kernel_rfl) (fun i x=>by kernel_rfl) (fun i x β k=>by kernel_rfl) (fun β ds k=>by kernel_rfl)
theorem amZ (C:af):Fa C (.loop (aq [1,1,0,1,0,0] pe)):=
 bw Od [false,false,true,true,true] [[0,0],[1,2,0,0,0,0]] (@E9 C) (by kernel_rfl) (aM (bs:=[.loop (aq [1,1,0,1,0,0,1,0,0,0,0,0] pe),.cond 65 (aq [1,1,0,1,0,0,1,0,0,1,1,1,1,0,1,0] pe) (aq [1,1,0,1,0,0,1,0,0,1,1,1,1,0,1,1] pe),.loop (aq [1,1,0,1,0,0,1,0,0,1,1,1,1,1,1,0,1,0,0] pe)]) (by kernel_rfl) (aZ (amV C) (aZ (amX C) (aZ (amY C) aw)))) (fun ds=>by kernel_rfl) (fun i x=>by kernel_rfl) (fun i x β k=>by kernel_rfl) (fun β ds k=>by kernel_rfl)
noncomputable def aa5 (C:af) (a b':Int) (ae:List V):Option (List V):=
 (Loop (uB C a b') (IntKind.wrap .i64 (a+1),0,ae)).bind (bD (un fun (v9:Bool) (P9:List V)=>
  some [.bool v9,.list aS P9]) (un fun (ajM:Int)=>un fun (ajN:Int)=>un fun (za:Bool) (Qa:List V)=>
  some [.bool false,.list aS Qa]))
theorem am0 {a b':Int} {ae:List V} {r:Option (List V)} (h:aa5 CC a b' ae=r):CC H6 [.int .i64 a,.int .i64 b',.list aS ae]=r:=
 bn (key:=102) (L:=aa4 CC) (bs:=[.loop (aq [1,1,0,1,0,0] pe)]) (by kernel_rfl) (aZ (amZ CC) aw) (bm (by kernel_rfl) h)
end Go.AM
set_option maxRecDepth 100000
set_option maxHeartbeats 4000000
namespace Go.AM
open Go.Proofs Go.Sort
theorem nK (p:Ed→Bool) (d:Array Ed) (j i:Nat):scanUp p d j i=if i≤j then (if p d[i]! =true then scanUp p d j (i+1) else i) else i:=by
 conv=>lhs;rw[scanUp]
 by_cases h:i≤j
 ·rw[ag h];simp only[h,og,lE]
 ·rw[ah h,ah (by simp[h])]
theorem wB (p:Ed→Bool) (d:Array Ed) (i j:Nat):scanDown p d i (j+1)=if i≤j+1 then (if p d[j+1]! =true then scanDown p d i j else j+1) else j+1:=by
 conv=>lhs;rw[scanDown]
 by_cases h:i≤j+1
 ·rw[ag h];simp only[h,og,lE]
 ·rw[ah h,ah (by simp[h])]
theorem sK (d:Array Ed) (b i:Nat):scanSorted an d b i=if i<b then (if cD d[i]! d[i-1]! <0 then i else scanSorted an d b (i+1)) else i:=by
 conv=>lhs;rw[scanSorted]
 by_cases h:i<b
 ·rw[ag h];simp only[h,og,lE,jM]
  by_cases h2:cD d[i]! d[i-1]! <0
  ·rw[ah (jU h2),ag h2]
  ·rw[ag h2,ah h2]
 ·rw[ah h,ah (by simp[h])]
theorem DJ (j:Nat) (d:Array Ed):shiftDown an (j+1) d=if cD d[j+1]! d[j]! <0 then shiftDown an j (swp d (j+1) j) else d:=by
 conv=>lhs;rw[shiftDown]
 simp only[jM]
 by_cases h2:cD d[j+1]! d[j]! <0
 ·rw[ah (jU h2),ag h2]
 ·rw[ag h2,ah h2]
theorem sL (b j:Nat) (d:Array Ed):shiftUp an b j d=if j<b then (if cD d[j]! d[j-1]! <0 then shiftUp an b (j+1) (swp d j (j-1)) else d) else d:=by
 conv=>lhs;rw[shiftUp]
 simp only[jM]
 by_cases h:j<b
 ·rw[ag h,ag h]
  by_cases h2:cD d[j]! d[j-1]! <0
  ·rw[ah (jU h2),ag h2]
  ·rw[ag h2,ah h2]
 ·rw[ah h,ah h]
theorem Qb {a:Nat}: ∀(n i j:Nat) (d:Array Ed),j+1-i≤n→(partLoop an a i j d).2.size=d.size∧(partLoop an a i j d).1≤j:=by
 intro n
 induction n with
 | zero=>
  intro i j d hn
  have h1:=scanUp_ge (fun x=>an x d[a]!) d j i
  have h2:=scanDown_le (fun x=> !an x d[a]!) d (scanUp (fun x=>an x d[a]!) d j i) j
  rw[partLoop_eq,ag (by omega)]
  exact ⟨rfl,h2⟩
 | succ n ih=>
  intro i j d hn
  rw[partLoop_eq]
  have h1:=scanUp_ge (fun x=>an x d[a]!) d j i
  have h2:=scanDown_le (fun x=> !an x d[a]!) d (scanUp (fun x=>an x d[a]!) d j i) j
  split
  ·exact ⟨rfl,h2⟩
  ·obtain ⟨h3,h4⟩:=ih (scanUp (fun x=>an x d[a]!) d j i+1) (scanDown (fun x=> !an x d[a]!) d (scanUp (fun x=>an x d[a]!) d j i) j-1) (swp d (scanUp (fun x=>an x d[a]!) d j i) (scanDown (fun x=> !an x d[a]!) d (scanUp (fun x=>an x d[a]!) d j i) j)) (by omega)
   exact ⟨by rw[h3,size_swp],by omega⟩
theorem eU {β:Type} {d:Array Ed} {i:Nat} {x y:Option β} (h:i<d.size):(bif (decide (0≤(i:Int)))&&(decide ((i:Int)<((eA d).length:Int))) then x else y)=x:=by
 rw[dg,bK,ar,ag (by omega),ar,ag (by omega)]
theorem sM {β:Type} {d:Array Ed} {i k:Nat} {v:V} {x y:Option β} (h:i<d.size):(bif (decide (0≤(i:Int)))&&(decide ((i:Int)<(((eA d).set k v).length:Int))) then x else y)=x:=by
 rw[kR,dg,bK,ar,ag (by omega),ar,ag (by omega)]
theorem eV {β:Type} {d:Array Ed} {i:Nat} {f:V→Option β} (h:i<d.size):((eA d)[(i:Int).toNat]?).bind f=f (d[i]!).enc:=by
 rw[Int.toNat_natCast,dm h];rfl
theorem sN {β:Type} {d:Array Ed} {i k:Nat} {v:V} {x:Option β} (h:i<d.size):(((eA d).set k v)[(i:Int).toNat]?).bind (fun _=>x)=x:=by
 rw[Int.toNat_natCast,bZ (by rw[kR,dg];exact h)];rfl
theorem jP {β:Type} {d:Array Ed} {i:Nat} {f:V→Option β} (h:i<d.size):((eA d)[i]?).bind f=f (d[i]!).enc:=by
 rw[dm h];rfl
theorem wC {β:Type} {d:Array Ed} {i k:Nat} {v:V} {x:Option β} (h:i<d.size):(((eA d).set k v)[i]?).bind (fun _=>x)=x:=by
 rw[bZ (by rw[kR,dg];exact h)];rfl
theorem Qc {a j:Nat} {d:Array Ed} (ha:a<d.size) (hj:j<d.size) (hs:d.size<1152921504606846976): ∀(n i:Nat),j+1-i=n→i≤d.size→
  ∃t,Loop (EV CC a j (eA d)) (i:Int)=some (((scanUp (fun x=>an x d[a]!) d j i:Nat):Int),t):=by
 intro n
 induction n with
 | zero=>
  intro i hn hi
  rw[nK,ah (by omega)]
  exact ⟨false,aG (by simp (disch:=omega) only[EV,EU,ar,ah])⟩
 | succ n ih=>
  intro i hn hi
  obtain ⟨t,h⟩:=ih (i+1) (by omega) (by omega)
  rw[nK,ag (by omega)]
  have e:EV CC a j (eA d) (i:Int)=if cD d[i]! d[a]! <0 then some (.inl ((i+1:Nat):Int)) else some (.inr ((i:Int),decide (cD d[i]! d[a]! <0))):=by
   simp (disch:=omega) only[EV,EU,ar,bK,dH,ag,ah,wrap64,bW,di,Int.toNat_natCast,Option.bind_some,dg,dm,Ed.aH,Ed.aN,Ed.aK,Ed.re,dh,dM,dF,iO,V.aD,V.toInt_int,cond_true,cond_false]
  simp only[kK]
  by_cases h2:cD d[i]! d[a]! <0
  ·rw[ag h2] at e
   rw[ag h2]
   exact ⟨t,(br e).trans h⟩
  ·rw[ah h2] at e
   rw[ah h2]
   exact ⟨_,aG e⟩
theorem DK {a j:Nat} {d:Array Ed} (ha:a<d.size) (hj:j<d.size) (hs:d.size<1152921504606846976): ∀(n i:Nat),j+1-i=n→i≤d.size→
  ∃t,Loop (EX CC a j (eA d)) (i:Int)=some (((scanUp (fun x=>an x d[a]!) d j i:Nat):Int),t):=by
 intro n
 induction n with
 | zero=>
  intro i hn hi
  rw[nK,ah (by omega)]
  exact ⟨false,aG (by simp (disch:=omega) only[EX,EW,ar,ah])⟩
 | succ n ih=>
  intro i hn hi
  obtain ⟨t,h⟩:=ih (i+1) (by omega) (by omega)
  rw[nK,ag (by omega)]
  have e:EX CC a j (eA d) (i:Int)=if cD d[i]! d[a]! <0 then some (.inl ((i+1:Nat):Int)) else some (.inr ((i:Int),decide (cD d[i]! d[a]! <0))):=by
   simp (disch:=omega) only[EX,EW,ar,bK,dH,ag,ah,wrap64,bW,di,Int.toNat_natCast,Option.bind_some,dg,dm,Ed.aH,Ed.aN,Ed.aK,Ed.re,dh,dM,dF,iO,V.aD,V.toInt_int,cond_true,cond_false]
  simp only[kK]
  by_cases h2:cD d[i]! d[a]! <0
  ·rw[ag h2] at e
   rw[ag h2]
   exact ⟨t,(br e).trans h⟩
  ·rw[ah h2] at e
   rw[ah h2]
   exact ⟨_,aG e⟩
theorem DL {a i:Nat} {d:Array Ed} (ha:a<d.size) (hi:1≤i) (hs:d.size<1152921504606846976): ∀(j:Nat),j<d.size→
  ∃t,Loop (Am CC a i (eA d)) (j:Int)=some (((scanDown (fun x=> !an x d[a]!) d i j:Nat):Int),t)
 | 0,hj=>⟨false,aG (by simp (disch:=omega) only[Am,Al,ar,ah];rfl)⟩
 | j+1,hj=>by
  obtain ⟨t,h⟩:=DL ha hi hs j (by omega)
  rw[wB]
  by_cases h1:i≤j+1
  ·rw[ag h1]
   have e:Am CC a i (eA d) ((j+1:Nat):Int)=if cD d[j+1]! d[a]! <0 then some (.inr (((j+1:Nat):Int),!decide (cD d[j+1]! d[a]! <0))) else some (.inl (j:Int)):=by
    simp (disch:=omega) only[Am,Al,ar,bK,dH,ag,ah,wrap64,bW,di,Int.toNat_natCast,Option.bind_some,dg,dm,Ed.aH,Ed.aN,Ed.aK,Ed.re,dh,dM,dF,iO,V.aD,V.toInt_int,cond_true,cond_false,lU]
   simp only[jM]
   by_cases h2:cD d[j+1]! d[a]! <0
   ·rw[ag h2] at e
    rw[ah (jU h2)]
    exact ⟨_,aG e⟩
   ·rw[ah h2] at e
    rw[ag h2]
    exact ⟨t,(br e).trans h⟩
  ·rw[ah h1]
   exact ⟨false,aG (by simp (disch:=omega) only[Am,Al,ar,ah])⟩
theorem wD {a i:Nat} {d:Array Ed} (ha:a<d.size) (hi:1≤i) (hs:d.size<1152921504606846976): ∀(j:Nat),j<d.size→
  ∃t,Loop (Ao CC a i (eA d)) (j:Int)=some (((scanDown (fun x=> !an x d[a]!) d i j:Nat):Int),t)
 | 0,hj=>⟨false,aG (by simp (disch:=omega) only[Ao,An,ar,ah];rfl)⟩
 | j+1,hj=>by
  obtain ⟨t,h⟩:=wD ha hi hs j (by omega)
  rw[wB]
  by_cases h1:i≤j+1
  ·rw[ag h1]
   have e:Ao CC a i (eA d) ((j+1:Nat):Int)=if cD d[j+1]! d[a]! <0 then some (.inr (((j+1:Nat):Int),!decide (cD d[j+1]! d[a]! <0))) else some (.inl (j:Int)):=by
    simp (disch:=omega) only[Ao,An,ar,bK,dH,ag,ah,wrap64,bW,di,Int.toNat_natCast,Option.bind_some,dg,dm,Ed.aH,Ed.aN,Ed.aK,Ed.re,dh,dM,dF,iO,V.aD,V.toInt_int,cond_true,cond_false,lU]
   simp only[jM]
   by_cases h2:cD d[j+1]! d[a]! <0
   ·rw[ag h2] at e
    rw[ah (jU h2)]
    exact ⟨_,aG e⟩
   ·rw[ah h2] at e
    rw[ag h2]
    exact ⟨t,(br e).trans h⟩
  ·rw[ah h1]
   exact ⟨false,aG (by simp (disch:=omega) only[Ao,An,ar,ah])⟩
theorem DM {a j:Nat} {d:Array Ed} (ha:a<d.size) (hj:j<d.size) (hs:d.size<1152921504606846976): ∀(n i:Nat),j+1-i=n→i≤d.size→
  ∃t,Loop (E1 CC a j (eA d)) (i:Int)=some (((scanUp (fun x=> !an d[a]! x) d j i:Nat):Int),t):=by
 intro n
 induction n with
 | zero=>
  intro i hn hi
  rw[nK,ah (by omega)]
  exact ⟨false,aG (by simp (disch:=omega) only[E1,E0,ar,ah])⟩
 | succ n ih=>
  intro i hn hi
  obtain ⟨t,h⟩:=ih (i+1) (by omega) (by omega)
  rw[nK,ag (by omega)]
  have e:E1 CC a j (eA d) (i:Int)=if cD d[a]! d[i]! <0 then some (.inr ((i:Int),!decide (cD d[a]! d[i]! <0))) else some (.inl ((i+1:Nat):Int)):=by
   simp (disch:=omega) only[E1,E0,ar,bK,dH,ag,ah,wrap64,bW,di,Int.toNat_natCast,Option.bind_some,dg,dm,Ed.aH,Ed.aN,Ed.aK,Ed.re,dh,dM,dF,iO,V.aD,V.toInt_int,cond_true,cond_false]
  simp only[jM]
  by_cases h2:cD d[a]! d[i]! <0
  ·rw[ag h2] at e
   rw[ah (jU h2)]
   exact ⟨_,aG e⟩
  ·rw[ah h2] at e
   rw[ag h2]
   exact ⟨t,(br e).trans h⟩
theorem wE {a i:Nat} {d:Array Ed} (ha:a<d.size) (hi:1≤i) (hs:d.size<1152921504606846976): ∀(j:Nat),j<d.size→
  ∃t,Loop (As CC a i (eA d)) (j:Int)=some (((scanDown (fun x=>an d[a]! x) d i j:Nat):Int),t)
 | 0,hj=>⟨false,aG (by simp (disch:=omega) only[As,Ar,ar,ah];rfl)⟩
 | j+1,hj=>by
  obtain ⟨t,h⟩:=wE ha hi hs j (by omega)
  rw[wB]
  by_cases h1:i≤j+1
  ·rw[ag h1]
   have e:As CC a i (eA d) ((j+1:Nat):Int)=if cD d[a]! d[j+1]! <0 then some (.inl (j:Int)) else some (.inr (((j+1:Nat):Int),decide (cD d[a]! d[j+1]! <0))):=by
    simp (disch:=omega) only[As,Ar,ar,bK,dH,ag,ah,wrap64,bW,di,Int.toNat_natCast,Option.bind_some,dg,dm,Ed.aH,Ed.aN,Ed.aK,Ed.re,dh,dM,dF,iO,V.aD,V.toInt_int,cond_true,cond_false,lU]
   simp only[kK]
   by_cases h2:cD d[a]! d[j+1]! <0
   ·rw[ag h2] at e
    rw[ag h2]
    exact ⟨t,(br e).trans h⟩
   ·rw[ah h2] at e
    rw[ah h2]
    exact ⟨_,aG e⟩
  ·rw[ah h1]
   exact ⟨false,aG (by simp (disch:=omega) only[As,Ar,ar,ah])⟩
theorem Qd {a:Nat}: ∀(n i j:Nat) (d:Array Ed),j+1-i≤n→1≤i→i≤d.size→a<d.size→j<d.size→d.size<1152921504606846976→
  ∃x z,Loop (Ap CC a) ((i:Int),(j:Int),eA d)=some (x,(((partLoop an a i j d).1:Nat):Int),z,eA (partLoop an a i j d).2):=by
 intro n
 induction n with
 | zero=>
  intro i j d hn h1 h2 ha hj hs
  obtain ⟨t3,e3⟩:=DK (a:=a) ha hj hs _ i rfl h2
  have g1:=scanUp_ge (fun x=>an x d[a]!) d j i
  have g2:=scanDown_le (fun x=> !an x d[a]!) d (scanUp (fun x=>an x d[a]!) d j i) j
  obtain ⟨t4,e4⟩:=wD (a:=a) (i:=scanUp (fun x=>an x d[a]!) d j i) ha (by omega) hs j hj
  rw[partLoop_eq,ag (by omega)]
  refine ⟨((scanUp (fun x=>an x d[a]!) d j i:Nat):Int),true,aG ?_⟩
  simp only[Ap,EY,un]
  rw[e3]
  simp only[Option.bind_some,un]
  rw[e4]
  simp (disch:=omega) only[Option.bind_some,un,hD,cond_true]
 | succ n ih=>
  intro i j d hn h1 h2 ha hj hs
  obtain ⟨t3,e3⟩:=DK (a:=a) ha hj hs _ i rfl h2
  have g1:=scanUp_ge (fun x=>an x d[a]!) d j i
  have g2:=scanDown_le (fun x=> !an x d[a]!) d (scanUp (fun x=>an x d[a]!) d j i) j
  obtain ⟨t4,e4⟩:=wD (a:=a) (i:=scanUp (fun x=>an x d[a]!) d j i) ha (by omega) hs j hj
  rw[partLoop_eq]
  have f:Ap CC a ((i:Int),(j:Int),eA d)=Ap CC a ((i:Int),(j:Int),eA d):=rfl
  conv at f=>rhs;simp only[Ap,EY,un];rw[e3];simp only[Option.bind_some,un];rw[e4];simp only[Option.bind_some,un]
  generalize eE:scanUp (fun x=>an x d[a]!) d j i=i2 at*
  generalize ig:scanDown (fun x=> !an x d[a]!) d i2 j=j2 at*
  by_cases h:i2>j2
  ·rw[ag h]
   refine ⟨(i2:Int),true,aG (f.trans ?_)⟩
   simp (disch:=omega) only[Option.bind_some,hD,cond_true]
  ·rw[ah h]
   obtain ⟨x,z,e⟩:=ih (i2+1) (j2-1) (swp d i2 j2) (by omega) (by omega) (by rw[size_swp];omega) (by rw[size_swp];omega) (by rw[size_swp];omega) (by rw[size_swp];omega)
   refine ⟨x,z,(br (f.trans ?_)).trans e⟩
   simp (disch:=omega) only[ar,bK,dH,ag,ah,wrap64,bW,di,Int.toNat_natCast,Option.bind_some,dg,dm,Ed.aH,Ed.aN,Ed.aK,Ed.re,dh,dM,dF,iO,V.aD,V.toInt_int,cond_true,cond_false,eS]
   rfl
theorem Qe (d:Array Ed) (a b pivot:Nat):partition an d a b pivot=
  if scanUp (fun x=>an x (swp d a pivot)[a]!) (swp d a pivot) (b-1) (a+1)>scanDown (fun x=> !an x (swp d a pivot)[a]!) (swp d a pivot) (scanUp (fun x=>an x (swp d a pivot)[a]!) (swp d a pivot) (b-1) (a+1)) (b-1) then
   (scanDown (fun x=> !an x (swp d a pivot)[a]!) (swp d a pivot) (scanUp (fun x=>an x (swp d a pivot)[a]!) (swp d a pivot) (b-1) (a+1)) (b-1),true,swp (swp d a pivot) (scanDown (fun x=> !an x (swp d a pivot)[a]!) (swp d a pivot) (scanUp (fun x=>an x (swp d a pivot)[a]!) (swp d a pivot) (b-1) (a+1)) (b-1)) a)
  else
   ((partLoop an a (scanUp (fun x=>an x (swp d a pivot)[a]!) (swp d a pivot) (b-1) (a+1)+1) (scanDown (fun x=> !an x (swp d a pivot)[a]!) (swp d a pivot) (scanUp (fun x=>an x (swp d a pivot)[a]!) (swp d a pivot) (b-1) (a+1)) (b-1)-1) (swp (swp d a pivot) (scanUp (fun x=>an x (swp d a pivot)[a]!) (swp d a pivot) (b-1) (a+1)) (scanDown (fun x=> !an x (swp d a pivot)[a]!) (swp d a pivot) (scanUp (fun x=>an x (swp d a pivot)[a]!) (swp d a pivot) (b-1) (a+1)) (b-1)))).1,false,
    swp (partLoop an a (scanUp (fun x=>an x (swp d a pivot)[a]!) (swp d a pivot) (b-1) (a+1)+1) (scanDown (fun x=> !an x (swp d a pivot)[a]!) (swp d a pivot) (scanUp (fun x=>an x (swp d a pivot)[a]!) (swp d a pivot) (b-1) (a+1)) (b-1)-1) (swp (swp d a pivot) (scanUp (fun x=>an x (swp d a pivot)[a]!) (swp d a pivot) (b-1) (a+1)) (scanDown (fun x=> !an x (swp d a pivot)[a]!) (swp d a pivot) (scanUp (fun x=>an x (swp d a pivot)[a]!) (swp d a pivot) (b-1) (a+1)) (b-1)))).2
    (partLoop an a (scanUp (fun x=>an x (swp d a pivot)[a]!) (swp d a pivot) (b-1) (a+1)+1) (scanDown (fun x=> !an x (swp d a pivot)[a]!) (swp d a pivot) (scanUp (fun x=>an x (swp d a pivot)[a]!) (swp d a pivot) (b-1) (a+1)) (b-1)-1) (swp (swp d a pivot) (scanUp (fun x=>an x (swp d a pivot)[a]!) (swp d a pivot) (b-1) (a+1)) (scanDown (fun x=> !an x (swp d a pivot)[a]!) (swp d a pivot) (scanUp (fun x=>an x (swp d a pivot)[a]!) (swp d a pivot) (b-1) (a+1)) (b-1)))).1 a):=rfl
theorem nL (d:Array Ed) (i j:Nat):eA ((d.setIfInBounds i d[j]!).setIfInBounds j d[i]!)=eA (swp d i j):=rfl
theorem Qf {a b pivot:Nat} {d:Array Ed} (hp:pivot<b) (dq:a<b) (hb:b≤d.size) (hs:d.size<1152921504606846976):
  CC oS [.int .i64 (a:Int),.int .i64 (b:Int),.int .i64 (pivot:Int),.list aS (eA d)]=
   some [.int .i64 ((partition an d a b pivot).1:Int),.bool (partition an d a b pivot).2.1,.list aS (eA (partition an d a b pivot).2.2)]:=by
 refine amQ ?_
 unfold aa1
 have z1:(swp d a pivot).size=d.size:=size_swp ..
 obtain ⟨t1,e1⟩:=Qc (a:=a) (j:=b-1) (d:=swp d a pivot) (by omega) (by omega) (by omega) _ (a+1) rfl (by omega)
 have g1:=scanUp_ge (fun x=>an x (swp d a pivot)[a]!) (swp d a pivot) (b-1) (a+1)
 have g2:=scanDown_le (fun x=> !an x (swp d a pivot)[a]!) (swp d a pivot) (scanUp (fun x=>an x (swp d a pivot)[a]!) (swp d a pivot) (b-1) (a+1)) (b-1)
 obtain ⟨t2,e2⟩:=DL (a:=a) (i:=scanUp (fun x=>an x (swp d a pivot)[a]!) (swp d a pivot) (b-1) (a+1)) (d:=swp d a pivot) (by omega) (by omega) (by omega) (b-1) (by omega)
 have e0:=Qe d a b pivot
 rw[eU (i:=pivot) (by omega),eV (by omega),eU (i:=a) (by omega),eV (by omega),eU (i:=a) (by omega),eV (by omega),sM (i:=pivot) (by omega),sN (by omega)]
 simp only[Ed.aH,Ed.aN,Ed.aK,Ed.re,Int.toNat_natCast,dh,nL]
 simp (disch:=omega) only[eS,bW,wrap64]
 rw[e1]
 simp only[Option.bind_some,un]
 rw[e2]
 simp only[Option.bind_some,un]
 generalize eE:scanUp (fun x=>an x (swp d a pivot)[a]!) (swp d a pivot) (b-1) (a+1)=i2 at*
 generalize ig:scanDown (fun x=> !an x (swp d a pivot)[a]!) (swp d a pivot) i2 (b-1)=j2 at*
 generalize swp d a pivot=d1 at*
 by_cases h:i2>j2
 ·rw[ag h] at e0
  rw[e0,ar,ag (by omega)]
  rw[eU (i:=a) (by omega)];(first|rw[eV (by omega)]|rw[jP (by omega)]);rw[eU (i:=j2) (by omega)];(first|rw[eV (by omega)]|rw[jP (by omega)]);rw[eU (i:=j2) (by omega)];(first|rw[eV (by omega)]|rw[jP (by omega)]);rw[sM (i:=a) (by omega)];(first|rw[sN (by omega)]|rw[wC (by omega)])
  simp only[Ed.aH,Ed.aN,Ed.aK,Ed.re,Int.toNat_natCast,dh,nL]
 ·rw[ah h] at e0
  rw[e0,ar,ah (by omega)]
  have z2:(swp d1 i2 j2).size=d1.size:=size_swp ..
  obtain ⟨x,z,e5⟩:=Qd (a:=a) _ (i2+1) (j2-1) (swp d1 i2 j2) (bN _) (by omega) (by omega) (by omega) (by omega) (by omega)
  obtain ⟨q1,q2⟩:=Qb (a:=a) _ (i2+1) (j2-1) (swp d1 i2 j2) (bN _)
  rw[eU (i:=j2) (by omega)];(first|rw[eV (by omega)]|rw[jP (by omega)]);rw[eU (i:=i2) (by omega)];(first|rw[eV (by omega)]|rw[jP (by omega)]);rw[eU (i:=i2) (by omega)];(first|rw[eV (by omega)]|rw[jP (by omega)]);rw[sM (i:=j2) (by omega)];(first|rw[sN (by omega)]|rw[wC (by omega)])
  simp only[Ed.aH,Ed.aN,Ed.aK,Ed.re,Int.toNat_natCast,dh,nL]
  simp (disch:=omega) only[eS,bW,wrap64]
  rw[e5]
  generalize partLoop an a (i2+1) (j2-1) (swp d1 i2 j2)=r at*
  simp only[Option.bind_some,un]
  rw[eU (i:=a) (by omega)];(first|rw[eV (by omega)]|rw[jP (by omega)]);rw[eU (i:=r.1) (by omega)];(first|rw[eV (by omega)]|rw[jP (by omega)]);rw[eU (i:=r.1) (by omega)];(first|rw[eV (by omega)]|rw[jP (by omega)]);rw[sM (i:=a) (by omega)];(first|rw[sN (by omega)]|rw[wC (by omega)])
  simp only[Ed.aH,Ed.aN,Ed.aK,Ed.re,Int.toNat_natCast,dh,nL]
theorem Qg {a:Nat}: ∀(n i j:Nat) (d:Array Ed),j+1-i≤n→1≤i→i≤d.size→a<d.size→j<d.size→d.size<1152921504606846976→
  ∃x z,Loop (Au CC a) ((i:Int),(j:Int),eA d)=some ((((partEqLoop an a i j d).1:Nat):Int),x,z,eA (partEqLoop an a i j d).2):=by
 intro n
 induction n with
 | zero=>
  intro i j d hn h1 h2 ha hj hs
  obtain ⟨t3,e3⟩:=DM (a:=a) ha hj hs _ i rfl h2
  have g1:=scanUp_ge (fun x=> !an d[a]! x) d j i
  have g2:=scanDown_le (fun x=>an d[a]! x) d (scanUp (fun x=> !an d[a]! x) d j i) j
  obtain ⟨t4,e4⟩:=wE (a:=a) (i:=scanUp (fun x=> !an d[a]! x) d j i) ha (by omega) hs j hj
  rw[partEqLoop_eq,ag (by omega)]
  refine ⟨((scanDown (fun x=>an d[a]! x) d (scanUp (fun x=> !an d[a]! x) d j i) j:Nat):Int),true,aG ?_⟩
  simp only[Au,E2,un]
  rw[e3]
  simp only[Option.bind_some,un]
  rw[e4]
  simp (disch:=omega) only[Option.bind_some,un,hD,cond_true]
 | succ n ih=>
  intro i j d hn h1 h2 ha hj hs
  obtain ⟨t3,e3⟩:=DM (a:=a) ha hj hs _ i rfl h2
  have g1:=scanUp_ge (fun x=> !an d[a]! x) d j i
  have g2:=scanDown_le (fun x=>an d[a]! x) d (scanUp (fun x=> !an d[a]! x) d j i) j
  obtain ⟨t4,e4⟩:=wE (a:=a) (i:=scanUp (fun x=> !an d[a]! x) d j i) ha (by omega) hs j hj
  rw[partEqLoop_eq]
  have f:Au CC a ((i:Int),(j:Int),eA d)=Au CC a ((i:Int),(j:Int),eA d):=rfl
  conv at f=>rhs;simp only[Au,E2,un];rw[e3];simp only[Option.bind_some,un];rw[e4];simp only[Option.bind_some,un]
  generalize eE:scanUp (fun x=> !an d[a]! x) d j i=i2 at*
  generalize ig:scanDown (fun x=>an d[a]! x) d i2 j=j2 at*
  by_cases h:i2>j2
  ·rw[ag h]
   refine ⟨(j2:Int),true,aG (f.trans ?_)⟩
   simp (disch:=omega) only[Option.bind_some,hD,cond_true]
  ·rw[ah h]
   obtain ⟨x,z,e⟩:=ih (i2+1) (j2-1) (swp d i2 j2) (by omega) (by omega) (by rw[size_swp];omega) (by rw[size_swp];omega) (by rw[size_swp];omega) (by rw[size_swp];omega)
   refine ⟨x,z,(br (f.trans ?_)).trans e⟩
   simp (disch:=omega) only[ar,bK,dH,ag,ah,wrap64,bW,di,Int.toNat_natCast,Option.bind_some,dg,dm,Ed.aH,Ed.aN,Ed.aK,Ed.re,dh,dM,dF,iO,V.aD,V.toInt_int,cond_true,cond_false,eS]
   rfl
theorem Qh {a b pivot:Nat} {d:Array Ed} (hp:pivot<b) (dq:a<b) (hb:b≤d.size) (hs:d.size<1152921504606846976):
  CC vT [.int .i64 (a:Int),.int .i64 (b:Int),.int .i64 (pivot:Int),.list aS (eA d)]=
   some [.int .i64 ((partitionEqual an d a b pivot).1:Int),.list aS (eA (partitionEqual an d a b pivot).2)]:=by
 refine amU ?_
 unfold aa3
 have z1:(swp d a pivot).size=d.size:=size_swp ..
 obtain ⟨x,z,e⟩:=Qg (a:=a) _ (a+1) (b-1) (swp d a pivot) (bN _) (by omega) (by omega) (by omega) (by omega) (by omega)
 simp (disch:=omega) only[ar,bK,ag,dg,dm,Int.toNat_natCast,Option.bind_some,Ed.aH,Ed.aN,Ed.aK,Ed.re,dh,dM,dF,eS,bW,wrap64,nL]
 rw[e]
 rfl
theorem Qi {a b j:Nat} {d:Array Ed} (hb:b≤d.size) (hs:d.size<1152921504606846976): ∀(n i:Nat),b-i=n→1≤i→i≤b→
  ∃t,Loop (E4 CC a b j (eA d)) (i:Int)=some (((scanSorted an d b i:Nat):Int),t):=by
 intro n
 induction n with
 | zero=>
  intro i hn h1 hi
  rw[sK,ah (by omega)]
  exact ⟨false,aG (by simp (disch:=omega) only[E4,E3,ar,ah])⟩
 | succ n ih=>
  intro i hn h1 hi
  obtain ⟨t,h⟩:=ih (i+1) (by omega) (by omega) (by omega)
  rw[sK,ag (by omega)]
  have e:E4 CC a b j (eA d) (i:Int)=if cD d[i]! d[i-1]! <0 then some (.inr ((i:Int),!decide (cD d[i]! d[i-1]! <0))) else some (.inl ((i+1:Nat):Int)):=by
   simp (disch:=omega) only[E4,E3,eS,ar,bK,dH,ag,ah,wrap64,bW,di,Int.toNat_natCast,Option.bind_some,dg,dm,Ed.aH,Ed.aN,Ed.aK,Ed.re,dh,dM,dF,iO,V.aD,V.toInt_int,cond_true,cond_false]
  by_cases h2:cD d[i]! d[i-1]! <0
  ·rw[ag h2] at e⊢
   exact ⟨_,aG e⟩
  ·rw[ah h2] at e⊢
   exact ⟨t,(br e).trans h⟩
theorem DN: ∀(j:Nat) (d:Array Ed),(shiftDown an j d).size=d.size
 | 0,_=>rfl
 | j+1,d=>by
  rw[DJ]
  split
  ·rw[DN j,size_swp]
  ·rfl
theorem Qj {b:Nat}: ∀(n j:Nat) (d:Array Ed),b-j=n→(shiftUp an b j d).size=d.size:=by
 intro n
 induction n with
 | zero=>intro j d h;rw[sL,ah (by omega)]
 | succ n ih=>
  intro j d h
  rw[sL,ag (by omega)]
  split
  ·rw[ih _ _ (by omega),size_swp]
  ·rfl
theorem DO {a b i k:Nat}: ∀(j:Nat) (d:Array Ed),j<d.size→d.size<1152921504606846976→
  ∃t,Loop (E6 CC a b i k) ((j:Int),eA d)=some (t,eA (shiftDown an j d))
 | 0,d,hj,hs=>⟨(0:Nat),aG (by
   simp (disch:=omega) only[E6,E5,un,ar,ah]
   rfl)⟩
 | j+1,d,hj,hs=>by
  obtain ⟨t,ih⟩:=DO (a:=a) (b:=b) (i:=i) (k:=k) j (swp d (j+1) j) (by rw[size_swp];omega) (by rw[size_swp];omega)
  rw[DJ]
  have e:E6 CC a b i k (((j+1:Nat):Int),eA d)=if cD d[j+1]! d[j]! <0 then some (.inl ((j:Int),eA (swp d (j+1) j))) else some (.inr (((j+1:Nat):Int),eA d)):=by
   simp (disch:=omega) only[E6,E5,un,ar,bK,dH,ag,ah,wrap64,bW,di,Int.toNat_natCast,Option.bind_some,dg,dm,Ed.aH,Ed.aN,Ed.aK,Ed.re,dh,dM,dF,iO,V.aD,V.toInt_int,cond_true,cond_false,lU]
   rfl
  by_cases h2:cD d[j+1]! d[j]! <0
  ·rw[ag h2] at e⊢
   exact ⟨t,(br e).trans ih⟩
  ·rw[ah h2] at e⊢
   exact ⟨_,aG e⟩
theorem Qk {a b i k:Nat}: ∀(n j:Nat) (d:Array Ed),b-j=n→1≤j→j≤b→b≤d.size→d.size<1152921504606846976→
  ∃t,Loop (E8 CC a b i k) ((j:Int),eA d)=some (t,eA (shiftUp an b j d)):=by
 intro n
 induction n with
 | zero=>
  intro j d hn h1 hj hb hs
  rw[sL,ah (by omega)]
  exact ⟨(j:Int),aG (by
   simp (disch:=omega) only[E8,E7,un,ar,ah])⟩
 | succ n ih=>
  intro j d hn h1 hj hb hs
  obtain ⟨t,h⟩:=ih (j+1) (swp d j (j-1)) (by omega) (by omega) (by omega) (by rw[size_swp];omega) (by rw[size_swp];omega)
  rw[sL,ag (by omega)]
  have e:E8 CC a b i k ((j:Int),eA d)=if cD d[j]! d[j-1]! <0 then some (.inl (((j+1:Nat):Int),eA (swp d j (j-1)))) else some (.inr ((j:Int),eA d)):=by
   simp (disch:=omega) only[E8,E7,un,eS,ar,bK,dH,ag,ah,wrap64,bW,di,Int.toNat_natCast,Option.bind_some,dg,dm,Ed.aH,Ed.aN,Ed.aK,Ed.re,dh,dM,dF,iO,V.aD,V.toInt_int,cond_true,cond_false]
   rfl
  by_cases h2:cD d[j]! d[j-1]! <0
  ·rw[ag h2] at e⊢
   exact ⟨t,(br e).trans h⟩
  ·rw[ah h2] at e⊢
   exact ⟨_,aG e⟩
theorem Ql {d:Array Ed} {b:Nat}: ∀(n i:Nat),b-i=n→i≤b→i≤scanSorted an d b i∧scanSorted an d b i≤b:=by
 intro n
 induction n with
 | zero=>intro i hn hi;rw[sK,ah (by omega)];omega
 | succ n ih=>
  intro i hn hi
  rw[sK,ag (by omega)]
  obtain ⟨h1,h2⟩:=ih (i+1) (by omega) (by omega)
  split<;>omega
theorem Qm {a b:Nat}: ∀(s i:Nat) (d:Array Ed),s≤5→a<i→i≤b→b≤d.size→d.size<1152921504606846976→
  (Loop (uB CC a b) ((i:Int),((5-s:Nat):Int),eA d)=some (.inl ((partialIns an a b s i d).2,eA (partialIns an a b s i d).1)))∨
  (∃x y z,(partialIns an a b s i d).2=false∧Loop (uB CC a b) ((i:Int),((5-s:Nat):Int),eA d)=some (.inr (x,y,z,eA (partialIns an a b s i d).1))):=by
 intro s
 induction s with
 | zero=>
  intro i d Qn hi wF hb hs
  refine .inr ⟨(i:Int),((5:Nat):Int),false,rfl,aG ?_⟩
  simp (disch:=omega) only[uB,E9,un,ke,cond_false]
  rfl
 | succ s ih=>
  intro i d Qn hi wF hb hs
  obtain ⟨t1,e1⟩:=Qi (a:=a) (j:=5-(s+1)) hb hs _ i rfl (by omega) wF
  obtain ⟨q1,q2⟩:=Ql (d:=d) _ i rfl wF
  rw[partialIns_succ]
  have f:uB CC a b ((i:Int),((5-(s+1):Nat):Int),eA d)=uB CC a b ((i:Int),((5-(s+1):Nat):Int),eA d):=rfl
  conv at f=>rhs;simp only[uB,E9,un];rw[ar,ag (by omega),e1];simp only[Option.bind_some,un]
  generalize scanSorted an d b i=k at*
  by_cases h1:k=b
  ·rw[ag h1]
   left
   refine aG (f.trans ?_)
   rw[cq,ag (by omega)]
  ·rw[ah h1]
   by_cases h2:b-a<50
   ·rw[ag h2]
    left
    refine aG (f.trans ?_)
    rw[cq,ah (by omega),wrap64 (by omega) (by omega),ar,ag (by omega)]
   ·rw[ah h2]
    have z1:(swp d k (k-1)).size=d.size:=size_swp ..
    have z2:(fixDown an a k (swp d k (k-1))).size=d.size:=by
     unfold fixDown
     split
     ·rw[DN,z1]
     ·exact z1
    have z3:(fixUp an b k (fixDown an a k (swp d k (k-1)))).size=d.size:=by
     unfold fixUp
     split
     ·rw[Qj _ _ _ rfl,z2]
     ·exact z2
    obtain ⟨t2,e2⟩:=DO (a:=a) (b:=b) (i:=k) (k:=5-(s+1)) (k-1) (swp d k (k-1)) (by omega) (by omega)
    obtain ⟨t4,e4⟩:=Qk (a:=a) (b:=b) (i:=k) (k:=5-(s+1)) _ (k+1) (fixDown an a k (swp d k (k-1))) rfl (by omega) (by omega) (by omega) (by omega)
    have e5:uB CC a b ((i:Int),((5-(s+1):Nat):Int),eA d)=some (.inl ((k:Int),((5-s:Nat):Int),eA (fixUp an b k (fixDown an a k (swp d k (k-1)))))):=by
     refine f.trans ?_
     rw[cq,ah (by omega),wrap64 (by omega) (by omega),ar,ah (by omega)]
     simp (disch:=omega) only[ar,bK,ag,dg,dm,Int.toNat_natCast,Option.bind_some,Ed.aH,Ed.aN,Ed.aK,Ed.re,dh,dM,dF,eS,bW,gx,wrap64,nL,Kb]
     rw[show 5-(s+1)+1=5-s by omega]
     unfold fixDown at e4⊢
     unfold fixUp
     have c1:(((k-a:Nat):Int)≥2)=(k-a≥2):=propext (by omega)
     have c2:(((b-k:Nat):Int)≥2)=(b-k≥2):=propext (by omega)
     simp only[c1,c2]
     by_cases g1:k-a≥2
     ·by_cases g2:b-k≥2
      ·simp only[g1,g2,cy,e2,Option.bind_some,un] at e4⊢
       rw[e4]
       rfl
      ·simp only[g1,g2,cy,fg,e2,Option.bind_some,un]
     ·by_cases g2:b-k≥2
      ·simp only[g1,g2,cy,fg] at e4⊢
       rw[e4]
       rfl
      ·exact absurd (show b-k≥2 by omega) g2
    rw[br e5]
    exact ih k _ (by omega) (by omega) (by omega) (by omega) (by omega)
theorem DP {a b:Nat} {d:Array Ed} (dq:a<b) (hb:b≤d.size) (hs:d.size<1152921504606846976):
  CC H6 [.int .i64 (a:Int),.int .i64 (b:Int),.list aS (eA d)]=
   some [.bool (partialInsertionSort an d a b).2,.list aS (eA (partialInsertionSort an d a b).1)]:=by
 refine am0 ?_
 unfold aa5
 simp (disch:=omega) only[bW,wrap64]
 rcases Qm (a:=a) (b:=b) 5 (a+1) d (bN _) (by omega) (by omega) hb hs with h|⟨x,y,z,h0,h⟩
 ·rw[show ((5-5:Nat):Int)=0 from rfl] at h
  rw[h]
  rfl
 ·rw[show ((5-5:Nat):Int)=0 from rfl] at h
  rw[h]
  unfold partialInsertionSort
  rw[h0]
  rfl
end Go.AM
set_option maxRecDepth 100000
namespace Go.AM
open Go.Proofs
noncomputable abbrev uC:Code:=bU Tryz.prog (az.aT 100)
noncomputable def Fb (C:af) (data:List V) (i j k':Int) (t36:Bool) (dA:Int) {β:Type} (kr:(Int × Int × Int × Int)→Option β):Option β:=
 bif t36 then
  (C yR [.list aS data,.int .i64 i,.int .i64 dA]).bind fun r1=>
  (C yR [.list aS data,.int .i64 j,.int .i64 ((V.nth (r1.drop 1) 0).toInt)]).bind fun r2=>
  (C yR [.list aS data,.int .i64 k',.int .i64 ((V.nth (r2.drop 1) 0).toInt)]).bind fun r3=>
  kr ((V.nth r1 0).toInt,(V.nth r2 0).toInt,(V.nth r3 0).toInt,(V.nth (r3.drop 1) 0).toInt)
 else
  kr (i,j,k',dA)
noncomputable def Fc (C:af) (data:List V) (l i j k':Int) (t34:Bool) (dA:Int) {β:Type} (kr:(Int × Int)→Option β):Option β:=
 bif t34 then
  Fb C data i j k' (decide ((l:Int)≥50)) dA (un fun (cQ:Int)=>un fun (Qo:Int)=>un fun (Qp:Int) (Qq:Int)=>
   (C Cz [.list aS data,.int .i64 cQ,.int .i64 Qo,.int .i64 Qp,.int .i64 Qq]).bind fun r8=>
   kr ((V.nth r8 0).toInt,(V.nth (r8.drop 1) 0).toInt))
 else
  kr (j,dA)
noncomputable def aa6 (C:af):cj:=fun β n ds k=>
 bif Nat.beq n 591 then fM N6 [[1,0,0,0,0]] (@Fb C) ds k else
 bif Nat.beq n 559 then fM N7 [[0,0]] (@Fc C) ds k else
 none
abbrev aa7 (C:af) (b:cg):Prop:=ch Tryz.prog az C (aa6 C) 100 (cv Tryz.prog (az.aT 100)) (az.sin 100).bf.length b
theorem am1 (C:af):aa7 C (.cond 36 (aq [1,1,1,1,1,1,0,1,0,0,1,0] uC) (aq [1,1,1,1,1,1,0,1,0,0,1,1] uC)):=
 fX N6 [[1,0,0,0,0]] (@Fb C) (by kernel_rfl) (aM (bs:=[]) (by kernel_rfl) aw) (aM (bs:=[]) (by kernel_rfl) aw) (fun ds=>by kernel_rfl) (fun i β k=>by kernel_rfl) (fun β ds k=>by kernel_rfl)
theorem am2 (C:af):aa7 C (.cond 34 (aq [1,1,1,1,1,1,0,1,0] uC) (aq [1,1,1,1,1,1,0,1,1] uC)):=
 fX N7 [[0,0]] (@Fc C) (by kernel_rfl) (aM (bs:=[.cond 36 (aq [1,1,1,1,1,1,0,1,0,0,1,0] uC) (aq [1,1,1,1,1,1,0,1,0,0,1,1] uC)]) (by kernel_rfl) (aZ (am1 C) aw)) (aM (bs:=[]) (by kernel_rfl) aw) (fun ds=>by kernel_rfl) (fun i β k=>by kernel_rfl) (fun β ds k=>by kernel_rfl)
noncomputable def RO (C:af) (data:List V) (a b':Int):Option (List V):=
 Fc C data (IntKind.wrap .i64 (b'-a)) (IntKind.wrap .i64 (a+(IntKind.wrap .i64 (1*(IntKind.wrap .i64 (Int.tdiv (IntKind.wrap .i64 (b'-a)) 4)))))) (IntKind.wrap .i64 (a+(IntKind.wrap .i64 (2*(IntKind.wrap .i64 (Int.tdiv (IntKind.wrap .i64 (b'-a)) 4)))))) (IntKind.wrap .i64 (a+(IntKind.wrap .i64 (3*(IntKind.wrap .i64 (Int.tdiv (IntKind.wrap .i64 (b'-a)) 4)))))) (decide (((IntKind.wrap .i64 (b'-a)):Int)≥8)) 0 (un fun (wG:Int) (DS:Int)=>
  bif (DS:Int)==0 then
   some [.int .i64 wG,.int .i64 1]
  else
   bif (DS:Int)==12 then
   some [.int .i64 wG,.int .i64 2]
   else
   some [.int .i64 wG,.int .i64 0])
theorem aa8 {data:List V} {a b':Int} {r:Option (List V)} (h:RO CC data a b'=r):CC Ct [.list aS data,.int .i64 a,.int .i64 b']=r:=
 bn (key:=100) (L:=aa6 CC) (bs:=[.cond 34 (aq [1,1,1,1,1,1,0,1,0] uC) (aq [1,1,1,1,1,1,0,1,1] uC)]) (by kernel_rfl) (aZ (am2 CC) aw) (bm (by kernel_rfl) h)
noncomputable def aa9 (C:af) (data:List V) (a b' c dA:Int):Option (List V):=
 (C yU [.list aS data,.int .i64 a,.int .i64 b',.int .i64 dA]).bind fun r1=>
 (C yU [.list aS data,.int .i64 ((V.nth (r1.drop 1) 0).toInt),.int .i64 c,.int .i64 ((V.nth (r1.drop 2) 0).toInt)]).bind fun r2=>
 (C yU [.list aS data,.int .i64 ((V.nth r1 0).toInt),.int .i64 ((V.nth r2 0).toInt),.int .i64 ((V.nth (r2.drop 2) 0).toInt)]).bind fun r3=>
 some [.int .i64 ((V.nth (r3.drop 1) 0).toInt),.int .i64 ((V.nth (r3.drop 2) 0).toInt)]
theorem am3 {data:List V} {a b' c dA:Int} {r:Option (List V)} (h:aa9 CC data a b' c dA=r):CC Cz [.list aS data,.int .i64 a,.int .i64 b',.int .i64 c,.int .i64 dA]=r:=
 bn (key:=139) (L:=cS) (bs:=[]) (by kernel_rfl) aw (bm (by kernel_rfl) h)
noncomputable def RP (C:af) (data:List V) (a b' dA:Int):Option (List V):=
 (idx data b').bind fun x1=>
 (idx data a).bind fun x2=>
 (C bE [.int .i64 ((x1.cell 0).toInt),.int .i64 ((x1.cell 1).toInt),.int .i64 ((x1.cell 2).toInt),.int .i64 ((x2.cell 0).toInt),.int .i64 ((x2.cell 1).toInt),.int .i64 ((x2.cell 2).toInt)]).bind fun r3=>
 bif decide ((((V.nth r3 0).toInt):Int)<0) then
  some [.int .i64 b',.int .i64 a,.int .i64 (IntKind.wrap .i64 (dA+1))]
 else
  some [.int .i64 a,.int .i64 b',.int .i64 dA]
theorem aba {data:List V} {a b' dA:Int} {r:Option (List V)} (h:RP CC data a b' dA=r):CC yU [.list aS data,.int .i64 a,.int .i64 b',.int .i64 dA]=r:=
 bn (key:=155) (L:=cS) (bs:=[]) (by kernel_rfl) aw (bm (by kernel_rfl) h)
noncomputable def abb (C:af) (data:List V) (a dA:Int):Option (List V):=
 (C Cz [.list aS data,.int .i64 (IntKind.wrap .i64 (a-1)),.int .i64 a,.int .i64 (IntKind.wrap .i64 (a+1)),.int .i64 dA]).bind fun r1=>
 some [.int .i64 ((V.nth r1 0).toInt),.int .i64 ((V.nth (r1.drop 1) 0).toInt)]
theorem am4 {data:List V} {a dA:Int} {r:Option (List V)} (h:abb CC data a dA=r):CC yR [.list aS data,.int .i64 a,.int .i64 dA]=r:=
 bn (key:=138) (L:=cS) (bs:=[]) (by kernel_rfl) aw (bm (by kernel_rfl) h)
noncomputable abbrev Av:Code:=bU Tryz.prog (az.aT 99)
noncomputable def Kc (C:af) (a length nM eC other:Int) (t45:Bool) (ae:List V) (p8:Int) {β:Type} (kr:(Int)→Option β):Option β:=
 bif t45 then
  kr (IntKind.wrap .i64 (other-length))
 else
  kr other
noncomputable def Fe (C:af) (a length nM eC:Int) (ae:List V) (p8:Int) {β:Type} (kn:(Int × (List V) × Int)→Option β) (kr:(Int × Bool × (List V) × Int)→Option β):Option β:=
 bif decide ((eC:Int)≤(IntKind.wrap .i64 ((IntKind.wrap .i64 (a+(IntKind.wrap .i64 (2*(IntKind.wrap .i64 (Int.tdiv length 4))))))+1))) then
  (C yQ [.int .u64 p8]).bind fun r2=>
  Kc C a length nM eC (IntKind.wrap .i64 (IntKind.wrap .u64 ((BitVec.ofInt (IntKind.bits .u64) ((V.nth r2 0).toInt)&&&BitVec.ofInt (IntKind.bits .u64) (IntKind.wrap .u64 (nM-1))).toNat))) (decide (((IntKind.wrap .i64 (IntKind.wrap .u64 ((BitVec.ofInt (IntKind.bits .u64) ((V.nth r2 0).toInt)&&&BitVec.ofInt (IntKind.bits .u64) (IntKind.wrap .u64 (nM-1))).toNat))):Int)≥length)) ae ((V.nth (r2.drop 1) 0).toInt) (fun (lZ:Int)=>
   bif (decide (0≤(IntKind.wrap .i64 (a+lZ))))&&(decide ((IntKind.wrap .i64 (a+lZ))<(ae.length:Int))) then
   (ae[(IntKind.wrap .i64 (a+lZ):Int).toNat]?).bind fun x4=>
   bif (decide (0≤eC))&&(decide (eC<(ae.length:Int))) then
    (ae[(eC:Int).toNat]?).bind fun x5=>
    bif (decide (0≤eC))&&(decide (eC<(ae.length:Int))) then
    (ae[(eC:Int).toNat]?).bind fun x6=>
    bif (decide (0≤(IntKind.wrap .i64 (a+lZ))))&&(decide ((IntKind.wrap .i64 (a+lZ))<((ae.set ((eC:Int).toNat) (.agg [.int .i64 ((x4.cell 0).toInt),.int .i64 ((x4.cell 1).toInt),.int .i64 ((x4.cell 2).toInt)])).length:Int))) then
     ((ae.set ((eC:Int).toNat) (.agg [.int .i64 ((x4.cell 0).toInt),.int .i64 ((x4.cell 1).toInt),.int .i64 ((x4.cell 2).toInt)]))[(IntKind.wrap .i64 (a+lZ):Int).toNat]?).bind fun x7=>
     kn (IntKind.wrap .i64 (eC+1),(ae.set ((eC:Int).toNat) (.agg [.int .i64 ((x4.cell 0).toInt),.int .i64 ((x4.cell 1).toInt),.int .i64 ((x4.cell 2).toInt)])).set ((IntKind.wrap .i64 (a+lZ):Int).toNat) (.agg [.int .i64 ((x5.cell 0).toInt),.int .i64 ((x5.cell 1).toInt),.int .i64 ((x5.cell 2).toInt)]),(V.nth (r2.drop 1) 0).toInt)
    else none
    else none
   else none
   else none)
 else
  kr (eC,decide ((eC:Int)≤(IntKind.wrap .i64 ((IntKind.wrap .i64 (a+(IntKind.wrap .i64 (2*(IntKind.wrap .i64 (Int.tdiv length 4))))))+1))),ae,p8)
noncomputable def Kd (C:af) (a length nM:Int):(Int × (List V) × Int)→Option ((Int × (List V) × Int) ⊕ (Int × Bool × (List V) × Int)):=un fun eC=>un fun ae p8=>Fe C a length nM eC ae p8 (fun y=>some (.inl y)) (fun r=>some (.inr r))
noncomputable def abc (C:af):cj:=fun β n ds k=>
 bif Nat.beq n 735 then fM N4 [[1,2,3,4,0,7,8]] (@Kc C) ds k else
 bif Nat.beq n 81 then bt N5 [false,false,false,true,true,true] [[1,2,3,0,0,0,0]] (@Fe C) ds k else
 none
abbrev abd (C:af) (b:cg):Prop:=ch Tryz.prog az C (abc C) 99 (cv Tryz.prog (az.aT 99)) (az.sin 99).bf.length b
theorem am5 (C:af):abd C (.cond 45 (aq [1,1,0,1,1,1,0,0,1,0,0,1,0,1,0] Av) (aq [1,1,0,1,1,1,0,0,1,0,0,1,0,1,1] Av)):=
 fX N4 [[1,2,3,4,0,7,8]] (@Kc C) (by kernel_rfl) (aM (bs:=[]) (by kernel_rfl) aw) (aM (bs:=[]) (by kernel_rfl) aw) (fun ds=>by kernel_rfl) (fun i β k=>by kernel_rfl) (fun β ds k=>by kernel_rfl)
theorem am6 (C:af):abd C (.loop (aq [1,1,0,1,1,1,0,0] Av)):=
 bw N5 [false,false,false,true,true,true] [[1,2,3,0,0,0,0]] (@Fe C) (by kernel_rfl) (aM (bs:=[.cond 45 (aq [1,1,0,1,1,1,0,0,1,0,0,1,0,1,0] Av) (aq [1,1,0,1,1,1,0,0,1,0,0,1,0,1,1] Av)]) (by kernel_rfl) (aZ (am5 C) aw)) (fun ds=>by kernel_rfl) (fun i x=>by kernel_rfl) (fun i x β k=>by kernel_rfl) (fun β ds k=>by kernel_rfl)
noncomputable def abe (C:af) (a b':Int) (ae:List V):Option (List V):=
 bif decide (((IntKind.wrap .i64 (b'-a)):Int)≥8) then
  (C yP [.int .i64 (IntKind.wrap .i64 (b'-a))]).bind fun r1=>
  (Loop (Kd C a (IntKind.wrap .i64 (b'-a)) ((V.nth r1 0).toInt)) (IntKind.wrap .i64 ((IntKind.wrap .i64 (a+(IntKind.wrap .i64 (2*(IntKind.wrap .i64 (Int.tdiv (IntKind.wrap .i64 (b'-a)) 4))))))-1),ae,IntKind.wrap .u64 (IntKind.wrap .i64 (b'-a)))).bind (un fun (ajV:Int)=>un fun (oW:Bool)=>un fun (iy:List V) (ajW:Int)=>
   some [.list aS iy])
 else
  some [.list aS ae]
theorem am7 {a b':Int} {ae:List V} {r:Option (List V)} (h:abe CC a b' ae=r):CC H4 [.int .i64 a,.int .i64 b',.list aS ae]=r:=
 bn (key:=99) (L:=abc CC) (bs:=[.loop (aq [1,1,0,1,1,1,0,0] Av)]) (by kernel_rfl) (aZ (am6 CC) aw) (bm (by kernel_rfl) h)
noncomputable abbrev mS:Code:=bU Tryz.prog (az.aT 68)
noncomputable def Aw (C:af) (a b' ee:Int) (cC cN:Bool) (length:Int) (t39:Bool) (ae:List V) {β:Type} (kr:(Int × (List V))→Option β):Option β:=
 bif t39 then
  (C H4 [.int .i64 a,.int .i64 b',.list aS ae]).bind fun r3=>
  kr (IntKind.wrap .i64 (ee-1),(V.nth r3 0).toList)
 else
  kr (ee,ae)
noncomputable def Ax (C:af) (a b' ee:Int) (cC cN:Bool) (length pivot hint:Int) (t56:Bool) (ae:List V) {β:Type} (kr:(Int × Int × (List V))→Option β):Option β:=
 bif t56 then
  (C H5 [.int .i64 a,.int .i64 b',.list aS ae]).bind fun r7=>
  kr (IntKind.wrap .i64 ((IntKind.wrap .i64 (b'-1))-(IntKind.wrap .i64 (pivot-a))),1,(V.nth r7 0).toList)
 else
  kr (pivot,hint,ae)
noncomputable def nZ (C:af) (a b' ee:Int) (cC cN:Bool) (length pivot:Int) (t75:Bool) (ae:List V) {β:Type} (kr:((Bool × (List V)) ⊕ (List V))→Option β):Option β:=
 bif t75 then
  (C H6 [.int .i64 a,.int .i64 b',.list aS ae]).bind fun fQ=>
  bif (V.nth fQ 0).toBool then
  kr (.inl ((V.nth fQ 0).toBool,(V.nth (fQ.drop 1) 0).toList))
  else
  kr (.inr ((V.nth (fQ.drop 1) 0).toList))
 else
  kr (.inr ae)
noncomputable def ru (C:af) (a b' ee:Int) (cC cN:Bool) (ae:List V) {β:Type} (kn:(Int × Int × Int × Bool × Bool × (List V))→Option β) (kr:(List V)→Option β):Option β:=
 bif decide (((IntKind.wrap .i64 (b'-a)):Int)≤12) then
  (C Cr [.int .i64 a,.int .i64 b',.list aS ae]).bind fun r1=>
  kr ((V.nth r1 0).toList)
 else
  bif (ee:Int)==0 then
  (C Cs [.int .i64 a,.int .i64 b',.list aS ae]).bind fun r2=>
  kr ((V.nth r2 0).toList)
  else
  Aw C a b' ee cC cN (IntKind.wrap .i64 (b'-a)) (!cC) ae (un fun (bq:Int) (qb:List V)=>
   (C Ct [.list aS qb,.int .i64 a,.int .i64 b']).bind fun r6=>
   Ax C a b' bq cC cN (IntKind.wrap .i64 (b'-a)) ((V.nth r6 0).toInt) ((V.nth (r6.drop 1) 0).toInt) ((((V.nth (r6.drop 1) 0).toInt):Int)==2) qb (un fun (bY:Int)=>un fun (wH:Int) (iy:List V)=>
    bif cC then
     bif cN then
     nZ C a b' bq cC cN (IntKind.wrap .i64 (b'-a)) bY ((wH:Int)==1) iy (bD (un fun (CR:Bool) (wy:List V)=>
      kr wy) (fun (l7:List V)=>
      bif decide ((a:Int)>0) then
       bif (decide (0≤(IntKind.wrap .i64 (a-1))))&&(decide ((IntKind.wrap .i64 (a-1))<(l7.length:Int))) then
       (l7[(IntKind.wrap .i64 (a-1):Int).toNat]?).bind fun db=>
       bif (decide (0≤bY))&&(decide (bY<(l7.length:Int))) then
        (l7[(bY:Int).toNat]?).bind fun da=>
        (C bE [.int .i64 ((db.cell 0).toInt),.int .i64 ((db.cell 1).toInt),.int .i64 ((db.cell 2).toInt),.int .i64 ((da.cell 0).toInt),.int .i64 ((da.cell 1).toInt),.int .i64 ((da.cell 2).toInt)]).bind fun cG=>
        bif !(decide ((((V.nth cG 0).toInt):Int)<0)) then
        (C vT [.int .i64 a,.int .i64 b',.int .i64 bY,.list aS l7]).bind fun nO=>
        kn ((V.nth nO 0).toInt,b',bq,cC,cN,(V.nth (nO.drop 1) 0).toList)
        else
        (C oS [.int .i64 a,.int .i64 b',.int .i64 bY,.list aS l7]).bind fun ef=>
        bif decide (((IntKind.wrap .i64 (((V.nth ef 0).toInt)-a)):Int)<(IntKind.wrap .i64 (b'-((V.nth ef 0).toInt)))) then
         (C iJ [.int .i64 a,.int .i64 ((V.nth ef 0).toInt),.int .i64 bq,.list aS ((V.nth (ef.drop 2) 0).toList)]).bind fun fl=>
         kn (IntKind.wrap .i64 (((V.nth ef 0).toInt)+1),b',bq,decide (((IntKind.wrap .i64 (((V.nth ef 0).toInt)-a)):Int)≥(IntKind.wrap .i64 (Int.tdiv (IntKind.wrap .i64 (b'-a)) 8))),(V.nth (ef.drop 1) 0).toBool,(V.nth fl 0).toList)
        else
         (C iJ [.int .i64 (IntKind.wrap .i64 (((V.nth ef 0).toInt)+1)),.int .i64 b',.int .i64 bq,.list aS ((V.nth (ef.drop 2) 0).toList)]).bind fun wI=>
         kn (a,(V.nth ef 0).toInt,bq,decide (((IntKind.wrap .i64 (b'-((V.nth ef 0).toInt))):Int)≥(IntKind.wrap .i64 (Int.tdiv (IntKind.wrap .i64 (b'-a)) 8))),(V.nth (ef.drop 1) 0).toBool,(V.nth wI 0).toList)
       else none
       else none
      else
       (C oS [.int .i64 a,.int .i64 b',.int .i64 bY,.list aS l7]).bind fun eT=>
       bif decide (((IntKind.wrap .i64 (((V.nth eT 0).toInt)-a)):Int)<(IntKind.wrap .i64 (b'-((V.nth eT 0).toInt)))) then
       (C iJ [.int .i64 a,.int .i64 ((V.nth eT 0).toInt),.int .i64 bq,.list aS ((V.nth (eT.drop 2) 0).toList)]).bind fun Qw=>
       kn (IntKind.wrap .i64 (((V.nth eT 0).toInt)+1),b',bq,decide (((IntKind.wrap .i64 (((V.nth eT 0).toInt)-a)):Int)≥(IntKind.wrap .i64 (Int.tdiv (IntKind.wrap .i64 (b'-a)) 8))),(V.nth (eT.drop 1) 0).toBool,(V.nth Qw 0).toList)
       else
       (C iJ [.int .i64 (IntKind.wrap .i64 (((V.nth eT 0).toInt)+1)),.int .i64 b',.int .i64 bq,.list aS ((V.nth (eT.drop 2) 0).toList)]).bind fun um=>
       kn (a,(V.nth eT 0).toInt,bq,decide (((IntKind.wrap .i64 (b'-((V.nth eT 0).toInt))):Int)≥(IntKind.wrap .i64 (Int.tdiv (IntKind.wrap .i64 (b'-a)) 8))),(V.nth (eT.drop 1) 0).toBool,(V.nth um 0).toList)))
     else
     nZ C a b' bq cC cN (IntKind.wrap .i64 (b'-a)) bY false iy (bD (un fun (W6:Bool) (Qx:List V)=>
      kr Qx) (fun (jL:List V)=>
      bif decide ((a:Int)>0) then
       bif (decide (0≤(IntKind.wrap .i64 (a-1))))&&(decide ((IntKind.wrap .i64 (a-1))<(jL.length:Int))) then
       (jL[(IntKind.wrap .i64 (a-1):Int).toNat]?).bind fun lV=>
       bif (decide (0≤bY))&&(decide (bY<(jL.length:Int))) then
        (jL[(bY:Int).toNat]?).bind fun lW=>
        (C bE [.int .i64 ((lV.cell 0).toInt),.int .i64 ((lV.cell 1).toInt),.int .i64 ((lV.cell 2).toInt),.int .i64 ((lW.cell 0).toInt),.int .i64 ((lW.cell 1).toInt),.int .i64 ((lW.cell 2).toInt)]).bind fun sH=>
        bif !(decide ((((V.nth sH 0).toInt):Int)<0)) then
        (C vT [.int .i64 a,.int .i64 b',.int .i64 bY,.list aS jL]).bind fun DV=>
        kn ((V.nth DV 0).toInt,b',bq,cC,cN,(V.nth (DV.drop 1) 0).toList)
        else
        (C oS [.int .i64 a,.int .i64 b',.int .i64 bY,.list aS jL]).bind fun gd=>
        bif decide (((IntKind.wrap .i64 (((V.nth gd 0).toInt)-a)):Int)<(IntKind.wrap .i64 (b'-((V.nth gd 0).toInt)))) then
         (C iJ [.int .i64 a,.int .i64 ((V.nth gd 0).toInt),.int .i64 bq,.list aS ((V.nth (gd.drop 2) 0).toList)]).bind fun zP=>
         kn (IntKind.wrap .i64 (((V.nth gd 0).toInt)+1),b',bq,decide (((IntKind.wrap .i64 (((V.nth gd 0).toInt)-a)):Int)≥(IntKind.wrap .i64 (Int.tdiv (IntKind.wrap .i64 (b'-a)) 8))),(V.nth (gd.drop 1) 0).toBool,(V.nth zP 0).toList)
        else
         (C iJ [.int .i64 (IntKind.wrap .i64 (((V.nth gd 0).toInt)+1)),.int .i64 b',.int .i64 bq,.list aS ((V.nth (gd.drop 2) 0).toList)]).bind fun Qy=>
         kn (a,(V.nth gd 0).toInt,bq,decide (((IntKind.wrap .i64 (b'-((V.nth gd 0).toInt))):Int)≥(IntKind.wrap .i64 (Int.tdiv (IntKind.wrap .i64 (b'-a)) 8))),(V.nth (gd.drop 1) 0).toBool,(V.nth Qy 0).toList)
       else none
       else none
      else
       (C oS [.int .i64 a,.int .i64 b',.int .i64 bY,.list aS jL]).bind fun gf=>
       bif decide (((IntKind.wrap .i64 (((V.nth gf 0).toInt)-a)):Int)<(IntKind.wrap .i64 (b'-((V.nth gf 0).toInt)))) then
       (C iJ [.int .i64 a,.int .i64 ((V.nth gf 0).toInt),.int .i64 bq,.list aS ((V.nth (gf.drop 2) 0).toList)]).bind fun Qz=>
       kn (IntKind.wrap .i64 (((V.nth gf 0).toInt)+1),b',bq,decide (((IntKind.wrap .i64 (((V.nth gf 0).toInt)-a)):Int)≥(IntKind.wrap .i64 (Int.tdiv (IntKind.wrap .i64 (b'-a)) 8))),(V.nth (gf.drop 1) 0).toBool,(V.nth Qz 0).toList)
       else
       (C iJ [.int .i64 (IntKind.wrap .i64 (((V.nth gf 0).toInt)+1)),.int .i64 b',.int .i64 bq,.list aS ((V.nth (gf.drop 2) 0).toList)]).bind fun QA=>
       kn (a,(V.nth gf 0).toInt,bq,decide (((IntKind.wrap .i64 (b'-((V.nth gf 0).toInt))):Int)≥(IntKind.wrap .i64 (Int.tdiv (IntKind.wrap .i64 (b'-a)) 8))),(V.nth (gf.drop 1) 0).toBool,(V.nth QA 0).toList)))
    else
     nZ C a b' bq cC cN (IntKind.wrap .i64 (b'-a)) bY false iy (bD (un fun (IJ:Bool) (QB:List V)=>
      kr QB) (fun (eB:List V)=>
      bif decide ((a:Int)>0) then
      bif (decide (0≤(IntKind.wrap .i64 (a-1))))&&(decide ((IntKind.wrap .i64 (a-1))<(eB.length:Int))) then
       (eB[(IntKind.wrap .i64 (a-1):Int).toNat]?).bind fun gb=>
       bif (decide (0≤bY))&&(decide (bY<(eB.length:Int))) then
       (eB[(bY:Int).toNat]?).bind fun lY=>
       (C bE [.int .i64 ((gb.cell 0).toInt),.int .i64 ((gb.cell 1).toInt),.int .i64 ((gb.cell 2).toInt),.int .i64 ((lY.cell 0).toInt),.int .i64 ((lY.cell 1).toInt),.int .i64 ((lY.cell 2).toInt)]).bind fun QC=>
       bif !(decide ((((V.nth QC 0).toInt):Int)<0)) then
        (C vT [.int .i64 a,.int .i64 b',.int .i64 bY,.list aS eB]).bind fun DW=>
        kn ((V.nth DW 0).toInt,b',bq,cC,cN,(V.nth (DW.drop 1) 0).toList)
       else
        (C oS [.int .i64 a,.int .i64 b',.int .i64 bY,.list aS eB]).bind fun gN=>
        bif decide (((IntKind.wrap .i64 (((V.nth gN 0).toInt)-a)):Int)<(IntKind.wrap .i64 (b'-((V.nth gN 0).toInt)))) then
        (C iJ [.int .i64 a,.int .i64 ((V.nth gN 0).toInt),.int .i64 bq,.list aS ((V.nth (gN.drop 2) 0).toList)]).bind fun QD=>
        kn (IntKind.wrap .i64 (((V.nth gN 0).toInt)+1),b',bq,decide (((IntKind.wrap .i64 (((V.nth gN 0).toInt)-a)):Int)≥(IntKind.wrap .i64 (Int.tdiv (IntKind.wrap .i64 (b'-a)) 8))),(V.nth (gN.drop 1) 0).toBool,(V.nth QD 0).toList)
        else
        (C iJ [.int .i64 (IntKind.wrap .i64 (((V.nth gN 0).toInt)+1)),.int .i64 b',.int .i64 bq,.list aS ((V.nth (gN.drop 2) 0).toList)]).bind fun DX=>
        kn (a,(V.nth gN 0).toInt,bq,decide (((IntKind.wrap .i64 (b'-((V.nth gN 0).toInt))):Int)≥(IntKind.wrap .i64 (Int.tdiv (IntKind.wrap .i64 (b'-a)) 8))),(V.nth (gN.drop 1) 0).toBool,(V.nth DX 0).toList)
       else none
      else none
      else
      (C oS [.int .i64 a,.int .i64 b',.int .i64 bY,.list aS eB]).bind fun gO=>
      bif decide (((IntKind.wrap .i64 (((V.nth gO 0).toInt)-a)):Int)<(IntKind.wrap .i64 (b'-((V.nth gO 0).toInt)))) then
       (C iJ [.int .i64 a,.int .i64 ((V.nth gO 0).toInt),.int .i64 bq,.list aS ((V.nth (gO.drop 2) 0).toList)]).bind fun QE=>
       kn (IntKind.wrap .i64 (((V.nth gO 0).toInt)+1),b',bq,decide (((IntKind.wrap .i64 (((V.nth gO 0).toInt)-a)):Int)≥(IntKind.wrap .i64 (Int.tdiv (IntKind.wrap .i64 (b'-a)) 8))),(V.nth (gO.drop 1) 0).toBool,(V.nth QE 0).toList)
      else
       (C iJ [.int .i64 (IntKind.wrap .i64 (((V.nth gO 0).toInt)+1)),.int .i64 b',.int .i64 bq,.list aS ((V.nth (gO.drop 2) 0).toList)]).bind fun QF=>
       kn (a,(V.nth gO 0).toInt,bq,decide (((IntKind.wrap .i64 (b'-((V.nth gO 0).toInt))):Int)≥(IntKind.wrap .i64 (Int.tdiv (IntKind.wrap .i64 (b'-a)) 8))),(V.nth (gO.drop 1) 0).toBool,(V.nth QF 0).toList)))))
noncomputable def abf (C:af):(Int × Int × Int × Bool × Bool × (List V))→Option ((Int × Int × Int × Bool × Bool × (List V)) ⊕ (List V)):=un fun a=>un fun b'=>un fun ee=>un fun cC=>un fun cN ae=>ru C a b' ee cC cN ae (fun y=>some (.inl y)) (fun r=>some (.inr r))
noncomputable def abg (C:af):cj:=fun β n ds k=>
 bif Nat.beq n 639 then fM NK [[1,2,0,4,5,6,0]] (@Aw C) ds k else
 bif Nat.beq n 911 then fM NL [[1,2,3,4,5,6,0,0,0]] (@Ax C) ds k else
 bif Nat.beq n 1215 then fM NM [[1,2,3,4,5,6,7,0,0],[1,2,3,4,5,6,7,0]] (@nZ C) ds k else
 bif Nat.beq n 33 then bt NN [true,true,true,true,true,true] [[0]] (@ru C) ds k else
 none
abbrev Ke (C:af) (b:cg):Prop:=ch Tryz.prog az C (abg C) 68 (cv Tryz.prog (az.aT 68)) (az.sin 68).bf.length b
theorem am8 (C:af):Ke C (.cond 39 (aq [1,1,0,0,0,1,1,1,0,1,0] mS) (aq [1,1,0,0,0,1,1,1,0,1,1] mS)):=
 fX NK [[1,2,0,4,5,6,0]] (@Aw C) (by kernel_rfl) (aM (bs:=[]) (by kernel_rfl) aw) (aM (bs:=[]) (by kernel_rfl) aw) (fun ds=>by kernel_rfl) (fun i β k=>by kernel_rfl) (fun β ds k=>by kernel_rfl)
theorem am9 (C:af):Ke C (.cond 56 (aq [1,1,0,0,0,1,1,1,1,1,0,1,0] mS) (aq [1,1,0,0,0,1,1,1,1,1,0,1,1] mS)):=
 fX NL [[1,2,3,4,5,6,0,0,0]] (@Ax C) (by kernel_rfl) (aM (bs:=[]) (by kernel_rfl) aw) (aM (bs:=[]) (by kernel_rfl) aw) (fun ds=>by kernel_rfl) (fun i β k=>by kernel_rfl) (fun β ds k=>by kernel_rfl)
theorem ana (C:af):Ke C (.cond 75 (aq [1,1,0,0,0,1,1,1,1,1,1,0,1,0] mS) (aq [1,1,0,0,0,1,1,1,1,1,1,0,1,1] mS)):=
 fX NM [[1,2,3,4,5,6,7,0,0],[1,2,3,4,5,6,7,0]] (@nZ C) (by kernel_rfl) (aM (bs:=[]) (by kernel_rfl) aw) (aM (bs:=[]) (by kernel_rfl) aw) (fun ds=>by kernel_rfl) (fun i β k=>by kernel_rfl) (fun β ds k=>by kernel_rfl)
theorem anb (C:af):Ke C (.loop (aq [1,1,0,0] mS)):=
 bw NN [true,true,true,true,true,true] [[0]] (@ru C) (by kernel_rfl) (aM (bs:=[.cond 39 (aq [1,1,0,0,0,1,1,1,0,1,0] mS) (aq [1,1,0,0,0,1,1,1,0,1,1] mS),.cond 56 (aq [1,1,0,0,0,1,1,1,1,1,0,1,0] mS) (aq [1,1,0,0,0,1,1,1,1,1,0,1,1] mS),.cond 75 (aq [1,1,0,0,0,1,1,1,1,1,1,0,1,0] mS) (aq [1,1,0,0,0,1,1,1,1,1,1,0,1,1] mS)]) (by kernel_rfl) (aZ (am8 C) (aZ (am9 C) (aZ (ana C) aw)))) (fun ds=>by kernel_rfl) (fun i x=>by kernel_rfl) (fun i x β k=>by kernel_rfl) (fun β ds k=>by kernel_rfl)
noncomputable def abh (C:af) (a b' ee:Int) (ae:List V):Option (List V):=
 (Loop (abf C) (a,b',ee,true,true,ae)).bind (fun (QG:List V)=>
  some [.list aS QG])
theorem anc {a b' ee:Int} {ae:List V} {r:Option (List V)} (h:abh CC a b' ee ae=r):CC iJ [.int .i64 a,.int .i64 b',.int .i64 ee,.list aS ae]=r:=
 bn (key:=68) (L:=abg CC) (bs:=[.loop (aq [1,1,0,0] mS)]) (by kernel_rfl) (aZ (anb CC) aw) (bm (by kernel_rfl) h)
noncomputable def abi (C:af) (xs:List V):Option (List V):=
 (C vR [.int .u64 (IntKind.wrap .u64 (xs.length:Int))]).bind fun r1=>
 (C iJ [.int .i64 0,.int .i64 (xs.length:Int),.int .i64 ((V.nth r1 0).toInt),.list aS xs]).bind fun r2=>
 some [.list aS ((V.nth r2 0).toList)]
theorem ane {xs:List V} {r:Option (List V)} (h:abi CC xs=r):CC HU [.list aS xs]=r:=
 bn (key:=31) (L:=cS) (bs:=[]) (by kernel_rfl) aw (bm (by kernel_rfl) h)
end Go.AM
set_option maxRecDepth 100000
set_option maxHeartbeats 4000000
namespace Go.AM
open Go.Proofs Go.Sort
theorem DY (a b:Ed):(an a b=true)=(a.lt b):=by rw[kK,propext (aan a b)]
theorem sP (a b:Ed):(an a b=false)= ¬(a.lt b):=by rw[←DY];simp
theorem nP:SWO an where
 irrefl x:=by rw[sP];unfold Ed.lt;omega
 trans x y z:=by simp only[DY];unfold Ed.lt;omega
 ntrans x y z:=by simp only[sP];unfold Ed.lt;omega
def sQ:List UInt8:=([0,1,2,2,3,3,3,3,4,4,4,4,4,4,4,4,5,5,5,5,5,5,5,5,5,5,5,5,5,5,5,5,6,6,6,6,6,6,6,6,6,6,6,6,6,6,6,6,6,6,6,6,6,6,6,6,6,6,6,6,6,6,6,6,7,7,7,7,7,7,7,7,7,7,7,7,7,7,7,7,7,7,7,7,7,7,7,7,7,7,7,7,7,7,7,7,7,7,7,7,7,7,7,7,7,7,7,7,7,7,7,7,7,7,7,7,7,7,7,7,7,7,7,7,7,7,7,7,8,8,8,8,8,8,8,8,8,8,8,8,8,8,8,8,8,8,8,8,8,8,8,8,8,8,8,8,8,8,8,8,8,8,8,8,8,8,8,8,8,8,8,8,8,8,8,8,8,8,8,8,8,8,8,8,8,8,8,8,8,8,8,8,8,8,8,8,8,8,8,8,8,8,8,8,8,8,8,8,8,8,8,8,8,8,8,8,8,8,8,8,8,8,8,8,8,8,8,8,8,8,8,8,8,8,8,8,8,8,8,8,8,8,8,8,8,8,8,8,8,8,8,8,8,8,8,8]:List UInt8)
theorem QH:(List.range 256).all (fun y=>match sQ[y]? with|some b=>decide (b.toNat≤8)&&(Nat.beq y 0||(decide (1≤b.toNat)&&decide (2^(b.toNat-1)≤y)))|none=>false)=true:=by decide+kernel
theorem DZ {y:Nat} (h:y<256): ∃b,sQ[y]? =some b∧b.toNat≤8∧(0<y→1≤b.toNat∧2^(b.toNat-1)≤y):=by
 have:=gz.1 QH y (List.mem_range.2 h)
 cases hb:sQ[y]? with
 | none=>rw[hb] at this;cases this
 | some b=>
  rw[hb] at this
  simp only[aU,td,dX] at this
  refine ⟨b,rfl,this.1,fun hy=> ?_⟩
  rcases this.2 with h2|h2
  ·have:=xb h2;omega
  ·exact h2
theorem wJ {y t k:Nat} (h:2^(t-1)≤y/2^k) (ht:1≤t):2^(t+k-1)≤y:=by
 have e:t+k-1=(t-1)+k:=by omega
 rw[e,Nat.pow_add]
 exact lA (eh _ h) (Nat.div_mul_le_self _ _)
noncomputable def nQ (y n:Int):Option (List V):=
(bif decide ((y:Int)≥256) then
    (bif decide (0≤(IntKind.wrap .u8 (Int.fdiv y (2^(min (8:Int).toNat (IntKind.bits .u64)))))) then (([0,1,2,2,3,3,3,3,4,4,4,4,4,4,4,4,5,5,5,5,5,5,5,5,5,5,5,5,5,5,5,5,6,6,6,6,6,6,6,6,6,6,6,6,6,6,6,6,6,6,6,6,6,6,6,6,6,6,6,6,6,6,6,6,7,7,7,7,7,7,7,7,7,7,7,7,7,7,7,7,7,7,7,7,7,7,7,7,7,7,7,7,7,7,7,7,7,7,7,7,7,7,7,7,7,7,7,7,7,7,7,7,7,7,7,7,7,7,7,7,7,7,7,7,7,7,7,7,8,8,8,8,8,8,8,8,8,8,8,8,8,8,8,8,8,8,8,8,8,8,8,8,8,8,8,8,8,8,8,8,8,8,8,8,8,8,8,8,8,8,8,8,8,8,8,8,8,8,8,8,8,8,8,8,8,8,8,8,8,8,8,8,8,8,8,8,8,8,8,8,8,8,8,8,8,8,8,8,8,8,8,8,8,8,8,8,8,8,8,8,8,8,8,8,8,8,8,8,8,8,8,8,8,8,8,8,8,8,8,8,8,8,8,8,8,8,8,8,8,8,8,8,8,8,8,8]:List UInt8)[(IntKind.wrap .u8 (Int.fdiv y (2^(min (8:Int).toNat (IntKind.bits .u64)))):Int).toNat]?).map fun b=>V.int .u8 b.toNat else none).bind fun x5=>
    some [V.int .i64 (IntKind.wrap .i64 ((IntKind.wrap .i64 (n+8))+(IntKind.wrap .i64 x5.toInt)))]
   else
    (bif decide (0≤(IntKind.wrap .u8 y)) then (([0,1,2,2,3,3,3,3,4,4,4,4,4,4,4,4,5,5,5,5,5,5,5,5,5,5,5,5,5,5,5,5,6,6,6,6,6,6,6,6,6,6,6,6,6,6,6,6,6,6,6,6,6,6,6,6,6,6,6,6,6,6,6,6,7,7,7,7,7,7,7,7,7,7,7,7,7,7,7,7,7,7,7,7,7,7,7,7,7,7,7,7,7,7,7,7,7,7,7,7,7,7,7,7,7,7,7,7,7,7,7,7,7,7,7,7,7,7,7,7,7,7,7,7,7,7,7,7,8,8,8,8,8,8,8,8,8,8,8,8,8,8,8,8,8,8,8,8,8,8,8,8,8,8,8,8,8,8,8,8,8,8,8,8,8,8,8,8,8,8,8,8,8,8,8,8,8,8,8,8,8,8,8,8,8,8,8,8,8,8,8,8,8,8,8,8,8,8,8,8,8,8,8,8,8,8,8,8,8,8,8,8,8,8,8,8,8,8,8,8,8,8,8,8,8,8,8,8,8,8,8,8,8,8,8,8,8,8,8,8,8,8,8,8,8,8,8,8,8,8,8,8,8,8,8,8]:List UInt8)[(IntKind.wrap .u8 y:Int).toNat]?).map fun b=>V.int .u8 b.toNat else none).bind fun x6=>
    some [V.int .i64 (IntKind.wrap .i64 (n+(IntKind.wrap .i64 x6.toInt)))])
theorem QI {x:Nat} (h:x<2^64): ∃L:Nat,CC Cu [.int .u64 (x:Int)]=some [.int .i64 (L:Int)]∧L≤64∧(0<x→1≤L∧2^(L-1)≤x):=by
 have last: ∀y n:Nat,y<65536→n≤48→∃t:Nat,
   nQ (y:Int) (n:Int)=some [V.int .i64 ((n+t:Nat):Int)]∧t≤16∧(0<y→1≤t∧2^(t-1)≤y):=by
  intro y n hy hn
  unfold nQ
  rw[show ([0,1,2,2,3,3,3,3,4,4,4,4,4,4,4,4,5,5,5,5,5,5,5,5,5,5,5,5,5,5,5,5,6,6,6,6,6,6,6,6,6,6,6,6,6,6,6,6,6,6,6,6,6,6,6,6,6,6,6,6,6,6,6,6,7,7,7,7,7,7,7,7,7,7,7,7,7,7,7,7,7,7,7,7,7,7,7,7,7,7,7,7,7,7,7,7,7,7,7,7,7,7,7,7,7,7,7,7,7,7,7,7,7,7,7,7,7,7,7,7,7,7,7,7,7,7,7,7,8,8,8,8,8,8,8,8,8,8,8,8,8,8,8,8,8,8,8,8,8,8,8,8,8,8,8,8,8,8,8,8,8,8,8,8,8,8,8,8,8,8,8,8,8,8,8,8,8,8,8,8,8,8,8,8,8,8,8,8,8,8,8,8,8,8,8,8,8,8,8,8,8,8,8,8,8,8,8,8,8,8,8,8,8,8,8,8,8,8,8,8,8,8,8,8,8,8,8,8,8,8,8,8,8,8,8,8,8,8,8,8,8,8,8,8,8,8,8,8,8,8,8,8,8,8,8,8]:List UInt8)=sQ from rfl]
  by_cases h1:y≥256
  ·have e:Int.fdiv (y:Int) (2^(min (8:Int).toNat (IntKind.bits .u64)))=((y/2^8:Nat):Int):=y6 (m:=8) (by omega)
   obtain ⟨b,hb,b1,b2⟩:=DZ (y:=y/2^8) (by omega)
   refine ⟨b.toNat+8,?_,by omega,fun _=> ?_⟩
   ·rw[e,ar,ag (by omega),HI (by omega) (by omega),ar,ag (by omega),Int.toNat_natCast,hb]
    simp only[Option.map_some,Option.bind_some,V.toInt_int]
    simp (disch:=omega) only[wrap64]
    congr 3
    omega
   ·obtain ⟨b3,b4⟩:=b2 (by omega)
    exact ⟨by omega,wJ b4 b3⟩
  ·obtain ⟨b,hb,b1,b2⟩:=DZ (y:=y) (by omega)
   refine ⟨b.toNat,?_,by omega,b2⟩
   rw[ar,ah (by omega),HI (by omega) (by omega),ar,ag (by omega),Int.toNat_natCast,hb]
   simp (disch:=omega) only[Option.map_some,Option.bind_some,V.toInt_int,wrap64]
   congr 3
 have mid: ∀y n:Nat,y<4294967296→n≤32→∃t:Nat,∀F:Int→Int→Option (List V),
   (∀y n:Nat,y<65536→n≤48→∃t:Nat,F (y:Int) (n:Int)=some [V.int .i64 ((n+t:Nat):Int)]∧t≤16∧(0<y→1≤t∧2^(t-1)≤y))→
   ∃t:Nat,qa CC (y:Int) (n:Int) (decide (((y:Int):Int)≥65536)) (un F)=some [V.int .i64 ((n+t:Nat):Int)]∧t≤32∧(0<y→1≤t∧2^(t-1)≤y):=by
  intro y n hy hn
  refine ⟨0,fun F hF=> ?_⟩
  unfold qa
  by_cases h1:y≥65536
  ·have e:Int.fdiv (y:Int) (2^(min (16:Int).toNat (IntKind.bits .u64)))=((y/2^16:Nat):Int):=y6 (m:=16) (by omega)
   rw[ar,ag (by omega),e,wrap64 (by omega) (by omega)]
   obtain ⟨t,h2,h3,h4⟩:=hF (y/2^16) (n+16) (by omega) (by omega)
   refine ⟨t+16,?_,by omega,fun _=> ?_⟩
   ·rw[show ((n:Int)+16)=((n+16:Nat):Int) by omega]
    simp only[un]
    rw[h2]
    congr 3
    omega
   ·obtain ⟨b3,b4⟩:=h4 (by omega)
    exact ⟨by omega,wJ b4 b3⟩
  ·rw[ar,ah (by omega)]
   obtain ⟨t,h2,h3,h4⟩:=hF y n (by omega) (by omega)
   exact ⟨t,h2,by omega,h4⟩
 by_cases h1:x≥4294967296
 ·have e:Int.fdiv (x:Int) (2^(min (32:Int).toNat (IntKind.bits .u64)))=((x/2^32:Nat):Int):=y6 (m:=32) (by omega)
  obtain ⟨_,hm⟩:=mid (x/2^32) 32 (by omega) (by omega)
  obtain ⟨t,h2,h3,h4⟩:=hm nQ last
  refine ⟨32+t,Jj ?_,by omega,fun _=> ?_⟩
  ·show p9 CC (x:Int) 0 (decide (((x:Int):Int)≥4294967296)) (un fun (gy:Int) (sO:Int)=>qa CC gy sO (decide ((gy:Int)≥65536)) (un nQ))=_
   unfold p9
   rw[ar,ag (by omega),e]
   exact h2
  ·obtain ⟨b3,b4⟩:=h4 (by omega)
   rw[Nat.add_comm 32 t]
   exact ⟨by omega,wJ b4 b3⟩
 ·obtain ⟨_,hm⟩:=mid x 0 (by omega) (by omega)
  obtain ⟨t,h2,h3,h4⟩:=hm nQ last
  refine ⟨t,Jj ?_,by omega,h4⟩
  show p9 CC (x:Int) 0 (decide (((x:Int):Int)≥4294967296)) (un fun (gy:Int) (sO:Int)=>qa CC gy sO (decide ((gy:Int)≥65536)) (un nQ))=_
  unfold p9
  rw[ar,ah (by omega)]
  rw[hO] at h2
  exact h2
theorem D0 {x:Nat} (h:x<2^64): ∃L:Nat,CC vR [.int .u64 (x:Int)]=some [.int .i64 (L:Int)]∧L≤64∧(0<x→1≤L∧2^(L-1)≤x):=by
 obtain ⟨L,h1,h2⟩:=QI h
 refine ⟨L,YQ ?_,h2⟩
 unfold Qv
 rw[h1]
 rfl
theorem QJ {x:Nat} (h0:0<x) (h:x<1152921504606846976): ∃M:Nat,CC yP [.int .i64 (x:Int)]=some [.int .u64 (M:Int)]∧1≤M∧M≤2*x:=by
 obtain ⟨L,h1,h2,h3⟩:=D0 (x:=x) (by omega)
 obtain ⟨h4,h5⟩:=h3 h0
 have e:2^L=2*2^(L-1):=by
  obtain ⟨k,rfl⟩: ∃k,L=k+1:=⟨L-1,by omega⟩
  rw[Nat.pow_succ];simp only[uE];omega
 have hL:L<64:=by
  by_cases hx:L<64
  ·exact hx
  ·have:2^63≤2^(L-1):=Nat.pow_le_pow_right (by omega) (by omega)
   omega
 refine ⟨2^L,YP ?_,Nat.pos_of_ne_zero (by simp),by omega⟩
 unfold Qu
 rw[sB (A:=x) (by omega),h1]
 simp only[Option.bind_some,V.aD,V.toInt_int]
 rw[ar,ag (by omega),Int.toNat_natCast,IH hL]
theorem QK (r:Int): ∃R:Nat,CC yQ [.int .u64 r]=some [.int .u64 (R:Int),.int .u64 (R:Int)]∧R<2^64:=by
 have h: ∀n:Int,∃R:Nat,IntKind.wrap .u64 n=(R:Int)∧R<2^64:=fun n=>⟨(IntKind.wrap .u64 n).toNat,by rw[wrap_u64];omega,by rw[wrap_u64];omega⟩
 obtain ⟨R,h1,h2⟩:=h _
 exact ⟨R,YO (by unfold Qt;rw[h1]),h2⟩
theorem sR {d:Array Ed} {i:Nat} (h:i<d.size):idx (eA d) (i:Int)=some (d[i]!).enc:=by rw[yo,dm h]
theorem wK {d:Array Ed} {a b:Nat} {s:Int} (ha:a<d.size) (hb:b<d.size): ∃(x y:Nat) (s':Int),CC yU [.list aS (eA d),.int .i64 (a:Int),.int .i64 (b:Int),.int .i64 s]=some [.int .i64 (x:Int),.int .i64 (y:Int),.int .i64 s']∧(x=a∧y=b∨x=b∧y=a):=by
 by_cases h:cD d[b]! d[a]! <0
 ·refine ⟨b,a,_,aba (by unfold RP;rw[sR hb,sR ha];simp only[Option.bind_some,Ed.aH,Ed.aN,Ed.aK,iO,V.aD,V.toInt_int];rw[ar,ag h]),.inr ⟨rfl,rfl⟩⟩
 ·refine ⟨a,b,_,aba (by unfold RP;rw[sR hb,sR ha];simp only[Option.bind_some,Ed.aH,Ed.aN,Ed.aK,iO,V.aD,V.toInt_int];rw[ar,ah h]),.inl ⟨rfl,rfl⟩⟩
theorem wL {d:Array Ed} {a b c:Nat} {s:Int} (ha:a<d.size) (hb:b<d.size) (hc:c<d.size): ∃(m:Nat) (s':Int),CC Cz [.list aS (eA d),.int .i64 (a:Int),.int .i64 (b:Int),.int .i64 (c:Int),.int .i64 s]=some [.int .i64 (m:Int),.int .i64 s']∧(m=a∨m=b∨m=c):=by
 obtain ⟨x1,y1,s1,e1,o1⟩:=wK (s:=s) ha hb
 obtain ⟨x2,y2,s2,e2,o2⟩:=wK (d:=d) (a:=y1) (b:=c) (s:=s1) (by omega) hc
 obtain ⟨x3,y3,s3,e3,o3⟩:=wK (d:=d) (a:=x1) (b:=x2) (s:=s2) (by omega) (by omega)
 refine ⟨y3,s3,am3 ?_,by omega⟩
 unfold aa9
 rw[e1]
 simp only[Option.bind_some,V.aD,V.j8,V.toInt_int,fm,eM]
 rw[e2]
 simp only[Option.bind_some,V.aD,V.j8,V.toInt_int,fm,eM]
 rw[e3]
 rfl
theorem wM {d:Array Ed} {a:Nat} {s:Int} (h1:1≤a) (ha:a+1<d.size) (hs:d.size<1152921504606846976): ∃(m:Nat) (s':Int),CC yR [.list aS (eA d),.int .i64 (a:Int),.int .i64 s]=some [.int .i64 (m:Int),.int .i64 s']∧a≤m+1∧m≤a+1:=by
 obtain ⟨m,s',e,o⟩:=wL (d:=d) (a:=a-1) (b:=a) (c:=a+1) (s:=s) (by omega) (by omega) (by omega)
 refine ⟨m,s',am4 ?_,by omega,by omega⟩
 unfold abb
 simp (disch:=omega) only[eS,bW,wrap64]
 rw[e]
 rfl
theorem wO (n:Nat):Int.tdiv (n:Int) 4=((n/4:Nat):Int):=by
 have:=divC n 4
 exact this
theorem mulC (k n:Nat):((k:Nat):Int)*(n:Int)=((k*n:Nat):Int):=(Int.natCast_mul k n).symm
theorem QL {d:Array Ed} {a b:Nat} (dq:a+12<b) (hb:b≤d.size) (hs:d.size<1152921504606846976): ∃(p:Nat) (h:Int),CC Ct [.list aS (eA d),.int .i64 (a:Int),.int .i64 (b:Int)]=some [.int .i64 (p:Int),.int .i64 h]∧a≤p∧p<b:=by
 have fin: ∀(p:Nat) (s:Int),∃h:Int,(bif (s:Int)==0 then some [V.int .i64 (p:Int),V.int .i64 1] else bif (s:Int)==12 then some [V.int .i64 (p:Int),V.int .i64 2] else some [V.int .i64 (p:Int),V.int .i64 0])=some [V.int .i64 (p:Int),V.int .i64 h]:=by
  intro p s
  rw[cq]
  split
  ·exact ⟨1,rfl⟩
  ·rw[cq]
   split
   ·exact ⟨2,rfl⟩
   ·exact ⟨0,rfl⟩
 have e1:IntKind.wrap .i64 ((b:Int)-(a:Int))=((b-a:Nat):Int):=by rw[gx (by omega),wrap64 (by omega) (by omega)]
 have e2:IntKind.wrap .i64 (Int.tdiv ((b-a:Nat):Int) 4)=(((b-a)/4:Nat):Int):=by rw[wO,wrap64 (by omega) (by omega)]
 have e3: ∀k:Nat,k≤3→IntKind.wrap .i64 ((a:Int)+IntKind.wrap .i64 ((k:Int)*(((b-a)/4:Nat):Int)))=((a+k*((b-a)/4):Nat):Int):=by
  intro k hk
  have oO:k*((b-a)/4)≤3*((b-a)/4):=eh _ hk
  simp (disch:=omega) only[mulC,wrap64,di]
 have wP:=e3 1 (by omega)
 have kL:=e3 2 (by omega)
 have wQ:=e3 3 (by omega)
 rw[show ((1:Nat):Int)=1 from rfl] at wP
 rw[show ((2:Nat):Int)=2 from rfl] at kL
 rw[show ((3:Nat):Int)=3 from rfl] at wQ
 by_cases h50:b-a≥50
 ·obtain ⟨m1,s1,q1,r1⟩:=wM (d:=d) (a:=a+1*((b-a)/4)) (s:=0) (by omega) (by omega) hs
  obtain ⟨m2,s2,q2,r2⟩:=wM (d:=d) (a:=a+2*((b-a)/4)) (s:=s1) (by omega) (by omega) hs
  obtain ⟨m3,s3,q3,r3⟩:=wM (d:=d) (a:=a+3*((b-a)/4)) (s:=s2) (by omega) (by omega) hs
  obtain ⟨m,s,q,r⟩:=wL (d:=d) (a:=m1) (b:=m2) (c:=m3) (s:=s3) (by omega) (by omega) (by omega)
  obtain ⟨h,hf⟩:=fin m s
  refine ⟨m,h,aa8 ?_,by omega,by omega⟩
  unfold RO Fc Fb
  rw[e1,e2,wP,kL,wQ,hD (by omega),cond_true,hD (by omega),cond_true,q1]
  simp only[Option.bind_some,V.aD,V.j8,V.toInt_int,fm,eM]
  rw[q2]
  simp only[Option.bind_some,V.aD,V.j8,V.toInt_int,fm,eM]
  rw[q3]
  simp only[Option.bind_some,V.aD,V.j8,V.toInt_int,fm,eM,un]
  rw[q]
  exact hf
 ·obtain ⟨m,s,q,r⟩:=wL (d:=d) (a:=a+1*((b-a)/4)) (b:=a+2*((b-a)/4)) (c:=a+3*((b-a)/4)) (s:=0) (by omega) (by omega) (by omega)
  obtain ⟨h,hf⟩:=fin m s
  refine ⟨m,h,aa8 ?_,by omega,by omega⟩
  unfold RO Fc Fb
  rw[e1,e2,wP,kL,wQ,hD (by omega),cond_true,ke (by omega),cond_false]
  simp only[un]
  rw[q]
  exact hf
theorem QM {a b M:Nat} (QN:1≤M) (hM:M≤2*(b-a)) (h8:8≤b-a) (hB:b<1152921504606846976): ∀(n i:Nat) (d:Array Ed) (r:Int),a+2*((b-a)/4)+2-i=n→a≤i→b≤d.size→d.size<1152921504606846976→
  ∃x y z R,Loop (Kd CC a (b-a:Nat) M) ((i:Int),eA d,r)=some (x,y,eA R,z)∧PermIn a b d R:=by
 have e2:IntKind.wrap .i64 (Int.tdiv ((b-a:Nat):Int) 4)=(((b-a)/4:Nat):Int):=by rw[wO,wrap64 (by omega) (by omega)]
 have kL:IntKind.wrap .i64 ((a:Int)+IntKind.wrap .i64 (2*(((b-a)/4:Nat):Int)))=((a+2*((b-a)/4):Nat):Int):=by
  have:=mulC 2 ((b-a)/4)
  rw[show ((2:Nat):Int)=2 from rfl] at this
  rw[this]
  simp (disch:=omega) only[wrap64,di]
 intro n
 induction n with
 | zero=>
  intro i d r hn hi hb hs
  refine ⟨(i:Int),false,r,d,aG ?_,permIn_refl _ _ _⟩
  simp only[Kd,Fe,un]
  rw[e2,kL,bW,wrap64 (by omega) (by omega),ke (by omega),cond_false]
 | succ n ih=>
  intro i d r hn hi hb hs
  obtain ⟨R1,q1,q2⟩:=QK r
  obtain ⟨o,ho,nf⟩: ∃o:Nat,(o=if R1&&&(M-1)≥b-a then (R1&&&(M-1))-(b-a) else R1&&&(M-1))∧o<b-a:=by
   refine ⟨_,rfl,?_⟩
   have:R1&&&(M-1)≤M-1:=Nat.and_le_right
   split<;>omega
  have hand:R1&&&(M-1)≤M-1:=Nat.and_le_right
  have hP:=swp_permIn (α:=Ed) d a b i (a+o) hi (by omega) (by omega) (by omega) hb
  obtain ⟨x,y,z,R,e,hR⟩:=ih (i+1) (swp d i (a+o)) (R1:Int) (by omega) (by omega) (by rw[size_swp];exact hb) (by rw[size_swp];exact hs)
  refine ⟨x,y,z,R,(br ?_).trans e,permIn_trans _ _ _ a b hP hR⟩
  simp only[Kd,Fe,un]
  rw[e2,kL,bW,wrap64 (x:=((a+2*((b-a)/4)+1:Nat):Int)) (by omega) (by omega),hD (by omega),cond_true,q1]
  simp only[Option.bind_some,V.aD,V.j8,V.toInt_int,fm,eM]
  have e5:IntKind.wrap .u64 ((M:Int)-1)=((M-1:Nat):Int):=by rw[eS QN,sB (by omega)]
  rw[e5,u64_and q2 (by omega),wrap64 (x:=((R1&&&(M-1):Nat):Int)) (by omega) (by omega)]
  have fin: ∀k:Int,k=(o:Int)→(bif (decide (0≤(IntKind.wrap .i64 ((a:Int)+k))))&&(decide ((IntKind.wrap .i64 ((a:Int)+k))<((eA d).length:Int))) then
   ((eA d)[(IntKind.wrap .i64 ((a:Int)+k):Int).toNat]?).bind fun x4=>
   bif (decide (0≤(i:Int)))&&(decide ((i:Int)<((eA d).length:Int))) then
    ((eA d)[((i:Int):Int).toNat]?).bind fun x5=>
    bif (decide (0≤(i:Int)))&&(decide ((i:Int)<((eA d).length:Int))) then
    ((eA d)[((i:Int):Int).toNat]?).bind fun x6=>
    bif (decide (0≤(IntKind.wrap .i64 ((a:Int)+k))))&&(decide ((IntKind.wrap .i64 ((a:Int)+k))<(((eA d).set (((i:Int):Int).toNat) (.agg [.int .i64 ((x4.cell 0).toInt),.int .i64 ((x4.cell 1).toInt),.int .i64 ((x4.cell 2).toInt)])).length:Int))) then
     (((eA d).set (((i:Int):Int).toNat) (.agg [.int .i64 ((x4.cell 0).toInt),.int .i64 ((x4.cell 1).toInt),.int .i64 ((x4.cell 2).toInt)]))[(IntKind.wrap .i64 ((a:Int)+k):Int).toNat]?).bind fun x7=>
     some (.inl (IntKind.wrap .i64 ((i:Int)+1),((eA d).set (((i:Int):Int).toNat) (.agg [.int .i64 ((x4.cell 0).toInt),.int .i64 ((x4.cell 1).toInt),.int .i64 ((x4.cell 2).toInt)])).set ((IntKind.wrap .i64 ((a:Int)+k):Int).toNat) (.agg [.int .i64 ((x5.cell 0).toInt),.int .i64 ((x5.cell 1).toInt),.int .i64 ((x5.cell 2).toInt)]),(R1:Int)))
    else none
    else none
   else none
   else none:Option ((Int × List V × Int) ⊕ (Int × Bool × List V × Int)))=some (.inl (((i+1:Nat):Int),eA (swp d i (a+o)),(R1:Int))):=by
   intro k hk
   subst hk
   simp (disch:=omega) only[ar,bK,dH,ag,ah,wrap64,bW,di,Int.toNat_natCast,Option.bind_some,dg,dm,Ed.aH,Ed.aN,Ed.aK,Ed.re,dh,dM,dF,iO,V.aD,V.toInt_int,cond_true,cond_false]
   rfl
  unfold Kc
  by_cases h:R1&&&(M-1)≥b-a
  ·rw[ag h] at ho
   rw[hD (by omega),cond_true]
   exact fin _ (by rw[gx (by omega),wrap64 (by omega) (by omega)];omega)
  ·rw[ah h] at ho
   rw[ke (by omega),cond_false]
   exact fin _ (by omega)
theorem QO {a b:Nat} {d:Array Ed} (dq:a+12<b) (hb:b≤d.size) (hs:d.size<1152921504606846976): ∃R,CC H4 [.int .i64 (a:Int),.int .i64 (b:Int),.list aS (eA d)]=some [.list aS (eA R)]∧PermIn a b d R:=by
 obtain ⟨M,q1,q2,q3⟩:=QJ (x:=b-a) (by omega) (by omega)
 have e1:IntKind.wrap .i64 ((b:Int)-(a:Int))=((b-a:Nat):Int):=by rw[gx (by omega),wrap64 (by omega) (by omega)]
 have e2:IntKind.wrap .i64 (Int.tdiv ((b-a:Nat):Int) 4)=(((b-a)/4:Nat):Int):=by rw[wO,wrap64 (by omega) (by omega)]
 have kL:IntKind.wrap .i64 ((a:Int)+IntKind.wrap .i64 (2*(((b-a)/4:Nat):Int)))=((a+2*((b-a)/4):Nat):Int):=by
  have:=mulC 2 ((b-a)/4)
  rw[show ((2:Nat):Int)=2 from rfl] at this
  rw[this]
  simp (disch:=omega) only[wrap64,di]
 obtain ⟨x,y,z,R,e,hR⟩:=QM (a:=a) (b:=b) (M:=M) q2 q3 (by omega) (by omega) _ (a+2*((b-a)/4)-1) d (IntKind.wrap .u64 ((b-a:Nat):Int)) rfl (by omega) hb hs
 refine ⟨R,am7 ?_,hR⟩
 unfold abe
 rw[e1,ar,ag (by omega),q1]
 simp only[Option.bind_some,V.aD,V.toInt_int]
 rw[e2,kL,eS (by omega),wrap64 (x:=((a+2*((b-a)/4)-1:Nat):Int)) (by omega) (by omega),e]
 rfl
noncomputable def kM (C:af) (a b':Int) (cC cN:Bool) (bq bY:Int) (ga:List V) {β:Type} (kn:(Int × Int × Int × Bool × Bool × (List V))→Option β):Option β:=
      bif decide ((a:Int)>0) then
       bif (decide (0≤(IntKind.wrap .i64 (a-1))))&&(decide ((IntKind.wrap .i64 (a-1))<(ga.length:Int))) then
       (ga[(IntKind.wrap .i64 (a-1):Int).toNat]?).bind fun dS=>
       bif (decide (0≤bY))&&(decide (bY<(ga.length:Int))) then
        (ga[(bY:Int).toNat]?).bind fun iz=>
        (C bE [.int .i64 ((dS.cell 0).toInt),.int .i64 ((dS.cell 1).toInt),.int .i64 ((dS.cell 2).toInt),.int .i64 ((iz.cell 0).toInt),.int .i64 ((iz.cell 1).toInt),.int .i64 ((iz.cell 2).toInt)]).bind fun pZ=>
        bif !(decide ((((V.nth pZ 0).toInt):Int)<0)) then
        (C vT [.int .i64 a,.int .i64 b',.int .i64 bY,.list aS ga]).bind fun D1=>
        kn ((V.nth D1 0).toInt,b',bq,cC,cN,(V.nth (D1.drop 1) 0).toList)
        else
        (C oS [.int .i64 a,.int .i64 b',.int .i64 bY,.list aS ga]).bind fun cG=>
        bif decide (((IntKind.wrap .i64 (((V.nth cG 0).toInt)-a)):Int)<(IntKind.wrap .i64 (b'-((V.nth cG 0).toInt)))) then
         (C iJ [.int .i64 a,.int .i64 ((V.nth cG 0).toInt),.int .i64 bq,.list aS ((V.nth (cG.drop 2) 0).toList)]).bind fun nO=>
         kn (IntKind.wrap .i64 (((V.nth cG 0).toInt)+1),b',bq,decide (((IntKind.wrap .i64 (((V.nth cG 0).toInt)-a)):Int)≥(IntKind.wrap .i64 (Int.tdiv (IntKind.wrap .i64 (b'-a)) 8))),(V.nth (cG.drop 1) 0).toBool,(V.nth nO 0).toList)
        else
         (C iJ [.int .i64 (IntKind.wrap .i64 (((V.nth cG 0).toInt)+1)),.int .i64 b',.int .i64 bq,.list aS ((V.nth (cG.drop 2) 0).toList)]).bind fun ef=>
         kn (a,(V.nth cG 0).toInt,bq,decide (((IntKind.wrap .i64 (b'-((V.nth cG 0).toInt))):Int)≥(IntKind.wrap .i64 (Int.tdiv (IntKind.wrap .i64 (b'-a)) 8))),(V.nth (cG.drop 1) 0).toBool,(V.nth ef 0).toList)
       else none
       else none
      else
       (C oS [.int .i64 a,.int .i64 b',.int .i64 bY,.list aS ga]).bind fun fl=>
       bif decide (((IntKind.wrap .i64 (((V.nth fl 0).toInt)-a)):Int)<(IntKind.wrap .i64 (b'-((V.nth fl 0).toInt)))) then
       (C iJ [.int .i64 a,.int .i64 ((V.nth fl 0).toInt),.int .i64 bq,.list aS ((V.nth (fl.drop 2) 0).toList)]).bind fun wI=>
       kn (IntKind.wrap .i64 (((V.nth fl 0).toInt)+1),b',bq,decide (((IntKind.wrap .i64 (((V.nth fl 0).toInt)-a)):Int)≥(IntKind.wrap .i64 (Int.tdiv (IntKind.wrap .i64 (b'-a)) 8))),(V.nth (fl.drop 1) 0).toBool,(V.nth wI 0).toList)
       else
       (C iJ [.int .i64 (IntKind.wrap .i64 (((V.nth fl 0).toInt)+1)),.int .i64 b',.int .i64 bq,.list aS ((V.nth (fl.drop 2) 0).toList)]).bind fun eT=>
       kn (a,(V.nth fl 0).toInt,bq,decide (((IntKind.wrap .i64 (b'-((V.nth fl 0).toInt))):Int)≥(IntKind.wrap .i64 (Int.tdiv (IntKind.wrap .i64 (b'-a)) 8))),(V.nth (fl.drop 1) 0).toBool,(V.nth eT 0).toList)
theorem sS (C:af) (a b' ee:Int) (cC cN:Bool) (ae:List V) {β:Type} (kn:(Int × Int × Int × Bool × Bool × (List V))→Option β) (kr:(List V)→Option β):
  ru C a b' ee cC cN ae kn kr=
 bif decide (((IntKind.wrap .i64 (b'-a)):Int)≤12) then
  (C Cr [.int .i64 a,.int .i64 b',.list aS ae]).bind fun r1=>
  kr ((V.nth r1 0).toList)
 else
  bif (ee:Int)==0 then
  (C Cs [.int .i64 a,.int .i64 b',.list aS ae]).bind fun r2=>
  kr ((V.nth r2 0).toList)
  else
  Aw C a b' ee cC cN (IntKind.wrap .i64 (b'-a)) (!cC) ae (un fun (bq:Int) (qb:List V)=>
   (C Ct [.list aS qb,.int .i64 a,.int .i64 b']).bind fun r6=>
   Ax C a b' bq cC cN (IntKind.wrap .i64 (b'-a)) ((V.nth r6 0).toInt) ((V.nth (r6.drop 1) 0).toInt) ((((V.nth (r6.drop 1) 0).toInt):Int)==2) qb (un fun (bY:Int)=>un fun (wH:Int) (iy:List V)=>
    bif cC then
     bif cN then
     nZ C a b' bq cC cN (IntKind.wrap .i64 (b'-a)) bY ((wH:Int)==1) iy (bD (un fun (v8:Bool) (wR:List V)=>
      kr wR) (fun (ga:List V)=>kM C a b' cC cN bq bY ga kn))
     else
     nZ C a b' bq cC cN (IntKind.wrap .i64 (b'-a)) bY false iy (bD (un fun (CV:Bool) (QP:List V)=>
      kr QP) (fun (QQ:List V)=>kM C a b' cC cN bq bY QQ kn))
    else
     nZ C a b' bq cC cN (IntKind.wrap .i64 (b'-a)) bY false iy (bD (un fun (W7:Bool) (QR:List V)=>
      kr QR) (fun (QS:List V)=>kM C a b' cC cN bq bY QS kn)))):=rfl
section
variable {a b:Nat} {lim:Int} {wb wp:Bool}
theorem QT {d:Array Ed} (dq:a+12<b) (hb:b≤d.size) (hs:d.size<1152921504606846976) (len:Int) (t:Bool): ∃(l1:Int) (d1:Array Ed),PermIn a b d d1∧∀(β:Type) (kr:(Int × List V)→Option β),Aw CC a b lim wb wp len t (eA d) kr=kr (l1,eA d1):=by
 cases t with
 | true=>
  obtain ⟨R,e,hR⟩:=QO dq hb hs
  refine ⟨IntKind.wrap .i64 (lim-1),R,hR,fun β kr=> ?_⟩
  unfold Aw
  rw[cond_true,e]
  rfl
 | false=>exact ⟨lim,d,permIn_refl _ _ _,fun β kr=>rfl⟩
theorem QU {d:Array Ed} (dq:a+12<b) (hb:b≤d.size) (hs:d.size<1152921504606846976) (len h:Int) (t:Bool) {p:Nat} (h1:a≤p) (h2:p<b): ∃(p2:Nat) (h2:Int) (d1:Array Ed),a≤p2∧p2<b∧PermIn a b d d1∧∀(β:Type) (kr:(Int × Int × List V)→Option β),Ax CC a b lim wb wp len p h t (eA d) kr=kr ((p2:Int),h2,eA d1):=by
 cases t with
 | true=>
  refine ⟨b-1-(p-a),1,reverseRange d a b,by omega,by omega,reverseRange_holds d a b (by omega) hb,fun β kr=> ?_⟩
  unfold Ax
  rw[cond_true,P2 (by omega) hb hs]
  simp (disch:=omega) only[Option.bind_some,V.aD,V.e8,eS,gx,wrap64]
 | false=>exact ⟨p,h,d,h1,h2,permIn_refl _ _ _,fun β kr=>rfl⟩
theorem QV {d:Array Ed} (dq:a+12<b) (hb:b≤d.size) (hs:d.size<1152921504606846976) (hB:Below an a b d) (len p:Int) (t:Bool): ∃d1:Array Ed,PermIn a b d d1∧
  ((∀(β:Type) (kr:((Bool × List V) ⊕ List V)→Option β),nZ CC a b lim wb wp len p t (eA d) kr=kr (.inr (eA d1)))∨
  (SortedIn an a b d1∧∀(β:Type) (kr:((Bool × List V) ⊕ List V)→Option β),nZ CC a b lim wb wp len p t (eA d) kr=kr (.inl (true,eA d1)))):=by
 cases t with
 | true=>
  have hp:=partialInsertionSort_holds (lt:=an) nP d a b (by omega) hb hB
  refine ⟨_,hp.1,?_⟩
  cases h:(partialInsertionSort an d a b).2 with
  | true=>
   refine .inr ⟨hp.2 h,fun β kr=> ?_⟩
   unfold nZ
   rw[cond_true,DP (by omega) hb hs,h]
   rfl
  | false=>
   refine .inl fun β kr=> ?_
   unfold nZ
   rw[cond_true,DP (by omega) hb hs,h]
   rfl
 | false=>exact ⟨d,permIn_refl _ _ _,.inl fun β kr=>rfl⟩
end
def sU (a b:Nat) (d:Array Ed):Prop:= ∀(lim:Int) (wb wp:Bool),∃R,Loop (abf CC) ((a:Int),(b:Int),lim,wb,wp,eA d)=some (eA R)∧PermIn a b d R∧SortedIn an a b R
theorem sU.call {a b:Nat} {d:Array Ed} (h:sU a b d) (lim:Int): ∃R,CC iJ [.int .i64 (a:Int),.int .i64 (b:Int),.int .i64 lim,.list aS (eA d)]=some [.list aS (eA R)]∧PermIn a b d R∧SortedIn an a b R:=by
 obtain ⟨R,e,h1,h2⟩:=h lim true true
 refine ⟨R,anc ?_,h1,h2⟩
 unfold abh
 rw[e]
 rfl
theorem QW {a b p:Nat} {d:Array Ed} (dq:a+12<b) (hb:b≤d.size) (hs:d.size<1152921504606846976) (hB:Below an a b d) (h1:a≤p) (h2:p<b)
  (ih: ∀(a2 b2:Nat) (d2:Array Ed),b2-a2<b-a→a2≤b2→b2≤d2.size→d2.size<1152921504606846976→Below an a2 b2 d2→sU a2 b2 d2) (wb wp:Bool) (lim:Int):
  ∃(a2 b2:Nat) (l8 l9:Bool) (d2:Array Ed),b2-a2<b-a∧a2≤b2∧b2≤d2.size∧d2.size<1152921504606846976∧Below an a2 b2 d2∧
   (∀R,PermIn a2 b2 d2 R→SortedIn an a2 b2 R→PermIn a b d R∧SortedIn an a b R)∧
   ∀(β:Type) (kn:(Int × Int × Int × Bool × Bool × (List V))→Option β),kM CC a b wb wp lim p (eA d) kn=kn ((a2:Int),(b2:Int),lim,l8,l9,eA d2):=by
 have part: ∃(a2 b2:Nat) (l8 l9:Bool) (d2:Array Ed),b2-a2<b-a∧a2≤b2∧b2≤d2.size∧d2.size<1152921504606846976∧Below an a2 b2 d2∧
   (∀R,PermIn a2 b2 d2 R→SortedIn an a2 b2 R→PermIn a b d R∧SortedIn an a b R)∧
   ∀(β:Type) (kn:(Int × Int × Int × Bool × Bool × (List V))→Option β),
    ((CC oS [.int .i64 (a:Int),.int .i64 (b:Int),.int .i64 (p:Int),.list aS (eA d)]).bind fun cG=>
        bif decide (((IntKind.wrap .i64 (((V.nth cG 0).toInt)-(a:Int))):Int)<(IntKind.wrap .i64 ((b:Int)-((V.nth cG 0).toInt)))) then
         (CC iJ [.int .i64 (a:Int),.int .i64 ((V.nth cG 0).toInt),.int .i64 lim,.list aS ((V.nth (cG.drop 2) 0).toList)]).bind fun nO=>
         kn (IntKind.wrap .i64 (((V.nth cG 0).toInt)+1),(b:Int),lim,decide (((IntKind.wrap .i64 (((V.nth cG 0).toInt)-(a:Int))):Int)≥(IntKind.wrap .i64 (Int.tdiv (IntKind.wrap .i64 ((b:Int)-(a:Int))) 8))),(V.nth (cG.drop 1) 0).toBool,(V.nth nO 0).toList)
        else
         (CC iJ [.int .i64 (IntKind.wrap .i64 (((V.nth cG 0).toInt)+1)),.int .i64 (b:Int),.int .i64 lim,.list aS ((V.nth (cG.drop 2) 0).toList)]).bind fun ef=>
         kn ((a:Int),(V.nth cG 0).toInt,lim,decide (((IntKind.wrap .i64 ((b:Int)-((V.nth cG 0).toInt))):Int)≥(IntKind.wrap .i64 (Int.tdiv (IntKind.wrap .i64 ((b:Int)-(a:Int))) 8))),(V.nth (cG.drop 1) 0).toBool,(V.nth ef 0).toList))=kn ((a2:Int),(b2:Int),lim,l8,l9,eA d2):=by
  obtain ⟨mid,ap,d4,hx⟩: ∃mid ap d4,partition an d a b p=(mid,ap,d4):=⟨_,_,_,rfl⟩
  obtain ⟨g1,g2,iB,QX,QY,QZ,Q0⟩:=round_part nP (partition_holds an) h1 h2 hb hB hx
  have hc:=Qf (a:=a) (b:=b) (pivot:=p) (d:=d) h2 (by omega) hb hs
  rw[hx] at hc
  by_cases hl:mid-a<b-mid
  ·obtain ⟨L,e,l1,l2⟩:=(ih a mid d4 (by omega) g1 (by rw[iB];omega) (by rw[iB];exact hs) QX).call lim
   obtain ⟨wS,qc⟩:=QZ _ l1 l2
   refine ⟨mid+1,b,decide (((IntKind.wrap .i64 ((mid:Int)-(a:Int))):Int)≥(IntKind.wrap .i64 (Int.tdiv (IntKind.wrap .i64 ((b:Int)-(a:Int))) 8))),ap,L,by omega,by omega,by rw[l1.1,iB];exact hb,by rw[l1.1,iB];exact hs,wS,qc,fun β kn=> ?_⟩
   ·rw[hc]
    simp only[Option.bind_some,V.aD,V.j8,V.toInt_int,V.cI,V.e8,fm,eM]
    rw[ar,ag (by rw[gx g1,gx (by omega),wrap64 (by omega) (by omega),wrap64 (by omega) (by omega)];omega),e]
    simp only[Option.bind_some,V.aD,V.e8]
    rw[bW,wrap64 (x:=((mid+1:Nat):Int)) (by omega) (by omega)]
  ·obtain ⟨L,e,l1,l2⟩:=(ih (mid+1) b d4 (by omega) (by omega) (by rw[iB];exact hb) (by rw[iB];exact hs) QY).call lim
   obtain ⟨wS,qc⟩:=Q0 _ l1 l2
   refine ⟨a,mid,decide (((IntKind.wrap .i64 ((b:Int)-(mid:Int))):Int)≥(IntKind.wrap .i64 (Int.tdiv (IntKind.wrap .i64 ((b:Int)-(a:Int))) 8))),ap,L,by omega,by omega,by rw[l1.1,iB];omega,by rw[l1.1,iB];exact hs,wS,qc,fun β kn=> ?_⟩
   ·rw[hc]
    simp only[Option.bind_some,V.aD,V.j8,V.toInt_int,V.cI,V.e8,fm,eM]
    rw[ar,ah (by rw[gx g1,gx (by omega),wrap64 (by omega) (by omega),wrap64 (by omega) (by omega)];omega),bW,wrap64 (x:=((mid+1:Nat):Int)) (by omega) (by omega),e]
    simp only[Option.bind_some,V.aD,V.e8]
 by_cases ha:0<a
 ·by_cases hc:cD d[a-1]! d[p]! <0
  ·obtain ⟨a2,b2,l8,l9,d2,q1,q2,q3,q4,q5,q6,q7⟩:=part
   refine ⟨a2,b2,l8,l9,d2,q1,q2,q3,q4,q5,q6,fun β kn=> ?_⟩
   rw[←q7 β kn]
   unfold kM
   rw[ar,ag (by omega),eS ha,wrap64 (by omega) (by omega),eU (i:=a-1) (by omega),eV (by omega),eU (i:=p) (by omega),eV (by omega)]
   simp only[Ed.aH,Ed.aN,Ed.aK,iO,Option.bind_some,V.aD,V.toInt_int]
   rw[dH,ar,ag hc]
  ·obtain ⟨mid,d4,hx⟩: ∃mid d4,partitionEqual an d a b p=(mid,d4):=⟨_,_,rfl⟩
   obtain ⟨g1,Bq,iB,Q1,qc⟩:=round_eq nP (partitionEqual_holds an) ha h1 h2 hb hB (by rw[sP,←propext (aan _ _)];exact hc) hx
   have he:=Qh (a:=a) (b:=b) (pivot:=p) (d:=d) h2 (by omega) hb hs
   rw[hx] at he
   refine ⟨mid,b,wb,wp,d4,by omega,Bq,by rw[iB];exact hb,by rw[iB];exact hs,Q1,qc,fun β kn=> ?_⟩
   unfold kM
   rw[ar,ag (by omega),eS ha,wrap64 (by omega) (by omega),eU (i:=a-1) (by omega),eV (by omega),eU (i:=p) (by omega),eV (by omega)]
   simp only[Ed.aH,Ed.aN,Ed.aK,iO,Option.bind_some,V.aD,V.toInt_int]
   rw[dH,ar,ah hc,he]
   rfl
 ·obtain ⟨a2,b2,l8,l9,d2,q1,q2,q3,q4,q5,q6,q7⟩:=part
  refine ⟨a2,b2,l8,l9,d2,q1,q2,q3,q4,q5,q6,fun β kn=> ?_⟩
  rw[←q7 β kn]
  unfold kM
  rw[ar,ah (by omega)]
theorem Q2: ∀(n a b:Nat) (d:Array Ed),b-a≤n→a≤b→b≤d.size→d.size<1152921504606846976→Below an a b d→sU a b d:=by
 intro n
 induction n with
 | zero=>
  intro a b d hn dq hb hs hB lim wb wp
  have hi:=insertionSort_holds (lt:=an) nP d a b dq hb
  refine ⟨_,aG ?_,hi⟩
  show ru CC a b lim wb wp (eA d) (fun y=>some (Sum.inl y)) (fun r=>some (Sum.inr r))=_
  rw[sS,ar,ag (by rw[gx dq,wrap64 (by omega) (by omega)];omega),Dl hb hs (by omega)]
  rfl
 | succ n ih=>
  intro a b d hn dq hb hs hB lim wb wp
  by_cases D2:b-a≤12
  ·have hi:=insertionSort_holds (lt:=an) nP d a b dq hb
   refine ⟨_,aG ?_,hi⟩
   show ru CC a b lim wb wp (eA d) (fun y=>some (Sum.inl y)) (fun r=>some (Sum.inr r))=_
   rw[sS,ar,ag (by rw[gx dq,wrap64 (by omega) (by omega)];omega),Dl hb hs (by omega)]
   rfl
  ·have qd:a+12<b:=by omega
   have pN: ¬(((IntKind.wrap .i64 ((b:Int)-(a:Int))):Int)≤12):=by rw[gx dq,wrap64 (by omega) (by omega)];omega
   by_cases h0:lim=0
   ·have hi:=heapSort_holds (lt:=an) nP d a b dq hb
    refine ⟨_,aG ?_,hi⟩
    show ru CC a b lim wb wp (eA d) (fun y=>some (Sum.inl y)) (fun r=>some (Sum.inr r))=_
    rw[sS,ar,ah pN,cq,ag h0,P0 (by omega) hb hs]
    rfl
   ·obtain ⟨l1,d1,s1,k1⟩:=QT (lim:=lim) (wb:=wb) (wp:=wp) qd hb hs (IntKind.wrap .i64 ((b:Int)-(a:Int))) (!wb)
    have b1:b≤d1.size:=by rw[s1.1];exact hb
    have z1:d1.size<1152921504606846976:=by rw[s1.1];exact hs
    obtain ⟨p,h,c1,p1,p2⟩:=QL qd b1 z1
    obtain ⟨q,h2,d2,q1,q2,s2,k2⟩:=QU (lim:=l1) (wb:=wb) (wp:=wp) qd b1 z1 (IntKind.wrap .i64 ((b:Int)-(a:Int))) h (h==2) p1 p2
    have b2:b≤d2.size:=by rw[s2.1];exact b1
    have z2:d2.size<1152921504606846976:=by rw[s2.1];exact z1
    have B2:Below an a b d2:=(hB.perm hb s1).perm b1 s2
    obtain ⟨t,ht⟩: ∃t:Bool,t=(bif wb then (bif wp then (h2==1) else false) else false):=⟨_,rfl⟩
    obtain ⟨d3,s3,k3⟩:=QV (lim:=l1) (wb:=wb) (wp:=wp) qd b2 z2 B2 (IntKind.wrap .i64 ((b:Int)-(a:Int))) (q:Int) t
    have b3:b≤d3.size:=by rw[s3.1];exact b2
    have z3:d3.size<1152921504606846976:=by rw[s3.1];exact z2
    have B3:Below an a b d3:=B2.perm b2 s3
    have P3:PermIn a b d d3:=permIn_trans _ _ _ a b (permIn_trans _ _ _ a b s1 s2) s3
    have step: ∀(β:Type) (kn:(Int × Int × Int × Bool × Bool × (List V))→Option β) (kr:(List V)→Option β),ru CC a b lim wb wp (eA d) kn kr=
      nZ CC a b l1 wb wp (IntKind.wrap .i64 ((b:Int)-(a:Int))) (q:Int) t (eA d2) (bD (un fun (v8:Bool) (wR:List V)=>kr wR) (fun (ga:List V)=>kM CC a b wb wp l1 q ga kn)):=by
     intro β kn kr
     rw[sS,ar,ah pN,cq,ah h0,k1]
     simp only[un]
     rw[c1]
     simp only[Option.bind_some,V.aD,V.j8,V.toInt_int,fm,eM]
     rw[k2]
     simp only[un]
     rw[ht]
     cases wb
     ·rfl
     ·cases wp
      ·rfl
      ·rfl
    rcases k3 with k3|⟨Q3,k3⟩
    ·obtain ⟨a4,b4,Q4,Q5,d4,r1,r2,r3,r4,r5,r6,r7⟩:=QW qd b3 z3 B3 q1 q2 (fun a2 b2 d2 aR h1 h2 h3 h4=>ih a2 b2 d2 (by omega) h1 h2 h3 h4) wb wp l1
     obtain ⟨R,e,e1,e2⟩:=ih a4 b4 d4 (by omega) r2 r3 r4 r5 l1 Q4 Q5
     obtain ⟨f1,f2⟩:=r6 R e1 e2
     refine ⟨R,(br ?_).trans e,permIn_trans _ _ _ a b P3 f1,f2⟩
     show ru CC a b lim wb wp (eA d) (fun y=>some (Sum.inl y)) (fun r=>some (Sum.inr r))=_
     rw[step,k3]
     exact r7 _ (fun y=>some (Sum.inl y))
    ·refine ⟨d3,aG ?_,P3,Q3⟩
     show ru CC a b lim wb wp (eA d) (fun y=>some (Sum.inl y)) (fun r=>some (Sum.inr r))=_
     rw[step,k3]
     rfl
theorem anf (l:List Ed) (hs:l.length<1152921504606846976): ∃R:List Ed,CC HU [.list aS (l.map Ed.enc)]=some [.list aS (R.map Ed.enc)]∧R.Perm l∧R.Pairwise (fun x y=> ¬y.lt x):=by
 obtain ⟨L,e1,_⟩:=D0 (x:=l.length) (by omega)
 obtain ⟨R,e2,h1,h2⟩:=(Q2 _ 0 l.toArray.size l.toArray (bN _) (jS _) (bN _) (by simpa using hs) (.inl rfl)).call (L:Int)
 have bh:R.size=l.length:=by rw[h1.1];simp
 refine ⟨R.toList,ane ?_,?_,?_⟩
 ·unfold abi
  rw[aC,sB (A:=l.length) (by omega),e1]
  simp only[Option.bind_some,V.aD,V.toInt_int]
  have e3:eA l.toArray=l.map Ed.enc:=by simp[o6]
  rw[e3,show ((l.toArray.size:Nat):Int)=(l.length:Int) by simp,show ((0:Nat):Int)=0 from rfl] at e2
  rw[e2]
  rfl
 ·have h3:=h1.2.2
  rw[show l.toArray.size=R.size from h1.1.symm,FQ,h1.1,FQ] at h3
  exact h3
 ·rw[xd]
  intro i j hi hj qM
  have h3:=h2 i j (jS _) qM (by simpa[←bh] using hj)
  rw[sP] at h3
  have dQ:i<R.size:=by simpa using hi
  have gY:j<R.size:=by simpa using hj
  rw[AQ R i dQ,AQ R j gY] at h3
  simpa using h3
end Go.AM
set_option maxRecDepth 100000
namespace Go.AM
open Go.Proofs
noncomputable abbrev abj:Code:=bU Tryz.prog (az.aT 11)
noncomputable def Ff (C:af) (t43 Ef Eg wY abk:Int) (RQ:List V) (Eh Ei ur abl:Int) (RR:List V) (t44:Int) {β:Type} (kn:Int→Option β) (kr:((Bool) ⊕ (Int × Bool))→Option β):Option β:=
 bif decide ((t44:Int)<t43) then
  (idx RQ t44).bind fun x1=>
  (idx RR t44).bind fun x2=>
  bif !(((((x1.cell 0).toInt):Int)==((x2.cell 0).toInt))&&(((((x1.cell 1).toInt):Int)==((x2.cell 1).toInt))&&(((((x1.cell 2).toInt):Int)==((x2.cell 2).toInt))&&true))) then
  kr (.inl false)
  else
  kn (IntKind.wrap .i64 (t44+1))
 else
  kr (.inr (t44,decide ((t44:Int)<t43)))
noncomputable def Fg (C:af) (t43 Ef Eg wY abk:Int) (RQ:List V) (Eh Ei ur abl:Int) (RR:List V):(Int)→Option ((Int) ⊕ ((Bool) ⊕ (Int × Bool))):=fun t44=>Ff C t43 Ef Eg wY abk RQ Eh Ei ur abl RR t44 (fun y=>some (.inl y)) (fun r=>some (.inr r))
noncomputable def abm (C:af):cj:=fun β n ds k=>
 bif Nat.beq n 65 then bt Na [false,true,false,false,false,false,false,false,false,false,false,false] [[0],[1,0,0,3,4,5,6,7,8,9,10,11,12]] (@Ff C) ds k else
 none
abbrev ang (C:af) (b:cg):Prop:=ch Tryz.prog az C (abm C) 11 (cv Tryz.prog (az.aT 11)) (az.sin 11).bf.length b
theorem anh (C:af):ang C (.loop (aq [1,1,0,1,0,0] abj)):=
 bw Na [false,true,false,false,false,false,false,false,false,false,false,false] [[0],[1,0,0,3,4,5,6,7,8,9,10,11,12]] (@Ff C) (by kernel_rfl) (aM (bs:=[]) (by kernel_rfl) aw) (fun ds=>by kernel_rfl) (fun i x=>by kernel_rfl) (fun i x β k=>by kernel_rfl) (fun β ds k=>by kernel_rfl)
noncomputable def abn (C:af) (eH eI e9 Fh:Int) (Ay:List V) (eJ eK fa Fi:Int) (Fj:List V):Option (List V):=
 bif (eH:Int) != eJ then
  some [.bool false]
 else
  bif (eI:Int) != eK then
  some [.bool false]
  else
  bif (e9:Int) != fa then
   some [.bool false]
  else
   bif (Fh:Int) != Fi then
   some [.bool false]
   else
   bif ((Ay.length:Int):Int) != (Fj.length:Int) then
    some [.bool false]
   else
    (Loop (Fg C (Ay.length:Int) eH eI e9 Fh Ay eJ eK fa Fi Fj) 0).bind (bD (fun (fN:Bool)=>
     some [.bool fN]) (un fun (jJ:Int) (kF:Bool)=>
     some [.bool true]))
theorem ani {eH eI e9 Fh:Int} {Ay:List V} {eJ eK fa Fi:Int} {Fj:List V} {r:Option (List V)} (h:abn CC eH eI e9 Fh Ay eJ eK fa Fi Fj=r):CC yC [.int .i64 eH,.int .i64 eI,.int .u64 e9,.int .u64 Fh,.list aS Ay,.int .i64 eJ,.int .i64 eK,.int .u64 fa,.int .u64 Fi,.list aS Fj]=r:=
 bn (key:=11) (L:=abm CC) (bs:=[.loop (aq [1,1,0,1,0,0] abj)]) (by kernel_rfl) (aZ (anh CC) aw) (bm (by kernel_rfl) h)
end Go.AM
set_option maxRecDepth 100000
set_option maxHeartbeats 1000000
namespace Go.AM
open Go.Proofs
theorem abo (n:Nf) (hl:n.E.length≤maxLen):CC yC (JU n (JU n []))=some [.bool true]:=by
 have hm:=oU
 refine ani ?_
 unfold abn
 rw[kC,ag rfl,kC,ag rfl,kC,ag rfl,kC,ag rfl,kC,ag rfl]
 have:=aeQ (step:=Fg CC ((n.E.map Ed.enc).length:Int) n.L n.S n.st n.fin (n.E.map Ed.enc) n.L n.S n.st n.fin (n.E.map Ed.enc)) (fun i=>(i:Int)) n.E.length (r:= .inr ((n.E.length:Int),false)) ?_ ?_
 ·rw[show Loop (Fg CC ((n.E.map Ed.enc).length:Int) n.L n.S n.st n.fin (n.E.map Ed.enc) n.L n.S n.st n.fin (n.E.map Ed.enc)) 0=_ from this]
  rfl
 ·intro i hi
  simp only[Fg,Ff]
  rw[ar,ag (by rw[aC];omega),aap hi]
  simp only[Option.bind_some,Ed.aH,Ed.aN,Ed.aK,aaz]
  simp only[og,oj,cond_false]
  rw[bW,wrap64 (by omega) (by omega)]
 ·simp only[Fg,Ff]
  rw[aC,ke (by omega),cond_false]
end Go.AM
set_option maxRecDepth 100000
namespace Go.AM
open Go.Proofs
noncomputable abbrev rv:Code:=bU Tryz.prog (az.aT 9)
noncomputable def Fk (C:af) (letters i x to t32 t33 t43 t44:Int) (t52:Bool) (fb fc fe ff:Int) (cr:List V) (n0 oa oc lq abp abq:Int) (abr Az jq nT:List V) {β:Type} (kr:((Int × Int × Int × Int × Int × (List V)) ⊕ (Int × (List V)))→Option β):Option β:=
 bif t52 then
  bif ((cr.length:Int):Int)==64 then
  kr (.inl (3,0,0,0,0,([]:List V)))
  else
  bif Nat.ble ((cr.length+([.agg [.int .i64 abp,.int .i64 abq,.list ab abr]]:List V).length)*40) b8 then
   kr (.inr ((cr.length:Int),cr++([.agg [.int .i64 abp,.int .i64 abq,.list ab abr]]:List V)))
  else none
 else
  kr (.inr (to,cr))
noncomputable def Fl (C:af) (letters i x t32 t33 t43 fb fc fe ff n0 oa oc lq:Int) (Az dW:List V) (t44:Int) (cr jq:List V) {β:Type} (kn:(Int × (List V) × (List V))→Option β) (kr:((Int × Int × Int × Int × Int × (List V)) ⊕ (Int × Bool × (List V) × (List V)))→Option β):Option β:=
 bif decide ((t44:Int)<t43) then
  bif (decide (0≤t44))&&(decide (t44<(Az.length:Int))) then
  (Az[(t44:Int).toNat]?).bind fun x6=>
  (C MQ [.list ab cr,.int .i64 ((x6.cell 0).toInt),.int .i64 ((x6.cell 1).toInt),.list ab ((x6.cell 2).toList)]).bind fun r7=>
  Fk C letters i x ((V.nth r7 0).toInt) t32 t33 t43 t44 (decide ((((V.nth r7 0).toInt):Int)<0)) fb fc fe ff ((V.nth (r7.drop 1) 0).toList) n0 oa oc lq ((V.nth ((r7.drop 1).drop 1) 0).toInt) ((V.nth (((r7.drop 1).drop 1).drop 1) 0).toInt) ((V.nth ((((r7.drop 1).drop 1).drop 1).drop 1) 0).toList) Az dW jq (bD (un fun (CP:Int)=>un fun (anj:Int)=>un fun (ank:Int)=>un fun (anl:Int)=>un fun (anm:Int) (ano:List V)=>
   kr (.inl (CP,anj,ank,anl,anm,ano))) (un fun (abt:Int) (anp:List V)=>
   bif Nat.ble ((jq.length+([.agg [.int .i64 i,.int .i64 x,.int .i64 abt]]:List V).length)*24) b8 then
    kn (IntKind.wrap .i64 (t44+1),anp,jq++([.agg [.int .i64 i,.int .i64 x,.int .i64 abt]]:List V))
   else none))
  else none
 else
  kr (.inr (t44,decide ((t44:Int)<t43),cr,jq))
noncomputable def AA (C:af) (letters i x t32 t33 t43 fb fc fe ff n0 oa oc lq:Int) (Az dW:List V):(Int × (List V) × (List V))→Option ((Int × (List V) × (List V)) ⊕ ((Int × Int × Int × Int × Int × (List V)) ⊕ (Int × Bool × (List V) × (List V)))):=un fun t44=>un fun cr jq=>Fl C letters i x t32 t33 t43 fb fc fe ff n0 oa oc lq Az dW t44 cr jq (fun y=>some (.inl y)) (fun r=>some (.inr r))
noncomputable def Fm (C:af) (letters i t32 fb fc fe ff n0 oa oc lq:Int) (fE:List V) (t33:Int) (cr dW:List V) {β:Type} (kn:(Int × (List V) × (List V))→Option β) (kr:((Int × Int × Int × Int × Int × (List V)) ⊕ (Int × Bool × (List V) × (List V)))→Option β):Option β:=
 bif decide ((t33:Int)<t32) then
  bif (decide (0≤i))&&(decide (i<(cr.length:Int))) then
  (cr[(i:Int).toNat]?).bind fun x3=>
  (C tP [.int .i64 ((x3.cell 0).toInt),.int .i64 ((x3.cell 1).toInt),.list ab ((x3.cell 2).toList),.int .i64 t33]).bind fun r4=>
  (C HT [.list ab ((V.nth r4 0).toList)]).bind fun r5=>
  bif (V.nth r5 0).toBool then
   (Loop (AA C letters i t33 t32 t33 (((V.nth (r5.drop 1) 0).toList).length:Int) fb fc fe ff n0 oa oc lq ((V.nth (r5.drop 1) 0).toList) fE) (0,cr,dW)).bind (bD (un fun (O9:Int)=>un fun (RS:Int)=>un fun (RT:Int)=>un fun (RU:Int)=>un fun (anq:Int) (anr:List V)=>
    kr (.inl (O9,RS,RT,RU,anq,anr))) (un fun (y9:Int)=>un fun (v8:Bool)=>un fun (ans:List V) (ant:List V)=>
    kn (IntKind.wrap .i64 (t33+1),ans,ant)))
  else
   (Loop (AA C letters i t33 t32 t33 (((V.nth (r5.drop 1) 0).toList).length:Int) fb fc fe ff n0 oa oc lq ((V.nth (r5.drop 1) 0).toList) fE) (0,cr,dW)).bind (bD (un fun (CT:Int)=>un fun (RV:Int)=>un fun (anu:Int)=>un fun (anv:Int)=>un fun (anw:Int) (anx:List V)=>
    kr (.inl (CT,RV,anu,anv,anw,anx))) (un fun (Pd:Int)=>un fun (za:Bool)=>un fun (anz:List V) (anA:List V)=>
    kn (IntKind.wrap .i64 (t33+1),anz,anA)))
  else none
 else
  kr (.inr (t33,decide ((t33:Int)<t32),cr,dW))
noncomputable def Fo (C:af) (letters i t32 fb fc fe ff n0 oa oc lq:Int) (fE:List V):(Int × (List V) × (List V))→Option ((Int × (List V) × (List V)) ⊕ ((Int × Int × Int × Int × Int × (List V)) ⊕ (Int × Bool × (List V) × (List V)))):=un fun t33=>un fun cr dW=>Fm C letters i t32 fb fc fe ff n0 oa oc lq fE t33 cr dW (fun y=>some (.inl y)) (fun r=>some (.inr r))
noncomputable def Fp (C:af) (letters fb fc fe ff n0 oa oc:Int) (fE:List V) (i:Int) (cr:List V) (lq:Int) (dW:List V) {β:Type} (kn:(Int × (List V) × Int × (List V))→Option β) (kr:((Int × Int × Int × Int × Int × (List V)) ⊕ (Int × Bool × (List V) × Int × (List V)))→Option β):Option β:=
 bif decide ((i:Int)<(cr.length:Int)) then
  (Loop (Fo C letters i letters fb fc fe ff n0 oa oc lq fE) (0,cr,dW)).bind (bD (un fun (CV:Int)=>un fun (RW:Int)=>un fun (anB:Int)=>un fun (anC:Int)=>un fun (anD:Int) (anE:List V)=>
   kr (.inl (CV,RW,anB,anC,anD,anE))) (un fun (Pf:Int)=>un fun (Pg:Bool)=>un fun (Kf:List V) (abu:List V)=>
   bif (decide (0≤i))&&(decide (i<(Kf.length:Int))) then
   (Kf[(i:Int).toNat]?).bind fun RX=>
   (C kD [.int .i64 ((RX.cell 0).toInt),.int .i64 ((RX.cell 1).toInt),.list ab ((RX.cell 2).toList)]).bind fun DX=>
   bif (V.nth DX 0).toBool then
    bif decide (0≤i) then
    kn (IntKind.wrap .i64 (i+1),Kf,IntKind.wrap .u64 ((BitVec.ofInt (IntKind.bits .u64) lq|||BitVec.ofInt (IntKind.bits .u64) (IntKind.wrap .u64 (1*2^(min i.toNat (IntKind.bits .u64))))).toNat),abu)
    else none
   else
    kn (IntKind.wrap .i64 (i+1),Kf,lq,abu)
   else none))
 else
  kr (.inr (i,decide ((i:Int)<(cr.length:Int)),cr,lq,dW))
noncomputable def Fq (C:af) (letters fb fc fe ff n0 oa oc:Int) (fE:List V):(Int × (List V) × Int × (List V))→Option ((Int × (List V) × Int × (List V)) ⊕ ((Int × Int × Int × Int × Int × (List V)) ⊕ (Int × Bool × (List V) × Int × (List V)))):=un fun i=>un fun cr=>un fun lq dW=>Fp C letters fb fc fe ff n0 oa oc fE i cr lq dW (fun y=>some (.inl y)) (fun r=>some (.inr r))
noncomputable def abv (C:af):cj:=fun β n ds k=>
 bif Nat.beq n 847 then fM MZ [[0,0,0,0,0,0],[1,2,3,0,5,6,7,8,10,11,12,13,0,15,16,17,18,22,23,24]] (@Fk C) ds k else
 bif Nat.beq n 209 then bt M0 [false,false,false,false,false,false,true,false,false,false,false,true,false,false,false,false,false,false,true] [[0,0,0,0,0,0],[1,2,3,4,5,6,0,0,8,9,10,11,0,13,14,15,16,17,18,0]] (@Fl C) ds k else
 bif Nat.beq n 161 then bt M1 [false,false,false,true,false,false,false,false,true,false,false,false,false,false,true] [[0,0,0,0,0,0],[1,2,3,0,0,5,6,7,8,0,10,11,12,13,14,0]] (@Fm C) ds k else
 bif Nat.beq n 113 then bt M3 [false,true,false,false,false,false,true,false,false,false,true,false,true] [[0,0,0,0,0,0],[1,0,0,3,4,5,6,0,8,9,10,0,12,0]] (@Fp C) ds k else
 none
abbrev Kg (C:af) (b:cg):Prop:=ch Tryz.prog az C (abv C) 9 (cv Tryz.prog (az.aT 9)) (az.sin 9).bf.length b
theorem anF (C:af):Kg C (.cond 52 (aq [1,1,1,1,0,1,0,0,1,0,0,0,1,0,0,1,1,0,0,1,1,0,0,1,1,0,0,1,1,0,1,0] rv) (aq [1,1,1,1,0,1,0,0,1,0,0,0,1,0,0,1,1,0,0,1,1,0,0,1,1,0,0,1,1,0,1,1] rv)):=
 fX MZ [[0,0,0,0,0,0],[1,2,3,0,5,6,7,8,10,11,12,13,0,15,16,17,18,22,23,24]] (@Fk C) (by kernel_rfl) (aM (bs:=[]) (by kernel_rfl) aw) (aM (bs:=[]) (by kernel_rfl) aw) (fun ds=>by kernel_rfl) (fun i β k=>by kernel_rfl) (fun β ds k=>by kernel_rfl)
theorem anG (C:af):Kg C (.loop (aq [1,1,1,1,0,1,0,0,1,0,0,0,1,0,0,1,1,0,0,1,1,0,0] rv)):=
 bw M0 [false,false,false,false,false,false,true,false,false,false,false,true,false,false,false,false,false,false,true] [[0,0,0,0,0,0],[1,2,3,4,5,6,0,0,8,9,10,11,0,13,14,15,16,17,18,0]] (@Fl C) (by kernel_rfl) (aM (bs:=[.cond 52 (aq [1,1,1,1,0,1,0,0,1,0,0,0,1,0,0,1,1,0,0,1,1,0,0,1,1,0,0,1,1,0,1,0] rv) (aq [1,1,1,1,0,1,0,0,1,0,0,0,1,0,0,1,1,0,0,1,1,0,0,1,1,0,0,1,1,0,1,1] rv)]) (by kernel_rfl) (aZ (anF C) aw)) (fun ds=>by kernel_rfl) (fun i x=>by kernel_rfl) (fun i x β k=>by kernel_rfl) (fun β ds k=>by kernel_rfl)
theorem anH (C:af):Kg C (.loop (aq [1,1,1,1,0,1,0,0,1,0,0,0,1,0,0] rv)):=
 bw M1 [false,false,false,true,false,false,false,false,true,false,false,false,false,false,true] [[0,0,0,0,0,0],[1,2,3,0,0,5,6,7,8,0,10,11,12,13,14,0]] (@Fm C) (by kernel_rfl) (aM (bs:=[.loop (aq [1,1,1,1,0,1,0,0,1,0,0,0,1,0,0,1,1,0,0,1,1,0,0] rv)]) (by kernel_rfl) (aZ (anG C) aw)) (fun ds=>by kernel_rfl) (fun i x=>by kernel_rfl) (fun i x β k=>by kernel_rfl) (fun β ds k=>by kernel_rfl)
theorem anI (C:af):Kg C (.loop (aq [1,1,1,1,0,1,0,0] rv)):=
 bw M3 [false,true,false,false,false,false,true,false,false,false,true,false,true] [[0,0,0,0,0,0],[1,0,0,3,4,5,6,0,8,9,10,0,12,0]] (@Fp C) (by kernel_rfl) (aM (bs:=[.loop (aq [1,1,1,1,0,1,0,0,1,0,0,0,1,0,0] rv)]) (by kernel_rfl) (aZ (anH C) aw)) (fun ds=>by kernel_rfl) (fun i x=>by kernel_rfl) (fun i x β k=>by kernel_rfl) (fun β ds k=>by kernel_rfl)
noncomputable def RY (C:af) (ak ay:Int) (aj:List V) (letters:Int):Option (List V):=
 (C HS [.int .i64 ak,.int .i64 ay,.list ab aj,.int .i64 letters]).bind fun r1=>
 bif (((V.nth r1 0).toInt):Int) != 0 then
  some [.int .i64 0,.int .i64 0,.int .u64 0,.int .u64 0,.int .i64 ((V.nth r1 0).toInt),.list aS ([]:List V)]
 else
  (C HP [.int .i64 ak,.int .i64 ay,.list ab aj]).bind fun r2=>
  (Loop (Fq C letters 0 0 0 0 letters 0 1 ([]:List V)) (0,([.agg [.int .i64 ((V.nth r2 0).toInt),.int .i64 ((V.nth (r2.drop 1) 0).toInt),.list ab ((V.nth ((r2.drop 1).drop 1) 0).toList)]]:List V),0,([]:List V))).bind (bD (un fun (Ph:Int)=>un fun (anJ:Int)=>un fun (anK:Int)=>un fun (anL:Int)=>un fun (anM:Int) (RZ:List V)=>
   some [.int .i64 anJ,.int .i64 anK,.int .u64 anL,.int .u64 anM,.int .i64 Ph,.list aS RZ]) (un fun (aqi:Int)=>un fun (ags:Bool)=>un fun (anN:List V)=>un fun (anO:Int) (anP:List V)=>
   (C HU [.list aS anP]).bind fun r59=>
   some [.int .i64 letters,.int .i64 (anN.length:Int),.int .u64 1,.int .u64 anO,.int .i64 0,.list aS ((V.nth r59 0).toList)]))
theorem abw {ak ay:Int} {aj:List V} {letters:Int} {r:Option (List V)} (h:RY CC ak ay aj letters=r):CC yA [.int .i64 ak,.int .i64 ay,.list ab aj,.int .i64 letters]=r:=
 bn (key:=9) (L:=abv CC) (bs:=[.loop (aq [1,1,1,1,0,1,0,0] rv)]) (by kernel_rfl) (aZ (anI CC) aw) (bm (by kernel_rfl) h)
noncomputable def abx (C:af) (Kh Ki:Int) (Kj:List V) (Fs Ft:Int) (Fu:List V):Option (List V):=
 (C bu [.int .i64 Kh,.int .i64 Ki,.list ab Kj,.int .i64 Fs,.int .i64 Ft,.list ab Fu]).bind fun r1=>
 some [.bool ((((V.nth r1 0).toInt):Int)==0),.int .i64 Fs,.int .i64 Ft,.list ab Fu]
theorem anQ {Kh Ki:Int} {Kj:List V} {Fs Ft:Int} {Fu:List V} {r:Option (List V)} (h:abx CC Kh Ki Kj Fs Ft Fu=r):CC vO [.int .i64 Kh,.int .i64 Ki,.list ab Kj,.int .i64 Fs,.int .i64 Ft,.list ab Fu]=r:=
 bn (key:=28) (L:=cS) (bs:=[]) (by kernel_rfl) aw (bm (by kernel_rfl) h)
noncomputable abbrev aby:Code:=bU Tryz.prog (az.aT 208)
noncomputable def AB (C:af) (t7:Int) (ss:List V) (t8 sZ s4:Int) (s5:List V) {β:Type} (kn:(Int × Int × Int × (List V))→Option β) (kr:((Int × Int × Int × (List V)) ⊕ (Int × Bool × Int × Int × (List V)))→Option β):Option β:=
 bif decide ((t8:Int)<t7) then
  bif (decide (0≤t8))&&(decide (t8<(ss.length:Int))) then
  (ss[(t8:Int).toNat]?).bind fun x1=>
  (C vO [.int .i64 ((x1.cell 0).toInt),.int .i64 ((x1.cell 1).toInt),.list ab ((x1.cell 2).toList),.int .i64 sZ,.int .i64 s4,.list ab s5]).bind fun r2=>
  bif (V.nth r2 0).toBool then
   kr (.inl (t8,(V.nth (r2.drop 1) 0).toInt,(V.nth ((r2.drop 1).drop 1) 0).toInt,(V.nth (((r2.drop 1).drop 1).drop 1) 0).toList))
  else
   kn (IntKind.wrap .i64 (t8+1),(V.nth (r2.drop 1) 0).toInt,(V.nth ((r2.drop 1).drop 1) 0).toInt,(V.nth (((r2.drop 1).drop 1).drop 1) 0).toList)
  else none
 else
  kr (.inr (t8,decide ((t8:Int)<t7),sZ,s4,s5))
noncomputable def w8 (C:af) (t7:Int) (ss:List V):(Int × Int × Int × (List V))→Option ((Int × Int × Int × (List V)) ⊕ ((Int × Int × Int × (List V)) ⊕ (Int × Bool × Int × Int × (List V)))):=un fun t8=>un fun sZ=>un fun s4 s5=>AB C t7 ss t8 sZ s4 s5 (fun y=>some (.inl y)) (fun r=>some (.inr r))
noncomputable def abz (C:af):cj:=fun β n ds k=>
 bif Nat.beq n 33 then bt O4 [false,true,false,true,true,true] [[0,3,0,0,0],[1,0,0,3,0,0,0]] (@AB C) ds k else
 none
abbrev anR (C:af) (b:cg):Prop:=ch Tryz.prog az C (abz C) 208 (cv Tryz.prog (az.aT 208)) (az.sin 208).bf.length b
theorem anS (C:af):anR C (.loop (aq [1,0,1,0,0] aby)):=
 bw O4 [false,true,false,true,true,true] [[0,3,0,0,0],[1,0,0,3,0,0,0]] (@AB C) (by kernel_rfl) (aM (bs:=[]) (by kernel_rfl) aw) (fun ds=>by kernel_rfl) (fun i x=>by kernel_rfl) (fun i x β k=>by kernel_rfl) (fun β ds k=>by kernel_rfl)
noncomputable def abA (C:af) (ss:List V) (sZ s4:Int) (s5:List V):Option (List V):=
 (Loop (w8 C (ss.length:Int) ss) (0,sZ,s4,s5)).bind (bD (un fun (fN:Int)=>un fun (O6:Int)=>un fun (b_5:Int) (b_6:List V)=>
  some [.int .i64 fN,.list ab ss,.int .i64 O6,.int .i64 b_5,.list ab b_6]) (un fun (sC:Int)=>un fun (CP:Bool)=>un fun (anT:Int)=>un fun (anU:Int) (anV:List V)=>
  some [.int .i64 (-1),.list ab ss,.int .i64 anT,.int .i64 anU,.list ab anV]))
theorem anW {ss:List V} {sZ s4:Int} {s5:List V} {r:Option (List V)} (h:abA CC ss sZ s4 s5=r):CC MQ [.list ab ss,.int .i64 sZ,.int .i64 s4,.list ab s5]=r:=
 bn (key:=208) (L:=abz CC) (bs:=[.loop (aq [1,0,1,0,0] aby)]) (by kernel_rfl) (aZ (anS CC) aw) (bm (by kernel_rfl) h)
end Go.AM
set_option maxRecDepth 100000
namespace Go.AM
open Go.Proofs Ex
theorem anX (a:Ex) (ha:a.Ok) (b:Ex) (hb:b.Ok):CC vO (ct a (ct b []))=some (.bool (decide (a=b))::gr b):=by
 refine anQ ?_
 unfold abx
 refine bs (IM a ha b hb) ?_
 rw[V.aD,V.toInt_int,wg,show decide (cmp a b=0)=decide (a=b) from xg.2 Xx]
 rfl
def kP (S:List Ex) (d:Ex):Int:=if d∈S then ((S.idxOf d:Nat):Int) else-1
theorem anY {S:List Ex} {d:Ex} (hS: ∀k∈S,k.Ok) (hd:d.Ok) (hl:S.length≤1000):CC MQ (.list ab (S.map enc)::ct d [])=some (.int .i64 (kP S d):: .list ab (S.map enc)::gr d):=by
 refine anW ?_
 unfold abA
 have loop: ∀(aA pre:List Ex),S=pre++aA→d∉pre→(d∈S∧Loop (w8 CC ((S.map enc).length:Int) (S.map enc)) (((pre.length:Nat):Int),d.op,d.letter,d.kids.map enc)=some (.inl (((S.idxOf d:Nat):Int),d.op,d.letter,d.kids.map enc)))∨
   (d∉S∧Loop (w8 CC ((S.map enc).length:Int) (S.map enc)) (((pre.length:Nat):Int),d.op,d.letter,d.kids.map enc)=some (.inr ((S.length:Int),false,d.op,d.letter,d.kids.map enc))):=by
  intro aA
  induction aA with
  | nil=>
   intro pre e hp
   rw[dc] at e
   subst e
   refine .inr ⟨hp,aG ?_⟩
   simp only[w8,AB,un,aC]
   rw[ar,ah (by omega),cL (by omega)]
  | cons k aA ih=>
   intro pre e hp
   have bM:pre.length<S.length:=by rw[e];simp
   have hm:k∈S:=by rw[e];simp
   have hg:(S.map enc)[pre.length]? =some k.enc:=by rw[e];simp
   have c:=anX k (hS k hm) d hd
   by_cases hk:k=d
   ·subst hk
    have hi:S.idxOf k=pre.length:=by rw[e,AR,ah hp,FT,hO]
    refine .inl ⟨hm,aG ?_⟩
    simp only[w8,AB,un]
    rw[aC]
    refine bT (kO bM) (bT (oq.2 ⟨dC (by omega),dC (by omega)⟩) ?_)
    rw[Int.toNat_natCast]
    refine bs hg ?_
    rw[aH,aN,aK]
    refine bs c (bT (by rw[V.aD,V.cI];exact dC rfl) ?_)
    rw[hi];rfl
   ·have bB:w8 CC ((S.map enc).length:Int) (S.map enc) (((pre.length:Nat):Int),d.op,d.letter,d.kids.map enc)=some (.inl ((((pre++[k]).length:Nat):Int),d.op,d.letter,d.kids.map enc)):=by
     simp only[w8,AB,un]
     rw[aC]
     refine bT (kO bM) (bT (oq.2 ⟨dC (by omega),dC (by omega)⟩) ?_)
     rw[Int.toNat_natCast]
     refine bs hg ?_
     rw[aH,aN,aK]
     refine bs c (bF (by rw[V.aD,V.cI];exact cL hk) ?_)
     rw[kN (by omega),bO];rfl
    rw[br bB]
    exact ih (pre++[k]) (by simp[e]) fun h=>(cZ.1 h).elim hp fun h=>hk (cV.1 h).symm
 unfold kP
 rcases loop S [] rfl (by simp) with ⟨h1,h2⟩|⟨h1,h2⟩
 ·rw[ag h1];exact bs h2 rfl
 ·rw[ah h1];exact bs h2 rfl
section
variable {U:List Ex} (hU:nY U) {n:Nat} (hn:n≤6)
include hU
theorem eL.ok {S:List Ex} (h:eL U S): ∀k∈S,k.Ok:=fun k hk=>Af hU (h.u k hk)
theorem anZ {S:List Ex} (hS:eL U S) {d:Ex} (hd:d∈U) {a1 a2 a3 a4 a5 a6 a7 a8 a9 a10 a11 q0 q1 q2 q3:Int} {t4 b5 b6:List V} {β:Type} {kr:((Int × Int × Int × Int × Int × (List V)) ⊕ (Int × (List V)))→Option β}:
  Fk CC a1 a2 a3 (kP S d) a4 a5 a6 a7 (decide (kP S d<0)) a8 a9 a10 a11 (S.map enc) q0 q1 q2 q3 d.op d.letter (d.kids.map enc) t4 b5 b6 kr=kr (.inr ((((eg S d).idxOf d:Nat):Int),(eg S d).map enc)):=by
 have hl:=hS.len hU
 unfold Fk kP eg
 by_cases h:d∈S
 ·rw[ag h,ag h,cL (by omega)];rfl
 ·rw[ah h,ah h]
  refine bT (by decide) (bF ?_ (bT ?_ ?_))
  ·rw[aC];exact beq_false_of_ne (by omega)
  ·rw[dN,iW];simp only[aC,List.length_singleton];omega
  ·rw[aC,AR,ah h,FT,hO,iP,←fS];rfl
theorem an0 {i x:Nat} {L:List Ex} (hL: ∀d∈L,d∈U) (hLn:L.length≤60) {a1 a4 a5 a8 a9 a10 a11 q0 q1 q2 q3:Int} {b4:List V}: ∀(aA pre S:List Ex) (E:List Ed),L=pre++aA→eL U S→E.length+aA.length≤100000→
  Loop (AA CC a1 (i:Int) (x:Int) a4 a5 (L.length:Int) a8 a9 a10 a11 q0 q1 q2 q3 (L.map enc) b4) (((pre.length:Nat):Int),S.map enc,E.map Ed.enc)=some (.inr ((L.length:Int),false,(dr S aA).map enc,(E++hG (dr S aA) i x aA).map Ed.enc)):=by
 intro aA
 induction aA with
 | nil=>
  intro pre S E e _ _
  rw[dc] at e
  subst e
  refine aG ?_
  simp only[AA,Fl,un]
  rw[ar,ah (by omega),cL (by omega)]
  simp[hG,dr]
 | cons d aA ih=>
  intro pre S E e hS hE
  have bM:pre.length<L.length:=by rw[e];simp
  have hm:d∈L:=by rw[e];simp
  have hg:(L.map enc)[pre.length]? =some d.enc:=by rw[e];simp
  have hd:=hL d hm
  have nV:=hS.len hU
  rw[List.length_cons] at hE
  have bB:AA CC a1 (i:Int) (x:Int) a4 a5 (L.length:Int) a8 a9 a10 a11 q0 q1 q2 q3 (L.map enc) b4 (((pre.length:Nat):Int),S.map enc,E.map Ed.enc)=some (.inl ((((pre++[d]).length:Nat):Int),(eg S d).map enc,(E++[(⟨(i:Int),(x:Int),(((eg S d).idxOf d:Nat):Int)⟩:Ed)]).map Ed.enc)):=by
   simp only[AA,Fl,un]
   refine bT (kO bM) (bT (oq.2 ⟨dC (by omega),dC (by rw[aC];omega)⟩) ?_)
   rw[Int.toNat_natCast]
   refine bs hg ?_
   rw[aH,aN,aK]
   refine bs (anY (hS.ok hU) (Af hU hd) (by omega)) ?_
   simp only[fm,eM,V.aD,V.toInt_int,V.e8]
   refine (anZ hU hS hd).trans ?_
   simp only[bD,un]
   refine bT ?_ ?_
   ·rw[dN,iW];simp only[aC,List.length_singleton];omega
   ·rw[kN (by omega),bO,iP];rfl
  have he:eg S d=eg S d:=rfl
  obtain ⟨T,hT⟩:=Ad aA (eg S d)
  rw[br bB,ih (pre++[d]) (eg S d) _ (by simp[e]) (hS.eg hd) (by rw[bO,List.length_singleton];omega)]
  have hs:dr S (d::aA)=dr (eg S d) aA:=rfl
  have hi:(dr (eg S d) aA).idxOf d=(eg S d).idxOf d:=by rw[hT];exact J1 (RF.2 (.inr rfl))
  rw[hs]
  simp only[hG,dZ,hi,dj,List.singleton_append]
theorem an1 {e:Ex} (he:e∈U) {c:Int}:CC tP (ct e [.int .i64 c])=some [.list ab ((pX c e).map enc)]:=by
 rcases hU.g e he with h|rfl
 ·exact akR e h (hU.s e he)
 ·rw[RJ]
  exact Zu rfl
theorem Kk {S:List Ex} {i:Nat} {e:Ex} (he:e∈U): ∀xs:List Nat,(gP S i e xs).length≤60*xs.length
 | []=>by simp[gP]
 | x::xs=>by
  have h1:=Kk (S:=S) (i:=i) he xs
  have h2:=RK hU he (c:=(x:Int))
  unfold gP at*
  rw[iC,bO,List.length_cons]
  unfold hG at*
  rw[aC]
  omega
omit hU in
theorem R0 {S:List Ex} {i x:Nat} {e:Ex} {xs:List Nat}:gP S i e (x::xs)=hG S i x (bJ (pX (x:Int) e))++gP S i e xs:=by unfold gP;rw[iC]
omit hU in
theorem Kl {n:Nat} {S:List Ex} {i:Nat} {is:List Nat}:nX n S (i::is)=gP S i (S.getD i aQ) (List.range' 0 n)++nX n S is:=by unfold nX;rw[iC]
omit hU in
theorem abB {S T:List Ex} {i:Nat} {e:Ex} {xs:List Nat} (h: ∀x∈xs,∀d∈bJ (pX (x:Int) e),d∈S):gP (S++T) i e xs=gP S i e xs:=by
 induction xs with
 | nil=>rfl
 | cons x xs ih=>
  have:=ih fun y hy=>h y (by simp[hy])
  unfold gP at*
  rw[iC,iC,this,RG (h x (by simp))]
omit hU in
theorem Km {e:Ex}: ∀{xs:List Nat} {S:List Ex},∀x∈xs,∀d∈bJ (pX (x:Int) e),d∈dU e S xs
 | y::xs,S,x,hx,d,hd=>by
  show d∈dU e (dr S (bJ (pX (y:Int) e))) xs
  rcases cH.1 hx with rfl|hx
  ·obtain ⟨T,hT⟩:=uz e xs (dr S (bJ (pX (x:Int) e)))
   rw[hT];exact cZ.2 (.inl (J0.2 (.inr hd)))
  ·exact Km x hx d hd
theorem an2 {i:Nat} (an3:i<60) {e:Ex} (he:e∈U) {n:Nat} (hn:n≤6) {a8 a9 a10 a11 q0 q1 q2 q3:Int} {b3:List V}: ∀(k x:Nat) (S:List Ex) (E:List Ed),x+k=n→eL U S→i<S.length→S.getD i aQ=e→E.length≤360*i+60*x→
  Loop (Fo CC (n:Int) (i:Int) (n:Int) a8 a9 a10 a11 q0 q1 q2 q3 b3) ((x:Int),S.map enc,E.map Ed.enc)=some (.inr ((n:Int),false,(dU e S (List.range' x k)).map enc,(E++gP (dU e S (List.range' x k)) i e (List.range' x k)).map Ed.enc)):=by
 intro k
 induction k with
 | zero=>
  intro x S E hx _ _ _ _
  have hx:x=n:=by omega
  subst hx
  refine aG ?_
  simp only[Fo,Fm,un]
  rw[ar,ah (by omega),cL (by omega)]
  simp[gP,dU]
 | succ k ih=>
  intro x S E hx hS hi ik hE
  have hg:(S.map enc)[i]? =some e.enc:=by rw[iM hi,ik]
  obtain ⟨f1,f2⟩:=amm hU he (c:=(x:Int))
  obtain ⟨b,hb⟩:=als f1 f2
  have R3:=RK hU he (c:=(x:Int))
  have hr:=an0 hU (i:=i) (x:=x) (L:=bJ (pX (x:Int) e)) (Ae hU he) R3 (a1:=(n:Int)) (a4:=(n:Int)) (a5:=(x:Int)) (a8:=a8) (a9:=a9) (a10:=a10) (a11:=a11) (q0:=q0) (q1:=q1) (q2:=q2) (q3:=q3) (b4:=b3) (bJ (pX (x:Int) e)) [] S E rfl hS (by omega)
  have bB:Fo CC (n:Int) (i:Int) (n:Int) a8 a9 a10 a11 q0 q1 q2 q3 b3 ((x:Int),S.map enc,E.map Ed.enc)=some (.inl (((x+1:Nat):Int),(dr S (bJ (pX (x:Int) e))).map enc,(E++hG (dr S (bJ (pX (x:Int) e))) i x (bJ (pX (x:Int) e))).map Ed.enc)):=by
   simp only[Fo,Fm,un]
   refine bT (kO (by omega)) (bT (oq.2 ⟨dC (by omega),dC (by rw[aC];omega)⟩) ?_)
   rw[Int.toNat_natCast]
   refine bs hg ?_
   rw[aH,aN,aK]
   refine bs (an1 hU he) ?_
   rw[V.aD,V.e8]
   refine bs hb ?_
   simp only[fm,eM,V.aD,V.cI,V.e8,aC]
   cases b with
   | true=>
    refine bs hr ?_
    simp only[bD,un]
    rw[kN (by omega)]
   | false=>
    refine bs hr ?_
    simp only[bD,un]
    rw[kN (by omega)]
  obtain ⟨T,hT⟩:=Ad (bJ (pX (x:Int) e)) S
  have ot:S.length≤(dr S (bJ (pX (x:Int) e))).length:=by rw[hT,bO];omega
  have j6:(dr S (bJ (pX (x:Int) e))).getD i aQ=e:=by rw[hT,sY hi,ik]
  rw[br bB,ih (x+1) _ _ (by omega) (hS.dr (Ae hU he)) (by omega) j6 (by rw[bO];unfold hG;rw[aC];omega)]
  rw[List.range'_succ]
  have hs:dU e S (x::List.range' (x+1) k)=dU e (dr S (bJ (pX (x:Int) e))) (List.range' (x+1) k):=rfl
  rw[hs]
  obtain ⟨T2,lr⟩:=uz e (List.range' (x+1) k) (dr S (bJ (pX (x:Int) e)))
  have hd:hG (dU e (dr S (bJ (pX (x:Int) e))) (List.range' (x+1) k)) i x (bJ (pX (x:Int) e))=hG (dr S (bJ (pX (x:Int) e))) i x (bJ (pX (x:Int) e)):=by
   rw[lr];exact RG fun d hd=>J0.2 (.inr hd)
  rw[R0,hd,dj]
theorem an4 {e:Ex} (he:e∈U):e.wf 6=true:=by
 rcases hU.g e he with h|rfl
 ·exact h.1.2
 ·exact alu
theorem an5 {n:Nat} (hn:n≤6) {a8 a9 a10 a11 q0 q1 q2:Int} {b3:List V}: ∀(f i:Nat) (S:List Ex) (E:List Ed),eL U S→i≤S.length→E.length≤360*i→61≤f+i→
  Loop (Fq CC (n:Int) a8 a9 a10 a11 q0 q1 q2 b3) ((i:Int),S.map enc,((fF S i:Nat):Int),E.map Ed.enc)=some (.inr (((run n f i S).length:Int),false,(run n f i S).map enc,((fF (run n f i S) (run n f i S).length:Nat):Int),(E++nX n (run n f i S) (List.range' i ((run n f i S).length-i))).map Ed.enc)):=by
 intro f
 induction f with
 | zero=>intro i S E hS hi hE hf;have:=hS.len hU;omega
 | succ f ih=>
  intro i S E hS hi hE hf
  have nV:=hS.len hU
  by_cases aR:i<S.length
  ·have od:run n (f+1) i S=run n f (i+1) (dU (S.getD i aQ) S (List.range' 0 n)):=by rw[run,ag aR]
   have mT:S.getD i aQ∈U:=hS.u _ (by rw[show S.getD i aQ=S[i] by simp[aR]];exact tf aR)
   generalize he:S.getD i aQ=e at od mT
   have hx:=an2 hU (i:=i) (by omega) mT hn (a8:=a8) (a9:=a9) (a10:=a10) (a11:=a11) (q0:=q0) (q1:=q1) (q2:=q2) (q3:=((fF S i:Nat):Int)) (b3:=b3) n 0 S E (by omega) hS aR he (by omega)
   obtain ⟨T,hT⟩:=uz e (List.range' 0 n) S
   have w9:eL U (dU e S (List.range' 0 n)):=hS.dU hU mT
   have cP:=Kk hU (S:=dU e S (List.range' 0 n)) (i:=i) mT (List.range' 0 n)
   rw[FU] at cP
   have vc: ∀x∈List.range' 0 n,∀d∈bJ (pX (x:Int) e),d∈dU e S (List.range' 0 n):=fun x hx d hd=>Km x hx d hd
   generalize hA:dU e S (List.range' 0 n)=A at hx hT w9 cP od vc
   have hAl:S.length≤A.length:=by rw[hT,bO];omega
   have an6:=w9.len hU
   have AD:A.getD i aQ=e:=by rw[hT,sY aR,he]
   have vG:fF A (i+1)=if e.dJ=true then fF S i|||2^i else fF S i:=by rw[fF,AD,hT,RH (by omega)]
   have hg:(A.map enc)[i]? =some e.enc:=by rw[iM (by omega),AD]
   have kp:=RE S i
   have R4:2^i<2^64:=FN (by omega) (by omega)
   have bB:Fq CC (n:Int) a8 a9 a10 a11 q0 q1 q2 b3 ((i:Int),S.map enc,((fF S i:Nat):Int),E.map Ed.enc)=some (.inl (((i+1:Nat):Int),A.map enc,((fF A (i+1):Nat):Int),(E++gP A i e (List.range' 0 n)).map Ed.enc)):=by
    simp only[Fq,Fp,un]
    refine bT (by rw[aC];exact kO aR) ?_
    refine bs hx ?_
    simp only[bD,un]
    refine bT (oq.2 ⟨dC (by omega),dC (by rw[aC];omega)⟩) ?_
    rw[Int.toNat_natCast]
    refine bs hg ?_
    rw[aH,aN,aK]
    refine bs (Zq (letters:=6) e (Af hU mT) (an4 hU mT)) ?_
    rw[V.aD,V.cI,kN (by omega),vG,IH (by omega),u64_or (by omega) R4]
    cases e.dJ with
    | true=>exact bT rfl (bT (dC (by omega)) rfl)
    | false=>rfl
   rw[br bB,ih (i+1) A _ w9 (by omega) (by rw[bO];omega) (by omega),od]
   obtain ⟨T2,lr⟩:=JZ (n:=n) f (i+1) A
   have R5:A.length≤(run n f (i+1) A).length:=by rw[lr,bO];omega
   generalize run n f (i+1) A=R at lr R5
   have hr:R.length-i=(R.length-(i+1))+1:=by omega
   have R6:R.getD i aQ=e:=by rw[lr,sY (by omega),AD]
   have yk:gP R i e (List.range' 0 n)=gP A i e (List.range' 0 n):=by rw[lr];exact abB vc
   rw[hr,List.range'_succ,Kl,R6,yk,dj]
  ·have eE:i=S.length:=by omega
   have od:run n (f+1) i S=S:=by rw[run,ah aR]
   rw[od]
   subst eE
   refine aG ?_
   simp only[Fq,Fp,un,aC]
   rw[ar,ah (by omega),cL (by omega)]
   simp[nX]
end
end Go.AM
set_option maxRecDepth 100000
namespace Go.AM
open Go.Proofs
noncomputable def abC (C:af) (j:Int):Option (List V):=
 bif decide (0≤(IntKind.wrap .u64 j)) then
  some [.int .u64 (IntKind.wrap .u64 (1*2^(min (IntKind.wrap .u64 j).toNat (IntKind.bits .u64))))]
 else none
theorem an7 {j:Int} {r:Option (List V)} (h:abC CC j=r):CC HW [.int .i64 j]=r:=
 bn (key:=36) (L:=cS) (bs:=[]) (by kernel_rfl) aw (bm (by kernel_rfl) h)
theorem an8 {m:Nat} (h:m<64):CC HW [.int .i64 (m:Int)]=some [.int .u64 ((2^m:Nat):Int)]:=by
 refine an7 ?_
 unfold abC
 have e:IntKind.wrap .u64 (m:Int)=m:=by rw[wrap_u64];omega
 rw[ar,e,ag (by omega),Int.toNat_natCast,IH h]
noncomputable abbrev lu:Code:=bU Tryz.prog (az.aT 10)
noncomputable def Fv (C:af) (letters q:Int) (t37:Bool) (fb fc fe ff:Int) (cr:List V) (gh gi ft js:Int) (fE dW:List V) {β:Type} (kr:(Int)→Option β):Option β:=
 bif t37 then
  (C HW [.int .i64 q]).bind fun r5=>
  kr (IntKind.wrap .u64 ((BitVec.ofInt (IntKind.bits .u64) js|||BitVec.ofInt (IntKind.bits .u64) ((V.nth r5 0).toInt)).toNat))
 else
  kr js
noncomputable def Fw (C:af) (letters q x:Int) (t54:List V) (t55 t56 t61 fb fc fe ff:Int) (cr:List V) (gh gi ft js AE AF:Int) (AG dW jq:List V) (at' t62:Int) {β:Type} (kn:(Int × Int)→Option β) (kr:(Int × Int × Bool)→Option β):Option β:=
 bif decide ((t62:Int)<t61) then
  bif (decide (0≤t62))&&(decide (t62<(cr.length:Int))) then
  (cr[(t62:Int).toNat]?).bind fun fB=>
  (C qS [.int .i64 ((fB.cell 0).toInt),.int .i64 ((fB.cell 1).toInt),.list ab ((fB.cell 2).toList),.int .i64 AE,.int .i64 AF,.list ab AG]).bind fun fQ=>
  bif (((V.nth fQ 0).toInt):Int)==0 then
   kn (t62,IntKind.wrap .i64 (t62+1))
  else
   kn (at',IntKind.wrap .i64 (t62+1))
  else none
 else
  kr (at',t62,decide ((t62:Int)<t61))
noncomputable def Fx (C:af) (letters q x:Int) (t54:List V) (t55 t56 t61 fb fc fe ff:Int) (cr:List V) (gh gi ft js AE AF:Int) (AG dW jq:List V):(Int × Int)→Option ((Int × Int) ⊕ (Int × Int × Bool)):=un fun at' t62=>Fw C letters q x t54 t55 t56 t61 fb fc fe ff cr gh gi ft js AE AF AG dW jq at' t62 (fun y=>some (.inl y)) (fun r=>some (.inr r))
noncomputable def Fy (C:af) (letters q x at':Int) (t54:List V) (t55 t56:Int) (t75:Bool) (fb fc fe ff:Int) (cr:List V) (gh gi ft js AE AF:Int) (AG dW jq:List V) {β:Type} (kr:((Int × Int × Int × Int × Int × (List V)) ⊕ (Int × (List V)))→Option β):Option β:=
 bif t75 then
  bif ((cr.length:Int):Int)==64 then
  kr (.inl (3,0,0,0,0,([]:List V)))
  else
  bif Nat.ble ((cr.length+([.agg [.int .i64 AE,.int .i64 AF,.list ab AG]]:List V).length)*40) b8 then
   kr (.inr ((cr.length:Int),cr++([.agg [.int .i64 AE,.int .i64 AF,.list ab AG]]:List V)))
  else none
 else
  kr (.inr (at',cr))
noncomputable def Fz (C:af) (letters q x:Int) (t54:List V) (t55 fb fc fe ff gh gi ft js:Int) (fE:List V) (t56:Int) (cr dW:List V) {β:Type} (kn:(Int × (List V) × (List V))→Option β) (kr:((Int × Int × Int × Int × Int × (List V)) ⊕ (Int × Bool × (List V) × (List V)))→Option β):Option β:=
 bif decide ((t56:Int)<t55) then
  (idx t54 t56).bind fun x9=>
  (Loop (Fx C letters q x t54 t55 t56 (cr.length:Int) fb fc fe ff cr gh gi ft js ((x9.cell 0).toInt) ((x9.cell 1).toInt) ((x9.cell 2).toList) fE dW) ((-1),0)).bind (un fun (abD:Int)=>un fun (O8:Int) (v5:Bool)=>
   Fy C letters q x abD t54 t55 t56 (decide ((abD:Int)<0)) fb fc fe ff cr gh gi ft js ((x9.cell 0).toInt) ((x9.cell 1).toInt) ((x9.cell 2).toList) fE dW (bD (un fun (v7:Int)=>un fun (an9:Int)=>un fun (RS:Int)=>un fun (RT:Int)=>un fun (RU:Int) (aoa:List V)=>
    kr (.inl (v7,an9,RS,RT,RU,aoa))) (un fun (abE:Int) (aob:List V)=>
    bif Nat.ble ((dW.length+([.agg [.int .i64 q,.int .i64 x,.int .i64 abE]]:List V).length)*24) b8 then
    kn (IntKind.wrap .i64 (t56+1),aob,dW++([.agg [.int .i64 q,.int .i64 x,.int .i64 abE]]:List V))
    else none)))
 else
  kr (.inr (t56,decide ((t56:Int)<t55),cr,dW))
noncomputable def FA (C:af) (letters q x:Int) (t54:List V) (t55 fb fc fe ff gh gi ft js:Int) (fE:List V):(Int × (List V) × (List V))→Option ((Int × (List V) × (List V)) ⊕ ((Int × Int × Int × Int × Int × (List V)) ⊕ (Int × Bool × (List V) × (List V)))):=un fun t56=>un fun cr dW=>Fz C letters q x t54 t55 fb fc fe ff gh gi ft js fE t56 cr dW (fun y=>some (.inl y)) (fun r=>some (.inr r))
noncomputable def FB (C:af) (letters q fb fc fe ff gh gi ft js:Int) (fE:List V) (x:Int) (cr dW:List V) {β:Type} (kn:(Int × (List V) × (List V))→Option β) (kr:((Int × Int × Int × Int × Int × (List V)) ⊕ (Int × Bool × (List V) × (List V)))→Option β):Option β:=
 bif decide ((x:Int)<letters) then
  bif (decide (0≤q))&&(decide (q<(cr.length:Int))) then
  (cr[(q:Int).toNat]?).bind fun x7=>
  (C sx [.int .i64 ((x7.cell 0).toInt),.int .i64 ((x7.cell 1).toInt),.list ab ((x7.cell 2).toList),.int .i64 x]).bind fun r8=>
  (Loop (FA C letters q x ((V.nth r8 0).toList) (((V.nth r8 0).toList).length:Int) fb fc fe ff gh gi ft js fE) (0,cr,dW)).bind (bD (un fun (v8:Int)=>un fun (aoc:Int)=>un fun (aod:Int)=>un fun (aoe:Int)=>un fun (RV:Int) (aof:List V)=>
   kr (.inl (v8,aoc,aod,aoe,RV,aof))) (un fun (v9:Int)=>un fun (CU:Bool)=>un fun (aog:List V) (aoh:List V)=>
   kn (IntKind.wrap .i64 (x+1),aog,aoh)))
  else none
 else
  kr (.inr (x,decide ((x:Int)<letters),cr,dW))
noncomputable def FC (C:af) (letters q fb fc fe ff gh gi ft js:Int) (fE:List V):(Int × (List V) × (List V))→Option ((Int × (List V) × (List V)) ⊕ ((Int × Int × Int × Int × Int × (List V)) ⊕ (Int × Bool × (List V) × (List V)))):=un fun x=>un fun cr dW=>FB C letters q fb fc fe ff gh gi ft js fE x cr dW (fun y=>some (.inl y)) (fun r=>some (.inr r))
noncomputable def FD (C:af) (letters fb fc fe ff gh gi ft:Int) (fE:List V) (q:Int) (cr:List V) (js:Int) (dW:List V) {β:Type} (kn:(Int × (List V) × Int × (List V))→Option β) (kr:((Int × Int × Int × Int × Int × (List V)) ⊕ (Int × Bool × (List V) × Int × (List V)))→Option β):Option β:=
 bif decide ((q:Int)<(cr.length:Int)) then
  bif (decide (0≤q))&&(decide (q<(cr.length:Int))) then
  (cr[(q:Int).toNat]?).bind fun x3=>
  (C yE [.int .i64 ((x3.cell 0).toInt),.int .i64 ((x3.cell 1).toInt),.list ab ((x3.cell 2).toList)]).bind fun r4=>
  Fv C letters q ((V.nth r4 0).toBool) fb fc fe ff cr gh gi ft js fE dW (fun (abF:Int)=>
   (Loop (FC C letters q fb fc fe ff gh gi ft abF fE) (0,cr,dW)).bind (bD (un fun (za:Int)=>un fun (aoi:Int)=>un fun (aoj:Int)=>un fun (aok:Int)=>un fun (RW:Int) (aol:List V)=>
    kr (.inl (za,aoi,aoj,aok,RW,aol))) (un fun (aqj:Int)=>un fun (ago:Bool)=>un fun (aom:List V) (aon:List V)=>
    kn (IntKind.wrap .i64 (q+1),aom,abF,aon))))
  else none
 else
  kr (.inr (q,decide ((q:Int)<(cr.length:Int)),cr,js,dW))
noncomputable def FE (C:af) (letters fb fc fe ff gh gi ft:Int) (fE:List V):(Int × (List V) × Int × (List V))→Option ((Int × (List V) × Int × (List V)) ⊕ ((Int × Int × Int × Int × Int × (List V)) ⊕ (Int × Bool × (List V) × Int × (List V)))):=un fun q=>un fun cr=>un fun js dW=>FD C letters fb fc fe ff gh gi ft fE q cr js dW (fun y=>some (.inl y)) (fun r=>some (.inr r))
noncomputable def abG (C:af):cj:=fun β n ds k=>
 bif Nat.beq n 607 then fM M4 [[1,2,4,5,6,7,8,9,10,11,0,13,14]] (@Fv C) ds k else
 bif Nat.beq n 305 then bt M5 [false,false,false,true,false,false,false,false,true,false,false,false,false,false,false,false,false,false,false,false,false,false,false] [[1,2,3,0,5,6,7,8,0,0,10,11,12,13,14,15,16,17,18,19,20,21,22,23]] (@Fw C) ds k else
 bif Nat.beq n 1215 then fM M6 [[0,0,0,0,0,0],[1,2,3,0,5,6,7,9,10,11,12,0,14,15,16,17,21,22]] (@Fy C) ds k else
 bif Nat.beq n 241 then bt M7 [false,false,false,false,false,true,false,false,false,false,true,false,false,false,false,false,true] [[0,0,0,0,0,0],[1,2,3,4,5,0,0,7,8,9,10,0,12,13,14,15,16,0]] (@Fz C) ds k else
 bif Nat.beq n 193 then bt M8 [false,false,true,false,false,false,false,true,false,false,false,false,false,true] [[0,0,0,0,0,0],[1,2,0,0,4,5,6,7,0,9,10,11,12,13,0]] (@FB C) ds k else
 bif Nat.beq n 113 then bt M9 [false,true,false,false,false,false,true,false,false,false,true,false,true] [[0,0,0,0,0,0],[1,0,0,3,4,5,6,0,8,9,10,0,12,0]] (@FD C) ds k else
 none
abbrev AH (C:af) (b:cg):Prop:=ch Tryz.prog az C (abG C) 10 (cv Tryz.prog (az.aT 10)) (az.sin 10).bf.length b
theorem aoo (C:af):AH C (.cond 37 (aq [1,1,1,1,0,1,0,0,1,0,0,0,1,0] lu) (aq [1,1,1,1,0,1,0,0,1,0,0,0,1,1] lu)):=
 fX M4 [[1,2,4,5,6,7,8,9,10,11,0,13,14]] (@Fv C) (by kernel_rfl) (aM (bs:=[]) (by kernel_rfl) aw) (aM (bs:=[]) (by kernel_rfl) aw) (fun ds=>by kernel_rfl) (fun i β k=>by kernel_rfl) (fun β ds k=>by kernel_rfl)
theorem aop (C:af):AH C (.loop (aq [1,1,1,1,0,1,0,0,1,0,0,1,1,0,0,1,0,0,1,0,0,1,1,0,0,1,1,0,1,0,0] lu)):=
 bw M5 [false,false,false,true,false,false,false,false,true,false,false,false,false,false,false,false,false,false,false,false,false,false,false] [[1,2,3,0,5,6,7,8,0,0,10,11,12,13,14,15,16,17,18,19,20,21,22,23]] (@Fw C) (by kernel_rfl) (aM (bs:=[]) (by kernel_rfl) aw) (fun ds=>by kernel_rfl) (fun i x=>by kernel_rfl) (fun i x β k=>by kernel_rfl) (fun β ds k=>by kernel_rfl)
theorem aoq (C:af):AH C (.cond 75 (aq [1,1,1,1,0,1,0,0,1,0,0,1,1,0,0,1,0,0,1,0,0,1,1,0,0,1,1,1,0,1,0] lu) (aq [1,1,1,1,0,1,0,0,1,0,0,1,1,0,0,1,0,0,1,0,0,1,1,0,0,1,1,1,0,1,1] lu)):=
 fX M6 [[0,0,0,0,0,0],[1,2,3,0,5,6,7,9,10,11,12,0,14,15,16,17,21,22]] (@Fy C) (by kernel_rfl) (aM (bs:=[]) (by kernel_rfl) aw) (aM (bs:=[]) (by kernel_rfl) aw) (fun ds=>by kernel_rfl) (fun i β k=>by kernel_rfl) (fun β ds k=>by kernel_rfl)
theorem aor (C:af):AH C (.loop (aq [1,1,1,1,0,1,0,0,1,0,0,1,1,0,0,1,0,0,1,0,0] lu)):=
 bw M7 [false,false,false,false,false,true,false,false,false,false,true,false,false,false,false,false,true] [[0,0,0,0,0,0],[1,2,3,4,5,0,0,7,8,9,10,0,12,13,14,15,16,0]] (@Fz C) (by kernel_rfl) (aM (bs:=[.loop (aq [1,1,1,1,0,1,0,0,1,0,0,1,1,0,0,1,0,0,1,0,0,1,1,0,0,1,1,0,1,0,0] lu),.cond 75 (aq [1,1,1,1,0,1,0,0,1,0,0,1,1,0,0,1,0,0,1,0,0,1,1,0,0,1,1,1,0,1,0] lu) (aq [1,1,1,1,0,1,0,0,1,0,0,1,1,0,0,1,0,0,1,0,0,1,1,0,0,1,1,1,0,1,1] lu)]) (by kernel_rfl) (aZ (aop C) (aZ (aoq C) aw))) (fun ds=>by kernel_rfl) (fun i x=>by kernel_rfl) (fun i x β k=>by kernel_rfl) (fun β ds k=>by kernel_rfl)
theorem aos (C:af):AH C (.loop (aq [1,1,1,1,0,1,0,0,1,0,0,1,1,0,0] lu)):=
 bw M8 [false,false,true,false,false,false,false,true,false,false,false,false,false,true] [[0,0,0,0,0,0],[1,2,0,0,4,5,6,7,0,9,10,11,12,13,0]] (@FB C) (by kernel_rfl) (aM (bs:=[.loop (aq [1,1,1,1,0,1,0,0,1,0,0,1,1,0,0,1,0,0,1,0,0] lu)]) (by kernel_rfl) (aZ (aor C) aw)) (fun ds=>by kernel_rfl) (fun i x=>by kernel_rfl) (fun i x β k=>by kernel_rfl) (fun β ds k=>by kernel_rfl)
theorem aot (C:af):AH C (.loop (aq [1,1,1,1,0,1,0,0] lu)):=
 bw M9 [false,true,false,false,false,false,true,false,false,false,true,false,true] [[0,0,0,0,0,0],[1,0,0,3,4,5,6,0,8,9,10,0,12,0]] (@FD C) (by kernel_rfl) (aM (bs:=[.cond 37 (aq [1,1,1,1,0,1,0,0,1,0,0,0,1,0] lu) (aq [1,1,1,1,0,1,0,0,1,0,0,0,1,1] lu),.loop (aq [1,1,1,1,0,1,0,0,1,0,0,1,1,0,0] lu)]) (by kernel_rfl) (aZ (aoo C) (aZ (aos C) aw))) (fun ds=>by kernel_rfl) (fun i x=>by kernel_rfl) (fun i x β k=>by kernel_rfl) (fun β ds k=>by kernel_rfl)
noncomputable def R7 (C:af) (ak ay:Int) (aj:List V) (letters:Int):Option (List V):=
 (C HV [.int .i64 ak,.int .i64 ay,.list ab aj,.int .i64 letters]).bind fun r1=>
 bif (((V.nth r1 0).toInt):Int) != 0 then
  some [.int .i64 0,.int .i64 0,.int .u64 0,.int .u64 0,.int .i64 ((V.nth r1 0).toInt),.list aS ([]:List V)]
 else
  (C tQ [.int .i64 ak,.int .i64 ay,.list ab aj]).bind fun r2=>
  (Loop (FE C letters 0 0 0 0 letters 0 1 ([]:List V)) (0,([.agg [.int .i64 ((V.nth r2 0).toInt),.int .i64 ((V.nth (r2.drop 1) 0).toInt),.list ab ((V.nth ((r2.drop 1).drop 1) 0).toList)]]:List V),0,([]:List V))).bind (bD (un fun (Pg:Int)=>un fun (aou:Int)=>un fun (aov:Int)=>un fun (aow:Int)=>un fun (aox:Int) (aoy:List V)=>
   some [.int .i64 aou,.int .i64 aov,.int .u64 aow,.int .u64 aox,.int .i64 Pg,.list aS aoy]) (un fun (aqk:Int)=>un fun (W8:Bool)=>un fun (aoz:List V)=>un fun (aoA:Int) (RZ:List V)=>
   (C HX [.list aS RZ]).bind fun r54=>
   some [.int .i64 letters,.int .i64 (aoz.length:Int),.int .u64 1,.int .u64 aoA,.int .i64 0,.list aS ((V.nth r54 0).toList)]))
theorem abH {ak ay:Int} {aj:List V} {letters:Int} {r:Option (List V)} (h:R7 CC ak ay aj letters=r):CC yB [.int .i64 ak,.int .i64 ay,.list ab aj,.int .i64 letters]=r:=
 bn (key:=10) (L:=abG CC) (bs:=[.loop (aq [1,1,1,1,0,1,0,0] lu)]) (by kernel_rfl) (aZ (aot CC) aw) (bm (by kernel_rfl) h)
end Go.AM
set_option maxRecDepth 100000
namespace Go.AM
open Go.Proofs Ex
theorem aoB {A:List Ex} {k d:Ex} (hk:k≠d):kP (A++[k]) d=kP A d:=by
 unfold kP
 by_cases h:d∈A
 ·rw[ag h,ag (by simp[h]),J1 h]
 ·rw[ah h,ah (by simp only[cZ,cV];exact fun g=>g.elim h fun e=>hk e.symm)]
theorem aoC {S:List Ex} {d:Ex} (hS: ∀k∈S,k.Ok) (hd:d.Ok) (hl:S.length≤1000) (hn:S.Nodup) {a1 a2 a3 a5 a6 a8 a9 a10 a11 q0 q1 q2 q3:Int} {T b4 b5:List V}: ∀(aA pre:List Ex),S=pre++aA→
  Loop (Fx CC a1 a2 a3 T a5 a6 (S.length:Int) a8 a9 a10 a11 (S.map enc) q0 q1 q2 q3 d.op d.letter (d.kids.map enc) b4 b5) (kP pre d,((pre.length:Nat):Int))=some (kP S d,(S.length:Int),false):=by
 intro aA
 induction aA with
 | nil=>
  intro pre e
  rw[dc] at e
  subst e
  refine aG ?_
  simp only[Fx,Fw,un]
  rw[ar,ah (by omega),cL (by omega)]
 | cons k aA ih=>
  intro pre e
  have bM:pre.length<S.length:=by rw[e];simp
  have hm:k∈S:=by rw[e];simp
  have hg:(S.map enc)[pre.length]? =some k.enc:=by rw[e];simp
  have c:=Ej k (hS k hm) d hd
  have bB:Fx CC a1 a2 a3 T a5 a6 (S.length:Int) a8 a9 a10 a11 (S.map enc) q0 q1 q2 q3 d.op d.letter (d.kids.map enc) b4 b5 (kP pre d,((pre.length:Nat):Int))=some (.inl (kP (pre++[k]) d,(((pre++[k]).length:Nat):Int))):=by
   simp only[Fx,Fw,un]
   refine bT (kO bM) (bT (oq.2 ⟨dC (by omega),dC (by rw[aC];omega)⟩) ?_)
   rw[Int.toNat_natCast]
   refine bs hg ?_
   rw[aH,aN,aK]
   refine bs c ?_
   rw[V.aD,V.toInt_int,kN (by omega),cq]
   by_cases hk:k=d
   ·subst hk
    have hp:k∉pre:=fun h=>by
     rw[e] at hn
     exact (uG.1 hn).2.2 k h k (by simp) rfl
    rw[ag (zg k)]
    have hx:kP (pre++[k]) k=(pre.length:Int):=by
     unfold kP
     rw[ag (by simp),AR,ah hp,FT,hO]
    rw[hx,bO];rfl
   ·rw[ah fun h=>hk (tY _ _ h),aoB hk,bO];rfl
  rw[br bB]
  exact ih (pre++[k]) (by simp[e])
section
variable {U:List Ex} (hU:nY U)
include hU
theorem aoD {S:List Ex} (hS:eL U S) {d:Ex} (hd:d∈U) {a1 a2 a3 a5 a6 a8 a9 a10 a11 q0 q1 q2 q3:Int} {T b5 b6:List V} {β:Type} {kr:((Int × Int × Int × Int × Int × (List V)) ⊕ (Int × (List V)))→Option β}:
  Fy CC a1 a2 a3 (kP S d) T a5 a6 (decide (kP S d<0)) a8 a9 a10 a11 (S.map enc) q0 q1 q2 q3 d.op d.letter (d.kids.map enc) b5 b6 kr=kr (.inr ((((eg S d).idxOf d:Nat):Int),(eg S d).map enc)):=by
 have hl:=hS.len hU
 unfold Fy kP eg
 by_cases h:d∈S
 ·rw[ag h,ag h,cL (by omega)];rfl
 ·rw[ah h,ah h]
  refine bT (by decide) (bF ?_ (bT ?_ ?_))
  ·rw[aC];exact beq_false_of_ne (by omega)
  ·rw[dN,iW];simp only[aC,List.length_singleton];omega
  ·rw[aC,AR,ah h,FT,hO,iP,←fS];rfl
theorem aoE {i x:Nat} {L:List Ex} (hL: ∀d∈L,d∈U) (hLn:L.length≤60) {a1 a8 a9 a10 a11 q0 q1 q2 q3:Int} {b4:List V}: ∀(aA pre S:List Ex) (E:List Ed),L=pre++aA→eL U S→E.length+aA.length≤100000→
  Loop (FA CC a1 (i:Int) (x:Int) (L.map enc) (L.length:Int) a8 a9 a10 a11 q0 q1 q2 q3 b4) (((pre.length:Nat):Int),S.map enc,E.map Ed.enc)=some (.inr ((L.length:Int),false,(dr S aA).map enc,(E++hG (dr S aA) i x aA).map Ed.enc)):=by
 intro aA
 induction aA with
 | nil=>
  intro pre S E e _ _
  rw[dc] at e
  subst e
  refine aG ?_
  simp only[FA,Fz,un]
  rw[ar,ah (by omega),cL (by omega)]
  simp[hG,dr]
 | cons d aA ih=>
  intro pre S E e hS hE
  have bM:pre.length<L.length:=by rw[e];simp
  have hm:d∈L:=by rw[e];simp
  have cf:idx (L.map enc) (pre.length:Int)=some d.enc:=by rw[e];exact fq _ _ _
  have hd:=hL d hm
  have nV:=hS.len hU
  rw[List.length_cons] at hE
  have bB:FA CC a1 (i:Int) (x:Int) (L.map enc) (L.length:Int) a8 a9 a10 a11 q0 q1 q2 q3 b4 (((pre.length:Nat):Int),S.map enc,E.map Ed.enc)=some (.inl ((((pre++[d]).length:Nat):Int),(eg S d).map enc,(E++[(⟨(i:Int),(x:Int),(((eg S d).idxOf d:Nat):Int)⟩:Ed)]).map Ed.enc)):=by
   simp only[FA,Fz,un]
   refine bT (kO bM) (bs cf ?_)
   rw[aH,aN,aK,aC]
   refine bs (aoC (hS.ok hU) (Af hU hd) (by omega) hS.d S [] rfl) ?_
   simp only[un]
   refine (aoD hU hS hd).trans ?_
   simp only[bD,un]
   refine bT ?_ ?_
   ·rw[dN,iW];simp only[aC,List.length_singleton];omega
   ·rw[kN (by omega),bO,iP];rfl
  obtain ⟨T,hT⟩:=Ad aA (eg S d)
  rw[br bB,ih (pre++[d]) (eg S d) _ (by simp[e]) (hS.eg hd) (by rw[bO,List.length_singleton];omega)]
  have hs:dr S (d::aA)=dr (eg S d) aA:=rfl
  have hi:(dr (eg S d) aA).idxOf d=(eg S d).idxOf d:=by rw[hT];exact J1 (RF.2 (.inr rfl))
  rw[hs]
  simp only[hG,dZ,hi,dj,List.singleton_append]
theorem aoF {e:Ex} (he:e∈U) {c:Int}:CC sx (ct e [.int .i64 c])=some [.list ab ((bJ (pX c e)).map enc)]:=by
 rcases hU.g e he with h|rfl
 ·exact al1 _ e (bN _) h (hU.s e he)
 ·rw[RJ]
  exact aad rfl
theorem aoG {i:Nat} (an3:i<60) {e:Ex} (he:e∈U) {n:Nat} (hn:n≤6) {a8 a9 a10 a11 q0 q1 q2 q3:Int} {b3:List V}: ∀(k x:Nat) (S:List Ex) (E:List Ed),x+k=n→eL U S→i<S.length→S.getD i aQ=e→E.length≤360*i+60*x→
  Loop (FC CC (n:Int) (i:Int) a8 a9 a10 a11 q0 q1 q2 q3 b3) ((x:Int),S.map enc,E.map Ed.enc)=some (.inr ((n:Int),false,(dU e S (List.range' x k)).map enc,(E++gP (dU e S (List.range' x k)) i e (List.range' x k)).map Ed.enc)):=by
 intro k
 induction k with
 | zero=>
  intro x S E hx _ _ _ _
  have hx:x=n:=by omega
  subst hx
  refine aG ?_
  simp only[FC,FB,un]
  rw[ar,ah (by omega),cL (by omega)]
  simp[gP,dU]
 | succ k ih=>
  intro x S E hx hS hi ik hE
  have hg:(S.map enc)[i]? =some e.enc:=by rw[iM hi,ik]
  have R3:=RK hU he (c:=(x:Int))
  have hr:=aoE hU (i:=i) (x:=x) (L:=bJ (pX (x:Int) e)) (Ae hU he) R3 (a1:=(n:Int)) (a8:=a8) (a9:=a9) (a10:=a10) (a11:=a11) (q0:=q0) (q1:=q1) (q2:=q2) (q3:=q3) (b4:=b3) (bJ (pX (x:Int) e)) [] S E rfl hS (by omega)
  have bB:FC CC (n:Int) (i:Int) a8 a9 a10 a11 q0 q1 q2 q3 b3 ((x:Int),S.map enc,E.map Ed.enc)=some (.inl (((x+1:Nat):Int),(dr S (bJ (pX (x:Int) e))).map enc,(E++hG (dr S (bJ (pX (x:Int) e))) i x (bJ (pX (x:Int) e))).map Ed.enc)):=by
   simp only[FC,FB,un]
   refine bT (kO (by omega)) (bT (oq.2 ⟨dC (by omega),dC (by rw[aC];omega)⟩) ?_)
   rw[Int.toNat_natCast]
   refine bs hg ?_
   rw[aH,aN,aK]
   refine bs (aoF hU he) ?_
   rw[V.aD,V.e8,aC]
   refine bs hr ?_
   simp only[bD,un]
   rw[kN (by omega)]
  obtain ⟨T,hT⟩:=Ad (bJ (pX (x:Int) e)) S
  have ot:S.length≤(dr S (bJ (pX (x:Int) e))).length:=by rw[hT,bO];omega
  have j6:(dr S (bJ (pX (x:Int) e))).getD i aQ=e:=by rw[hT,sY hi,ik]
  rw[br bB,ih (x+1) _ _ (by omega) (hS.dr (Ae hU he)) (by omega) j6 (by rw[bO];unfold hG;rw[aC];omega)]
  rw[List.range'_succ]
  have hs:dU e S (x::List.range' (x+1) k)=dU e (dr S (bJ (pX (x:Int) e))) (List.range' (x+1) k):=rfl
  rw[hs]
  obtain ⟨T2,lr⟩:=uz e (List.range' (x+1) k) (dr S (bJ (pX (x:Int) e)))
  have hd:hG (dU e (dr S (bJ (pX (x:Int) e))) (List.range' (x+1) k)) i x (bJ (pX (x:Int) e))=hG (dr S (bJ (pX (x:Int) e))) i x (bJ (pX (x:Int) e)):=by
   rw[lr];exact RG fun d hd=>J0.2 (.inr hd)
  rw[R0,hd,dj]
theorem aoH {n:Nat} (hn:n≤6) {a8 a9 a10 a11 q0 q1 q2:Int} {b3:List V}: ∀(f i:Nat) (S:List Ex) (E:List Ed),eL U S→i≤S.length→E.length≤360*i→61≤f+i→
  Loop (FE CC (n:Int) a8 a9 a10 a11 q0 q1 q2 b3) ((i:Int),S.map enc,((fF S i:Nat):Int),E.map Ed.enc)=some (.inr (((run n f i S).length:Int),false,(run n f i S).map enc,((fF (run n f i S) (run n f i S).length:Nat):Int),(E++nX n (run n f i S) (List.range' i ((run n f i S).length-i))).map Ed.enc)):=by
 intro f
 induction f with
 | zero=>intro i S E hS hi hE hf;have:=hS.len hU;omega
 | succ f ih=>
  intro i S E hS hi hE hf
  have nV:=hS.len hU
  by_cases aR:i<S.length
  ·have od:run n (f+1) i S=run n f (i+1) (dU (S.getD i aQ) S (List.range' 0 n)):=by rw[run,ag aR]
   have mT:S.getD i aQ∈U:=hS.u _ (by rw[show S.getD i aQ=S[i] by simp[aR]];exact tf aR)
   generalize he:S.getD i aQ=e at od mT
   have hx:=fun q3:Int=>aoG hU (i:=i) (by omega) mT hn (a8:=a8) (a9:=a9) (a10:=a10) (a11:=a11) (q0:=q0) (q1:=q1) (q2:=q2) (q3:=q3) (b3:=b3) n 0 S E (by omega) hS aR he (by omega)
   obtain ⟨T,hT⟩:=uz e (List.range' 0 n) S
   have w9:eL U (dU e S (List.range' 0 n)):=hS.dU hU mT
   have cP:=Kk hU (S:=dU e S (List.range' 0 n)) (i:=i) mT (List.range' 0 n)
   rw[FU] at cP
   have vc: ∀x∈List.range' 0 n,∀d∈bJ (pX (x:Int) e),d∈dU e S (List.range' 0 n):=fun x hx d hd=>Km x hx d hd
   generalize hA:dU e S (List.range' 0 n)=A at hx hT w9 cP od vc
   have hAl:S.length≤A.length:=by rw[hT,bO];omega
   have an6:=w9.len hU
   have AD:A.getD i aQ=e:=by rw[hT,sY aR,he]
   have vG:fF A (i+1)=if e.dJ=true then fF S i|||2^i else fF S i:=by rw[fF,AD,hT,RH (by omega)]
   have hg0:(S.map enc)[i]? =some e.enc:=by rw[iM aR,he]
   have kp:=RE S i
   have R4:2^i<2^64:=FN (by omega) (by omega)
   have bB:FE CC (n:Int) a8 a9 a10 a11 q0 q1 q2 b3 ((i:Int),S.map enc,((fF S i:Nat):Int),E.map Ed.enc)=some (.inl (((i+1:Nat):Int),A.map enc,((fF A (i+1):Nat):Int),(E++gP A i e (List.range' 0 n)).map Ed.enc)):=by
    simp only[FE,FD,un]
    refine bT (by rw[aC];exact kO aR) (bT (oq.2 ⟨dC (by omega),dC (by rw[aC];omega)⟩) ?_)
    rw[Int.toNat_natCast]
    refine bs hg0 ?_
    rw[aH,aN,aK]
    refine bs (Z3 e (Af hU mT)) ?_
    rw[V.aD,V.cI]
    have hb: ∀{β:Type} (kr:Int→Option β),Fv CC (n:Int) (i:Int) e.dJ a8 a9 a10 a11 (S.map enc) q0 q1 q2 ((fF S i:Nat):Int) b3 (E.map Ed.enc) kr=kr ((fF A (i+1):Nat):Int):=fun kr=>by
     unfold Fv
     rw[vG]
     cases e.dJ with
     | true=>
      refine bT rfl (bs (an8 (by omega)) ?_)
      rw[V.aD,V.toInt_int,u64_or (by omega) R4]
      rfl
     | false=>rfl
    rw[hb]
    refine bs (hx _) ?_
    simp only[bD,un]
    rw[kN (by omega)]
   rw[br bB,ih (i+1) A _ w9 (by omega) (by rw[bO];omega) (by omega),od]
   obtain ⟨T2,lr⟩:=JZ (n:=n) f (i+1) A
   have R5:A.length≤(run n f (i+1) A).length:=by rw[lr,bO];omega
   generalize run n f (i+1) A=R at lr R5
   have hr:R.length-i=(R.length-(i+1))+1:=by omega
   have R6:R.getD i aQ=e:=by rw[lr,sY (by omega),AD]
   have yk:gP R i e (List.range' 0 n)=gP A i e (List.range' 0 n):=by rw[lr];exact abB vc
   rw[hr,List.range'_succ,Kl,R6,yk,dj]
  ·have eE:i=S.length:=by omega
   have od:run n (f+1) i S=S:=by rw[run,ah aR]
   rw[od]
   subst eE
   refine aG ?_
   simp only[FE,FD,un,aC]
   rw[ar,ah (by omega),cL (by omega)]
   simp[nX]
end
end Go.AM
set_option maxRecDepth 100000
namespace Go.AM
open Go.Proofs
noncomputable def abI (C:af) (ak ay:Int) (aj:List V) (letters:Int):Option (List V):=
 (C Cl [.int .i64 ak,.int .i64 ay,.list ab aj,.int .i64 letters]).bind fun r1=>
 bif (((V.nth r1 0).toInt):Int) != 0 then
  some [.int .i64 ((V.nth r1 0).toInt)]
 else
  (C yH [.int .i64 ak,.int .i64 ay,.list ab aj,.int .i64 6]).bind fun r2=>
  bif (V.nth r2 0).toBool then
  some [.int .i64 4]
  else
  (C yH [.int .i64 ak,.int .i64 ay,.list ab aj,.int .i64 8]).bind fun r3=>
  bif (V.nth r3 0).toBool then
   some [.int .i64 4]
  else
   some [.int .i64 0]
theorem aoI {ak ay:Int} {aj:List V} {letters:Int} {r:Option (List V)} (h:abI CC ak ay aj letters=r):CC HV [.int .i64 ak,.int .i64 ay,.list ab aj,.int .i64 letters]=r:=
 bn (key:=33) (L:=cS) (bs:=[]) (by kernel_rfl) aw (bm (by kernel_rfl) h)
end Go.AM
set_option maxRecDepth 100000
namespace Go.AM
open Go.Proofs Ex
theorem abJ (e:Ex) (h:e.Ok) (letters:Int):CC HV (ct e [.int .i64 letters])=some [.int .i64 (me e letters)]:=by
 refine aoI ?_
 unfold abI me
 refine (congrArg (fun o=>Option.bind o _) (Xm e h letters)).trans ?_
 simp only[Option.bind_some,V.aD,V.toInt_int,kC]
 by_cases h1:e.val letters=0
 ·rw[ag h1,ah (fun h=>h h1)]
  refine (congrArg (fun o=>Option.bind o _) (aaF (op:=6) e h)).trans ?_
  simp only[Option.bind_some,V.aD,V.cI]
  rw[amr]
  cases h6:e.mb 6 with
  | true=>simp
  | false=>
   rw[cond_false]
   refine (congrArg (fun o=>Option.bind o _) (aaF (op:=8) e h)).trans ?_
   simp only[Option.bind_some,V.aD,V.cI]
   cases h8:e.mb 8<;>simp
 ·rw[ah h1,ag h1]
end Go.AM
set_option maxRecDepth 100000
namespace Go.AM
open Go.Proofs
theorem Kn:CC Cm []=some [.bool true]:=aeW (N:=60) (n:=60) (by kernel_rfl)
noncomputable def abK (C:af) (ak ay:Int) (aj:List V) (letters:Int):Option (List V):=
 (C Cl [.int .i64 ak,.int .i64 ay,.list ab aj,.int .i64 letters]).bind fun r1=>
 bif (((V.nth r1 0).toInt):Int)==0 then
  (C HO [.int .i64 ak,.int .i64 ay,.list ab aj]).bind fun r2=>
  bif decide ((((V.nth r2 0).toInt):Int)>40) then
  (C Cm []).bind fun r3=>
  some [.bool ((V.nth r3 0).toBool)]
  else
  (C yA [.int .i64 ak,.int .i64 ay,.list ab aj,.int .i64 letters]).bind fun r4=>
  (C yB [.int .i64 ak,.int .i64 ay,.list ab aj,.int .i64 letters]).bind fun r5=>
  bif (((V.nth (r4.drop 4) 0).toInt):Int)==((V.nth (r5.drop 4) 0).toInt) then
   (C yC [.int .i64 ((V.nth r4 0).toInt),.int .i64 ((V.nth (r4.drop 1) 0).toInt),.int .u64 ((V.nth ((r4.drop 1).drop 1) 0).toInt),.int .u64 ((V.nth (((r4.drop 1).drop 1).drop 1) 0).toInt),.list aS ((V.nth (r4.drop 5) 0).toList),.int .i64 ((V.nth r5 0).toInt),.int .i64 ((V.nth (r5.drop 1) 0).toInt),.int .u64 ((V.nth ((r5.drop 1).drop 1) 0).toInt),.int .u64 ((V.nth (((r5.drop 1).drop 1).drop 1) 0).toInt),.list aS ((V.nth (r5.drop 5) 0).toList)]).bind fun r6=>
   bif (V.nth r6 0).toBool then
   (C Cm []).bind fun r7=>
   some [.bool ((V.nth r7 0).toBool)]
   else
   some [.bool false]
  else
   some [.bool false]
 else
  (C yA [.int .i64 ak,.int .i64 ay,.list ab aj,.int .i64 letters]).bind fun r8=>
  (C yB [.int .i64 ak,.int .i64 ay,.list ab aj,.int .i64 letters]).bind fun r9=>
  bif (((V.nth (r8.drop 4) 0).toInt):Int)==((V.nth (r9.drop 4) 0).toInt) then
  (C yC [.int .i64 ((V.nth r8 0).toInt),.int .i64 ((V.nth (r8.drop 1) 0).toInt),.int .u64 ((V.nth ((r8.drop 1).drop 1) 0).toInt),.int .u64 ((V.nth (((r8.drop 1).drop 1).drop 1) 0).toInt),.list aS ((V.nth (r8.drop 5) 0).toList),.int .i64 ((V.nth r9 0).toInt),.int .i64 ((V.nth (r9.drop 1) 0).toInt),.int .u64 ((V.nth ((r9.drop 1).drop 1) 0).toInt),.int .u64 ((V.nth (((r9.drop 1).drop 1).drop 1) 0).toInt),.list aS ((V.nth (r9.drop 5) 0).toList)]).bind fun nR=>
  bif (V.nth nR 0).toBool then
   (C Cm []).bind fun fQ=>
   some [.bool ((V.nth fQ 0).toBool)]
  else
   some [.bool false]
  else
  some [.bool false]
theorem aoJ {ak ay:Int} {aj:List V} {letters:Int} {r:Option (List V)} (h:abK CC ak ay aj letters=r):CC MN [.int .i64 ak,.int .i64 ay,.list ab aj,.int .i64 letters]=r:=
 bn (key:=3) (L:=cS) (bs:=[]) (by kernel_rfl) aw (bm (by kernel_rfl) h)
end Go.AM
