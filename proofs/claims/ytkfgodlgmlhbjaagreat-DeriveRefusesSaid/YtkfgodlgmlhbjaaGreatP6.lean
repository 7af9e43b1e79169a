/-
  Functions of the program, lifted to plain data.
-/
import Derived.Test.YtkfgodlgmlhbjaaGreatP5
set_option linter.unusedVariables false
set_option linter.unusedSimpArgs false
set_option maxRecDepth 100000
namespace Go.AM
open Go.Proofs
noncomputable def wo (E:SE) (C:ah) (hi first root child:Int) (t40:Bool) (ao:LV) {β:Type} (kr:(Int)→Option β):Option β:=
 bif t40 then
  kr (IntKind.wrap .i64 (child+1))
 else
  kr child
noncomputable def tS (E:SE) (C:ah) (hi first root:Int) (ao:LV) {β:Type} (kn:(Int × LV)→Option β) (kr:((Int × Int × Bool × LV) ⊕ (Int × Int × Bool × LV))→Option β):Option β:=
 bif decide (((IntKind.wrap .i64 ((IntKind.wrap .i64 (root*2))+1)):Int)≥hi) then
  kr (.inl (root,IntKind.wrap .i64 ((IntKind.wrap .i64 (root*2))+1),decide (((IntKind.wrap .i64 ((IntKind.wrap .i64 (root*2))+1)):Int)≥hi),ao))
 else
  bif decide (((IntKind.wrap .i64 ((IntKind.wrap .i64 ((IntKind.wrap .i64 (root*2))+1))+1)):Int)<hi) then
  aH ao (IntKind.wrap .i64 (first+(IntKind.wrap .i64 ((IntKind.wrap .i64 (root*2))+1)))) fun x1=>
  aH ao (IntKind.wrap .i64 ((IntKind.wrap .i64 (first+(IntKind.wrap .i64 ((IntKind.wrap .i64 (root*2))+1))))+1)) fun x2=>
  (C E.cmp (E.ex x1++E.ex x2)).bind fun r3=>
  wo E C hi first root (IntKind.wrap .i64 ((IntKind.wrap .i64 (root*2))+1)) (decide ((((V.nth r3 0).toInt):Int)<0)) ao (fun (zi:Int)=>
   aH ao (IntKind.wrap .i64 (first+root)) fun x5=>
   aH ao (IntKind.wrap .i64 (first+zi)) fun x6=>
   (C E.cmp (E.ex x5++E.ex x6)).bind fun r7=>
   bif !(decide ((((V.nth r7 0).toInt):Int)<0)) then
    kr (.inr (root,zi,!(decide ((((V.nth r7 0).toInt):Int)<0)),ao))
   else
    aH ao (IntKind.wrap .i64 (first+zi)) fun x8=>
    aH ao (IntKind.wrap .i64 (first+root)) fun x9=>
    aH ao (IntKind.wrap .i64 (first+root)) fun tT=>
    aH (ba ao (IntKind.wrap .i64 (first+root)) (.agg (E.ex x8))) (IntKind.wrap .i64 (first+zi)) fun gv=>
    kn (zi,ba (ba ao (IntKind.wrap .i64 (first+root)) (.agg (E.ex x8))) (IntKind.wrap .i64 (first+zi)) (.agg (E.ex x9))))
  else
  wo E C hi first root (IntKind.wrap .i64 ((IntKind.wrap .i64 (root*2))+1)) false ao (fun (zj:Int)=>
   aH ao (IntKind.wrap .i64 (first+root)) fun pE=>
   aH ao (IntKind.wrap .i64 (first+zj)) fun wq=>
   (C E.cmp (E.ex pE++E.ex wq)).bind fun oB=>
   bif !(decide ((((V.nth oB 0).toInt):Int)<0)) then
    kr (.inr (root,zj,!(decide ((((V.nth oB 0).toInt):Int)<0)),ao))
   else
    aH ao (IntKind.wrap .i64 (first+zj)) fun mK=>
    aH ao (IntKind.wrap .i64 (first+root)) fun wu=>
    aH ao (IntKind.wrap .i64 (first+root)) fun jT=>
    aH (ba ao (IntKind.wrap .i64 (first+root)) (.agg (E.ex mK))) (IntKind.wrap .i64 (first+zj)) fun Oe=>
    kn (zj,ba (ba ao (IntKind.wrap .i64 (first+root)) (.agg (E.ex mK))) (IntKind.wrap .i64 (first+zj)) (.agg (E.ex wu))))
noncomputable def pF (E:SE) (C:ah) (hi first:Int):=un fun root ao=>tS E C hi first root ao (fun y=>some (Sum.inl y)) (fun r=>some (Sum.inr r))
noncomputable def Of (E:SE) (C:ah) (lo hi first:Int) (ao:LV):Option LV:=
 (Loop (pF E C hi first) (lo,ao)).bind (cf (un fun (am4:Int)=>un fun (am5:Int)=>un fun (Hs:Bool) (af3:LV)=>
  some [.list E.T af3]) (un fun (am6:Int)=>un fun (am7:Int)=>un fun (UA:Bool) (wv:LV)=>
  some [.list E.T wv]))
noncomputable def CK (E:SE) (C:ah) (first lo hi i:Int) (ao:LV) {β:Type} (kn:(Int × LV)→Option β) (kr:(Int × Bool × LV)→Option β):Option β:=
 bif decide ((i:Int)≥0) then
  (C (E.k 1) [V.int .i64 i,V.int .i64 hi,V.int .i64 first,.list E.T ao]).bind fun r1=>
  kn (IntKind.wrap .i64 (i-1),(V.nth r1 0).toList)
 else
  kr (i,decide ((i:Int)≥0),ao)
noncomputable def HM (E:SE) (C:ah) (first lo hi:Int):=un fun i ao=>CK E C first lo hi i ao (fun y=>some (Sum.inl y)) (fun r=>some (Sum.inr r))
noncomputable def CL (E:SE) (C:ah) (first lo i:Int) (ao:LV) {β:Type} (kn:(Int × LV)→Option β) (kr:(Int × Bool × LV)→Option β):Option β:=
 bif decide ((i:Int)≥0) then
  aH ao (IntKind.wrap .i64 (first+i)) fun x5=>
  aH ao first fun x6=>
  aH ao first fun x7=>
  aH (ba ao first (.agg (E.ex x5))) (IntKind.wrap .i64 (first+i)) fun x8=>
  (C (E.k 1) [V.int .i64 lo,V.int .i64 i,V.int .i64 first,.list E.T (ba (ba ao first (.agg (E.ex x5))) (IntKind.wrap .i64 (first+i)) (.agg (E.ex x6)))]).bind fun r9=>
  kn (IntKind.wrap .i64 (i-1),(V.nth r9 0).toList)
 else
  kr (i,decide ((i:Int)≥0),ao)
noncomputable def HN (E:SE) (C:ah) (first lo:Int):=un fun i ao=>CL E C first lo i ao (fun y=>some (Sum.inl y)) (fun r=>some (Sum.inr r))
noncomputable def Og (E:SE) (C:ah) (a b':Int) (ao:LV):Option LV:=
 (Loop (HM E C a 0 (IntKind.wrap .i64 (b'-a))) (IntKind.wrap .i64 (Int.tdiv (IntKind.wrap .i64 ((IntKind.wrap .i64 (b'-a))-1)) 2),ao)).bind (un fun (i_2:Int)=>un fun (jz:Bool) (af4:LV)=>
  (Loop (HN E C a 0) (IntKind.wrap .i64 ((IntKind.wrap .i64 (b'-a))-1),af4)).bind (un fun (am8:Int)=>un fun (Hp:Bool) (pG:LV)=>
   some [.list E.T pG]))
noncomputable def zk (E:SE) (C:ah) (i j:Int) (ao:LV) {β:Type} (kn:(Int × Int × LV)→Option β) (kr:(Int × Int × Bool × LV)→Option β):Option β:=
 bif decide ((i:Int)<j) then
  aH ao j fun x1=>
  aH ao i fun x2=>
  aH ao i fun x3=>
  aH (ba ao i (.agg (E.ex x1))) j fun x4=>
  kn (IntKind.wrap .i64 (i+1),IntKind.wrap .i64 (j-1),ba (ba ao i (.agg (E.ex x1))) j (.agg (E.ex x2)))
 else
  kr (i,j,decide ((i:Int)<j),ao)
noncomputable def CM (E:SE) (C:ah):=un fun i=>un fun j ao=>zk E C i j ao (fun y=>some (Sum.inl y)) (fun r=>some (Sum.inr r))
noncomputable def Oh (E:SE) (C:ah) (a b':Int) (ao:LV):Option LV:=
 (Loop (CM E C) (a,IntKind.wrap .i64 (b'-1),ao)).bind (un fun (dm:Int)=>un fun (N4:Int)=>un fun (pA:Bool) (af5:LV)=>
  some [.list E.T af5])
noncomputable def CN (E:SE) (C:ah) (a j:Int) (ao:LV) (i:Int) {β:Type} (kn:Int→Option β) (kr:(Int × Bool)→Option β):Option β:=
 bif decide ((i:Int)≤j) then
  aH ao i fun x5=>
  aH ao a fun x6=>
  (C E.cmp (E.ex x5++E.ex x6)).bind fun r7=>
  bif decide ((((V.nth r7 0).toInt):Int)<0) then
  kn (IntKind.wrap .i64 (i+1))
  else
  kr (i,decide ((((V.nth r7 0).toInt):Int)<0))
 else
  kr (i,false)
noncomputable def CO (E:SE) (C:ah) (a j:Int) (ao:LV):=fun i=>CN E C a j ao i (fun y=>some (Sum.inl y)) (fun r=>some (Sum.inr r))
noncomputable def zl (E:SE) (C:ah) (a i:Int) (ao:LV) (j:Int) {β:Type} (kn:Int→Option β) (kr:(Int × Bool)→Option β):Option β:=
 bif decide ((i:Int)≤j) then
  aH ao j fun tT=>
  aH ao a fun gv=>
  (C E.cmp (E.ex tT++E.ex gv)).bind fun ic=>
  bif !(decide ((((V.nth ic 0).toInt):Int)<0)) then
  kn (IntKind.wrap .i64 (j-1))
  else
  kr (j,!(decide ((((V.nth ic 0).toInt):Int)<0)))
 else
  kr (j,false)
noncomputable def zm (E:SE) (C:ah) (a i:Int) (ao:LV):=fun j=>zl E C a i ao j (fun y=>some (Sum.inl y)) (fun r=>some (Sum.inr r))
noncomputable def CP (E:SE) (C:ah) (a j:Int) (ao:LV) (i:Int) {β:Type} (kn:Int→Option β) (kr:(Int × Bool)→Option β):Option β:=
 bif decide ((i:Int)≤j) then
  aH ao i fun tL=>
  aH ao a fun wz=>
  (C E.cmp (E.ex tL++E.ex wz)).bind fun CQ=>
  bif decide ((((V.nth CQ 0).toInt):Int)<0) then
  kn (IntKind.wrap .i64 (i+1))
  else
  kr (i,decide ((((V.nth CQ 0).toInt):Int)<0))
 else
  kr (i,false)
noncomputable def CR (E:SE) (C:ah) (a j:Int) (ao:LV):=fun i=>CP E C a j ao i (fun y=>some (Sum.inl y)) (fun r=>some (Sum.inr r))
noncomputable def zn (E:SE) (C:ah) (a i:Int) (ao:LV) (j:Int) {β:Type} (kn:Int→Option β) (kr:(Int × Bool)→Option β):Option β:=
 bif decide ((i:Int)≤j) then
  aH ao j fun Oi=>
  aH ao a fun Oj=>
  (C E.cmp (E.ex Oi++E.ex Oj)).bind fun mL=>
  bif !(decide ((((V.nth mL 0).toInt):Int)<0)) then
  kn (IntKind.wrap .i64 (j-1))
  else
  kr (j,!(decide ((((V.nth mL 0).toInt):Int)<0)))
 else
  kr (j,false)
noncomputable def zo (E:SE) (C:ah) (a i:Int) (ao:LV):=fun j=>zn E C a i ao j (fun y=>some (Sum.inl y)) (fun r=>some (Sum.inr r))
noncomputable def CS (E:SE) (C:ah) (a i j:Int) (ao:LV) {β:Type} (kn:(Int × Int × LV)→Option β) (kr:(Int × Int × Bool × LV)→Option β):Option β:=
 (Loop (CR E C a j ao) i).bind (un fun (se:Int) (UB:Bool)=>
  (Loop (zo E C a se ao) j).bind (un fun (wA:Int) (acU:Bool)=>
   bif decide ((se:Int)>wA) then
    kr (se,wA,decide ((se:Int)>wA),ao)
   else
    aH ao wA fun VA=>
    aH ao se fun x34=>
    aH ao se fun x35=>
    aH (ba ao se (.agg (E.ex VA))) wA fun x36=>
    kn (IntKind.wrap .i64 (se+1),IntKind.wrap .i64 (wA-1),ba (ba ao se (.agg (E.ex VA))) wA (.agg (E.ex x34)))))
noncomputable def zp (E:SE) (C:ah) (a:Int):=un fun i=>un fun j ao=>CS E C a i j ao (fun y=>some (Sum.inl y)) (fun r=>some (Sum.inr r))
noncomputable def Ol (E:SE) (C:ah) (a b' pivot:Int) (ao:LV):Option LV:=
 aH ao pivot fun x1=>
 aH ao a fun x2=>
 aH ao a fun x3=>
 aH (ba ao a (.agg (E.ex x1))) pivot fun x4=>
 (Loop (CO E C a (IntKind.wrap .i64 (b'-1)) (ba (ba ao a (.agg (E.ex x1))) pivot (.agg (E.ex x2)))) (IntKind.wrap .i64 (a+1))).bind (un fun (ky:Int) (tH:Bool)=>
  (Loop (zm E C a ky (ba (ba ao a (.agg (E.ex x1))) pivot (.agg (E.ex x2)))) (IntKind.wrap .i64 (b'-1))).bind (un fun (jW:Int) (tI:Bool)=>
   bif decide ((ky:Int)>jW) then
    aH (ba (ba ao a (.agg (E.ex x1))) pivot (.agg (E.ex x2))) a fun oC=>
    aH (ba (ba ao a (.agg (E.ex x1))) pivot (.agg (E.ex x2))) jW fun mK=>
    aH (ba (ba ao a (.agg (E.ex x1))) pivot (.agg (E.ex x2))) jW fun wu=>
    aH (ba (ba (ba ao a (.agg (E.ex x1))) pivot (.agg (E.ex x2))) jW (.agg (E.ex oC))) a fun jT=>
    some [V.int .i64 jW,.bool true,.list E.T (ba (ba (ba (ba ao a (.agg (E.ex x1))) pivot (.agg (E.ex x2))) jW (.agg (E.ex oC))) a (.agg (E.ex mK)))]
   else
    aH (ba (ba ao a (.agg (E.ex x1))) pivot (.agg (E.ex x2))) jW fun Oe=>
    aH (ba (ba ao a (.agg (E.ex x1))) pivot (.agg (E.ex x2))) ky fun Om=>
    aH (ba (ba ao a (.agg (E.ex x1))) pivot (.agg (E.ex x2))) ky fun VB=>
    aH (ba (ba (ba ao a (.agg (E.ex x1))) pivot (.agg (E.ex x2))) ky (.agg (E.ex Oe))) jW fun x22=>
    (Loop (zp E C a) (IntKind.wrap .i64 (ky+1),IntKind.wrap .i64 (jW-1),ba (ba (ba (ba ao a (.agg (E.ex x1))) pivot (.agg (E.ex x2))) ky (.agg (E.ex Oe))) jW (.agg (E.ex Om)))).bind (un fun (adv:Int)=>un fun (CT:Int)=>un fun (UF:Bool) (pH:LV)=>
     aH pH a fun HO=>
     aH pH CT fun On=>
     aH pH CT fun x43=>
     aH (ba pH CT (.agg (E.ex HO))) a fun x44=>
     some [V.int .i64 CT,.bool false,.list E.T (ba (ba pH CT (.agg (E.ex HO))) a (.agg (E.ex On)))])))
noncomputable def CU (E:SE) (C:ah) (a j:Int) (ao:LV) (i:Int) {β:Type} (kn:Int→Option β) (kr:(Int × Bool)→Option β):Option β:=
 bif decide ((i:Int)≤j) then
  aH ao a fun x5=>
  aH ao i fun x6=>
  (C E.cmp (E.ex x5++E.ex x6)).bind fun r7=>
  bif !(decide ((((V.nth r7 0).toInt):Int)<0)) then
  kn (IntKind.wrap .i64 (i+1))
  else
  kr (i,!(decide ((((V.nth r7 0).toInt):Int)<0)))
 else
  kr (i,false)
noncomputable def CV (E:SE) (C:ah) (a j:Int) (ao:LV):=fun i=>CU E C a j ao i (fun y=>some (Sum.inl y)) (fun r=>some (Sum.inr r))
noncomputable def zq (E:SE) (C:ah) (a i:Int) (ao:LV) (j:Int) {β:Type} (kn:Int→Option β) (kr:(Int × Bool)→Option β):Option β:=
 bif decide ((i:Int)≤j) then
  aH ao a fun tT=>
  aH ao j fun gv=>
  (C E.cmp (E.ex tT++E.ex gv)).bind fun ic=>
  bif decide ((((V.nth ic 0).toInt):Int)<0) then
  kn (IntKind.wrap .i64 (j-1))
  else
  kr (j,decide ((((V.nth ic 0).toInt):Int)<0))
 else
  kr (j,false)
noncomputable def zr (E:SE) (C:ah) (a i:Int) (ao:LV):=fun j=>zq E C a i ao j (fun y=>some (Sum.inl y)) (fun r=>some (Sum.inr r))
noncomputable def CW (E:SE) (C:ah) (a i j:Int) (ao:LV) {β:Type} (kn:(Int × Int × LV)→Option β) (kr:(Int × Int × Bool × LV)→Option β):Option β:=
 (Loop (CV E C a j ao) i).bind (un fun (ky:Int) (tH:Bool)=>
  (Loop (zr E C a ky ao) j).bind (un fun (jW:Int) (tI:Bool)=>
   bif decide ((ky:Int)>jW) then
    kr (ky,jW,decide ((ky:Int)>jW),ao)
   else
    aH ao jW fun oC=>
    aH ao ky fun mK=>
    aH ao ky fun wu=>
    aH (ba ao ky (.agg (E.ex oC))) jW fun jT=>
    kn (IntKind.wrap .i64 (ky+1),IntKind.wrap .i64 (jW-1),ba (ba ao ky (.agg (E.ex oC))) jW (.agg (E.ex mK)))))
noncomputable def zt (E:SE) (C:ah) (a:Int):=un fun i=>un fun j ao=>CW E C a i j ao (fun y=>some (Sum.inl y)) (fun r=>some (Sum.inr r))
noncomputable def Oo (E:SE) (C:ah) (a b' pivot:Int) (ao:LV):Option LV:=
 aH ao pivot fun x1=>
 aH ao a fun x2=>
 aH ao a fun x3=>
 aH (ba ao a (.agg (E.ex x1))) pivot fun x4=>
 (Loop (zt E C a) (IntKind.wrap .i64 (a+1),IntKind.wrap .i64 (b'-1),ba (ba ao a (.agg (E.ex x1))) pivot (.agg (E.ex x2)))).bind (un fun (af6:Int)=>un fun (am9:Int)=>un fun (Cs:Bool) (af7:LV)=>
  some [V.int .i64 af6,.list E.T af7])
noncomputable def CX (E:SE) (C:ah) (a b' j:Int) (ao:LV) (i:Int) {β:Type} (kn:Int→Option β) (kr:(Int × Bool)→Option β):Option β:=
 bif decide ((i:Int)<b') then
  aH ao i fun x1=>
  aH ao (IntKind.wrap .i64 (i-1)) fun x2=>
  (C E.cmp (E.ex x1++E.ex x2)).bind fun r3=>
  bif !(decide ((((V.nth r3 0).toInt):Int)<0)) then
  kn (IntKind.wrap .i64 (i+1))
  else
  kr (i,!(decide ((((V.nth r3 0).toInt):Int)<0)))
 else
  kr (i,false)
noncomputable def CY (E:SE) (C:ah) (a b' j:Int) (ao:LV):=fun i=>CX E C a b' j ao i (fun y=>some (Sum.inl y)) (fun r=>some (Sum.inr r))
noncomputable def CZ (E:SE) (C:ah) (a b' i j j':Int) (ao:LV) {β:Type} (kn:(Int × LV)→Option β) (kr:(Int × LV)→Option β):Option β:=
 bif decide ((j':Int)≥1) then
  aH ao j' fun tT=>
  aH ao (IntKind.wrap .i64 (j'-1)) fun gv=>
  (C E.cmp (E.ex tT++E.ex gv)).bind fun ic=>
  bif !(decide ((((V.nth ic 0).toInt):Int)<0)) then
  kr (j',ao)
  else
  aH ao (IntKind.wrap .i64 (j'-1)) fun pE=>
  aH ao j' fun wq=>
  aH ao j' fun oC=>
  aH (ba ao j' (.agg (E.ex pE))) (IntKind.wrap .i64 (j'-1)) fun mK=>
  kn (IntKind.wrap .i64 (j'-1),ba (ba ao j' (.agg (E.ex pE))) (IntKind.wrap .i64 (j'-1)) (.agg (E.ex wq)))
 else
  kr (j',ao)
noncomputable def C3 (E:SE) (C:ah) (a b' i j:Int):=un fun j' ao=>CZ E C a b' i j j' ao (fun y=>some (Sum.inl y)) (fun r=>some (Sum.inr r))
noncomputable def HP (E:SE) (C:ah) (a b' i j:Int) (t65:Bool) (ao:LV) {β:Type} (kr:LV→Option β):Option β:=
 bif t65 then
  (Loop (C3 E C a b' i j) (IntKind.wrap .i64 (i-1),ao)).bind (un fun (ana:Int) (af8:LV)=>
   kr af8)
 else
  kr ao
noncomputable def C4 (E:SE) (C:ah) (a b' i j j':Int) (ao:LV) {β:Type} (kn:(Int × LV)→Option β) (kr:(Int × LV)→Option β):Option β:=
 bif decide ((j':Int)<b') then
  aH ao j' fun Om=>
  aH ao (IntKind.wrap .i64 (j'-1)) fun VB=>
  (C E.cmp (E.ex Om++E.ex VB)).bind fun jd=>
  bif !(decide ((((V.nth jd 0).toInt):Int)<0)) then
  kr (j',ao)
  else
  aH ao (IntKind.wrap .i64 (j'-1)) fun tL=>
  aH ao j' fun wz=>
  aH ao j' fun x25=>
  aH (ba ao j' (.agg (E.ex tL))) (IntKind.wrap .i64 (j'-1)) fun oD=>
  kn (IntKind.wrap .i64 (j'+1),ba (ba ao j' (.agg (E.ex tL))) (IntKind.wrap .i64 (j'-1)) (.agg (E.ex wz)))
 else
  kr (j',ao)
noncomputable def C6 (E:SE) (C:ah) (a b' i j:Int):=un fun j' ao=>C4 E C a b' i j j' ao (fun y=>some (Sum.inl y)) (fun r=>some (Sum.inr r))
noncomputable def C7 (E:SE) (C:ah) (a b' i j:Int) (ao:LV) {β:Type} (kn:(Int × Int × LV)→Option β) (kr:((Bool × LV) ⊕ (Int × Int × Bool × LV))→Option β):Option β:=
 bif decide ((j:Int)<5) then
  (Loop (CY E C a b' j ao) i).bind (un fun (kz:Int) (mH:Bool)=>
   bif (kz:Int)==b' then
   kr (.inl (true,ao))
   else
   bif decide (((IntKind.wrap .i64 (b'-a)):Int)<50) then
    kr (.inl (false,ao))
   else
    aH ao (IntKind.wrap .i64 (kz-1)) fun x6=>
    aH ao kz fun x7=>
    aH ao kz fun x8=>
    aH (ba ao kz (.agg (E.ex x6))) (IntKind.wrap .i64 (kz-1)) fun x9=>
    HP E C a b' kz j (decide (((IntKind.wrap .i64 (kz-a)):Int)≥2)) (ba (ba ao kz (.agg (E.ex x6))) (IntKind.wrap .i64 (kz-1)) (.agg (E.ex x7))) (fun (VC:LV)=>
     bif decide (((IntKind.wrap .i64 (b'-kz)):Int)≥2) then
     (Loop (C6 E C a b' kz j) (IntKind.wrap .i64 (kz+1),VC)).bind (un fun (anb:Int) (af9:LV)=>
      kn (kz,IntKind.wrap .i64 (j+1),af9))
     else
     kn (kz,IntKind.wrap .i64 (j+1),VC)))
 else
  kr (.inr (i,j,decide ((j:Int)<5),ao))
noncomputable def tU (E:SE) (C:ah) (a b':Int):=un fun i=>un fun j ao=>C7 E C a b' i j ao (fun y=>some (Sum.inl y)) (fun r=>some (Sum.inr r))
noncomputable def Oq (E:SE) (C:ah) (a b':Int) (ao:LV):Option LV:=
 (Loop (tU E C a b') (IntKind.wrap .i64 (a+1),0,ao)).bind (cf (un fun (ND:Bool) (aga:LV)=>
  some [.bool ND,.list E.T aga]) (un fun (anc:Int)=>un fun (ane:Int)=>un fun (UC:Bool) (agb:LV)=>
  some [.bool false,.list E.T agb]))
noncomputable def HQ (E:SE) (C:ah) (a length zu oE other:Int) (t45:Bool) (ao:LV) (C8:Int) {β:Type} (kr:(Int)→Option β):Option β:=
 bif t45 then
  kr (IntKind.wrap .i64 (other-length))
 else
  kr other
noncomputable def C9 (E:SE) (C:ah) (a length zu oE:Int) (ao:LV) (C8:Int) {β:Type} (kn:(Int × LV × Int)→Option β) (kr:(Int × Bool × LV × Int)→Option β):Option β:=
 bif decide ((oE:Int)≤(IntKind.wrap .i64 ((IntKind.wrap .i64 (a+(IntKind.wrap .i64 (2*(IntKind.wrap .i64 (Int.tdiv length 4))))))+1))) then
  (C G1 [.int .u64 C8]).bind fun r2=>
  HQ E C a length zu oE (IntKind.wrap .i64 (IntKind.wrap .u64 ((BitVec.ofInt (IntKind.bits .u64) ((V.nth r2 0).toInt)&&&BitVec.ofInt (IntKind.bits .u64) (IntKind.wrap .u64 (zu-1))).toNat))) (decide (((IntKind.wrap .i64 (IntKind.wrap .u64 ((BitVec.ofInt (IntKind.bits .u64) ((V.nth r2 0).toInt)&&&BitVec.ofInt (IntKind.bits .u64) (IntKind.wrap .u64 (zu-1))).toNat))):Int)≥length)) ao ((V.nth (r2.drop 1) 0).toInt) (fun (Ot:Int)=>
   aH ao (IntKind.wrap .i64 (a+Ot)) fun x4=>
   aH ao oE fun x5=>
   aH ao oE fun x6=>
   aH (ba ao oE (.agg (E.ex x4))) (IntKind.wrap .i64 (a+Ot)) fun x7=>
   kn (IntKind.wrap .i64 (oE+1),ba (ba ao oE (.agg (E.ex x4))) (IntKind.wrap .i64 (a+Ot)) (.agg (E.ex x5)),(V.nth (r2.drop 1) 0).toInt))
 else
  kr (oE,decide ((oE:Int)≤(IntKind.wrap .i64 ((IntKind.wrap .i64 (a+(IntKind.wrap .i64 (2*(IntKind.wrap .i64 (Int.tdiv length 4))))))+1))),ao,C8)
noncomputable def HR (E:SE) (C:ah) (a length zu:Int):=un fun oE=>un fun ao C8=>C9 E C a length zu oE ao C8 (fun y=>some (Sum.inl y)) (fun r=>some (Sum.inr r))
noncomputable def Ou (E:SE) (C:ah) (a b':Int) (ao:LV):Option LV:=
 bif decide (((IntKind.wrap .i64 (b'-a)):Int)≥8) then
  (C G0 [V.int .i64 (IntKind.wrap .i64 (b'-a))]).bind fun r1=>
  (Loop (HR E C a (IntKind.wrap .i64 (b'-a)) ((V.nth r1 0).toInt)) (IntKind.wrap .i64 ((IntKind.wrap .i64 (a+(IntKind.wrap .i64 (2*(IntKind.wrap .i64 (Int.tdiv (IntKind.wrap .i64 (b'-a)) 4))))))-1),ao,IntKind.wrap .u64 (IntKind.wrap .i64 (b'-a)))).bind (un fun (anf:Int)=>un fun (tH:Bool)=>un fun (pD:LV) (ang:Int)=>
   some [.list E.T pD])
 else
  some [.list E.T ao]
noncomputable def Ov (E:SE) (C:ah) (data:LV) (a b' c eV:Int):Option LV:=
 (C (E.k 10) [.list E.T data,V.int .i64 a,V.int .i64 b',V.int .i64 eV]).bind fun r1=>
 (C (E.k 10) [.list E.T data,V.int .i64 ((V.nth (r1.drop 1) 0).toInt),V.int .i64 c,V.int .i64 ((V.nth (r1.drop 2) 0).toInt)]).bind fun r2=>
 (C (E.k 10) [.list E.T data,V.int .i64 ((V.nth r1 0).toInt),V.int .i64 ((V.nth r2 0).toInt),V.int .i64 ((V.nth (r2.drop 2) 0).toInt)]).bind fun r3=>
 some [V.int .i64 ((V.nth (r3.drop 1) 0).toInt),V.int .i64 ((V.nth (r3.drop 2) 0).toInt)]
noncomputable def Ow (E:SE) (C:ah) (data:LV) (a eV:Int):Option LV:=
 (C (E.k 8) [.list E.T data,V.int .i64 (IntKind.wrap .i64 (a-1)),V.int .i64 a,V.int .i64 (IntKind.wrap .i64 (a+1)),V.int .i64 eV]).bind fun r1=>
 some [V.int .i64 ((V.nth r1 0).toInt),V.int .i64 ((V.nth (r1.drop 1) 0).toInt)]
noncomputable def HS (E:SE) (C:ah) (data:LV) (a b' eV:Int):Option LV:=
 (idx data b').bind fun x1=>
 (idx data a).bind fun x2=>
 (C E.cmp (E.ex x1++E.ex x2)).bind fun r3=>
 bif decide ((((V.nth r3 0).toInt):Int)<0) then
  some [V.int .i64 b',V.int .i64 a,V.int .i64 (IntKind.wrap .i64 (eV+1))]
 else
  some [V.int .i64 a,V.int .i64 b',V.int .i64 eV]
noncomputable def Db (E:SE) (C:ah) (data:LV) (i j k':Int) (t36:Bool) (eV:Int) {β:Type} (kr:(Int × Int × Int × Int)→Option β):Option β:=
 bif t36 then
  (C (E.k 9) [.list E.T data,V.int .i64 i,V.int .i64 eV]).bind fun r1=>
  (C (E.k 9) [.list E.T data,V.int .i64 j,V.int .i64 ((V.nth (r1.drop 1) 0).toInt)]).bind fun r2=>
  (C (E.k 9) [.list E.T data,V.int .i64 k',V.int .i64 ((V.nth (r2.drop 1) 0).toInt)]).bind fun r3=>
  kr ((V.nth r1 0).toInt,(V.nth r2 0).toInt,(V.nth r3 0).toInt,(V.nth (r3.drop 1) 0).toInt)
 else
  kr (i,j,k',eV)
noncomputable def Dc (E:SE) (C:ah) (data:LV) (l i j k':Int) (t34:Bool) (eV:Int) {β:Type} (kr:(Int × Int)→Option β):Option β:=
 bif t34 then
  Db E C data i j k' (decide ((l:Int)≥50)) eV (un fun (kz:Int)=>un fun (j_5:Int)=>un fun (k_6:Int) (agc:Int)=>
   (C (E.k 8) [.list E.T data,V.int .i64 kz,V.int .i64 j_5,V.int .i64 k_6,V.int .i64 agc]).bind fun r8=>
   kr ((V.nth r8 0).toInt,(V.nth (r8.drop 1) 0).toInt))
 else
  kr (j,eV)
noncomputable def HT (E:SE) (C:ah) (data:LV) (a b':Int):Option LV:=
 Dc E C data (IntKind.wrap .i64 (b'-a)) (IntKind.wrap .i64 (a+(IntKind.wrap .i64 (1*(IntKind.wrap .i64 (Int.tdiv (IntKind.wrap .i64 (b'-a)) 4)))))) (IntKind.wrap .i64 (a+(IntKind.wrap .i64 (2*(IntKind.wrap .i64 (Int.tdiv (IntKind.wrap .i64 (b'-a)) 4)))))) (IntKind.wrap .i64 (a+(IntKind.wrap .i64 (3*(IntKind.wrap .i64 (Int.tdiv (IntKind.wrap .i64 (b'-a)) 4)))))) (decide (((IntKind.wrap .i64 (b'-a)):Int)≥8)) 0 (un fun (Ox:Int) (VD:Int)=>
  bif (VD:Int)==0 then
   some [V.int .i64 Ox,V.int .i64 1]
  else
   bif (VD:Int)==12 then
   some [V.int .i64 Ox,V.int .i64 2]
   else
   some [V.int .i64 Ox,V.int .i64 0])
noncomputable def zw (E:SE) (C:ah) (a b' iN:Int) (fj fG:Bool) (length:Int) (t39:Bool) (ao:LV) {β:Type} (kr:(Int × LV)→Option β):Option β:=
 bif t39 then
  (C (E.k 7) [V.int .i64 a,V.int .i64 b',.list E.T ao]).bind fun r3=>
  kr (IntKind.wrap .i64 (iN-1),(V.nth r3 0).toList)
 else
  kr (iN,ao)
noncomputable def zx (E:SE) (C:ah) (a b' iN:Int) (fj fG:Bool) (length pivot hint:Int) (t56:Bool) (ao:LV) {β:Type} (kr:(Int × Int × LV)→Option β):Option β:=
 bif t56 then
  (C (E.k 3) [V.int .i64 a,V.int .i64 b',.list E.T ao]).bind fun r7=>
  kr (IntKind.wrap .i64 ((IntKind.wrap .i64 (b'-1))-(IntKind.wrap .i64 (pivot-a))),1,(V.nth r7 0).toList)
 else
  kr (pivot,hint,ao)
noncomputable def nC (E:SE) (C:ah) (a b' iN:Int) (fj fG:Bool) (length pivot:Int) (t75:Bool) (ao:LV) {β:Type} (kr:((Bool × LV) ⊕ LV)→Option β):Option β:=
 bif t75 then
  (C (E.k 6) [V.int .i64 a,V.int .i64 b',.list E.T ao]).bind fun eW=>
  bif (V.nth eW 0).toBool then
  kr (.inl ((V.nth eW 0).toBool,(V.nth (eW.drop 1) 0).toList))
  else
  kr (.inr ((V.nth (eW.drop 1) 0).toList))
 else
  kr (.inr ao)
noncomputable def qG (E:SE) (C:ah) (a b' iN:Int) (fj fG:Bool) (ao:LV) {β:Type} (kn:(Int × Int × Int × Bool × Bool × LV)→Option β) (kr:LV→Option β):Option β:=
 bif decide (((IntKind.wrap .i64 (b'-a)):Int)≤12) then
  (C (E.k 0) [V.int .i64 a,V.int .i64 b',.list E.T ao]).bind fun r1=>
  kr ((V.nth r1 0).toList)
 else
  bif (iN:Int)==0 then
  (C (E.k 2) [V.int .i64 a,V.int .i64 b',.list E.T ao]).bind fun r2=>
  kr ((V.nth r2 0).toList)
  else
  zw E C a b' iN fj fG (IntKind.wrap .i64 (b'-a)) (!fj) ao (un fun (cY:Int) (Dd:LV)=>
   (C (E.k 11) [.list E.T Dd,V.int .i64 a,V.int .i64 b']).bind fun r6=>
   zx E C a b' cY fj fG (IntKind.wrap .i64 (b'-a)) ((V.nth r6 0).toInt) ((V.nth (r6.drop 1) 0).toInt) ((((V.nth (r6.drop 1) 0).toInt):Int)==2) Dd (un fun (fH:Int)=>un fun (Oy:Int) (pD:LV)=>
    bif fj then
     bif fG then
     nC E C a b' cY fj fG (IntKind.wrap .i64 (b'-a)) fH ((Oy:Int)==1) pD (cf (un fun (Hq:Bool) (Od:LV)=>
      kr Od) (fun (De:LV)=>
      bif decide ((a:Int)>0) then
       aH De (IntKind.wrap .i64 (a-1)) fun oC=>
       aH De fH fun mK=>
       (C E.cmp (E.ex oC++E.ex mK)).bind fun ei=>
       bif !(decide ((((V.nth ei 0).toInt):Int)<0)) then
       (C (E.k 5) [V.int .i64 a,V.int .i64 b',V.int .i64 fH,.list E.T De]).bind fun kA=>
       kn ((V.nth kA 0).toInt,b',cY,fj,fG,(V.nth (kA.drop 1) 0).toList)
       else
       (C (E.k 4) [V.int .i64 a,V.int .i64 b',V.int .i64 fH,.list E.T De]).bind fun ef=>
       bif decide (((IntKind.wrap .i64 (((V.nth ef 0).toInt)-a)):Int)<(IntKind.wrap .i64 (b'-((V.nth ef 0).toInt)))) then
        (C (E.k 12) [V.int .i64 a,V.int .i64 ((V.nth ef 0).toInt),V.int .i64 cY,.list E.T ((V.nth (ef.drop 2) 0).toList)]).bind fun je=>
        kn (IntKind.wrap .i64 (((V.nth ef 0).toInt)+1),b',cY,decide (((IntKind.wrap .i64 (((V.nth ef 0).toInt)-a)):Int)≥(IntKind.wrap .i64 (Int.tdiv (IntKind.wrap .i64 (b'-a)) 8))),(V.nth (ef.drop 1) 0).toBool,(V.nth je 0).toList)
       else
        (C (E.k 12) [V.int .i64 (IntKind.wrap .i64 (((V.nth ef 0).toInt)+1)),V.int .i64 b',V.int .i64 cY,.list E.T ((V.nth (ef.drop 2) 0).toList)]).bind fun pI=>
        kn (a,(V.nth ef 0).toInt,cY,decide (((IntKind.wrap .i64 (b'-((V.nth ef 0).toInt))):Int)≥(IntKind.wrap .i64 (Int.tdiv (IntKind.wrap .i64 (b'-a)) 8))),(V.nth (ef.drop 1) 0).toBool,(V.nth pI 0).toList)
      else
       (C (E.k 4) [V.int .i64 a,V.int .i64 b',V.int .i64 fH,.list E.T De]).bind fun jd=>
       bif decide (((IntKind.wrap .i64 (((V.nth jd 0).toInt)-a)):Int)<(IntKind.wrap .i64 (b'-((V.nth jd 0).toInt)))) then
       (C (E.k 12) [V.int .i64 a,V.int .i64 ((V.nth jd 0).toInt),V.int .i64 cY,.list E.T ((V.nth (jd.drop 2) 0).toList)]).bind fun r23=>
       kn (IntKind.wrap .i64 (((V.nth jd 0).toInt)+1),b',cY,decide (((IntKind.wrap .i64 (((V.nth jd 0).toInt)-a)):Int)≥(IntKind.wrap .i64 (Int.tdiv (IntKind.wrap .i64 (b'-a)) 8))),(V.nth (jd.drop 1) 0).toBool,(V.nth r23 0).toList)
       else
       (C (E.k 12) [V.int .i64 (IntKind.wrap .i64 (((V.nth jd 0).toInt)+1)),V.int .i64 b',V.int .i64 cY,.list E.T ((V.nth (jd.drop 2) 0).toList)]).bind fun NH=>
       kn (a,(V.nth jd 0).toInt,cY,decide (((IntKind.wrap .i64 (b'-((V.nth jd 0).toInt))):Int)≥(IntKind.wrap .i64 (Int.tdiv (IntKind.wrap .i64 (b'-a)) 8))),(V.nth (jd.drop 1) 0).toBool,(V.nth NH 0).toList)))
     else
     nC E C a b' cY fj fG (IntKind.wrap .i64 (b'-a)) fH false pD (cf (un fun (acS:Bool) (agd:LV)=>
      kr agd) (fun (wv:LV)=>
      bif decide ((a:Int)>0) then
       aH wv (IntKind.wrap .i64 (a-1)) fun Oi=>
       aH wv fH fun Oj=>
       (C E.cmp (E.ex Oi++E.ex Oj)).bind fun mL=>
       bif !(decide ((((V.nth mL 0).toInt):Int)<0)) then
       (C (E.k 5) [V.int .i64 a,V.int .i64 b',V.int .i64 fH,.list E.T wv]).bind fun tV=>
       kn ((V.nth tV 0).toInt,b',cY,fj,fG,(V.nth (tV.drop 1) 0).toList)
       else
       (C (E.k 4) [V.int .i64 a,V.int .i64 b',V.int .i64 fH,.list E.T wv]).bind fun jX=>
       bif decide (((IntKind.wrap .i64 (((V.nth jX 0).toInt)-a)):Int)<(IntKind.wrap .i64 (b'-((V.nth jX 0).toInt)))) then
        (C (E.k 12) [V.int .i64 a,V.int .i64 ((V.nth jX 0).toInt),V.int .i64 cY,.list E.T ((V.nth (jX.drop 2) 0).toList)]).bind fun Oz=>
        kn (IntKind.wrap .i64 (((V.nth jX 0).toInt)+1),b',cY,decide (((IntKind.wrap .i64 (((V.nth jX 0).toInt)-a)):Int)≥(IntKind.wrap .i64 (Int.tdiv (IntKind.wrap .i64 (b'-a)) 8))),(V.nth (jX.drop 1) 0).toBool,(V.nth Oz 0).toList)
       else
        (C (E.k 12) [V.int .i64 (IntKind.wrap .i64 (((V.nth jX 0).toInt)+1)),V.int .i64 b',V.int .i64 cY,.list E.T ((V.nth (jX.drop 2) 0).toList)]).bind fun OA=>
        kn (a,(V.nth jX 0).toInt,cY,decide (((IntKind.wrap .i64 (b'-((V.nth jX 0).toInt))):Int)≥(IntKind.wrap .i64 (Int.tdiv (IntKind.wrap .i64 (b'-a)) 8))),(V.nth (jX.drop 1) 0).toBool,(V.nth OA 0).toList)
      else
       (C (E.k 4) [V.int .i64 a,V.int .i64 b',V.int .i64 fH,.list E.T wv]).bind fun mM=>
       bif decide (((IntKind.wrap .i64 (((V.nth mM 0).toInt)-a)):Int)<(IntKind.wrap .i64 (b'-((V.nth mM 0).toInt)))) then
       (C (E.k 12) [V.int .i64 a,V.int .i64 ((V.nth mM 0).toInt),V.int .i64 cY,.list E.T ((V.nth (mM.drop 2) 0).toList)]).bind fun OB=>
       kn (IntKind.wrap .i64 (((V.nth mM 0).toInt)+1),b',cY,decide (((IntKind.wrap .i64 (((V.nth mM 0).toInt)-a)):Int)≥(IntKind.wrap .i64 (Int.tdiv (IntKind.wrap .i64 (b'-a)) 8))),(V.nth (mM.drop 1) 0).toBool,(V.nth OB 0).toList)
       else
       (C (E.k 12) [V.int .i64 (IntKind.wrap .i64 (((V.nth mM 0).toInt)+1)),V.int .i64 b',V.int .i64 cY,.list E.T ((V.nth (mM.drop 2) 0).toList)]).bind fun wB=>
       kn (a,(V.nth mM 0).toInt,cY,decide (((IntKind.wrap .i64 (b'-((V.nth mM 0).toInt))):Int)≥(IntKind.wrap .i64 (Int.tdiv (IntKind.wrap .i64 (b'-a)) 8))),(V.nth (mM.drop 1) 0).toBool,(V.nth wB 0).toList)))
    else
     nC E C a b' cY fj fG (IntKind.wrap .i64 (b'-a)) fH false pD (cf (un fun (UE:Bool) (age:LV)=>
      kr age) (fun (pH:LV)=>
      bif decide ((a:Int)>0) then
      aH pH (IntKind.wrap .i64 (a-1)) fun HO=>
      aH pH fH fun On=>
      (C E.cmp (E.ex HO++E.ex On)).bind fun r43=>
      bif !(decide ((((V.nth r43 0).toInt):Int)<0)) then
       (C (E.k 5) [V.int .i64 a,V.int .i64 b',V.int .i64 fH,.list E.T pH]).bind fun VE=>
       kn ((V.nth VE 0).toInt,b',cY,fj,fG,(V.nth (VE.drop 1) 0).toList)
      else
       (C (E.k 4) [V.int .i64 a,V.int .i64 b',V.int .i64 fH,.list E.T pH]).bind fun kB=>
       bif decide (((IntKind.wrap .i64 (((V.nth kB 0).toInt)-a)):Int)<(IntKind.wrap .i64 (b'-((V.nth kB 0).toInt)))) then
       (C (E.k 12) [V.int .i64 a,V.int .i64 ((V.nth kB 0).toInt),V.int .i64 cY,.list E.T ((V.nth (kB.drop 2) 0).toList)]).bind fun OC=>
       kn (IntKind.wrap .i64 (((V.nth kB 0).toInt)+1),b',cY,decide (((IntKind.wrap .i64 (((V.nth kB 0).toInt)-a)):Int)≥(IntKind.wrap .i64 (Int.tdiv (IntKind.wrap .i64 (b'-a)) 8))),(V.nth (kB.drop 1) 0).toBool,(V.nth OC 0).toList)
       else
       (C (E.k 12) [V.int .i64 (IntKind.wrap .i64 (((V.nth kB 0).toInt)+1)),V.int .i64 b',V.int .i64 cY,.list E.T ((V.nth (kB.drop 2) 0).toList)]).bind fun OD=>
       kn (a,(V.nth kB 0).toInt,cY,decide (((IntKind.wrap .i64 (b'-((V.nth kB 0).toInt))):Int)≥(IntKind.wrap .i64 (Int.tdiv (IntKind.wrap .i64 (b'-a)) 8))),(V.nth (kB.drop 1) 0).toBool,(V.nth OD 0).toList)
      else
      (C (E.k 4) [V.int .i64 a,V.int .i64 b',V.int .i64 fH,.list E.T pH]).bind fun mN=>
      bif decide (((IntKind.wrap .i64 (((V.nth mN 0).toInt)-a)):Int)<(IntKind.wrap .i64 (b'-((V.nth mN 0).toInt)))) then
       (C (E.k 12) [V.int .i64 a,V.int .i64 ((V.nth mN 0).toInt),V.int .i64 cY,.list E.T ((V.nth (mN.drop 2) 0).toList)]).bind fun OE=>
       kn (IntKind.wrap .i64 (((V.nth mN 0).toInt)+1),b',cY,decide (((IntKind.wrap .i64 (((V.nth mN 0).toInt)-a)):Int)≥(IntKind.wrap .i64 (Int.tdiv (IntKind.wrap .i64 (b'-a)) 8))),(V.nth (mN.drop 1) 0).toBool,(V.nth OE 0).toList)
      else
       (C (E.k 12) [V.int .i64 (IntKind.wrap .i64 (((V.nth mN 0).toInt)+1)),V.int .i64 b',V.int .i64 cY,.list E.T ((V.nth (mN.drop 2) 0).toList)]).bind fun OF=>
       kn (a,(V.nth mN 0).toInt,cY,decide (((IntKind.wrap .i64 (b'-((V.nth mN 0).toInt))):Int)≥(IntKind.wrap .i64 (Int.tdiv (IntKind.wrap .i64 (b'-a)) 8))),(V.nth (mN.drop 1) 0).toBool,(V.nth OF 0).toList)))))
noncomputable def VF (E:SE) (C:ah):=un fun a=>un fun b'=>un fun iN=>un fun fj=>un fun fG ao=>qG E C a b' iN fj fG ao (fun y=>some (Sum.inl y)) (fun r=>some (Sum.inr r))
noncomputable def OG (E:SE) (C:ah) (a b' iN:Int) (ao:LV):Option LV:=
 (Loop (VF E C) (a,b',iN,true,true,ao)).bind (fun (agf:LV)=>
  some [.list E.T agf])
noncomputable def OH (E:SE) (C:ah) (xs:LV):Option LV:=
 (C Ce [.int .u64 (IntKind.wrap .u64 (xs.length:Int))]).bind fun r1=>
 (C (E.k 12) [V.int .i64 0,V.int .i64 (xs.length:Int),V.int .i64 ((V.nth r1 0).toInt),.list E.T xs]).bind fun r2=>
 some [.list E.T ((V.nth r2 0).toList)]
end Go.AM
set_option maxRecDepth 100000
namespace Go.AM
open Go.Proofs Go.Sort
class au (α:Type) where
 E:SE
 enc:α→V
 cmp:α→α→Int
 re: ∀x,V.agg (E.ex (enc x))=enc x
 cs: ∀a b,CC E.cmp (E.ex (enc a)++E.ex (enc b))=some [.int .i64 (cmp a b)]
 VG:SWO (fun a b=>decide (cmp a b<0))
 VH: ∀{a b':Int} {ao:LV} {r:Option LV},Oc E CC a b' ao=r→CC (E.k 0) [.int .i64 a,.int .i64 b',.list E.T ao]=r
 VI: ∀{lo hi first:Int} {ao:LV} {r:Option LV},Of E CC lo hi first ao=r→CC (E.k 1) [.int .i64 lo,.int .i64 hi,.int .i64 first,.list E.T ao]=r
 VJ: ∀{a b':Int} {ao:LV} {r:Option LV},Og E CC a b' ao=r→CC (E.k 2) [.int .i64 a,.int .i64 b',.list E.T ao]=r
 VK: ∀{a b':Int} {ao:LV} {r:Option LV},Oh E CC a b' ao=r→CC (E.k 3) [.int .i64 a,.int .i64 b',.list E.T ao]=r
 VL: ∀{a b' pivot:Int} {ao:LV} {r:Option LV},Ol E CC a b' pivot ao=r→CC (E.k 4) [.int .i64 a,.int .i64 b',.int .i64 pivot,.list E.T ao]=r
 VM: ∀{a b' pivot:Int} {ao:LV} {r:Option LV},Oo E CC a b' pivot ao=r→CC (E.k 5) [.int .i64 a,.int .i64 b',.int .i64 pivot,.list E.T ao]=r
 VN: ∀{a b':Int} {ao:LV} {r:Option LV},Oq E CC a b' ao=r→CC (E.k 6) [.int .i64 a,.int .i64 b',.list E.T ao]=r
 VO: ∀{a b':Int} {ao:LV} {r:Option LV},Ou E CC a b' ao=r→CC (E.k 7) [.int .i64 a,.int .i64 b',.list E.T ao]=r
 VP: ∀{data:LV} {a b' c eV:Int} {r:Option LV},Ov E CC data a b' c eV=r→CC (E.k 8) [.list E.T data,.int .i64 a,.int .i64 b',.int .i64 c,.int .i64 eV]=r
 VQ: ∀{data:LV} {a eV:Int} {r:Option LV},Ow E CC data a eV=r→CC (E.k 9) [.list E.T data,.int .i64 a,.int .i64 eV]=r
 OI: ∀{data:LV} {a b' eV:Int} {r:Option LV},HS E CC data a b' eV=r→CC (E.k 10) [.list E.T data,.int .i64 a,.int .i64 b',.int .i64 eV]=r
 OJ: ∀{data:LV} {a b':Int} {r:Option LV},HT E CC data a b'=r→CC (E.k 11) [.list E.T data,.int .i64 a,.int .i64 b']=r
 VR: ∀{a b' iN:Int} {ao:LV} {r:Option LV},OG E CC a b' iN ao=r→CC (E.k 12) [.int .i64 a,.int .i64 b',.int .i64 iN,.list E.T ao]=r
 VT: ∀{xs:LV} {r:Option LV},OH E CC xs=r→CC (E.k 13) [.list E.T xs]=r
end Go.AM
set_option maxRecDepth 100000
set_option maxHeartbeats 4000000
namespace Go.AM
open Go.Proofs Go.Sort
variable {α:Type} [au α]
def aB (a b:α):Bool:=decide (au.cmp a b<0)
theorem tW (a b:α):(aB a b=true)=(au.cmp a b<0):=by unfold aB;rw[ej]
theorem sf (a b:α):((!aB a b)=true)= ¬(au.cmp a b<0):=by unfold aB;simp
abbrev eA (d:Array α):List V:=qF au.enc d
theorem HU {β:Type} {d:Array α} {i:Nat} {k:Int} {v:V} {x:Option β} (h:i<d.size:=by omega):aH (ba (eA d) k v) (i:Int) (fun _=>x)=x:=by
 unfold aH ba;rw[mT,gP,dk,aA,bf,aA,bf,Int.toNat_natCast,bA (by rw[mT,gP];exact h)];rfl
variable [Inhabited α]
theorem agh (a j:Nat) (d:Array α):insInner aB a (j+1) d=if j+1>a then (if au.cmp d[j+1]! d[j]! <0 then insInner aB a j (swp d (j+1) j) else d) else d:=by
 rw[Vz]
 by_cases h1:j+1>a
 ·rw[aj h1];simp only[h1,sB,mU,tW]
 ·rw[an h1,an (by simp[h1])]
theorem OK (hi first root:Nat) (d:Array α):siftDown aB hi first root d=
  if 2*root+1≥hi then d else
   if 2*root+2<hi then
    (if au.cmp d[first+(2*root+1)]! d[first+(2*root+2)]! <0 then
     (if au.cmp d[first+root]! d[first+(2*root+2)]! <0 then siftDown aB hi first (2*root+2) (swp d (first+root) (first+(2*root+2))) else d)
    else (if au.cmp d[first+root]! d[first+(2*root+1)]! <0 then siftDown aB hi first (2*root+1) (swp d (first+root) (first+(2*root+1))) else d))
   else (if au.cmp d[first+root]! d[first+(2*root+1)]! <0 then siftDown aB hi first (2*root+1) (swp d (first+root) (first+(2*root+1))) else d):=by
 rw[siftDown]
 by_cases h1:2*root+1≥hi
 ·rw[sA h1,aj h1]
 rw[dif_neg h1,an h1]
 by_cases U:2*root+2<hi
 ·rw[aj U]
  by_cases h3:au.cmp d[first+(2*root+1)]! d[first+(2*root+2)]! <0
  ·rw[aj h3,aj (by simp only[aO,ej,tW];exact ⟨U,h3⟩)]
   simp only[sf]
   by_cases h4:au.cmp d[first+root]! d[first+(2*root+2)]! <0
   ·rw[an (qU h4),sA U,aj h4]
   ·rw[aj h4,an h4]
  ·rw[an h3,an (by simp only[aO,ej,tW];exact fun h=>h3 h.2)]
   simp only[sf]
   by_cases h4:au.cmp d[first+root]! d[first+(2*root+1)]! <0
   ·rw[an (qU h4),aj h4]
   ·rw[aj h4,an h4]
 ·rw[an U,an (by simp only[aO,ej,tW];exact fun h=>U h.1)]
  simp only[sf]
  by_cases h4:au.cmp d[first+root]! d[first+(2*root+1)]! <0
  ·rw[an (qU h4),aj h4]
  ·rw[aj h4,an h4]
theorem VU {a b i:Nat}: ∀(j:Nat) (d:Array α),j<d.size→d.size<1152921504606846976→
  ∃j' t,Loop (zh (au.E α) CC a b i) ((j:Int),eA d)=some (j',t,eA (insInner aB a j d))
 | 0,d,hj,hs=>⟨(0:Nat),false,aV (by
   simp (disch:=omega) only[zh,zg,un,aA,an]
   rfl)⟩
 | j+1,d,hj,hs=>by
  obtain ⟨j',t,ih⟩:=VU (a:=a) (b:=b) (i:=i) j (swp d (j+1) j) (by rw[size_swp];omega) (by rw[size_swp];omega)
  rw[agh]
  by_cases h1:j+1>a
  ·rw[aj h1]
   have e:zh (au.E α) CC a b i (((j+1:Nat):Int),eA d)=if au.cmp d[j+1]! d[j]! <0 then some (.inl ((j:Int),eA (swp d (j+1) j))) else some (.inr (((j+1:Nat):Int),decide (au.cmp d[j+1]! d[j]! <0),eA d)):=by
    simp (disch:=omega) only[zh,zg,un,aA,dk,iJ,aj,an,wrap64,eh,gu,Int.toNat_natCast,Option.bind_some,gP,gQ,au.re,gr,jc,il,au.cs,V.aQ,V.toInt_int,cond_true,cond_false,wm]
    rfl
   by_cases U:au.cmp d[j+1]! d[j]! <0
   ·rw[aj U] at e⊢
    exact ⟨j',t,(bQ e).trans ih⟩
   ·rw[an U] at e⊢
    exact ⟨_,_,aV e⟩
  ·rw[an h1]
   exact ⟨((j+1:Nat):Int),false,aV (by
    simp (disch:=omega) only[zh,zg,un,aA,an])⟩
theorem agi {a b:Nat}: ∀(n i:Nat) (d:Array α),b-i=n→b≤d.size→d.size<1152921504606846976→
  ∃j' t,Loop (HL (au.E α) CC a b) ((i:Int),eA d)=some (j',t,eA (insOuter aB a b i d)):=by
 intro n
 induction n with
 | zero=>
  intro i d hn hb hs
  rw[insOuter,aM]
  exact ⟨(i:Int),false,aV (by
   simp (disch:=omega) only[HL,CJ,un,tR,cond_false])⟩
 | succ n ih=>
  intro i d hn hb hs
  obtain ⟨j1,t1,h1⟩:=VU (a:=a) (b:=b) (i:=i) i d (by omega) hs
  obtain ⟨j',t,U⟩:=ih (i+1) (insInner aB a i d) (by omega) (by rw[Oa];omega) (by rw[Oa];omega)
  rw[insOuter,bf]
  refine ⟨j',t,(bQ ?_).trans U⟩
  simp (disch:=omega) only[HL,CJ,un,aA,aj,h1,Option.bind_some,eh,wrap64]
theorem VV {a b:Nat} {d:Array α} (hb:b≤d.size) (hs:d.size<1152921504606846976) (ha:a<1152921504606846976):
  CC ((au.E α).k 0) [.int .i64 (a:Int),.int .i64 (b:Int),.list (au.E α).T (eA d)]=some [.list (au.E α).T (eA (insertionSort aB d a b))]:=by
 refine au.VH ?_
 unfold Oc
 obtain ⟨j',t,h⟩:=agi (a:=a) (b:=b) _ (a+1) d rfl hb hs
 simp (disch:=omega) only[eh,wrap64]
 rw[h]
 rfl
theorem agj (hi first:Nat): ∀(n root:Nat) (d:Array α),hi-root≤n→root<1152921504606846976→first+hi≤d.size→d.size<1152921504606846976→
  (∃x y z,Loop (pF (au.E α) CC hi first) ((root:Int),eA d)=some (.inl (x,y,z,eA (siftDown aB hi first root d))))∨
  (∃x y z,Loop (pF (au.E α) CC hi first) ((root:Int),eA d)=some (.inr (x,y,z,eA (siftDown aB hi first root d)))):=by
 intro n
 induction n with
 | zero=>
  intro root d hn hr hb hs
  rw[OK,bf]
  exact .inl ⟨(root:Int),((root*2+1:Nat):Int),true,aV (by
   simp (disch:=omega) only[pF,tS,un,CH,eh,wrap64];rw[oA (by omega)];rfl)⟩
 | succ n ih=>
  intro root d hn hr hb hs
  by_cases h1:2*root+1≥hi
  ·rw[OK,aj h1]
   exact .inl ⟨(root:Int),((root*2+1:Nat):Int),true,aV (by
    simp (disch:=omega) only[pF,tS,un,CH,eh,wrap64];rw[oA (by omega)];rfl)⟩
  ·have go: ∀c:Nat,c<hi→root<c→(pF (au.E α) CC hi first ((root:Int),eA d)=
      if au.cmp d[first+root]! d[first+c]! <0 then some (.inl ((c:Int),eA (swp d (first+root) (first+c)))) else some (.inr (.inr ((root:Int),(c:Int),true,eA d))))→
     siftDown aB hi first root d=(if au.cmp d[first+root]! d[first+c]! <0 then siftDown aB hi first c (swp d (first+root) (first+c)) else d)→
     ((∃x y z,Loop (pF (au.E α) CC hi first) ((root:Int),eA d)=some (.inl (x,y,z,eA (siftDown aB hi first root d))))∨
     (∃x y z,Loop (pF (au.E α) CC hi first) ((root:Int),eA d)=some (.inr (x,y,z,eA (siftDown aB hi first root d))))):=by
    intro c hc hrc e1 e2
    rw[e2]
    by_cases h3:au.cmp d[first+root]! d[first+c]! <0
    ·rw[aj h3] at e1
     rw[aj h3,bQ e1]
     exact ih c _ (by omega) (by omega) (by rw[size_swp];omega) (by rw[size_swp];omega)
    ·rw[an h3] at e1
     rw[an h3,aV e1]
     exact .inr ⟨_,_,_,rfl⟩
   have e0:=OK hi first root d
   rw[an h1] at e0
   by_cases U:2*root+2<hi
   ·rw[aj U] at e0
    by_cases h3:au.cmp d[first+(2*root+1)]! d[first+(2*root+2)]! <0
    ·rw[aj h3] at e0
     refine go (2*root+2) (by omega) (by omega) ?_ e0
     rw[oO 2 root] at h3
     simp (disch:=omega) only[pF,tS,un,CH,eh,gu,wrap64]
     rw[aA,aM,aA,bf]
     simp (disch:=omega) only[wo,aA,dk,iJ,aj,an,wrap64,eh,gu,Int.toNat_natCast,Option.bind_some,gP,gQ,au.re,gr,jc,il,au.cs,V.aQ,V.toInt_int,cond_true,cond_false,oO 2 root,oA]
     by_cases h4:au.cmp d[first+root]! d[first+(root*2+2)]! <0
     ·simp only[h4,c6];rfl
     ·simp only[h4,fW];rfl
    ·rw[an h3] at e0
     refine go (2*root+1) (by omega) (by omega) ?_ e0
     rw[oO 2 root] at h3
     simp (disch:=omega) only[pF,tS,un,CH,eh,gu,wrap64]
     rw[aA,aM,aA,bf]
     simp (disch:=omega) only[wo,aA,dk,iJ,aj,an,wrap64,eh,gu,Int.toNat_natCast,Option.bind_some,gP,gQ,au.re,gr,jc,il,au.cs,V.aQ,V.toInt_int,cond_true,cond_false,oO 2 root,tR]
     by_cases h4:au.cmp d[first+root]! d[first+(root*2+1)]! <0
     ·simp only[h4,c6];rfl
     ·simp only[h4,fW];rfl
   ·rw[an U] at e0
    refine go (2*root+1) (by omega) (by omega) ?_ e0
    simp (disch:=omega) only[pF,tS,un,CH,eh,gu,wrap64]
    rw[aA,aM,aA,aM]
    simp (disch:=omega) only[wo,aA,dk,iJ,aj,an,wrap64,eh,gu,Int.toNat_natCast,Option.bind_some,gP,gQ,au.re,gr,jc,il,au.cs,V.aQ,V.toInt_int,cond_true,cond_false,oO 2 root]
    by_cases h4:au.cmp d[first+root]! d[first+(root*2+1)]! <0
    ·simp only[h4,c6];rfl
    ·simp only[h4,fW];rfl
theorem VW {lo hi first:Nat} {d:Array α} (hl:lo<1152921504606846976) (hb:first+hi≤d.size) (hs:d.size<1152921504606846976):
  CC ((au.E α).k 1) [.int .i64 (lo:Int),.int .i64 (hi:Int),.int .i64 (first:Int),.list (au.E α).T (eA d)]=some [.list (au.E α).T (eA (siftDown aB hi first lo d))]:=by
 refine au.VI ?_
 unfold Of
 rcases agj hi first _ lo d (cl _) hl hb hs with ⟨x,y,z,h⟩|⟨x,y,z,h⟩
 ·rw[h];rfl
 ·rw[h];rfl
theorem VX {hi first:Nat}: ∀(k:Nat) (d:Array α),k<1152921504606846976→first+hi≤d.size→d.size<1152921504606846976→
  ∃x y,Loop (HM (au.E α) CC first 0 hi) ((k:Int)-1,eA d)=some (x,y,eA (heapBuild aB hi first k d))
 | 0,d,hk,hb,hs=>⟨-1,false,aV (by
   simp (disch:=omega) only[HM,CK,un,aA,an]
   rfl)⟩
 | k+1,d,hk,hb,hs=>by
  obtain ⟨x,y,ih⟩:=VX (hi:=hi) (first:=first) k (siftDown aB hi first k d) (by omega) (by rw[CI _ _ _ _ _ (cl _)];omega) (by rw[CI _ _ _ _ _ (cl _)];omega)
  refine ⟨x,y,(bQ ?_).trans ih⟩
  simp (disch:=omega) only[HM,CK,un,aA,aj,wm,VW,Option.bind_some,V.aQ,V.kZ,wrap64]
theorem VY {first:Nat}: ∀(k:Nat) (d:Array α),k<1152921504606846976→first+k≤d.size→d.size<1152921504606846976→
  ∃x y,Loop (HN (au.E α) CC first 0) ((k:Int)-1,eA d)=some (x,y,eA (heapPop aB first k d))
 | 0,d,hk,hb,hs=>⟨-1,false,aV (by
   simp (disch:=omega) only[HN,CL,un,aA,an]
   rfl)⟩
 | k+1,d,hk,hb,hs=>by
  obtain ⟨x,y,ih⟩:=VY (first:=first) k (siftDown aB k first 0 (swp d first (first+k))) (by omega) (by rw[CI _ _ _ _ _ (cl _),size_swp];omega) (by rw[CI _ _ _ _ _ (cl _),size_swp];omega)
  refine ⟨x,y,(bQ ?_).trans ih⟩
  have iG:=VW (lo:=0) (hi:=k) (first:=first) (d:=swp d first (first+k)) (by omega) (by rw[size_swp];omega) (by rw[size_swp];omega)
  unfold swp at iG⊢
  rw[show ((0:Nat):Int)=0 from rfl] at iG
  simp (disch:=omega) only[HN,CL,un,wm,aA,dk,iJ,aj,an,wrap64,eh,gu,Int.toNat_natCast,Option.bind_some,gP,gQ,au.re,gr,jc,il,au.cs,V.aQ,V.toInt_int,cond_true,cond_false]
  rw[iG]
  simp (disch:=omega) only[Option.bind_some,V.aQ,V.kZ,wrap64]
theorem agk {a b:Nat} {d:Array α} (fN:a<b) (hb:b≤d.size) (hs:d.size<1152921504606846976):
  CC ((au.E α).k 2) [.int .i64 (a:Int),.int .i64 (b:Int),.list (au.E α).T (eA d)]=some [.list (au.E α).T (eA (heapSort aB d a b))]:=by
 refine au.VJ ?_
 unfold Og
 obtain ⟨x,y,h1⟩:=VX (hi:=b-a) (first:=a) ((b-a-1)/2+1) d (by omega) (by omega) hs
 obtain ⟨x2,y2,U⟩:=VY (first:=a) (b-a) (heapBuild aB (b-a) a ((b-a-1)/2+1) d) (by omega) (by rw[Ob];omega) (by rw[Ob];omega)
 have e1:((((b-a-1)/2+1:Nat):Int)-1)=Int.tdiv (((b-a:Nat):Int)-1) 2:=by
  rw[Int.tdiv_eq_ediv_of_nonneg (by omega)]
  omega
 rw[e1] at h1
 simp (disch:=omega) only[nB,wrap64]
 rw[h1]
 simp only[Option.bind_some,un]
 rw[U]
 rfl
theorem agl: ∀(n i j:Nat) (d:Array α),j-i≤n→j<d.size→d.size<1152921504606846976→
  ∃x y z,Loop (CM (au.E α) CC) ((i:Int),(j:Int),eA d)=some (x,y,z,eA (reverseLoop i j d)):=by
 intro n
 induction n with
 | zero=>
  intro i j d hn hj hs
  rw[reverseLoop,aM]
  exact ⟨(i:Int),(j:Int),false,aV (by
   simp (disch:=omega) only[CM,zk,un,tR,cond_false])⟩
 | succ n ih=>
  intro i j d hn hj hs
  rw[reverseLoop]
  by_cases h:i<j
  ·rw[aj h]
   obtain ⟨x,y,z,U⟩:=ih (i+1) (j-1) (swp d i j) (by omega) (by rw[size_swp];omega) (by rw[size_swp];omega)
   refine ⟨x,y,z,(bQ ?_).trans U⟩
   simp (disch:=omega) only[CM,zk,un,aA,dk,iJ,aj,an,wrap64,eh,gu,Int.toNat_natCast,Option.bind_some,gP,gQ,au.re,gr,jc,il,au.cs,V.aQ,V.toInt_int,cond_true,cond_false,lh]
   rfl
  ·rw[an h]
   exact ⟨(i:Int),(j:Int),false,aV (by
    simp (disch:=omega) only[CM,zk,un,tR,cond_false])⟩
theorem agm {a b:Nat} {d:Array α} (fN:a<b) (hb:b≤d.size) (hs:d.size<1152921504606846976):
  CC ((au.E α).k 3) [.int .i64 (a:Int),.int .i64 (b:Int),.list (au.E α).T (eA d)]=some [.list (au.E α).T (eA (reverseRange d a b))]:=by
 refine au.VK ?_
 unfold Oh
 obtain ⟨x,y,z,h⟩:=agl _ a (b-1) d (cl _) (by omega) hs
 simp (disch:=omega) only[lh,wrap64]
 rw[h]
 rfl
variable {α:Type} [Inhabited α] [au α]
theorem HV (d:Array α) (b i:Nat):scanSorted aB d b i=if i<b then (if au.cmp d[i]! d[i-1]! <0 then i else scanSorted aB d b (i+1)) else i:=by
 conv=>lhs;rw[scanSorted]
 by_cases h:i<b
 ·rw[aj h];simp only[h,sB,mU,sf]
  by_cases U:au.cmp d[i]! d[i-1]! <0
  ·rw[an (qU U),aj U]
  ·rw[aj U,an U]
 ·rw[an h,an (by simp[h])]
theorem VZ (j:Nat) (d:Array α):shiftDown aB (j+1) d=if au.cmp d[j+1]! d[j]! <0 then shiftDown aB j (swp d (j+1) j) else d:=by
 conv=>lhs;rw[shiftDown]
 simp only[sf]
 by_cases U:au.cmp d[j+1]! d[j]! <0
 ·rw[an (qU U),aj U]
 ·rw[aj U,an U]
theorem HW (b j:Nat) (d:Array α):shiftUp aB b j d=if j<b then (if au.cmp d[j]! d[j-1]! <0 then shiftUp aB b (j+1) (swp d j (j-1)) else d) else d:=by
 conv=>lhs;rw[shiftUp]
 simp only[sf]
 by_cases h:j<b
 ·rw[aj h,aj h]
  by_cases U:au.cmp d[j]! d[j-1]! <0
  ·rw[an (qU U),aj U]
  ·rw[aj U,an U]
 ·rw[an h,an h]
theorem agn {a:Nat}: ∀(n i j:Nat) (d:Array α),j+1-i≤n→(partLoop aB a i j d).2.size=d.size∧(partLoop aB a i j d).1≤j:=by
 intro n
 induction n with
 | zero=>
  intro i j d hn
  have h1:=scanUp_ge (fun x=>aB x d[a]!) d j i
  have U:=scanDown_le (fun x=> !aB x d[a]!) d (scanUp (fun x=>aB x d[a]!) d j i) j
  rw[partLoop_eq,bf]
  exact ⟨rfl,U⟩
 | succ n ih=>
  intro i j d hn
  rw[partLoop_eq]
  have h1:=scanUp_ge (fun x=>aB x d[a]!) d j i
  have U:=scanDown_le (fun x=> !aB x d[a]!) d (scanUp (fun x=>aB x d[a]!) d j i) j
  split
  ·exact ⟨rfl,U⟩
  ·obtain ⟨h3,h4⟩:=ih (scanUp (fun x=>aB x d[a]!) d j i+1) (scanDown (fun x=> !aB x d[a]!) d (scanUp (fun x=>aB x d[a]!) d j i) j-1) (swp d (scanUp (fun x=>aB x d[a]!) d j i) (scanDown (fun x=> !aB x d[a]!) d (scanUp (fun x=>aB x d[a]!) d j i) j)) (by omega)
   exact ⟨by rw[h3,size_swp],by omega⟩
theorem lj {β:Type} {d:Array α} {i:Nat} {f:V→Option β} (h:i<d.size:=by omega):aH (eA d) (i:Int) f=f (au.enc (d[i]!)):=by
 unfold aH;rw[gP,dk,aA,bf,aA,bf,Int.toNat_natCast,gQ h];rfl
theorem ago {a j:Nat} {d:Array α} (ha:a<d.size) (hj:j<d.size) (hs:d.size<1152921504606846976): ∀(n i:Nat),j+1-i=n→i≤d.size→
  ∃t,Loop (CO (au.E α) CC a j (eA d)) (i:Int)=some (((scanUp (fun x=>aB x d[a]!) d j i:Nat):Int),t):=by
 intro n
 induction n with
 | zero=>
  intro i hn hi
  rw[zf,aM]
  exact ⟨false,aV (by simp (disch:=omega) only[CO,CN,aA,an])⟩
 | succ n ih=>
  intro i hn hi
  obtain ⟨t,h⟩:=ih (i+1) (by omega) (by omega)
  rw[zf,bf]
  have e:CO (au.E α) CC a j (eA d) (i:Int)=if au.cmp d[i]! d[a]! <0 then some (.inl ((i+1:Nat):Int)) else some (.inr ((i:Int),decide (au.cmp d[i]! d[a]! <0))):=by
   simp (disch:=omega) only[CO,CN,aA,dk,iJ,aj,an,wrap64,eh,gu,Int.toNat_natCast,Option.bind_some,gP,gQ,au.re,gr,jc,il,au.cs,V.aQ,V.toInt_int,cond_true,cond_false]
  simp only[tW]
  by_cases U:au.cmp d[i]! d[a]! <0
  ·rw[aj U] at e
   rw[aj U]
   exact ⟨t,(bQ e).trans h⟩
  ·rw[an U] at e
   rw[an U]
   exact ⟨_,aV e⟩
theorem V0 {a j:Nat} {d:Array α} (ha:a<d.size) (hj:j<d.size) (hs:d.size<1152921504606846976): ∀(n i:Nat),j+1-i=n→i≤d.size→
  ∃t,Loop (CR (au.E α) CC a j (eA d)) (i:Int)=some (((scanUp (fun x=>aB x d[a]!) d j i:Nat):Int),t):=by
 intro n
 induction n with
 | zero=>
  intro i hn hi
  rw[zf,aM]
  exact ⟨false,aV (by simp (disch:=omega) only[CR,CP,aA,an])⟩
 | succ n ih=>
  intro i hn hi
  obtain ⟨t,h⟩:=ih (i+1) (by omega) (by omega)
  rw[zf,bf]
  have e:CR (au.E α) CC a j (eA d) (i:Int)=if au.cmp d[i]! d[a]! <0 then some (.inl ((i+1:Nat):Int)) else some (.inr ((i:Int),decide (au.cmp d[i]! d[a]! <0))):=by
   simp (disch:=omega) only[CR,CP,aA,dk,iJ,aj,an,wrap64,eh,gu,Int.toNat_natCast,Option.bind_some,gP,gQ,au.re,gr,jc,il,au.cs,V.aQ,V.toInt_int,cond_true,cond_false]
  simp only[tW]
  by_cases U:au.cmp d[i]! d[a]! <0
  ·rw[aj U] at e
   rw[aj U]
   exact ⟨t,(bQ e).trans h⟩
  ·rw[an U] at e
   rw[an U]
   exact ⟨_,aV e⟩
theorem V1 {a i:Nat} {d:Array α} (ha:a<d.size) (hi:1≤i) (hs:d.size<1152921504606846976): ∀(j:Nat),j<d.size→
  ∃t,Loop (zm (au.E α) CC a i (eA d)) (j:Int)=some (((scanDown (fun x=> !aB x d[a]!) d i j:Nat):Int),t)
 | 0,hj=>⟨false,aV (by simp (disch:=omega) only[zm,zl,aA,an];rfl)⟩
 | j+1,hj=>by
  obtain ⟨t,h⟩:=V1 ha hi hs j (by omega)
  rw[N9]
  by_cases h1:i≤j+1
  ·rw[aj h1]
   have e:zm (au.E α) CC a i (eA d) ((j+1:Nat):Int)=if au.cmp d[j+1]! d[a]! <0 then some (.inr (((j+1:Nat):Int),!decide (au.cmp d[j+1]! d[a]! <0))) else some (.inl (j:Int)):=by
    simp (disch:=omega) only[zm,zl,aA,dk,iJ,aj,an,wrap64,eh,gu,Int.toNat_natCast,Option.bind_some,gP,gQ,au.re,gr,jc,il,au.cs,V.aQ,V.toInt_int,cond_true,cond_false,wm]
   simp only[sf]
   by_cases U:au.cmp d[j+1]! d[a]! <0
   ·rw[aj U] at e
    rw[an (qU U)]
    exact ⟨_,aV e⟩
   ·rw[an U] at e
    rw[aj U]
    exact ⟨t,(bQ e).trans h⟩
  ·rw[an h1]
   exact ⟨false,aV (by simp (disch:=omega) only[zm,zl,aA,an])⟩
theorem OL {a i:Nat} {d:Array α} (ha:a<d.size) (hi:1≤i) (hs:d.size<1152921504606846976): ∀(j:Nat),j<d.size→
  ∃t,Loop (zo (au.E α) CC a i (eA d)) (j:Int)=some (((scanDown (fun x=> !aB x d[a]!) d i j:Nat):Int),t)
 | 0,hj=>⟨false,aV (by simp (disch:=omega) only[zo,zn,aA,an];rfl)⟩
 | j+1,hj=>by
  obtain ⟨t,h⟩:=OL ha hi hs j (by omega)
  rw[N9]
  by_cases h1:i≤j+1
  ·rw[aj h1]
   have e:zo (au.E α) CC a i (eA d) ((j+1:Nat):Int)=if au.cmp d[j+1]! d[a]! <0 then some (.inr (((j+1:Nat):Int),!decide (au.cmp d[j+1]! d[a]! <0))) else some (.inl (j:Int)):=by
    simp (disch:=omega) only[zo,zn,aA,dk,iJ,aj,an,wrap64,eh,gu,Int.toNat_natCast,Option.bind_some,gP,gQ,au.re,gr,jc,il,au.cs,V.aQ,V.toInt_int,cond_true,cond_false,wm]
   simp only[sf]
   by_cases U:au.cmp d[j+1]! d[a]! <0
   ·rw[aj U] at e
    rw[an (qU U)]
    exact ⟨_,aV e⟩
   ·rw[an U] at e
    rw[aj U]
    exact ⟨t,(bQ e).trans h⟩
  ·rw[an h1]
   exact ⟨false,aV (by simp (disch:=omega) only[zo,zn,aA,an])⟩
theorem V2 {a j:Nat} {d:Array α} (ha:a<d.size) (hj:j<d.size) (hs:d.size<1152921504606846976): ∀(n i:Nat),j+1-i=n→i≤d.size→
  ∃t,Loop (CV (au.E α) CC a j (eA d)) (i:Int)=some (((scanUp (fun x=> !aB d[a]! x) d j i:Nat):Int),t):=by
 intro n
 induction n with
 | zero=>
  intro i hn hi
  rw[zf,aM]
  exact ⟨false,aV (by simp (disch:=omega) only[CV,CU,aA,an])⟩
 | succ n ih=>
  intro i hn hi
  obtain ⟨t,h⟩:=ih (i+1) (by omega) (by omega)
  rw[zf,bf]
  have e:CV (au.E α) CC a j (eA d) (i:Int)=if au.cmp d[a]! d[i]! <0 then some (.inr ((i:Int),!decide (au.cmp d[a]! d[i]! <0))) else some (.inl ((i+1:Nat):Int)):=by
   simp (disch:=omega) only[CV,CU,aA,dk,iJ,aj,an,wrap64,eh,gu,Int.toNat_natCast,Option.bind_some,gP,gQ,au.re,gr,jc,il,au.cs,V.aQ,V.toInt_int,cond_true,cond_false]
  simp only[sf]
  by_cases U:au.cmp d[a]! d[i]! <0
  ·rw[aj U] at e
   rw[an (qU U)]
   exact ⟨_,aV e⟩
  ·rw[an U] at e
   rw[aj U]
   exact ⟨t,(bQ e).trans h⟩
theorem OM {a i:Nat} {d:Array α} (ha:a<d.size) (hi:1≤i) (hs:d.size<1152921504606846976): ∀(j:Nat),j<d.size→
  ∃t,Loop (zr (au.E α) CC a i (eA d)) (j:Int)=some (((scanDown (fun x=>aB d[a]! x) d i j:Nat):Int),t)
 | 0,hj=>⟨false,aV (by simp (disch:=omega) only[zr,zq,aA,an];rfl)⟩
 | j+1,hj=>by
  obtain ⟨t,h⟩:=OM ha hi hs j (by omega)
  rw[N9]
  by_cases h1:i≤j+1
  ·rw[aj h1]
   have e:zr (au.E α) CC a i (eA d) ((j+1:Nat):Int)=if au.cmp d[a]! d[j+1]! <0 then some (.inl (j:Int)) else some (.inr (((j+1:Nat):Int),decide (au.cmp d[a]! d[j+1]! <0))):=by
    simp (disch:=omega) only[zr,zq,aA,dk,iJ,aj,an,wrap64,eh,gu,Int.toNat_natCast,Option.bind_some,gP,gQ,au.re,gr,jc,il,au.cs,V.aQ,V.toInt_int,cond_true,cond_false,wm]
   simp only[tW]
   by_cases U:au.cmp d[a]! d[j+1]! <0
   ·rw[aj U] at e
    rw[aj U]
    exact ⟨t,(bQ e).trans h⟩
   ·rw[an U] at e
    rw[an U]
    exact ⟨_,aV e⟩
  ·rw[an h1]
   exact ⟨false,aV (by simp (disch:=omega) only[zr,zq,aA,an])⟩
theorem agp {a:Nat}: ∀(n i j:Nat) (d:Array α),j+1-i≤n→1≤i→i≤d.size→a<d.size→j<d.size→d.size<1152921504606846976→
  ∃x z,Loop (zp (au.E α) CC a) ((i:Int),(j:Int),eA d)=some (x,(((partLoop aB a i j d).1:Nat):Int),z,eA (partLoop aB a i j d).2):=by
 intro n
 induction n with
 | zero=>
  intro i j d hn h1 U ha hj hs
  obtain ⟨t3,e3⟩:=V0 (a:=a) ha hj hs _ i rfl U
  have g1:=scanUp_ge (fun x=>aB x d[a]!) d j i
  have g2:=scanDown_le (fun x=> !aB x d[a]!) d (scanUp (fun x=>aB x d[a]!) d j i) j
  obtain ⟨t4,e4⟩:=OL (a:=a) (i:=scanUp (fun x=>aB x d[a]!) d j i) ha (by omega) hs j hj
  rw[partLoop_eq,bf]
  refine ⟨((scanUp (fun x=>aB x d[a]!) d j i:Nat):Int),true,aV ?_⟩
  simp only[zp,CS,un]
  rw[e3]
  simp only[Option.bind_some,un]
  rw[e4]
  simp (disch:=omega) only[Option.bind_some,un,oA,cond_true]
 | succ n ih=>
  intro i j d hn h1 U ha hj hs
  obtain ⟨t3,e3⟩:=V0 (a:=a) ha hj hs _ i rfl U
  have g1:=scanUp_ge (fun x=>aB x d[a]!) d j i
  have g2:=scanDown_le (fun x=> !aB x d[a]!) d (scanUp (fun x=>aB x d[a]!) d j i) j
  obtain ⟨t4,e4⟩:=OL (a:=a) (i:=scanUp (fun x=>aB x d[a]!) d j i) ha (by omega) hs j hj
  rw[partLoop_eq]
  have f:zp (au.E α) CC a ((i:Int),(j:Int),eA d)=zp (au.E α) CC a ((i:Int),(j:Int),eA d):=rfl
  conv at f=>rhs;simp only[zp,CS,un];rw[e3];simp only[Option.bind_some,un];rw[e4];simp only[Option.bind_some,un]
  generalize iF:scanUp (fun x=>aB x d[a]!) d j i=i2 at*
  generalize gG:scanDown (fun x=> !aB x d[a]!) d i2 j=j2 at*
  by_cases h:i2>j2
  ·rw[aj h]
   refine ⟨(i2:Int),true,aV (f.trans ?_)⟩
   simp (disch:=omega) only[Option.bind_some,oA,cond_true]
  ·rw[an h]
   obtain ⟨x,z,e⟩:=ih (i2+1) (j2-1) (swp d i2 j2) (by omega) (by omega) (by rw[size_swp];omega) (by rw[size_swp];omega) (by rw[size_swp];omega) (by rw[size_swp];omega)
   refine ⟨x,z,(bQ (f.trans ?_)).trans e⟩
   simp (disch:=omega) only[aA,dk,iJ,aj,an,wrap64,eh,gu,Int.toNat_natCast,Option.bind_some,gP,gQ,au.re,gr,jc,il,au.cs,V.aQ,V.toInt_int,cond_true,cond_false,lh]
   rfl
theorem agq (d:Array α) (a b pivot:Nat):partition aB d a b pivot=
  if scanUp (fun x=>aB x (swp d a pivot)[a]!) (swp d a pivot) (b-1) (a+1)>scanDown (fun x=> !aB x (swp d a pivot)[a]!) (swp d a pivot) (scanUp (fun x=>aB x (swp d a pivot)[a]!) (swp d a pivot) (b-1) (a+1)) (b-1) then
   (scanDown (fun x=> !aB x (swp d a pivot)[a]!) (swp d a pivot) (scanUp (fun x=>aB x (swp d a pivot)[a]!) (swp d a pivot) (b-1) (a+1)) (b-1),true,swp (swp d a pivot) (scanDown (fun x=> !aB x (swp d a pivot)[a]!) (swp d a pivot) (scanUp (fun x=>aB x (swp d a pivot)[a]!) (swp d a pivot) (b-1) (a+1)) (b-1)) a)
  else
   ((partLoop aB a (scanUp (fun x=>aB x (swp d a pivot)[a]!) (swp d a pivot) (b-1) (a+1)+1) (scanDown (fun x=> !aB x (swp d a pivot)[a]!) (swp d a pivot) (scanUp (fun x=>aB x (swp d a pivot)[a]!) (swp d a pivot) (b-1) (a+1)) (b-1)-1) (swp (swp d a pivot) (scanUp (fun x=>aB x (swp d a pivot)[a]!) (swp d a pivot) (b-1) (a+1)) (scanDown (fun x=> !aB x (swp d a pivot)[a]!) (swp d a pivot) (scanUp (fun x=>aB x (swp d a pivot)[a]!) (swp d a pivot) (b-1) (a+1)) (b-1)))).1,false,
    swp (partLoop aB a (scanUp (fun x=>aB x (swp d a pivot)[a]!) (swp d a pivot) (b-1) (a+1)+1) (scanDown (fun x=> !aB x (swp d a pivot)[a]!) (swp d a pivot) (scanUp (fun x=>aB x (swp d a pivot)[a]!) (swp d a pivot) (b-1) (a+1)) (b-1)-1) (swp (swp d a pivot) (scanUp (fun x=>aB x (swp d a pivot)[a]!) (swp d a pivot) (b-1) (a+1)) (scanDown (fun x=> !aB x (swp d a pivot)[a]!) (swp d a pivot) (scanUp (fun x=>aB x (swp d a pivot)[a]!) (swp d a pivot) (b-1) (a+1)) (b-1)))).2
    (partLoop aB a (scanUp (fun x=>aB x (swp d a pivot)[a]!) (swp d a pivot) (b-1) (a+1)+1) (scanDown (fun x=> !aB x (swp d a pivot)[a]!) (swp d a pivot) (scanUp (fun x=>aB x (swp d a pivot)[a]!) (swp d a pivot) (b-1) (a+1)) (b-1)-1) (swp (swp d a pivot) (scanUp (fun x=>aB x (swp d a pivot)[a]!) (swp d a pivot) (b-1) (a+1)) (scanDown (fun x=> !aB x (swp d a pivot)[a]!) (swp d a pivot) (scanUp (fun x=>aB x (swp d a pivot)[a]!) (swp d a pivot) (b-1) (a+1)) (b-1)))).1 a):=rfl
theorem zy (d:Array α) (i j:Nat):eA ((d.setIfInBounds i d[j]!).setIfInBounds j d[i]!)=eA (swp d i j):=rfl
theorem agr {a b pivot:Nat} {d:Array α} (hp:pivot<b) (fN:a<b) (hb:b≤d.size) (hs:d.size<1152921504606846976):
  CC ((au.E α).k 4) [.int .i64 (a:Int),.int .i64 (b:Int),.int .i64 (pivot:Int),.list (au.E α).T (eA d)]=
   some [.int .i64 ((partition aB d a b pivot).1:Int),.bool (partition aB d a b pivot).2.1,.list (au.E α).T (eA (partition aB d a b pivot).2.2)]:=by
 refine au.VL ?_
 unfold Ol
 have z1:(swp d a pivot).size=d.size:=size_swp ..
 obtain ⟨t1,e1⟩:=ago (a:=a) (j:=b-1) (d:=swp d a pivot) (by omega) (by omega) (by omega) _ (a+1) rfl (by omega)
 have g1:=scanUp_ge (fun x=>aB x (swp d a pivot)[a]!) (swp d a pivot) (b-1) (a+1)
 have g2:=scanDown_le (fun x=> !aB x (swp d a pivot)[a]!) (swp d a pivot) (scanUp (fun x=>aB x (swp d a pivot)[a]!) (swp d a pivot) (b-1) (a+1)) (b-1)
 obtain ⟨t2,e2⟩:=V1 (a:=a) (i:=scanUp (fun x=>aB x (swp d a pivot)[a]!) (swp d a pivot) (b-1) (a+1)) (d:=swp d a pivot) (by omega) (by omega) (by omega) (b-1) (by omega)
 have e0:=agq d a b pivot
 rw[lj (i:=pivot),lj (i:=a),lj (i:=a),HU (i:=pivot)]
 simp only[au.re,Int.toNat_natCast,gr,zy]
 simp (disch:=omega) only[lh,eh,wrap64]
 rw[e1]
 simp only[Option.bind_some,un]
 rw[e2]
 simp only[Option.bind_some,un]
 generalize iF:scanUp (fun x=>aB x (swp d a pivot)[a]!) (swp d a pivot) (b-1) (a+1)=i2 at*
 generalize gG:scanDown (fun x=> !aB x (swp d a pivot)[a]!) (swp d a pivot) i2 (b-1)=j2 at*
 generalize swp d a pivot=d1 at*
 by_cases h:i2>j2
 ·rw[aj h] at e0
  rw[e0,aA,bf]
  rw[lj (i:=a),lj (i:=j2)];rw[lj (i:=j2),HU (i:=a)]
  simp only[au.re,Int.toNat_natCast,gr,zy]
 ·rw[an h] at e0
  rw[e0,aA,aM]
  have z2:(swp d1 i2 j2).size=d1.size:=size_swp ..
  obtain ⟨x,z,e5⟩:=agp (a:=a) _ (i2+1) (j2-1) (swp d1 i2 j2) (cl _) (by omega) (by omega) (by omega) (by omega) (by omega)
  obtain ⟨q1,q2⟩:=agn (a:=a) _ (i2+1) (j2-1) (swp d1 i2 j2) (cl _)
  rw[lj (i:=j2),lj (i:=i2)];rw[lj (i:=i2),HU (i:=j2)]
  simp only[au.re,Int.toNat_natCast,gr,zy]
  simp (disch:=omega) only[lh,eh,wrap64]
  rw[e5]
  generalize partLoop aB a (i2+1) (j2-1) (swp d1 i2 j2)=r at*
  simp only[Option.bind_some,un]
  rw[lj (i:=a),lj (i:=r.1)];rw[lj (i:=r.1),HU (i:=a)]
  simp only[au.re,Int.toNat_natCast,gr,zy]
theorem ags {a:Nat}: ∀(n i j:Nat) (d:Array α),j+1-i≤n→1≤i→i≤d.size→a<d.size→j<d.size→d.size<1152921504606846976→
  ∃x z,Loop (zt (au.E α) CC a) ((i:Int),(j:Int),eA d)=some ((((partEqLoop aB a i j d).1:Nat):Int),x,z,eA (partEqLoop aB a i j d).2):=by
 intro n
 induction n with
 | zero=>
  intro i j d hn h1 U ha hj hs
  obtain ⟨t3,e3⟩:=V2 (a:=a) ha hj hs _ i rfl U
  have g1:=scanUp_ge (fun x=> !aB d[a]! x) d j i
  have g2:=scanDown_le (fun x=>aB d[a]! x) d (scanUp (fun x=> !aB d[a]! x) d j i) j
  obtain ⟨t4,e4⟩:=OM (a:=a) (i:=scanUp (fun x=> !aB d[a]! x) d j i) ha (by omega) hs j hj
  rw[partEqLoop_eq,bf]
  refine ⟨((scanDown (fun x=>aB d[a]! x) d (scanUp (fun x=> !aB d[a]! x) d j i) j:Nat):Int),true,aV ?_⟩
  simp only[zt,CW,un]
  rw[e3]
  simp only[Option.bind_some,un]
  rw[e4]
  simp (disch:=omega) only[Option.bind_some,un,oA,cond_true]
 | succ n ih=>
  intro i j d hn h1 U ha hj hs
  obtain ⟨t3,e3⟩:=V2 (a:=a) ha hj hs _ i rfl U
  have g1:=scanUp_ge (fun x=> !aB d[a]! x) d j i
  have g2:=scanDown_le (fun x=>aB d[a]! x) d (scanUp (fun x=> !aB d[a]! x) d j i) j
  obtain ⟨t4,e4⟩:=OM (a:=a) (i:=scanUp (fun x=> !aB d[a]! x) d j i) ha (by omega) hs j hj
  rw[partEqLoop_eq]
  have f:zt (au.E α) CC a ((i:Int),(j:Int),eA d)=zt (au.E α) CC a ((i:Int),(j:Int),eA d):=rfl
  conv at f=>rhs;simp only[zt,CW,un];rw[e3];simp only[Option.bind_some,un];rw[e4];simp only[Option.bind_some,un]
  generalize iF:scanUp (fun x=> !aB d[a]! x) d j i=i2 at*
  generalize gG:scanDown (fun x=>aB d[a]! x) d i2 j=j2 at*
  by_cases h:i2>j2
  ·rw[aj h]
   refine ⟨(j2:Int),true,aV (f.trans ?_)⟩
   simp (disch:=omega) only[Option.bind_some,oA,cond_true]
  ·rw[an h]
   obtain ⟨x,z,e⟩:=ih (i2+1) (j2-1) (swp d i2 j2) (by omega) (by omega) (by rw[size_swp];omega) (by rw[size_swp];omega) (by rw[size_swp];omega) (by rw[size_swp];omega)
   refine ⟨x,z,(bQ (f.trans ?_)).trans e⟩
   simp (disch:=omega) only[aA,dk,iJ,aj,an,wrap64,eh,gu,Int.toNat_natCast,Option.bind_some,gP,gQ,au.re,gr,jc,il,au.cs,V.aQ,V.toInt_int,cond_true,cond_false,lh]
   rfl
theorem agt {a b pivot:Nat} {d:Array α} (hp:pivot<b) (fN:a<b) (hb:b≤d.size) (hs:d.size<1152921504606846976):
  CC ((au.E α).k 5) [.int .i64 (a:Int),.int .i64 (b:Int),.int .i64 (pivot:Int),.list (au.E α).T (eA d)]=
   some [.int .i64 ((partitionEqual aB d a b pivot).1:Int),.list (au.E α).T (eA (partitionEqual aB d a b pivot).2)]:=by
 refine au.VM ?_
 unfold Oo
 have z1:(swp d a pivot).size=d.size:=size_swp ..
 obtain ⟨x,z,e⟩:=ags (a:=a) _ (a+1) (b-1) (swp d a pivot) (cl _) (by omega) (by omega) (by omega) (by omega) (by omega)
 simp (disch:=omega) only[aA,dk,aj,gP,gQ,Int.toNat_natCast,Option.bind_some,au.re,gr,jc,il,lh,eh,wrap64,zy]
 rw[e]
 rfl
theorem agu {a b j:Nat} {d:Array α} (hb:b≤d.size) (hs:d.size<1152921504606846976): ∀(n i:Nat),b-i=n→1≤i→i≤b→
  ∃t,Loop (CY (au.E α) CC a b j (eA d)) (i:Int)=some (((scanSorted aB d b i:Nat):Int),t):=by
 intro n
 induction n with
 | zero=>
  intro i hn h1 hi
  rw[HV,aM]
  exact ⟨false,aV (by simp (disch:=omega) only[CY,CX,aA,an])⟩
 | succ n ih=>
  intro i hn h1 hi
  obtain ⟨t,h⟩:=ih (i+1) (by omega) (by omega) (by omega)
  rw[HV,bf]
  have e:CY (au.E α) CC a b j (eA d) (i:Int)=if au.cmp d[i]! d[i-1]! <0 then some (.inr ((i:Int),!decide (au.cmp d[i]! d[i-1]! <0))) else some (.inl ((i+1:Nat):Int)):=by
   simp (disch:=omega) only[CY,CX,lh,aA,dk,iJ,aj,an,wrap64,eh,gu,Int.toNat_natCast,Option.bind_some,gP,gQ,au.re,gr,jc,il,au.cs,V.aQ,V.toInt_int,cond_true,cond_false]
  by_cases U:au.cmp d[i]! d[i-1]! <0
  ·rw[aj U] at e⊢
   exact ⟨_,aV e⟩
  ·rw[an U] at e⊢
   exact ⟨t,(bQ e).trans h⟩
theorem V3: ∀(j:Nat) (d:Array α),(shiftDown aB j d).size=d.size
 | 0,_=>rfl
 | j+1,d=>by
  rw[VZ]
  split
  ·rw[V3 j,size_swp]
  ·rfl
theorem agv {b:Nat}: ∀(n j:Nat) (d:Array α),b-j=n→(shiftUp aB b j d).size=d.size:=by
 intro n
 induction n with
 | zero=>intro j d h;rw[HW,aM]
 | succ n ih=>
  intro j d h
  rw[HW,bf]
  split
  ·rw[ih _ _ (by omega),size_swp]
  ·rfl
theorem V4 {a b i k:Nat}: ∀(j:Nat) (d:Array α),j<d.size→d.size<1152921504606846976→
  ∃t,Loop (C3 (au.E α) CC a b i k) ((j:Int),eA d)=some (t,eA (shiftDown aB j d))
 | 0,d,hj,hs=>⟨(0:Nat),aV (by
   simp (disch:=omega) only[C3,CZ,un,aA,an]
   rfl)⟩
 | j+1,d,hj,hs=>by
  obtain ⟨t,ih⟩:=V4 (a:=a) (b:=b) (i:=i) (k:=k) j (swp d (j+1) j) (by rw[size_swp];omega) (by rw[size_swp];omega)
  rw[VZ]
  have e:C3 (au.E α) CC a b i k (((j+1:Nat):Int),eA d)=if au.cmp d[j+1]! d[j]! <0 then some (.inl ((j:Int),eA (swp d (j+1) j))) else some (.inr (((j+1:Nat):Int),eA d)):=by
   simp (disch:=omega) only[C3,CZ,un,aA,dk,iJ,aj,an,wrap64,eh,gu,Int.toNat_natCast,Option.bind_some,gP,gQ,au.re,gr,jc,il,au.cs,V.aQ,V.toInt_int,cond_true,cond_false,wm]
   rfl
  by_cases U:au.cmp d[j+1]! d[j]! <0
  ·rw[aj U] at e⊢
   exact ⟨t,(bQ e).trans ih⟩
  ·rw[an U] at e⊢
   exact ⟨_,aV e⟩
theorem agw {a b i k:Nat}: ∀(n j:Nat) (d:Array α),b-j=n→1≤j→j≤b→b≤d.size→d.size<1152921504606846976→
  ∃t,Loop (C6 (au.E α) CC a b i k) ((j:Int),eA d)=some (t,eA (shiftUp aB b j d)):=by
 intro n
 induction n with
 | zero=>
  intro j d hn h1 hj hb hs
  rw[HW,aM]
  exact ⟨(j:Int),aV (by
   simp (disch:=omega) only[C6,C4,un,aA,an])⟩
 | succ n ih=>
  intro j d hn h1 hj hb hs
  obtain ⟨t,h⟩:=ih (j+1) (swp d j (j-1)) (by omega) (by omega) (by omega) (by rw[size_swp];omega) (by rw[size_swp];omega)
  rw[HW,bf]
  have e:C6 (au.E α) CC a b i k ((j:Int),eA d)=if au.cmp d[j]! d[j-1]! <0 then some (.inl (((j+1:Nat):Int),eA (swp d j (j-1)))) else some (.inr ((j:Int),eA d)):=by
   simp (disch:=omega) only[C6,C4,un,lh,aA,dk,iJ,aj,an,wrap64,eh,gu,Int.toNat_natCast,Option.bind_some,gP,gQ,au.re,gr,jc,il,au.cs,V.aQ,V.toInt_int,cond_true,cond_false]
   rfl
  by_cases U:au.cmp d[j]! d[j-1]! <0
  ·rw[aj U] at e⊢
   exact ⟨t,(bQ e).trans h⟩
  ·rw[an U] at e⊢
   exact ⟨_,aV e⟩
theorem agx {d:Array α} {b:Nat}: ∀(n i:Nat),b-i=n→i≤b→i≤scanSorted aB d b i∧scanSorted aB d b i≤b:=by
 intro n
 induction n with
 | zero=>intro i hn hi;rw[HV,aM];omega
 | succ n ih=>
  intro i hn hi
  rw[HV,bf]
  obtain ⟨h1,U⟩:=ih (i+1) (by omega) (by omega)
  split<;>omega
theorem agy {a b:Nat}: ∀(s i:Nat) (d:Array α),s≤5→a<i→i≤b→b≤d.size→d.size<1152921504606846976→
  (Loop (tU (au.E α) CC a b) ((i:Int),((5-s:Nat):Int),eA d)=some (.inl ((partialIns aB a b s i d).2,eA (partialIns aB a b s i d).1)))∨
  (∃x y z,(partialIns aB a b s i d).2=false∧Loop (tU (au.E α) CC a b) ((i:Int),((5-s:Nat):Int),eA d)=some (.inr (x,y,z,eA (partialIns aB a b s i d).1))):=by
 intro s
 induction s with
 | zero=>
  intro i d hs5 hi ON hb hs
  refine .inr ⟨(i:Int),((5:Nat):Int),false,rfl,aV ?_⟩
  simp (disch:=omega) only[tU,C7,un,tR,cond_false]
  rfl
 | succ s ih=>
  intro i d hs5 hi ON hb hs
  obtain ⟨t1,e1⟩:=agu (a:=a) (j:=5-(s+1)) hb hs _ i rfl (by omega) ON
  obtain ⟨q1,q2⟩:=agx (d:=d) _ i rfl ON
  rw[partialIns_succ]
  have f:tU (au.E α) CC a b ((i:Int),((5-(s+1):Nat):Int),eA d)=tU (au.E α) CC a b ((i:Int),((5-(s+1):Nat):Int),eA d):=rfl
  conv at f=>rhs;simp only[tU,C7,un];rw[aA,bf,e1];simp only[Option.bind_some,un]
  generalize scanSorted aB d b i=k at*
  by_cases h1:k=b
  ·rw[aj h1]
   left
   refine aV (f.trans ?_)
   rw[dx,bf]
  ·rw[an h1]
   by_cases U:b-a<50
   ·rw[aj U]
    left
    refine aV (f.trans ?_)
    rw[dx,aM,bP,aA,bf]
   ·rw[an U]
    have z1:(swp d k (k-1)).size=d.size:=size_swp ..
    have z2:(fixDown aB a k (swp d k (k-1))).size=d.size:=by
     unfold fixDown
     split
     ·rw[V3,z1]
     ·exact z1
    have z3:(fixUp aB b k (fixDown aB a k (swp d k (k-1)))).size=d.size:=by
     unfold fixUp
     split
     ·rw[agv _ _ _ rfl,z2]
     ·exact z2
    obtain ⟨t2,e2⟩:=V4 (a:=a) (b:=b) (i:=k) (k:=5-(s+1)) (k-1) (swp d k (k-1)) (by omega) (by omega)
    obtain ⟨t4,e4⟩:=agw (a:=a) (b:=b) (i:=k) (k:=5-(s+1)) _ (k+1) (fixDown aB a k (swp d k (k-1))) rfl (by omega) (by omega) (by omega) (by omega)
    have e5:tU (au.E α) CC a b ((i:Int),((5-(s+1):Nat):Int),eA d)=some (.inl ((k:Int),((5-s:Nat):Int),eA (fixUp aB b k (fixDown aB a k (swp d k (k-1)))))):=by
     refine f.trans ?_
     rw[dx,aM,bP,aA,aM]
     simp (disch:=omega) only[aA,dk,aj,gP,gQ,Int.toNat_natCast,Option.bind_some,au.re,gr,jc,il,lh,eh,nB,wrap64,zy,HP]
     rw[show 5-(s+1)+1=5-s by omega]
     unfold fixDown at e4⊢
     unfold fixUp
     have c1:(((k-a:Nat):Int)≥2)=(k-a≥2):=propext (by omega)
     have c2:(((b-k:Nat):Int)≥2)=(b-k≥2):=propext (by omega)
     simp only[c1,c2]
     by_cases g1:k-a≥2
     ·by_cases g2:b-k≥2
      ·simp only[g1,g2,c6,e2,Option.bind_some,un] at e4⊢
       rw[e4]
       rfl
      ·simp only[g1,g2,c6,fW,e2,Option.bind_some,un]
     ·by_cases g2:b-k≥2
      ·simp only[g1,g2,c6,fW] at e4⊢
       rw[e4]
       rfl
      ·exact absurd (show b-k≥2 by omega) g2
    rw[bQ e5]
    exact ih k _ (by omega) (by omega) (by omega) (by omega) (by omega)
theorem V5 {a b:Nat} {d:Array α} (fN:a<b) (hb:b≤d.size) (hs:d.size<1152921504606846976):
  CC ((au.E α).k 6) [.int .i64 (a:Int),.int .i64 (b:Int),.list (au.E α).T (eA d)]=
   some [.bool (partialInsertionSort aB d a b).2,.list (au.E α).T (eA (partialInsertionSort aB d a b).1)]:=by
 refine au.VN ?_
 unfold Oq
 simp (disch:=omega) only[eh,wrap64]
 rcases agy (a:=a) (b:=b) 5 (a+1) d (cl _) (by omega) (by omega) hb hs with h|⟨x,y,z,h0,h⟩
 ·rw[show ((5-5:Nat):Int)=0 from rfl] at h
  rw[h]
  rfl
 ·rw[show ((5-5:Nat):Int)=0 from rfl] at h
  rw[h]
  unfold partialInsertionSort
  rw[h0]
  rfl
end Go.AM
set_option maxRecDepth 100000
namespace Go.AM
open Go.Proofs
noncomputable def V6 (C:ah) (jC:Int):Option LV:=
 some [.int .u64 (IntKind.wrap .u64 ((BitVec.ofInt (IntKind.bits .u64) (IntKind.wrap .u64 ((BitVec.ofInt (IntKind.bits .u64) (IntKind.wrap .u64 ((BitVec.ofInt (IntKind.bits .u64) jC ^^^ BitVec.ofInt (IntKind.bits .u64) (IntKind.wrap .u64 (jC*2^(min (13:Int).toNat (IntKind.bits .u64))))).toNat)) ^^^ BitVec.ofInt (IntKind.bits .u64) (Int.fdiv (IntKind.wrap .u64 ((BitVec.ofInt (IntKind.bits .u64) jC ^^^ BitVec.ofInt (IntKind.bits .u64) (IntKind.wrap .u64 (jC*2^(min (13:Int).toNat (IntKind.bits .u64))))).toNat)) (2^(min (7:Int).toNat (IntKind.bits .u64))))).toNat)) ^^^ BitVec.ofInt (IntKind.bits .u64) (IntKind.wrap .u64 ((IntKind.wrap .u64 ((BitVec.ofInt (IntKind.bits .u64) (IntKind.wrap .u64 ((BitVec.ofInt (IntKind.bits .u64) jC ^^^ BitVec.ofInt (IntKind.bits .u64) (IntKind.wrap .u64 (jC*2^(min (13:Int).toNat (IntKind.bits .u64))))).toNat)) ^^^ BitVec.ofInt (IntKind.bits .u64) (Int.fdiv (IntKind.wrap .u64 ((BitVec.ofInt (IntKind.bits .u64) jC ^^^ BitVec.ofInt (IntKind.bits .u64) (IntKind.wrap .u64 (jC*2^(min (13:Int).toNat (IntKind.bits .u64))))).toNat)) (2^(min (7:Int).toNat (IntKind.bits .u64))))).toNat))*2^(min (17:Int).toNat (IntKind.bits .u64))))).toNat)),.int .u64 (IntKind.wrap .u64 ((BitVec.ofInt (IntKind.bits .u64) (IntKind.wrap .u64 ((BitVec.ofInt (IntKind.bits .u64) (IntKind.wrap .u64 ((BitVec.ofInt (IntKind.bits .u64) jC ^^^ BitVec.ofInt (IntKind.bits .u64) (IntKind.wrap .u64 (jC*2^(min (13:Int).toNat (IntKind.bits .u64))))).toNat)) ^^^ BitVec.ofInt (IntKind.bits .u64) (Int.fdiv (IntKind.wrap .u64 ((BitVec.ofInt (IntKind.bits .u64) jC ^^^ BitVec.ofInt (IntKind.bits .u64) (IntKind.wrap .u64 (jC*2^(min (13:Int).toNat (IntKind.bits .u64))))).toNat)) (2^(min (7:Int).toNat (IntKind.bits .u64))))).toNat)) ^^^ BitVec.ofInt (IntKind.bits .u64) (IntKind.wrap .u64 ((IntKind.wrap .u64 ((BitVec.ofInt (IntKind.bits .u64) (IntKind.wrap .u64 ((BitVec.ofInt (IntKind.bits .u64) jC ^^^ BitVec.ofInt (IntKind.bits .u64) (IntKind.wrap .u64 (jC*2^(min (13:Int).toNat (IntKind.bits .u64))))).toNat)) ^^^ BitVec.ofInt (IntKind.bits .u64) (Int.fdiv (IntKind.wrap .u64 ((BitVec.ofInt (IntKind.bits .u64) jC ^^^ BitVec.ofInt (IntKind.bits .u64) (IntKind.wrap .u64 (jC*2^(min (13:Int).toNat (IntKind.bits .u64))))).toNat)) (2^(min (7:Int).toNat (IntKind.bits .u64))))).toNat))*2^(min (17:Int).toNat (IntKind.bits .u64))))).toNat))]
theorem agz {jC:Int} {r:Option LV} (h:V6 CC jC=r):CC G1 [.int .u64 jC]=r:=aY (L:=aZ) av h
noncomputable def V7 (C:ah) (length:Int):Option LV:=
 (C Ce [.int .u64 (IntKind.wrap .u64 length)]).bind fun r1=>
 bif decide (0≤((V.nth r1 0).toInt)) then
  some [.int .u64 (IntKind.wrap .u64 (1*2^(min ((V.nth r1 0).toInt).toNat (IntKind.bits .u64))))]
 else none
theorem agA {length:Int} {r:Option LV} (h:V7 CC length=r):CC G0 [V.int .i64 length]=r:=aY (L:=aZ) av h
noncomputable def V8 (C:ah) (x:Int):Option LV:=
 (C GZ [.int .u64 x]).bind fun r1=>
 some [V.int .i64 ((V.nth r1 0).toInt)]
theorem agB {x:Int} {r:Option LV} (h:V8 CC x=r):CC Ce [.int .u64 x]=r:=aY (L:=aZ) av h
noncomputable def wC (C:ah) (x n:Int) (t4:Bool) {β:Type} (kr:(Int × Int)→Option β):Option β:=
 bif t4 then
  kr (Int.fdiv x (2^(min (32:Int).toNat (IntKind.bits .u64))),32)
 else
  kr (x,n)
noncomputable def wD (C:ah) (x n:Int) (t8:Bool) {β:Type} (kr:(Int × Int)→Option β):Option β:=
 bif t8 then
  kr (Int.fdiv x (2^(min (16:Int).toNat (IntKind.bits .u64))),IntKind.wrap .i64 (n+16))
 else
  kr (x,n)
noncomputable def V9 (C:ah):cr:=hY 79 Nn [[0,0]] (@wC C) (hY 143 No [[0,0]] (@wD C) aZ)
theorem agC (C:ah):bC C (V9 C) 102 (Cd 4 [1,0,1,0] [1,0,1,1] 102):=hX Nn [[0,0]] (@wC C) (a9 av) (a9 av)
theorem agD (C:ah):bC C (V9 C) 102 (Cd 8 [1,1,0,1,0] [1,1,0,1,1] 102):=hX No [[0,0]] (@wD C) (a9 av) (a9 av)
noncomputable def agE (C:ah) (x:Int):Option LV:=
 wC C x 0 (decide ((x:Int)≥4294967296)) (un fun (jf:Int) (Df:Int)=>
  wD C jf Df (decide ((jf:Int)≥65536)) (un fun (Dg:Int) (Wa:Int)=>
   bif decide ((Dg:Int)≥256) then
    (bif decide (0≤(IntKind.wrap .u8 (Int.fdiv Dg (2^(min (8:Int).toNat (IntKind.bits .u64)))))) then (([0,1,2,2,3,3,3,3,4,4,4,4,4,4,4,4,5,5,5,5,5,5,5,5,5,5,5,5,5,5,5,5,6,6,6,6,6,6,6,6,6,6,6,6,6,6,6,6,6,6,6,6,6,6,6,6,6,6,6,6,6,6,6,6,7,7,7,7,7,7,7,7,7,7,7,7,7,7,7,7,7,7,7,7,7,7,7,7,7,7,7,7,7,7,7,7,7,7,7,7,7,7,7,7,7,7,7,7,7,7,7,7,7,7,7,7,7,7,7,7,7,7,7,7,7,7,7,7,8,8,8,8,8,8,8,8,8,8,8,8,8,8,8,8,8,8,8,8,8,8,8,8,8,8,8,8,8,8,8,8,8,8,8,8,8,8,8,8,8,8,8,8,8,8,8,8,8,8,8,8,8,8,8,8,8,8,8,8,8,8,8,8,8,8,8,8,8,8,8,8,8,8,8,8,8,8,8,8,8,8,8,8,8,8,8,8,8,8,8,8,8,8,8,8,8,8,8,8,8,8,8,8,8,8,8,8,8,8,8,8,8,8,8,8,8,8,8,8,8,8,8,8,8,8,8,8]:List UInt8)[(IntKind.wrap .u8 (Int.fdiv Dg (2^(min (8:Int).toNat (IntKind.bits .u64)))):Int).toNat]?).map fun b=>V.int .u8 b.toNat else none).bind fun x5=>
    some [V.int .i64 (IntKind.wrap .i64 ((IntKind.wrap .i64 (Wa+8))+(IntKind.wrap .i64 x5.toInt)))]
   else
    (bif decide (0≤(IntKind.wrap .u8 Dg)) then (([0,1,2,2,3,3,3,3,4,4,4,4,4,4,4,4,5,5,5,5,5,5,5,5,5,5,5,5,5,5,5,5,6,6,6,6,6,6,6,6,6,6,6,6,6,6,6,6,6,6,6,6,6,6,6,6,6,6,6,6,6,6,6,6,7,7,7,7,7,7,7,7,7,7,7,7,7,7,7,7,7,7,7,7,7,7,7,7,7,7,7,7,7,7,7,7,7,7,7,7,7,7,7,7,7,7,7,7,7,7,7,7,7,7,7,7,7,7,7,7,7,7,7,7,7,7,7,7,8,8,8,8,8,8,8,8,8,8,8,8,8,8,8,8,8,8,8,8,8,8,8,8,8,8,8,8,8,8,8,8,8,8,8,8,8,8,8,8,8,8,8,8,8,8,8,8,8,8,8,8,8,8,8,8,8,8,8,8,8,8,8,8,8,8,8,8,8,8,8,8,8,8,8,8,8,8,8,8,8,8,8,8,8,8,8,8,8,8,8,8,8,8,8,8,8,8,8,8,8,8,8,8,8,8,8,8,8,8,8,8,8,8,8,8,8,8,8,8,8,8,8,8,8,8,8,8]:List UInt8)[(IntKind.wrap .u8 Dg:Int).toNat]?).map fun b=>V.int .u8 b.toNat else none).bind fun x6=>
    some [V.int .i64 (IntKind.wrap .i64 (Wa+(IntKind.wrap .i64 x6.toInt)))]))
theorem Wb {x:Int} {r:Option LV} (h:agE CC x=r):CC GZ [.int .u64 x]=r:=aY (bB (agC CC) (bB (agD CC) av)) h
end Go.AM
set_option maxRecDepth 100000
set_option maxHeartbeats 4000000
namespace Go.AM
open Go.Proofs Go.Sort
variable {α:Type} [au α]
theorem Wc (a b:α):(aB a b=false)= ¬(au.cmp a b<0):=by rw[←tW];simp
theorem zz:SWO (aB (α:=α)):=au.VG
variable [Inhabited α]
def HX:List UInt8:=([0,1,2,2,3,3,3,3,4,4,4,4,4,4,4,4,5,5,5,5,5,5,5,5,5,5,5,5,5,5,5,5,6,6,6,6,6,6,6,6,6,6,6,6,6,6,6,6,6,6,6,6,6,6,6,6,6,6,6,6,6,6,6,6,7,7,7,7,7,7,7,7,7,7,7,7,7,7,7,7,7,7,7,7,7,7,7,7,7,7,7,7,7,7,7,7,7,7,7,7,7,7,7,7,7,7,7,7,7,7,7,7,7,7,7,7,7,7,7,7,7,7,7,7,7,7,7,7,8,8,8,8,8,8,8,8,8,8,8,8,8,8,8,8,8,8,8,8,8,8,8,8,8,8,8,8,8,8,8,8,8,8,8,8,8,8,8,8,8,8,8,8,8,8,8,8,8,8,8,8,8,8,8,8,8,8,8,8,8,8,8,8,8,8,8,8,8,8,8,8,8,8,8,8,8,8,8,8,8,8,8,8,8,8,8,8,8,8,8,8,8,8,8,8,8,8,8,8,8,8,8,8,8,8,8,8,8,8,8,8,8,8,8,8,8,8,8,8,8,8,8,8,8,8,8,8]:List UInt8)
theorem agF:(List.range 256).all (fun y=>match HX[y]? with|some b=>decide (b.toNat≤8)&&(Nat.beq y 0||(decide (1≤b.toNat)&&decide (2^(b.toNat-1)≤y)))|none=>false)=true:=by decide+kernel
theorem Wd {y:Nat} (h:y<256): ∃b,HX[y]? =some b∧b.toNat≤8∧(0<y→1≤b.toNat∧2^(b.toNat-1)≤y):=by
 have:=fy.1 agF y (List.mem_range.2 h)
 cases hb:HX[y]? with
 | none=>rw[hb] at this;cases this
 | some b=>
  rw[hb] at this
  simp only[aO,Bool.or_eq_true,ej] at this
  refine ⟨b,rfl,this.1,fun hy=> ?_⟩
  rcases this.2 with U|U
  ·have:=Ad U;omega
  ·exact U
theorem OO {y t k:Nat} (h:2^(t-1)≤y/2^k) (ht:1≤t):2^(t+k-1)≤y:=by
 have e:t+k-1=(t-1)+k:=by omega
 rw[e,Nat.pow_add]
 exact lX (dF _ h) (Nat.div_mul_le_self _ _)
noncomputable def zA (y n:Int):Option (List V):=
(bif decide ((y:Int)≥256) then
    (bif decide (0≤(IntKind.wrap .u8 (Int.fdiv y (2^(min (8:Int).toNat (IntKind.bits .u64)))))) then (([0,1,2,2,3,3,3,3,4,4,4,4,4,4,4,4,5,5,5,5,5,5,5,5,5,5,5,5,5,5,5,5,6,6,6,6,6,6,6,6,6,6,6,6,6,6,6,6,6,6,6,6,6,6,6,6,6,6,6,6,6,6,6,6,7,7,7,7,7,7,7,7,7,7,7,7,7,7,7,7,7,7,7,7,7,7,7,7,7,7,7,7,7,7,7,7,7,7,7,7,7,7,7,7,7,7,7,7,7,7,7,7,7,7,7,7,7,7,7,7,7,7,7,7,7,7,7,7,8,8,8,8,8,8,8,8,8,8,8,8,8,8,8,8,8,8,8,8,8,8,8,8,8,8,8,8,8,8,8,8,8,8,8,8,8,8,8,8,8,8,8,8,8,8,8,8,8,8,8,8,8,8,8,8,8,8,8,8,8,8,8,8,8,8,8,8,8,8,8,8,8,8,8,8,8,8,8,8,8,8,8,8,8,8,8,8,8,8,8,8,8,8,8,8,8,8,8,8,8,8,8,8,8,8,8,8,8,8,8,8,8,8,8,8,8,8,8,8,8,8,8,8,8,8,8,8]:List UInt8)[(IntKind.wrap .u8 (Int.fdiv y (2^(min (8:Int).toNat (IntKind.bits .u64)))):Int).toNat]?).map fun b=>V.int .u8 b.toNat else none).bind fun x5=>
    some [V.int .i64 (IntKind.wrap .i64 ((IntKind.wrap .i64 (n+8))+(IntKind.wrap .i64 x5.toInt)))]
   else
    (bif decide (0≤(IntKind.wrap .u8 y)) then (([0,1,2,2,3,3,3,3,4,4,4,4,4,4,4,4,5,5,5,5,5,5,5,5,5,5,5,5,5,5,5,5,6,6,6,6,6,6,6,6,6,6,6,6,6,6,6,6,6,6,6,6,6,6,6,6,6,6,6,6,6,6,6,6,7,7,7,7,7,7,7,7,7,7,7,7,7,7,7,7,7,7,7,7,7,7,7,7,7,7,7,7,7,7,7,7,7,7,7,7,7,7,7,7,7,7,7,7,7,7,7,7,7,7,7,7,7,7,7,7,7,7,7,7,7,7,7,7,8,8,8,8,8,8,8,8,8,8,8,8,8,8,8,8,8,8,8,8,8,8,8,8,8,8,8,8,8,8,8,8,8,8,8,8,8,8,8,8,8,8,8,8,8,8,8,8,8,8,8,8,8,8,8,8,8,8,8,8,8,8,8,8,8,8,8,8,8,8,8,8,8,8,8,8,8,8,8,8,8,8,8,8,8,8,8,8,8,8,8,8,8,8,8,8,8,8,8,8,8,8,8,8,8,8,8,8,8,8,8,8,8,8,8,8,8,8,8,8,8,8,8,8,8,8,8,8]:List UInt8)[(IntKind.wrap .u8 y:Int).toNat]?).map fun b=>V.int .u8 b.toNat else none).bind fun x6=>
    some [V.int .i64 (IntKind.wrap .i64 (n+(IntKind.wrap .i64 x6.toInt)))])
theorem agG {x:Nat} (h:x<2^64): ∃L:Nat,CC GZ [.int .u64 (x:Int)]=some [.int .i64 (L:Int)]∧L≤64∧(0<x→1≤L∧2^(L-1)≤x):=by
 have last: ∀y n:Nat,y<65536→n≤48→∃t:Nat,
   zA (y:Int) (n:Int)=some [V.int .i64 ((n+t:Nat):Int)]∧t≤16∧(0<y→1≤t∧2^(t-1)≤y):=by
  intro y n hy hn
  unfold zA
  rw[show ([0,1,2,2,3,3,3,3,4,4,4,4,4,4,4,4,5,5,5,5,5,5,5,5,5,5,5,5,5,5,5,5,6,6,6,6,6,6,6,6,6,6,6,6,6,6,6,6,6,6,6,6,6,6,6,6,6,6,6,6,6,6,6,6,7,7,7,7,7,7,7,7,7,7,7,7,7,7,7,7,7,7,7,7,7,7,7,7,7,7,7,7,7,7,7,7,7,7,7,7,7,7,7,7,7,7,7,7,7,7,7,7,7,7,7,7,7,7,7,7,7,7,7,7,7,7,7,7,8,8,8,8,8,8,8,8,8,8,8,8,8,8,8,8,8,8,8,8,8,8,8,8,8,8,8,8,8,8,8,8,8,8,8,8,8,8,8,8,8,8,8,8,8,8,8,8,8,8,8,8,8,8,8,8,8,8,8,8,8,8,8,8,8,8,8,8,8,8,8,8,8,8,8,8,8,8,8,8,8,8,8,8,8,8,8,8,8,8,8,8,8,8,8,8,8,8,8,8,8,8,8,8,8,8,8,8,8,8,8,8,8,8,8,8,8,8,8,8,8,8,8,8,8,8,8,8]:List UInt8)=HX from rfl]
  by_cases h1:y≥256
  ·have e:Int.fdiv (y:Int) (2^(min (8:Int).toNat (IntKind.bits .u64)))=((y/2^8:Nat):Int):=Nx (m:=8) (by omega)
   obtain ⟨b,hb,b1,b2⟩:=Wd (y:=y/2^8) (by omega)
   refine ⟨b.toNat+8,?_,by omega,fun _=> ?_⟩
   ·rw[e,aA,bf,BQ (by omega) (by omega),aA,bf,Int.toNat_natCast,hb]
    simp only[Option.map_some,Option.bind_some,V.toInt_int]
    simp (disch:=omega) only[wrap64]
    congr 3
    omega
   ·obtain ⟨b3,b4⟩:=b2 (by omega)
    exact ⟨by omega,OO b4 b3⟩
  ·obtain ⟨b,hb,b1,b2⟩:=Wd (y:=y) (by omega)
   refine ⟨b.toNat,?_,by omega,b2⟩
   rw[aA,aM,BQ (by omega) (by omega),aA,bf,Int.toNat_natCast,hb]
   simp (disch:=omega) only[Option.map_some,Option.bind_some,V.toInt_int,wrap64]
   congr 3
 have mid: ∀y n:Nat,y<4294967296→n≤32→∃t:Nat,∀F:Int→Int→Option (List V),
   (∀y n:Nat,y<65536→n≤48→∃t:Nat,F (y:Int) (n:Int)=some [V.int .i64 ((n+t:Nat):Int)]∧t≤16∧(0<y→1≤t∧2^(t-1)≤y))→
   ∃t:Nat,wD CC (y:Int) (n:Int) (decide (((y:Int):Int)≥65536)) (un F)=some [V.int .i64 ((n+t:Nat):Int)]∧t≤32∧(0<y→1≤t∧2^(t-1)≤y):=by
  intro y n hy hn
  refine ⟨0,fun F hF=> ?_⟩
  unfold wD
  by_cases h1:y≥65536
  ·have e:Int.fdiv (y:Int) (2^(min (16:Int).toNat (IntKind.bits .u64)))=((y/2^16:Nat):Int):=Nx (m:=16) (by omega)
   rw[aA,bf,e,bP]
   obtain ⟨t,U,h3,h4⟩:=hF (y/2^16) (n+16) (by omega) (by omega)
   refine ⟨t+16,?_,by omega,fun _=> ?_⟩
   ·rw[show ((n:Int)+16)=((n+16:Nat):Int) by omega]
    simp only[un]
    rw[U]
    congr 3
    omega
   ·obtain ⟨b3,b4⟩:=h4 (by omega)
    exact ⟨by omega,OO b4 b3⟩
  ·rw[aA,aM]
   obtain ⟨t,U,h3,h4⟩:=hF y n (by omega) (by omega)
   exact ⟨t,U,by omega,h4⟩
 by_cases h1:x≥4294967296
 ·have e:Int.fdiv (x:Int) (2^(min (32:Int).toNat (IntKind.bits .u64)))=((x/2^32:Nat):Int):=Nx (m:=32) (by omega)
  obtain ⟨_,hm⟩:=mid (x/2^32) 32 (by omega) (by omega)
  obtain ⟨t,U,h3,h4⟩:=hm zA last
  refine ⟨32+t,Wb ?_,by omega,fun _=> ?_⟩
  ·show wC CC (x:Int) 0 (decide (((x:Int):Int)≥4294967296)) (un fun (jf:Int) (Df:Int)=>wD CC jf Df (decide ((jf:Int)≥65536)) (un zA))=_
   unfold wC
   rw[aA,bf,e]
   exact U
  ·obtain ⟨b3,b4⟩:=h4 (by omega)
   rw[Nat.add_comm 32 t]
   exact ⟨by omega,OO b4 b3⟩
 ·obtain ⟨_,hm⟩:=mid x 0 (by omega) (by omega)
  obtain ⟨t,U,h3,h4⟩:=hm zA last
  refine ⟨t,Wb ?_,by omega,h4⟩
  show wC CC (x:Int) 0 (decide (((x:Int):Int)≥4294967296)) (un fun (jf:Int) (Df:Int)=>wD CC jf Df (decide ((jf:Int)≥65536)) (un zA))=_
  unfold wC
  rw[aA,aM]
  rw[fx] at U
  exact U
theorem We {x:Nat} (h:x<2^64): ∃L:Nat,CC Ce [.int .u64 (x:Int)]=some [.int .i64 (L:Int)]∧L≤64∧(0<x→1≤L∧2^(L-1)≤x):=by
 obtain ⟨L,h1,U⟩:=agG h
 refine ⟨L,agB ?_,U⟩
 unfold V8
 rw[h1]
 rfl
theorem agH {x:Nat} (h0:0<x) (h:x<1152921504606846976): ∃M:Nat,CC G0 [.int .i64 (x:Int)]=some [.int .u64 (M:Int)]∧1≤M∧M≤2*x:=by
 obtain ⟨L,h1,U,h3⟩:=We (x:=x) (by omega)
 obtain ⟨h4,h5⟩:=h3 h0
 have e:2^L=2*2^(L-1):=by
  obtain ⟨k,rfl⟩: ∃k,L=k+1:=⟨L-1,by omega⟩
  rw[Nat.pow_succ];simp only[xb];omega
 have hL:L<64:=by
  by_cases hx:L<64
  ·exact hx
  ·have:2^63≤2^(L-1):=Nat.pow_le_pow_right (by omega) (by omega)
   omega
 refine ⟨2^L,agA ?_,Nat.pos_of_ne_zero (by simp),by omega⟩
 unfold V7
 rw[Cp (A:=x) (by omega),h1]
 simp only[Option.bind_some,V.aQ,V.toInt_int]
 rw[aA,bf,Int.toNat_natCast,acH hL]
theorem agI (r:Int): ∃R:Nat,CC G1 [.int .u64 r]=some [.int .u64 (R:Int),.int .u64 (R:Int)]∧R<2^64:=by
 have h: ∀n:Int,∃R:Nat,IntKind.wrap .u64 n=(R:Int)∧R<2^64:=fun n=>⟨(IntKind.wrap .u64 n).toNat,by rw[wrap_u64];omega,by rw[wrap_u64];omega⟩
 obtain ⟨R,h1,U⟩:=h _
 exact ⟨R,agz (by unfold V6;rw[h1]),U⟩
theorem HY {d:Array α} {i:Nat} (h:i<d.size):idx (eA d) (i:Int)=some (au.enc (d[i]!)):=by rw[Lk,gQ h]
theorem OP {d:Array α} {a b:Nat} {s:Int} (ha:a<d.size) (hb:b<d.size): ∃(x y:Nat) (s':Int),CC ((au.E α).k 10) [.list (au.E α).T (eA d),.int .i64 (a:Int),.int .i64 (b:Int),.int .i64 s]=some [.int .i64 (x:Int),.int .i64 (y:Int),.int .i64 s']∧(x=a∧y=b∨x=b∧y=a):=by
 by_cases h:au.cmp d[b]! d[a]! <0
 ·refine ⟨b,a,_,au.OI (by unfold HS;rw[HY hb,HY ha];simp only[Option.bind_some,au.re,au.cs,V.aQ,V.toInt_int];rw[aA,aj h]),.inr ⟨rfl,rfl⟩⟩
 ·refine ⟨a,b,_,au.OI (by unfold HS;rw[HY hb,HY ha];simp only[Option.bind_some,au.re,au.cs,V.aQ,V.toInt_int];rw[aA,an h]),.inl ⟨rfl,rfl⟩⟩
theorem OQ {d:Array α} {a b c:Nat} {s:Int} (ha:a<d.size) (hb:b<d.size) (hc:c<d.size): ∃(m:Nat) (s':Int),CC ((au.E α).k 8) [.list (au.E α).T (eA d),.int .i64 (a:Int),.int .i64 (b:Int),.int .i64 (c:Int),.int .i64 s]=some [.int .i64 (m:Int),.int .i64 s']∧(m=a∨m=b∨m=c):=by
 obtain ⟨x1,y1,s1,e1,o1⟩:=OP (s:=s) ha hb
 obtain ⟨x2,y2,s2,e2,o2⟩:=OP (d:=d) (a:=y1) (b:=c) (s:=s1) (by omega) hc
 obtain ⟨x3,y3,s3,e3,o3⟩:=OP (d:=d) (a:=x1) (b:=x2) (s:=s2) (by omega) (by omega)
 refine ⟨y3,s3,au.VP ?_,by omega⟩
 unfold Ov
 rw[e1]
 simp only[Option.bind_some,V.aQ,V.rS,V.toInt_int,lr,jF]
 rw[e2]
 simp only[Option.bind_some,V.aQ,V.rS,V.toInt_int,lr,jF]
 rw[e3]
 rfl
theorem OR {d:Array α} {a:Nat} {s:Int} (h1:1≤a) (ha:a+1<d.size) (hs:d.size<1152921504606846976): ∃(m:Nat) (s':Int),CC ((au.E α).k 9) [.list (au.E α).T (eA d),.int .i64 (a:Int),.int .i64 s]=some [.int .i64 (m:Int),.int .i64 s']∧a≤m+1∧m≤a+1:=by
 obtain ⟨m,s',e,o⟩:=OQ (d:=d) (a:=a-1) (b:=a) (c:=a+1) (s:=s) (by omega) (by omega) (by omega)
 refine ⟨m,s',au.VQ ?_,by omega,by omega⟩
 unfold Ow
 simp (disch:=omega) only[lh,eh,wrap64]
 rw[e]
 rfl
theorem OS (n:Nat):Int.tdiv (n:Int) 4=((n/4:Nat):Int):=by
 have:=divC n 4
 exact this
theorem mulC (k n:Nat):((k:Nat):Int)*(n:Int)=((k*n:Nat):Int):=(Int.natCast_mul k n).symm
theorem agJ {d:Array α} {a b:Nat} (fN:a+12<b) (hb:b≤d.size) (hs:d.size<1152921504606846976): ∃(p:Nat) (h:Int),CC ((au.E α).k 11) [.list (au.E α).T (eA d),.int .i64 (a:Int),.int .i64 (b:Int)]=some [.int .i64 (p:Int),.int .i64 h]∧a≤p∧p<b:=by
 have fin: ∀(p:Nat) (s:Int),∃h:Int,(bif (s:Int)==0 then some [V.int .i64 (p:Int),V.int .i64 1] else bif (s:Int)==12 then some [V.int .i64 (p:Int),V.int .i64 2] else some [V.int .i64 (p:Int),V.int .i64 0])=some [V.int .i64 (p:Int),V.int .i64 h]:=by
  intro p s
  rw[dx]
  split
  ·exact ⟨1,rfl⟩
  ·rw[dx]
   split
   ·exact ⟨2,rfl⟩
   ·exact ⟨0,rfl⟩
 have e1:IntKind.wrap .i64 ((b:Int)-(a:Int))=((b-a:Nat):Int):=by rw[nB (by omega),bP]
 have e2:IntKind.wrap .i64 (Int.tdiv ((b-a:Nat):Int) 4)=(((b-a)/4:Nat):Int):=by rw[OS,bP]
 have e3: ∀k:Nat,k≤3→IntKind.wrap .i64 ((a:Int)+IntKind.wrap .i64 ((k:Int)*(((b-a)/4:Nat):Int)))=((a+k*((b-a)/4):Nat):Int):=by
  intro k hk
  have nq:k*((b-a)/4)≤3*((b-a)/4):=dF _ hk
  simp (disch:=omega) only[mulC,wrap64,gu]
 have OT:=e3 1 (by omega)
 have tX:=e3 2 (by omega)
 have OU:=e3 3 (by omega)
 rw[show ((1:Nat):Int)=1 from rfl] at OT
 rw[show ((2:Nat):Int)=2 from rfl] at tX
 rw[show ((3:Nat):Int)=3 from rfl] at OU
 by_cases h50:b-a≥50
 ·obtain ⟨m1,s1,q1,r1⟩:=OR (d:=d) (a:=a+1*((b-a)/4)) (s:=0) (by omega) (by omega) hs
  obtain ⟨m2,s2,q2,r2⟩:=OR (d:=d) (a:=a+2*((b-a)/4)) (s:=s1) (by omega) (by omega) hs
  obtain ⟨m3,s3,q3,r3⟩:=OR (d:=d) (a:=a+3*((b-a)/4)) (s:=s2) (by omega) (by omega) hs
  obtain ⟨m,s,q,r⟩:=OQ (d:=d) (a:=m1) (b:=m2) (c:=m3) (s:=s3) (by omega) (by omega) (by omega)
  obtain ⟨h,hf⟩:=fin m s
  refine ⟨m,h,au.OJ ?_,by omega,by omega⟩
  unfold HT Dc Db
  rw[e1,e2,OT,tX,OU,oA (by omega),cond_true,oA (by omega),cond_true,q1]
  simp only[Option.bind_some,V.aQ,V.rS,V.toInt_int,lr,jF]
  rw[q2]
  simp only[Option.bind_some,V.aQ,V.rS,V.toInt_int,lr,jF]
  rw[q3]
  simp only[Option.bind_some,V.aQ,V.rS,V.toInt_int,lr,jF,un]
  rw[q]
  exact hf
 ·obtain ⟨m,s,q,r⟩:=OQ (d:=d) (a:=a+1*((b-a)/4)) (b:=a+2*((b-a)/4)) (c:=a+3*((b-a)/4)) (s:=0) (by omega) (by omega) (by omega)
  obtain ⟨h,hf⟩:=fin m s
  refine ⟨m,h,au.OJ ?_,by omega,by omega⟩
  unfold HT Dc Db
  rw[e1,e2,OT,tX,OU,oA (by omega),cond_true,tR (by omega),cond_false]
  simp only[un]
  rw[q]
  exact hf
theorem agK {a b M:Nat} (hM1:1≤M) (hM:M≤2*(b-a)) (h8:8≤b-a) (hB:b<1152921504606846976): ∀(n i:Nat) (d:Array α) (r:Int),a+2*((b-a)/4)+2-i=n→a≤i→b≤d.size→d.size<1152921504606846976→
  ∃x y z R,Loop (HR (au.E α) CC a (b-a:Nat) M) ((i:Int),eA d,r)=some (x,y,eA R,z)∧PermIn a b d R:=by
 have e2:IntKind.wrap .i64 (Int.tdiv ((b-a:Nat):Int) 4)=(((b-a)/4:Nat):Int):=by rw[OS,bP]
 have tX:IntKind.wrap .i64 ((a:Int)+IntKind.wrap .i64 (2*(((b-a)/4:Nat):Int)))=((a+2*((b-a)/4):Nat):Int):=by
  have:=mulC 2 ((b-a)/4)
  rw[show ((2:Nat):Int)=2 from rfl] at this
  rw[this]
  simp (disch:=omega) only[wrap64,gu]
 intro n
 induction n with
 | zero=>
  intro i d r hn hi hb hs
  refine ⟨(i:Int),false,r,d,aV ?_,permIn_refl _ _ _⟩
  simp only[HR,C9,un]
  rw[e2,tX,eh,bP,tR (by omega),cond_false]
 | succ n ih=>
  intro i d r hn hi hb hs
  obtain ⟨R1,q1,q2⟩:=agI r
  obtain ⟨o,ho,ml⟩: ∃o:Nat,(o=if R1&&&(M-1)≥b-a then (R1&&&(M-1))-(b-a) else R1&&&(M-1))∧o<b-a:=by
   refine ⟨_,rfl,?_⟩
   have:R1&&&(M-1)≤M-1:=Nat.and_le_right
   split<;>omega
  have hand:R1&&&(M-1)≤M-1:=Nat.and_le_right
  have hP:=swp_permIn (α:=α) d a b i (a+o) hi (by omega) (by omega) (by omega) hb
  obtain ⟨x,y,z,R,e,hR⟩:=ih (i+1) (swp d i (a+o)) (R1:Int) (by omega) (by omega) (by rw[size_swp];exact hb) (by rw[size_swp];exact hs)
  refine ⟨x,y,z,R,(bQ ?_).trans e,permIn_trans _ _ _ a b hP hR⟩
  simp only[HR,C9,un]
  rw[e2,tX,eh,wrap64 (x:=((a+2*((b-a)/4)+1:Nat):Int)) (by omega) (by omega),oA (by omega),cond_true,q1]
  simp only[Option.bind_some,V.aQ,V.rS,V.toInt_int,lr,jF]
  have e5:IntKind.wrap .u64 ((M:Int)-1)=((M-1:Nat):Int):=by rw[lh hM1,Cp (by omega)]
  rw[e5,u64_and q2 (by omega),wrap64 (x:=((R1&&&(M-1):Nat):Int)) (by omega) (by omega)]
  have fin: ∀k:Int,k=(o:Int)→(bif (decide (0≤(IntKind.wrap .i64 ((a:Int)+k))))&&(decide ((IntKind.wrap .i64 ((a:Int)+k))<((eA d).length:Int))) then
   ((eA d)[(IntKind.wrap .i64 ((a:Int)+k):Int).toNat]?).bind fun x4=>
   bif (decide (0≤(i:Int)))&&(decide ((i:Int)<((eA d).length:Int))) then
    ((eA d)[((i:Int):Int).toNat]?).bind fun x5=>
    bif (decide (0≤(i:Int)))&&(decide ((i:Int)<((eA d).length:Int))) then
    ((eA d)[((i:Int):Int).toNat]?).bind fun x6=>
    bif (decide (0≤(IntKind.wrap .i64 ((a:Int)+k))))&&(decide ((IntKind.wrap .i64 ((a:Int)+k))<(((eA d).set (((i:Int):Int).toNat) (.agg ((au.E α).ex x4))).length:Int))) then
     (((eA d).set (((i:Int):Int).toNat) (.agg ((au.E α).ex x4)))[(IntKind.wrap .i64 ((a:Int)+k):Int).toNat]?).bind fun x7=>
     some (.inl (IntKind.wrap .i64 ((i:Int)+1),((eA d).set (((i:Int):Int).toNat) (.agg ((au.E α).ex x4))).set ((IntKind.wrap .i64 ((a:Int)+k):Int).toNat) (.agg ((au.E α).ex x5)),(R1:Int)))
    else none
    else none
   else none
   else none:Option ((Int × List V × Int) ⊕ (Int × Bool × List V × Int)))=some (.inl (((i+1:Nat):Int),eA (swp d i (a+o)),(R1:Int))):=by
   intro k hk
   subst hk
   simp (disch:=omega) only[aA,dk,iJ,aj,an,wrap64,eh,gu,Int.toNat_natCast,Option.bind_some,gP,gQ,au.re,gr,jc,il,au.cs,V.aQ,V.toInt_int,cond_true,cond_false]
   rfl
  unfold HQ
  by_cases h:R1&&&(M-1)≥b-a
  ·rw[aj h] at ho
   rw[oA (by omega),cond_true]
   exact fin _ (by rw[nB (by omega),bP];omega)
  ·rw[an h] at ho
   rw[tR (by omega),cond_false]
   exact fin _ (by omega)
theorem agL {a b:Nat} {d:Array α} (fN:a+12<b) (hb:b≤d.size) (hs:d.size<1152921504606846976): ∃R,CC ((au.E α).k 7) [.int .i64 (a:Int),.int .i64 (b:Int),.list (au.E α).T (eA d)]=some [.list (au.E α).T (eA R)]∧PermIn a b d R:=by
 obtain ⟨M,q1,q2,q3⟩:=agH (x:=b-a) (by omega) (by omega)
 have e1:IntKind.wrap .i64 ((b:Int)-(a:Int))=((b-a:Nat):Int):=by rw[nB (by omega),bP]
 have e2:IntKind.wrap .i64 (Int.tdiv ((b-a:Nat):Int) 4)=(((b-a)/4:Nat):Int):=by rw[OS,bP]
 have tX:IntKind.wrap .i64 ((a:Int)+IntKind.wrap .i64 (2*(((b-a)/4:Nat):Int)))=((a+2*((b-a)/4):Nat):Int):=by
  have:=mulC 2 ((b-a)/4)
  rw[show ((2:Nat):Int)=2 from rfl] at this
  rw[this]
  simp (disch:=omega) only[wrap64,gu]
 obtain ⟨x,y,z,R,e,hR⟩:=agK (a:=a) (b:=b) (M:=M) q2 q3 (by omega) (by omega) _ (a+2*((b-a)/4)-1) d (IntKind.wrap .u64 ((b-a:Nat):Int)) rfl (by omega) hb hs
 refine ⟨R,au.VO ?_,hR⟩
 unfold Ou
 rw[e1,aA,bf,q1]
 simp only[Option.bind_some,V.aQ,V.toInt_int]
 rw[e2,tX,lh (by omega),wrap64 (x:=((a+2*((b-a)/4)-1:Nat):Int)) (by omega) (by omega),e]
 rfl
noncomputable def tY (E:SE) (C:ah) (a b':Int) (fj fG:Bool) (cY fH:Int) (pG:List V) {β:Type} (kn:(Int × Int × Int × Bool × Bool × (List V))→Option β):Option β:=
      bif decide ((a:Int)>0) then
       aH pG (IntKind.wrap .i64 (a-1)) fun pE=>
       aH pG fH fun wq=>
        (C E.cmp (E.ex pE++E.ex wq)).bind fun oB=>
        bif !(decide ((((V.nth oB 0).toInt):Int)<0)) then
        (C (E.k 5) [.int .i64 a,.int .i64 b',.int .i64 fH,.list E.T pG]).bind fun gx=>
        kn ((V.nth gx 0).toInt,b',cY,fj,fG,(V.nth (gx.drop 1) 0).toList)
        else
        (C (E.k 4) [.int .i64 a,.int .i64 b',.int .i64 fH,.list E.T pG]).bind fun ei=>
        bif decide (((IntKind.wrap .i64 (((V.nth ei 0).toInt)-a)):Int)<(IntKind.wrap .i64 (b'-((V.nth ei 0).toInt)))) then
         (C (E.k 12) [.int .i64 a,.int .i64 ((V.nth ei 0).toInt),.int .i64 cY,.list E.T ((V.nth (ei.drop 2) 0).toList)]).bind fun kA=>
         kn (IntKind.wrap .i64 (((V.nth ei 0).toInt)+1),b',cY,decide (((IntKind.wrap .i64 (((V.nth ei 0).toInt)-a)):Int)≥(IntKind.wrap .i64 (Int.tdiv (IntKind.wrap .i64 (b'-a)) 8))),(V.nth (ei.drop 1) 0).toBool,(V.nth kA 0).toList)
        else
         (C (E.k 12) [.int .i64 (IntKind.wrap .i64 (((V.nth ei 0).toInt)+1)),.int .i64 b',.int .i64 cY,.list E.T ((V.nth (ei.drop 2) 0).toList)]).bind fun ef=>
         kn (a,(V.nth ei 0).toInt,cY,decide (((IntKind.wrap .i64 (b'-((V.nth ei 0).toInt))):Int)≥(IntKind.wrap .i64 (Int.tdiv (IntKind.wrap .i64 (b'-a)) 8))),(V.nth (ei.drop 1) 0).toBool,(V.nth ef 0).toList)
      else
       (C (E.k 4) [.int .i64 a,.int .i64 b',.int .i64 fH,.list E.T pG]).bind fun je=>
       bif decide (((IntKind.wrap .i64 (((V.nth je 0).toInt)-a)):Int)<(IntKind.wrap .i64 (b'-((V.nth je 0).toInt)))) then
       (C (E.k 12) [.int .i64 a,.int .i64 ((V.nth je 0).toInt),.int .i64 cY,.list E.T ((V.nth (je.drop 2) 0).toList)]).bind fun pI=>
       kn (IntKind.wrap .i64 (((V.nth je 0).toInt)+1),b',cY,decide (((IntKind.wrap .i64 (((V.nth je 0).toInt)-a)):Int)≥(IntKind.wrap .i64 (Int.tdiv (IntKind.wrap .i64 (b'-a)) 8))),(V.nth (je.drop 1) 0).toBool,(V.nth pI 0).toList)
       else
       (C (E.k 12) [.int .i64 (IntKind.wrap .i64 (((V.nth je 0).toInt)+1)),.int .i64 b',.int .i64 cY,.list E.T ((V.nth (je.drop 2) 0).toList)]).bind fun jd=>
       kn (a,(V.nth je 0).toInt,cY,decide (((IntKind.wrap .i64 (b'-((V.nth je 0).toInt))):Int)≥(IntKind.wrap .i64 (Int.tdiv (IntKind.wrap .i64 (b'-a)) 8))),(V.nth (je.drop 1) 0).toBool,(V.nth jd 0).toList)
theorem HZ (E:SE) (C:ah) (a b' iN:Int) (fj fG:Bool) (ao:List V) {β:Type} (kn:(Int × Int × Int × Bool × Bool × (List V))→Option β) (kr:(List V)→Option β):
  qG E C a b' iN fj fG ao kn kr=
 bif decide (((IntKind.wrap .i64 (b'-a)):Int)≤12) then
  (C (E.k 0) [.int .i64 a,.int .i64 b',.list E.T ao]).bind fun r1=>
  kr ((V.nth r1 0).toList)
 else
  bif (iN:Int)==0 then
  (C (E.k 2) [.int .i64 a,.int .i64 b',.list E.T ao]).bind fun r2=>
  kr ((V.nth r2 0).toList)
  else
  zw E C a b' iN fj fG (IntKind.wrap .i64 (b'-a)) (!fj) ao (un fun (cY:Int) (Dd:List V)=>
   (C (E.k 11) [.list E.T Dd,.int .i64 a,.int .i64 b']).bind fun r6=>
   zx E C a b' cY fj fG (IntKind.wrap .i64 (b'-a)) ((V.nth r6 0).toInt) ((V.nth (r6.drop 1) 0).toInt) ((((V.nth (r6.drop 1) 0).toInt):Int)==2) Dd (un fun (fH:Int)=>un fun (Oy:Int) (pD:List V)=>
    bif fj then
     bif fG then
     nC E C a b' cY fj fG (IntKind.wrap .i64 (b'-a)) fH ((Oy:Int)==1) pD (cf (un fun (NC:Bool) (OV:List V)=>
      kr OV) (fun (pG:List V)=>tY E C a b' fj fG cY fH pG kn))
     else
     nC E C a b' cY fj fG (IntKind.wrap .i64 (b'-a)) fH false pD (cf (un fun (UD:Bool) (agM:List V)=>
      kr agM) (fun (agN:List V)=>tY E C a b' fj fG cY fH agN kn))
    else
     nC E C a b' cY fj fG (IntKind.wrap .i64 (b'-a)) fH false pD (cf (un fun (acZ:Bool) (agO:List V)=>
      kr agO) (fun (agP:List V)=>tY E C a b' fj fG cY fH agP kn)))):=rfl
section
variable {a b:Nat} {lim:Int} {wb wp:Bool}
theorem agQ {d:Array α} (fN:a+12<b) (hb:b≤d.size) (hs:d.size<1152921504606846976) (len:Int) (t:Bool): ∃(l1:Int) (d1:Array α),PermIn a b d d1∧∀(β:Type) (kr:(Int × List V)→Option β),zw (au.E α) CC a b lim wb wp len t (eA d) kr=kr (l1,eA d1):=by
 cases t with
 | true=>
  obtain ⟨R,e,hR⟩:=agL fN hb hs
  refine ⟨IntKind.wrap .i64 (lim-1),R,hR,fun β kr=> ?_⟩
  unfold zw
  rw[cond_true,e]
  rfl
 | false=>exact ⟨lim,d,permIn_refl _ _ _,fun β kr=>rfl⟩
theorem agR {d:Array α} (fN:a+12<b) (hb:b≤d.size) (hs:d.size<1152921504606846976) (len h:Int) (t:Bool) {p:Nat} (h1:a≤p) (U:p<b): ∃(p2:Nat) (U:Int) (d1:Array α),a≤p2∧p2<b∧PermIn a b d d1∧∀(β:Type) (kr:(Int × Int × List V)→Option β),zx (au.E α) CC a b lim wb wp len p h t (eA d) kr=kr ((p2:Int),U,eA d1):=by
 cases t with
 | true=>
  refine ⟨b-1-(p-a),1,reverseRange d a b,by omega,by omega,reverseRange_holds d a b (by omega) hb,fun β kr=> ?_⟩
  unfold zx
  rw[cond_true,agm (by omega) hb hs]
  simp (disch:=omega) only[Option.bind_some,V.aQ,V.kZ,lh,nB,wrap64]
 | false=>exact ⟨p,h,d,h1,U,permIn_refl _ _ _,fun β kr=>rfl⟩
theorem agS {d:Array α} (fN:a+12<b) (hb:b≤d.size) (hs:d.size<1152921504606846976) (hB:Below aB a b d) (len p:Int) (t:Bool): ∃d1:Array α,PermIn a b d d1∧
  ((∀(β:Type) (kr:((Bool × List V) ⊕ List V)→Option β),nC (au.E α) CC a b lim wb wp len p t (eA d) kr=kr (.inr (eA d1)))∨
  (SortedIn aB a b d1∧∀(β:Type) (kr:((Bool × List V) ⊕ List V)→Option β),nC (au.E α) CC a b lim wb wp len p t (eA d) kr=kr (.inl (true,eA d1)))):=by
 cases t with
 | true=>
  have hp:=partialInsertionSort_holds (lt:=aB) zz d a b (by omega) hb hB
  refine ⟨_,hp.1,?_⟩
  cases h:(partialInsertionSort aB d a b).2 with
  | true=>
   refine .inr ⟨hp.2 h,fun β kr=> ?_⟩
   unfold nC
   rw[cond_true,V5 (by omega) hb hs,h]
   rfl
  | false=>
   refine .inl fun β kr=> ?_
   unfold nC
   rw[cond_true,V5 (by omega) hb hs,h]
   rfl
 | false=>exact ⟨d,permIn_refl _ _ _,.inl fun β kr=>rfl⟩
end
def H0 (a b:Nat) (d:Array α):Prop:= ∀(lim:Int) (wb wp:Bool),∃R,Loop (VF (au.E α) CC) ((a:Int),(b:Int),lim,wb,wp,eA d)=some (eA R)∧PermIn a b d R∧SortedIn aB a b R
theorem H0.call {a b:Nat} {d:Array α} (h:H0 a b d) (lim:Int): ∃R,CC ((au.E α).k 12) [.int .i64 (a:Int),.int .i64 (b:Int),.int .i64 lim,.list (au.E α).T (eA d)]=some [.list (au.E α).T (eA R)]∧PermIn a b d R∧SortedIn aB a b R:=by
 obtain ⟨R,e,h1,U⟩:=h lim true true
 refine ⟨R,au.VR ?_,h1,U⟩
 unfold OG
 rw[e]
 rfl
theorem agT {a b p:Nat} {d:Array α} (fN:a+12<b) (hb:b≤d.size) (hs:d.size<1152921504606846976) (hB:Below aB a b d) (h1:a≤p) (U:p<b)
  (ih: ∀(a2 b2:Nat) (d2:Array α),b2-a2<b-a→a2≤b2→b2≤d2.size→d2.size<1152921504606846976→Below aB a2 b2 d2→H0 a2 b2 d2) (wb wp:Bool) (lim:Int):
  ∃(a2 b2:Nat) (wE wF:Bool) (d2:Array α),b2-a2<b-a∧a2≤b2∧b2≤d2.size∧d2.size<1152921504606846976∧Below aB a2 b2 d2∧
   (∀R,PermIn a2 b2 d2 R→SortedIn aB a2 b2 R→PermIn a b d R∧SortedIn aB a b R)∧
   ∀(β:Type) (kn:(Int × Int × Int × Bool × Bool × (List V))→Option β),tY (au.E α) CC a b wb wp lim p (eA d) kn=kn ((a2:Int),(b2:Int),lim,wE,wF,eA d2):=by
 have part: ∃(a2 b2:Nat) (wE wF:Bool) (d2:Array α),b2-a2<b-a∧a2≤b2∧b2≤d2.size∧d2.size<1152921504606846976∧Below aB a2 b2 d2∧
   (∀R,PermIn a2 b2 d2 R→SortedIn aB a2 b2 R→PermIn a b d R∧SortedIn aB a b R)∧
   ∀(β:Type) (kn:(Int × Int × Int × Bool × Bool × (List V))→Option β),
    ((CC ((au.E α).k 4) [.int .i64 (a:Int),.int .i64 (b:Int),.int .i64 (p:Int),.list (au.E α).T (eA d)]).bind fun ei=>
        bif decide (((IntKind.wrap .i64 (((V.nth ei 0).toInt)-(a:Int))):Int)<(IntKind.wrap .i64 ((b:Int)-((V.nth ei 0).toInt)))) then
         (CC ((au.E α).k 12) [.int .i64 (a:Int),.int .i64 ((V.nth ei 0).toInt),.int .i64 lim,.list (au.E α).T ((V.nth (ei.drop 2) 0).toList)]).bind fun kA=>
         kn (IntKind.wrap .i64 (((V.nth ei 0).toInt)+1),(b:Int),lim,decide (((IntKind.wrap .i64 (((V.nth ei 0).toInt)-(a:Int))):Int)≥(IntKind.wrap .i64 (Int.tdiv (IntKind.wrap .i64 ((b:Int)-(a:Int))) 8))),(V.nth (ei.drop 1) 0).toBool,(V.nth kA 0).toList)
        else
         (CC ((au.E α).k 12) [.int .i64 (IntKind.wrap .i64 (((V.nth ei 0).toInt)+1)),.int .i64 (b:Int),.int .i64 lim,.list (au.E α).T ((V.nth (ei.drop 2) 0).toList)]).bind fun ef=>
         kn ((a:Int),(V.nth ei 0).toInt,lim,decide (((IntKind.wrap .i64 ((b:Int)-((V.nth ei 0).toInt))):Int)≥(IntKind.wrap .i64 (Int.tdiv (IntKind.wrap .i64 ((b:Int)-(a:Int))) 8))),(V.nth (ei.drop 1) 0).toBool,(V.nth ef 0).toList))=kn ((a2:Int),(b2:Int),lim,wE,wF,eA d2):=by
  obtain ⟨mid,ap,d4,hx⟩: ∃mid ap d4,partition aB d a b p=(mid,ap,d4):=⟨_,_,_,rfl⟩
  obtain ⟨g1,g2,pJ,hBa,hBr,agU,agV⟩:=round_part zz (partition_holds aB) h1 U hb hB hx
  have hc:=agr (a:=a) (b:=b) (pivot:=p) (d:=d) U (by omega) hb hs
  rw[hx] at hc
  by_cases hl:mid-a<b-mid
  ·obtain ⟨L,e,l1,l2⟩:=(ih a mid d4 (by omega) g1 (by rw[pJ];omega) (by rw[pJ];exact hs) hBa).call lim
   obtain ⟨OW,qH⟩:=agU _ l1 l2
   refine ⟨mid+1,b,decide (((IntKind.wrap .i64 ((mid:Int)-(a:Int))):Int)≥(IntKind.wrap .i64 (Int.tdiv (IntKind.wrap .i64 ((b:Int)-(a:Int))) 8))),ap,L,by omega,by omega,by rw[l1.1,pJ];exact hb,by rw[l1.1,pJ];exact hs,OW,qH,fun β kn=> ?_⟩
   ·rw[hc]
    simp only[Option.bind_some,V.aQ,V.rS,V.toInt_int,V.dD,V.kZ,lr,jF]
    rw[aA,aj (by rw[nB g1,nB (by omega),wrap64 (by omega) (by omega),wrap64 (by omega) (by omega)];omega),e]
    simp only[Option.bind_some,V.aQ,V.kZ]
    rw[eh,wrap64 (x:=((mid+1:Nat):Int)) (by omega) (by omega)]
  ·obtain ⟨L,e,l1,l2⟩:=(ih (mid+1) b d4 (by omega) (by omega) (by rw[pJ];exact hb) (by rw[pJ];exact hs) hBr).call lim
   obtain ⟨OW,qH⟩:=agV _ l1 l2
   refine ⟨a,mid,decide (((IntKind.wrap .i64 ((b:Int)-(mid:Int))):Int)≥(IntKind.wrap .i64 (Int.tdiv (IntKind.wrap .i64 ((b:Int)-(a:Int))) 8))),ap,L,by omega,by omega,by rw[l1.1,pJ];omega,by rw[l1.1,pJ];exact hs,OW,qH,fun β kn=> ?_⟩
   ·rw[hc]
    simp only[Option.bind_some,V.aQ,V.rS,V.toInt_int,V.dD,V.kZ,lr,jF]
    rw[aA,an (by rw[nB g1,nB (by omega),wrap64 (by omega) (by omega),wrap64 (by omega) (by omega)];omega),eh,wrap64 (x:=((mid+1:Nat):Int)) (by omega) (by omega),e]
    simp only[Option.bind_some,V.aQ,V.kZ]
 by_cases ha:0<a
 ·by_cases hc:au.cmp d[a-1]! d[p]! <0
  ·obtain ⟨a2,b2,wE,wF,d2,q1,q2,q3,q4,q5,q6,q7⟩:=part
   refine ⟨a2,b2,wE,wF,d2,q1,q2,q3,q4,q5,q6,fun β kn=> ?_⟩
   rw[←q7 β kn]
   unfold tY
   rw[aA,bf,lh ha,bP,lj (i:=a-1),lj (i:=p)]
   simp only[au.re,au.cs,Option.bind_some,V.aQ,V.toInt_int]
   rw[iJ,aA,aj hc]
  ·obtain ⟨mid,d4,hx⟩: ∃mid d4,partitionEqual aB d a b p=(mid,d4):=⟨_,_,rfl⟩
   obtain ⟨g1,JC,pJ,hB4,qH⟩:=round_eq zz (partitionEqual_holds aB) ha h1 U hb hB (by rw[Wc];exact hc) hx
   have he:=agt (a:=a) (b:=b) (pivot:=p) (d:=d) U (by omega) hb hs
   rw[hx] at he
   refine ⟨mid,b,wb,wp,d4,by omega,JC,by rw[pJ];exact hb,by rw[pJ];exact hs,hB4,qH,fun β kn=> ?_⟩
   unfold tY
   rw[aA,bf,lh ha,bP,lj (i:=a-1),lj (i:=p)]
   simp only[au.re,au.cs,Option.bind_some,V.aQ,V.toInt_int]
   rw[iJ,aA,an hc,he]
   rfl
 ·obtain ⟨a2,b2,wE,wF,d2,q1,q2,q3,q4,q5,q6,q7⟩:=part
  refine ⟨a2,b2,wE,wF,d2,q1,q2,q3,q4,q5,q6,fun β kn=> ?_⟩
  rw[←q7 β kn]
  unfold tY
  rw[aA,aM]
theorem agW: ∀(n a b:Nat) (d:Array α),b-a≤n→a≤b→b≤d.size→d.size<1152921504606846976→Below aB a b d→H0 a b d:=by
 intro n
 induction n with
 | zero=>
  intro a b d hn fN hb hs hB lim wb wp
  have hi:=insertionSort_holds (lt:=aB) zz d a b fN hb
  refine ⟨_,aV ?_,hi⟩
  show qG (au.E α) CC a b lim wb wp (eA d) (fun y=>some (Sum.inl y)) (fun r=>some (Sum.inr r))=_
  rw[HZ,aA,aj (by rw[nB fN,wrap64 (by omega) (by omega)];omega),VV hb hs (by omega)]
  rfl
 | succ n ih=>
  intro a b d hn fN hb hs hB lim wb wp
  by_cases h12:b-a≤12
  ·have hi:=insertionSort_holds (lt:=aB) zz d a b fN hb
   refine ⟨_,aV ?_,hi⟩
   show qG (au.E α) CC a b lim wb wp (eA d) (fun y=>some (Sum.inl y)) (fun r=>some (Sum.inr r))=_
   rw[HZ,aA,aj (by rw[nB fN,wrap64 (by omega) (by omega)];omega),VV hb hs (by omega)]
   rfl
  ·have Dh:a+12<b:=by omega
   have tm: ¬(((IntKind.wrap .i64 ((b:Int)-(a:Int))):Int)≤12):=by rw[nB fN,bP];omega
   by_cases h0:lim=0
   ·have hi:=heapSort_holds (lt:=aB) zz d a b fN hb
    refine ⟨_,aV ?_,hi⟩
    show qG (au.E α) CC a b lim wb wp (eA d) (fun y=>some (Sum.inl y)) (fun r=>some (Sum.inr r))=_
    rw[HZ,aA,an tm,dx,aj h0,agk (by omega) hb hs]
    rfl
   ·obtain ⟨l1,d1,s1,k1⟩:=agQ (lim:=lim) (wb:=wb) (wp:=wp) Dh hb hs (IntKind.wrap .i64 ((b:Int)-(a:Int))) (!wb)
    have b1:b≤d1.size:=by rw[s1.1];exact hb
    have z1:d1.size<1152921504606846976:=by rw[s1.1];exact hs
    obtain ⟨p,h,c1,p1,p2⟩:=agJ Dh b1 z1
    obtain ⟨q,U,d2,q1,q2,s2,k2⟩:=agR (lim:=l1) (wb:=wb) (wp:=wp) Dh b1 z1 (IntKind.wrap .i64 ((b:Int)-(a:Int))) h (h==2) p1 p2
    have b2:b≤d2.size:=by rw[s2.1];exact b1
    have z2:d2.size<1152921504606846976:=by rw[s2.1];exact z1
    have B2:Below aB a b d2:=(hB.perm hb s1).perm b1 s2
    obtain ⟨t,ht⟩: ∃t:Bool,t=(bif wb then (bif wp then (U==1) else false) else false):=⟨_,rfl⟩
    obtain ⟨d3,s3,k3⟩:=agS (lim:=l1) (wb:=wb) (wp:=wp) Dh b2 z2 B2 (IntKind.wrap .i64 ((b:Int)-(a:Int))) (q:Int) t
    have b3:b≤d3.size:=by rw[s3.1];exact b2
    have z3:d3.size<1152921504606846976:=by rw[s3.1];exact z2
    have B3:Below aB a b d3:=B2.perm b2 s3
    have P3:PermIn a b d d3:=permIn_trans _ _ _ a b (permIn_trans _ _ _ a b s1 s2) s3
    have step: ∀(β:Type) (kn:(Int × Int × Int × Bool × Bool × (List V))→Option β) (kr:(List V)→Option β),qG (au.E α) CC a b lim wb wp (eA d) kn kr=
      nC (au.E α) CC a b l1 wb wp (IntKind.wrap .i64 ((b:Int)-(a:Int))) (q:Int) t (eA d2) (cf (un fun (NC:Bool) (OV:List V)=>kr OV) (fun (pG:List V)=>tY (au.E α) CC a b wb wp l1 q pG kn)):=by
     intro β kn kr
     rw[HZ,aA,an tm,dx,an h0,k1]
     simp only[un]
     rw[c1]
     simp only[Option.bind_some,V.aQ,V.rS,V.toInt_int,lr,jF]
     rw[k2]
     simp only[un]
     rw[ht]
     cases wb
     ·rfl
     ·cases wp
      ·rfl
      ·rfl
    rcases k3 with k3|⟨k3s,k3⟩
    ·obtain ⟨a4,b4,wb4,wp4,d4,r1,r2,r3,r4,r5,r6,r7⟩:=agT Dh b3 z3 B3 q1 q2 (fun a2 b2 d2 aJ h1 U h3 h4=>ih a2 b2 d2 (by omega) h1 U h3 h4) wb wp l1
     obtain ⟨R,e,e1,e2⟩:=ih a4 b4 d4 (by omega) r2 r3 r4 r5 l1 wb4 wp4
     obtain ⟨f1,f2⟩:=r6 R e1 e2
     refine ⟨R,(bQ ?_).trans e,permIn_trans _ _ _ a b P3 f1,f2⟩
     show qG (au.E α) CC a b lim wb wp (eA d) (fun y=>some (Sum.inl y)) (fun r=>some (Sum.inr r))=_
     rw[step,k3]
     exact r7 _ (fun y=>some (Sum.inl y))
    ·refine ⟨d3,aV ?_,P3,k3s⟩
     show qG (au.E α) CC a b lim wb wp (eA d) (fun y=>some (Sum.inl y)) (fun r=>some (Sum.inr r))=_
     rw[step,k3]
     rfl
theorem agX (l:List α) (hs:l.length<1152921504606846976): ∃R:List α,CC ((au.E α).k 13) [.list (au.E α).T (l.map au.enc)]=some [.list (au.E α).T (R.map au.enc)]∧R.Perm l∧R.Pairwise (fun x y=> ¬au.cmp y x<0):=by
 obtain ⟨L,e1,_⟩:=We (x:=l.length) (by omega)
 obtain ⟨R,e2,h1,U⟩:=(agW _ 0 l.toArray.size l.toArray (cl _) (oN _) (cl _) (by simpa using hs) (.inl rfl)).call (L:Int)
 have aU:R.size=l.length:=by rw[h1.1];simp
 refine ⟨R.toList,au.VT ?_,?_,?_⟩
 ·unfold OH
  rw[aK,Cp (A:=l.length) (by omega),e1]
  simp only[Option.bind_some,V.aQ,V.toInt_int]
  have e3:eA l.toArray=l.map au.enc:=by simp[qF]
  rw[e3,show ((l.toArray.size:Nat):Int)=(l.length:Int) by simp,show ((0:Nat):Int)=0 from rfl] at e2
  rw[e2]
  rfl
 ·have h3:=h1.2.2
  rw[show l.toArray.size=R.size from h1.1.symm,Array.extract_size,h1.1,Array.extract_size] at h3
  exact h3
 ·rw[EE]
  intro i j hi hj vh
  have h3:=U i j (oN _) vh (by simpa[←aU] using hj)
  rw[Wc] at h3
  have eo:i<R.size:=by simpa using hi
  have gZ:j<R.size:=by simpa using hj
  rw[getElem!_pos R i eo,getElem!_pos R j gZ] at h3
  simpa using h3
end Go.AM
set_option maxRecDepth 100000
namespace Go.AM.SX
open Go.Proofs Ex
structure XE where
 e:Ex
 ok:e.Ok
instance:Inhabited XE:=⟨⟨.node 0 0 [],.node (by omega) (by omega) (by simp) (by simp)⟩⟩
namespace XE
def enc (x:XE):V:=x.e.enc
theorem bu (x:XE):(x.enc.cell 0).toInt=x.e.op:=Go.AM.bu x.e
theorem bE (x:XE):(x.enc.cell 1).toInt=x.e.bH:=Go.AM.bE x.e
theorem bD (x:XE):(x.enc.cell 2).toList=x.e.kids.map Ex.enc:=Go.AM.bD x.e
theorem re (x:XE):V.agg [.int .i64 x.e.op,.int .i64 x.e.bH,.list aa (x.e.kids.map Ex.enc)]=x.enc:=(Ex.dA x.e).symm
end XE
def Di (a b:XE):Int:=cmp a.e b.e
theorem agY (a b:XE):CC bN [.int .i64 a.e.op,.int .i64 a.e.bH,.list aa (a.e.kids.map Ex.enc),.int .i64 b.e.op,.int .i64 b.e.bH,.list aa (b.e.kids.map Ex.enc)]=some [.int .i64 (Di a b)]:=
 Hy a.e a.ok b.e b.ok
def XE.lt (a b:XE):Prop:=Di a b<0
theorem XE.lt_irrefl (a:XE): ¬a.lt a:=by unfold XE.lt Di;rw[Cw];omega
theorem agZ {a b c:Ex} (h1:cmp a b<0) (U:cmp b c<0):cmp a c<0:=by
 have h3:=NJ a b c (by omega) (by omega)
 refine Decidable.byContradiction fun h=> ?_
 have h0:cmp a c=0:=by omega
 have:=v8 a c h0
 subst this
 have:=tN a b
 omega
theorem XE.lt_trans {a b c:XE} (h1:a.lt b) (U:b.lt c):a.lt c:=agZ h1 U
theorem XE.ag0 {a b c:XE} (h1: ¬a.lt b) (U: ¬b.lt c): ¬a.lt c:=by
 unfold XE.lt Di at*
 have a1:=tN a.e b.e
 have a2:=tN b.e c.e
 have a3:=tN a.e c.e
 have:=NJ c.e b.e a.e (by omega) (by omega)
 omega
end Go.AM.SX
set_option maxRecDepth 100000
namespace Go.AM
open Go.Proofs
noncomputable def bX:SE:=⟨aa,bN,fun x1=>[V.int .i64 ((x1.cell 0).toInt),V.int .i64 ((x1.cell 1).toInt),.list aa ((x1.cell 2).toList)],fun k=>[Ly,LI,LA,LD,LH,LG,LF,LB,LL,LJ,LM,LC,Lx,yD].getD k 0⟩
noncomputable def Wf (C:ah):cr:=cq 65 MY [false,false,false,true,true] [[1,2,3,0,0,0]] (@zg bX C) (cq 17 MZ [false,false,true,true] [[1,2,0,0,0]] (@CJ bX C) aZ)
theorem ag1 (C:ah):bC C (Wf C) 93 (Lp [1,0,0,1,0,0,1,0,0] 93):=cp MY [false,false,false,true,true] [[1,2,3,0,0,0]] (@zg bX C) (a9 av)
theorem ag2 (C:ah):bC C (Wf C) 93 (Lp [1,0,0] 93):=cp MZ [false,false,true,true] [[1,2,0,0,0]] (@CJ bX C) (a9 (bB (ag1 C) av))
theorem ag3 {a b':Int} {ao:LV} {r:Option LV} (h:Oc bX CC a b' ao=r):CC Ly [V.int .i64 a,V.int .i64 b',.list aa ao]=r:=aY (bB (ag2 CC) av) h
noncomputable def Wg (C:ah):cr:=hY 655 Np [[1,2,3,0,6]] (@wo bX C) (cq 17 Nq [false,false,true,true] [[1,2,0,0,0,0],[1,2,0,0,0,0]] (@tS bX C) aZ)
theorem ag4 (C:ah):bC C (Wg C) 103 (Cd 40 [1,0,0,0,1,1,0,1,0] [1,0,0,0,1,1,0,1,1] 103):=hX Np [[1,2,3,0,6]] (@wo bX C) (a9 av) (a9 av)
theorem ag5 (C:ah):bC C (Wg C) 103 (Lp [1,0,0] 103):=cp Nq [false,false,true,true] [[1,2,0,0,0,0],[1,2,0,0,0,0]] (@tS bX C) (a9 (bB (ag4 C) av))
theorem ag6 {lo hi first:Int} {ao:LV} {r:Option LV} (h:Of bX CC lo hi first ao=r):CC LI [V.int .i64 lo,V.int .i64 hi,V.int .i64 first,.list aa ao]=r:=aY (bB (ag5 CC) av) h
noncomputable def Wh (C:ah):cr:=cq 65 M0 [false,false,false,true,true] [[1,2,3,0,0,0]] (@CK bX C) (cq 129 M1 [false,false,true,true] [[1,2,0,0,0]] (@CL bX C) aZ)
theorem ag7 (C:ah):bC C (Wh C) 94 (Lp [1,1,1,0,1,0,0] 94):=cp M0 [false,false,false,true,true] [[1,2,3,0,0,0]] (@CK bX C) (a9 av)
theorem ag8 (C:ah):bC C (Wh C) 94 (Lp [1,1,1,1,1,0,0] 94):=cp M1 [false,false,true,true] [[1,2,0,0,0]] (@CL bX C) (a9 av)
theorem ag9 {a b':Int} {ao:LV} {r:Option LV} (h:Og bX CC a b' ao=r):CC LA [V.int .i64 a,V.int .i64 b',.list aa ao]=r:=aY (bB (ag7 CC) (bB (ag8 CC) av)) h
noncomputable def aha (C:ah):cr:=cq 33 M7 [true,true,true] [[0,0,0,0]] (@zk bX C) aZ
theorem ahb (C:ah):bC C (aha C) 97 (Lp [1,1,0,0] 97):=cp M7 [true,true,true] [[0,0,0,0]] (@zk bX C) (a9 av)
theorem ahc {a b':Int} {ao:LV} {r:Option LV} (h:Oh bX CC a b' ao=r):CC LD [V.int .i64 a,V.int .i64 b',.list aa ao]=r:=aY (bB (ahb CC) av) h
noncomputable def Dj (C:ah):cr:=cq 49 Nh [false,true,false,false] [[1,0,3,0,4]] (@CN bX C) (cq 81 Ni [false,false,true,false] [[1,2,0,0,4]] (@zl bX C) (cq 209 Nj [false,true,false,false] [[1,0,3,0,4]] (@CP bX C) (cq 241 Nk [false,false,true,false] [[1,2,0,0,4]] (@zn bX C) (cq 210 Nl [false,true,true,true] [[1,0,0,0,0]] (@CS bX C) aZ))))
theorem ahd (C:ah):bC C (Dj C) 100 (Lp [1,1,1,0,0,0] 100):=cp Nh [false,true,false,false] [[1,0,3,0,4]] (@CN bX C) (a9 av)
theorem ahe (C:ah):bC C (Dj C) 100 (Lp [1,1,1,1,0,0,0] 100):=cp Ni [false,false,true,false] [[1,2,0,0,4]] (@zl bX C) (a9 av)
theorem ahf (C:ah):bC C (Dj C) 100 (Lp [1,1,1,1,1,1,1,1,1,0,0,0,0,0,0,0] 100):=cp Nj [false,true,false,false] [[1,0,3,0,4]] (@CP bX C) (a9 av)
theorem ahg (C:ah):bC C (Dj C) 100 (Lp [1,1,1,1,1,1,1,1,1,0,0,0,0,1,0,0,0] 100):=cp Nk [false,false,true,false] [[1,2,0,0,4]] (@zn bX C) (a9 av)
theorem ahh (C:ah):bC C (Dj C) 100 (Lp [1,1,1,1,1,1,1,1,1,0,0,0] 100):=cp Nl [false,true,true,true] [[1,0,0,0,0]] (@CS bX C) (a9 (bB (ahf C) (bB (ahg C) av)))
theorem ahi {a b' pivot:Int} {ao:LV} {r:Option LV} (h:Ol bX CC a b' pivot ao=r):CC LH [V.int .i64 a,V.int .i64 b',V.int .i64 pivot,.list aa ao]=r:=aY (bB (ahd CC) (bB (ahe CC) (bB (ahh CC) av))) h
noncomputable def OX (C:ah):cr:=cq 49 Nd [false,true,false,false] [[1,0,3,0,4]] (@CU bX C) (cq 81 Nf [false,false,true,false] [[1,2,0,0,4]] (@zq bX C) (cq 50 Ng [false,true,true,true] [[1,0,0,0,0]] (@CW bX C) aZ))
theorem ahj (C:ah):bC C (OX C) 99 (Lp [1,1,1,0,0,0,0,0,0,0] 99):=cp Nd [false,true,false,false] [[1,0,3,0,4]] (@CU bX C) (a9 av)
theorem ahk (C:ah):bC C (OX C) 99 (Lp [1,1,1,0,0,0,0,1,0,0,0] 99):=cp Nf [false,false,true,false] [[1,2,0,0,4]] (@zq bX C) (a9 av)
theorem ahl (C:ah):bC C (OX C) 99 (Lp [1,1,1,0,0,0] 99):=cp Ng [false,true,true,true] [[1,0,0,0,0]] (@CW bX C) (a9 (bB (ahj C) (bB (ahk C) av)))
theorem ahm {a b' pivot:Int} {ao:LV} {r:Option LV} (h:Oo bX CC a b' pivot ao=r):CC LG [V.int .i64 a,V.int .i64 b',V.int .i64 pivot,.list aa ao]=r:=aY (bB (ahl CC) av) h
noncomputable def Dk (C:ah):cr:=cq 81 M8 [false,false,true,false,false] [[1,2,0,4,0,5]] (@CX bX C) (cq 225 M9 [false,false,false,false,true,true] [[1,2,3,4,0,0]] (@CZ bX C) (hY 1055 Na [[1,2,3,4,0]] (@HP bX C) (cq 321 Nb [false,false,false,false,true,true] [[1,2,3,4,0,0]] (@C4 bX C) (cq 49 Nc [false,false,true,true,true] [[0,0],[1,2,0,0,0,0]] (@C7 bX C) aZ))))
theorem ahn (C:ah):bC C (Dk C) 98 (Lp [1,1,0,1,0,0,1,0,0,0,0,0] 98):=cp M8 [false,false,true,false,false] [[1,2,0,4,0,5]] (@CX bX C) (a9 av)
theorem aho (C:ah):bC C (Dk C) 98 (Lp [1,1,0,1,0,0,1,0,0,1,1,1,1,0,1,0,1,0,0] 98):=cp M9 [false,false,false,false,true,true] [[1,2,3,4,0,0]] (@CZ bX C) (a9 av)
theorem ahp (C:ah):bC C (Dk C) 98 (Cd 65 [1,1,0,1,0,0,1,0,0,1,1,1,1,0,1,0] [1,1,0,1,0,0,1,0,0,1,1,1,1,0,1,1] 98):=hX Na [[1,2,3,4,0]] (@HP bX C) (a9 (bB (aho C) av)) (a9 av)
theorem ahq (C:ah):bC C (Dk C) 98 (Lp [1,1,0,1,0,0,1,0,0,1,1,1,1,1,1,0,1,0,0] 98):=cp Nb [false,false,false,false,true,true] [[1,2,3,4,0,0]] (@C4 bX C) (a9 av)
theorem ahr (C:ah):bC C (Dk C) 98 (Lp [1,1,0,1,0,0] 98):=cp Nc [false,false,true,true,true] [[0,0],[1,2,0,0,0,0]] (@C7 bX C) (a9 (bB (ahn C) (bB (ahp C) (bB (ahq C) av))))
theorem ahs {a b':Int} {ao:LV} {r:Option LV} (h:Oq bX CC a b' ao=r):CC LF [V.int .i64 a,V.int .i64 b',.list aa ao]=r:=aY (bB (ahr CC) av) h
noncomputable def Wi (C:ah):cr:=hY 735 M3 [[1,2,3,4,0,7,8]] (@HQ bX C) (cq 81 M4 [false,false,false,true,true,true] [[1,2,3,0,0,0,0]] (@C9 bX C) aZ)
theorem aht (C:ah):bC C (Wi C) 95 (Cd 45 [1,1,0,1,1,1,0,0,1,0,0,1,0,1,0] [1,1,0,1,1,1,0,0,1,0,0,1,0,1,1] 95):=hX M3 [[1,2,3,4,0,7,8]] (@HQ bX C) (a9 av) (a9 av)
theorem ahu (C:ah):bC C (Wi C) 95 (Lp [1,1,0,1,1,1,0,0] 95):=cp M4 [false,false,false,true,true,true] [[1,2,3,0,0,0,0]] (@C9 bX C) (a9 (bB (aht C) av))
theorem ahv {a b':Int} {ao:LV} {r:Option LV} (h:Ou bX CC a b' ao=r):CC LB [V.int .i64 a,V.int .i64 b',.list aa ao]=r:=aY (bB (ahu CC) av) h
theorem ahw {data:LV} {a b' c eV:Int} {r:Option LV} (h:Ov bX CC data a b' c eV=r):CC LL [.list aa data,V.int .i64 a,V.int .i64 b',V.int .i64 c,V.int .i64 eV]=r:=aY (L:=aZ) av h
theorem ahx {data:LV} {a eV:Int} {r:Option LV} (h:Ow bX CC data a eV=r):CC LJ [.list aa data,V.int .i64 a,V.int .i64 eV]=r:=aY (L:=aZ) av h
theorem ahy {data:LV} {a b' eV:Int} {r:Option LV} (h:HS bX CC data a b' eV=r):CC LM [.list aa data,V.int .i64 a,V.int .i64 b',V.int .i64 eV]=r:=aY (L:=aZ) av h
noncomputable def Wj (C:ah):cr:=hY 591 M5 [[1,0,0,0,0]] (@Db bX C) (hY 559 M6 [[0,0]] (@Dc bX C) aZ)
theorem ahz (C:ah):bC C (Wj C) 96 (Cd 36 [1,1,1,1,1,1,0,1,0,0,1,0] [1,1,1,1,1,1,0,1,0,0,1,1] 96):=hX M5 [[1,0,0,0,0]] (@Db bX C) (a9 av) (a9 av)
theorem ahA (C:ah):bC C (Wj C) 96 (Cd 34 [1,1,1,1,1,1,0,1,0] [1,1,1,1,1,1,0,1,1] 96):=hX M6 [[0,0]] (@Dc bX C) (a9 (bB (ahz C) av)) (a9 av)
theorem ahB {data:LV} {a b':Int} {r:Option LV} (h:HT bX CC data a b'=r):CC LC [.list aa data,V.int .i64 a,V.int .i64 b']=r:=aY (bB (ahA CC) av) h
noncomputable def H2 (C:ah):cr:=hY 639 MU [[1,2,0,4,5,6,0]] (@zw bX C) (hY 911 MV [[1,2,3,4,5,6,0,0,0]] (@zx bX C) (hY 1215 MW [[1,2,3,4,5,6,7,0,0],[1,2,3,4,5,6,7,0]] (@nC bX C) (cq 33 MX [true,true,true,true,true,true] [[0]] (@qG bX C) aZ)))
theorem ahC (C:ah):bC C (H2 C) 91 (Cd 39 [1,1,0,0,0,1,1,1,0,1,0] [1,1,0,0,0,1,1,1,0,1,1] 91):=hX MU [[1,2,0,4,5,6,0]] (@zw bX C) (a9 av) (a9 av)
theorem ahD (C:ah):bC C (H2 C) 91 (Cd 56 [1,1,0,0,0,1,1,1,1,1,0,1,0] [1,1,0,0,0,1,1,1,1,1,0,1,1] 91):=hX MV [[1,2,3,4,5,6,0,0,0]] (@zx bX C) (a9 av) (a9 av)
theorem ahE (C:ah):bC C (H2 C) 91 (Cd 75 [1,1,0,0,0,1,1,1,1,1,1,0,1,0] [1,1,0,0,0,1,1,1,1,1,1,0,1,1] 91):=hX MW [[1,2,3,4,5,6,7,0,0],[1,2,3,4,5,6,7,0]] (@nC bX C) (a9 av) (a9 av)
theorem ahF (C:ah):bC C (H2 C) 91 (Lp [1,1,0,0] 91):=cp MX [true,true,true,true,true,true] [[0]] (@qG bX C) (a9 (bB (ahC C) (bB (ahD C) (bB (ahE C) av))))
theorem ahG {a b' iN:Int} {ao:LV} {r:Option LV} (h:OG bX CC a b' iN ao=r):CC Lx [V.int .i64 a,V.int .i64 b',V.int .i64 iN,.list aa ao]=r:=aY (bB (ahF CC) av) h
theorem ahH {xs:LV} {r:Option LV} (h:OH bX CC xs=r):CC yD [.list aa xs]=r:=aY (L:=aZ) av h
end Go.AM
set_option maxRecDepth 100000
namespace Go.AM.SX
open Go.Proofs Go.Sort
noncomputable abbrev ahI:au XE where
 E:=bX
 enc:=XE.enc
 cmp:=Di
 re x:=by simp only[bX,XE.bu,XE.bE,XE.bD];exact XE.re x
 cs a b:=by simp only[bX,XE.bu,XE.bE,XE.bD];exact agY a b
 VG:=⟨fun x=>by rw[decide_eq_false_iff_not];exact XE.lt_irrefl x,fun x y z=>by simp only[ej];exact XE.lt_trans,fun x y z=>by simp only[decide_eq_false_iff_not];exact XE.ag0⟩
 VH:=ag3
 VI:=ag6
 VJ:=ag9
 VK:=ahc
 VL:=ahi
 VM:=ahm
 VN:=ahs
 VO:=ahv
 VP:=ahw
 VQ:=ahx
 OI:=ahy
 OJ:=ahB
 VR:=ahG
 VT:=ahH
theorem ahJ (l:List XE) (hs:l.length<1152921504606846976): ∃R:List XE,CC yD [.list aa (l.map XE.enc)]=some [.list aa (R.map XE.enc)]∧R.Perm l∧R.Pairwise (fun x y=> ¬y.lt x):=by
 obtain ⟨R,h1,U,h3⟩:= @agX XE ahI _ l hs
 exact ⟨R,h1,U,h3⟩
end Go.AM.SX
set_option maxRecDepth 100000
namespace Go.AM
open Go.Proofs
noncomputable def zB (C:ah) (Dl wG:Nat) (k' lk:Int) (ss:LV) {β:Type} (kn:(Int × Int × LV)→Option β) (kr:(Int × Int × Bool × LV)→Option β):Option β:=
 bif decide ((lk:Int)<(wG:Int)) then
  bif (decide (0≤lk))&&(decide (lk<(wG:Int))) then
  (ss[Dl+((lk:Int).toNat)]?).bind fun x4=>
  bif (decide (0≤(IntKind.wrap .i64 (lk-1))))&&(decide ((IntKind.wrap .i64 (lk-1))<(wG:Int))) then
   (ss[Dl+((IntKind.wrap .i64 (lk-1):Int).toNat)]?).bind fun x5=>
   (C qB [V.int .i64 ((x4.cell 0).toInt),V.int .i64 ((x4.cell 1).toInt),.list aa ((x4.cell 2).toList),V.int .i64 ((x5.cell 0).toInt),V.int .i64 ((x5.cell 1).toInt),.list aa ((x5.cell 2).toList)]).bind fun r6=>
   bif !((V.nth r6 0).toBool) then
   bif (decide (0≤lk))&&(decide (lk<(wG:Int))) then
    (ss[Dl+((lk:Int).toNat)]?).bind fun x7=>
    aH ss k' fun x8=>
    kn (IntKind.wrap .i64 (k'+1),IntKind.wrap .i64 (lk+1),ba ss k' (.agg [V.int .i64 ((x7.cell 0).toInt),V.int .i64 ((x7.cell 1).toInt),.list aa ((x7.cell 2).toList)]))
   else none
   else
   kn (k',IntKind.wrap .i64 (lk+1),ss)
  else none
  else none
 else
  kr (k',lk,decide ((lk:Int)<(wG:Int)),ss)
noncomputable def wH (C:ah) (Dl wG:Nat):=un fun k'=>un fun lk ss=>zB C Dl wG k' lk ss (fun y=>some (Sum.inl y)) (fun r=>some (Sum.inr r))
noncomputable def zC (C:ah) (ss:LV) (k':Int) {β:Type} (kn:Int→Option β) (kr:(LV ⊕ (Int × Bool))→Option β):Option β:=
 bif decide ((k':Int)<(ss.length:Int)) then
  aH ss k' fun x1=>
  aH ss (IntKind.wrap .i64 (k'-1)) fun x2=>
  (C qB [V.int .i64 ((x1.cell 0).toInt),V.int .i64 ((x1.cell 1).toInt),.list aa ((x1.cell 2).toList),V.int .i64 ((x2.cell 0).toInt),V.int .i64 ((x2.cell 1).toInt),.list aa ((x2.cell 2).toList)]).bind fun r3=>
  bif (V.nth r3 0).toBool then
  bif (decide (0≤k'))&&(decide (k'≤(ss.length:Int))) then
   (Loop (wH C ((k':Int).toNat) (ss.length-((k':Int).toNat))) (k',1,ss)).bind (un fun (nD:Int)=>un fun (anh:Int)=>un fun (Hp:Bool) (sg:LV)=>
    bif (decide (0≤nD))&&(decide (nD≤(sg.length:Int))) then
    bif (decide (0≤nD))&&(decide (nD≤((sg.take ((nD:Int).toNat)++(List.replicate (sg.length-((nD:Int).toNat)) (V.agg [V.int .i64 0,V.int .i64 0,.list aa ([]:LV)])++sg.drop (((nD:Int).toNat)+(sg.length-((nD:Int).toNat))))).length:Int))) then
     kr (.inl ((sg.take ((nD:Int).toNat)++(List.replicate (sg.length-((nD:Int).toNat)) (V.agg [V.int .i64 0,V.int .i64 0,.list aa ([]:LV)])++sg.drop (((nD:Int).toNat)+(sg.length-((nD:Int).toNat))))).take ((nD:Int).toNat)))
    else none
    else none)
  else none
  else
  kn (IntKind.wrap .i64 (k'+1))
 else
  kr (.inr (k',decide ((k':Int)<(ss.length:Int))))
noncomputable def wI (C:ah) (ss:LV):=fun k'=>zC C ss k' (fun y=>some (Sum.inl y)) (fun r=>some (Sum.inr r))
noncomputable def Wk (C:ah):cr:=cq 145 MS [true,false,false,true,true] [[0,2,3,0,0,0]] (@zB C) (cq 65 MT [true,false] [[0],[0,0,2]] (@zC C) aZ)
theorem ahK (C:ah):bC C (Wk C) 89 (Lp [1,1,0,1,0,0,1,0,0,1,0,1,0,1,0,0] 89):=cp MS [true,false,false,true,true] [[0,2,3,0,0,0]] (@zB C) (a9 av)
theorem ahL (C:ah):bC C (Wk C) 89 (Lp [1,1,0,1,0,0] 89):=cp MT [true,false] [[0],[0,0,2]] (@zC C) (a9 (bB (ahK C) av))
noncomputable def H3 (C:ah) (ss:LV):Option LV:=
 bif decide (((ss.length:Int):Int)<2) then
  some [V.bool true,.list aa ss]
 else
  (Loop (wI C ss) 1).bind (cf (fun (ahM:LV)=>
   some [V.bool false,.list aa ahM]) (un fun (ani:Int) (sa:Bool)=>
   some [V.bool true,.list aa ss]))
theorem OY {ss:LV} {r:Option LV} (h:H3 CC ss=r):CC GY [.list aa ss]=r:=aY (bB (ahL CC) av) h
noncomputable def Wl (C:ah) (jb:LV):Option LV:=
 (C yD [.list aa jb]).bind fun r1=>
 (C GY [.list aa ((V.nth r1 0).toList)]).bind fun r2=>
 bif (V.nth r2 0).toBool then
  some [V.bool true,.list aa ((V.nth (r2.drop 1) 0).toList)]
 else
  some [V.bool false,.list aa ((V.nth (r2.drop 1) 0).toList)]
theorem ahN {jb:LV} {r:Option LV} (h:Wl CC jb=r):CC vP [.list aa jb]=r:=aY (L:=aZ) av h
noncomputable def Wm (C:ah) (fe eT:Int) (ff:LV) (fg fh:Int) (fv:LV):Option LV:=
 (C bN [V.int .i64 fe,V.int .i64 eT,.list aa ff,V.int .i64 fg,V.int .i64 fh,.list aa fv]).bind fun r1=>
 some [.bool ((((V.nth r1 0).toInt):Int)==0)]
theorem ahO {fe eT:Int} {ff:LV} {fg fh:Int} {fv:LV} {r:Option LV} (h:Wm CC fe eT ff fg fh fv=r):CC qB [V.int .i64 fe,V.int .i64 eT,.list aa ff,V.int .i64 fg,V.int .i64 fh,.list aa fv]=r:=aY (L:=aZ) av h
end Go.AM
set_option maxRecDepth 100000
namespace Go.AM
open Go.Proofs Ex
def oF (prev:Ex):List Ex→List Ex
 | []=>[]
 | x::l=>if cmp x prev=0 then oF x l else x::oF x l
def jD:List Ex→List Ex
 | []=>[]
 | x::l=>x::oF x l
theorem Wn: ∀(m:List Ex) (prev x:Ex),oF prev (m++[x])=oF prev m++(if cmp x ((prev::m).getD m.length aF)=0 then [] else [x])
 | [],prev,x=>by simp only[List.nil_append,oF,List.length_nil,An]
 | y::m,prev,x=>by
  have ih:=Wn m y x
  simp only[List.cons_append,oF,List.length_cons,List.getD_cons_succ]
  split
  ·exact ih
  ·rw[ih];rfl
theorem Wo {l:List Ex} {p:Nat} (h1:1≤p) (U:p<l.length):jD (l.take (p+1))=jD (l.take p)++(if cmp (l.getD p aF) (l.getD (p-1) aF)=0 then [] else [l.getD p aF]):=by
 match l,p,h1,U with
 | y::l,p+1,_,U=>
  simp only[List.length_cons] at U
  rw[List.take_succ_cons,List.take_succ_cons,jD,jD,lS (by omega),Wn]
  simp only[List.getD_cons_succ,eI,xb]
  rw[show min p l.length=p by omega]
  have:(y::l.take p).getD p aF=(y::l).getD p aF:=by
   match p with
   | 0=>rfl
   | q+1=>simp only[List.getD_cons_succ];rw[fA,fA,dU (by omega)]
  rw[this];rfl
theorem Wp: ∀(m:List Ex) (prev:Ex),(prev::m).Pairwise (fun x y=> ¬y.lx x)→kq (prev::oF prev m)∧∀x,x∈prev::oF prev m↔x∈prev::m
 | [],prev,_=>⟨by simp[oF],by simp[oF]⟩
 | y::m,prev,h=>by
  have h1:=uy.1 h
  obtain ⟨i1,i2⟩:=Wp m y h1.2
  rw[oF]
  by_cases hc:cmp y prev=0
  ·rw[aj hc]
   have:=v8 _ _ hc
   subst this
   refine ⟨i1,fun x=> ?_⟩
   rw[i2 x];simp
  ·rw[an hc]
   have aJ:prev.lx y:=by
    by_cases U:prev.lx y
    ·exact U
    ·exact absurd (Ex.Va U (h1.1 y (by simp))) fun e=>hc (by rw[e];exact Cw _)
   refine ⟨uy.2 ⟨fun x hx=> ?_,i1⟩,fun x=> ?_⟩
   ·rcases dO.1 hx with rfl|hx
    ·exact aJ
    ·exact Ex.NN aJ ((uy.1 i1).1 x hx)
   ·rw[dO,i2 x,←dO]
theorem ahP {l:List Ex} (h:l.Pairwise (fun x y=> ¬y.lx x)):kq (jD l)∧∀x,x∈jD l↔x∈l:=by
 match l,h with
 | [],_=>exact ⟨List.Pairwise.nil,fun _=>Iff.rfl⟩
 | y::l,h=>exact Wp l y h
theorem Wq (a:Ex) (ha:a.Ok) (b:Ex) (hb:b.Ok):CC qB (bV a (bV b []))=some [.bool (decide (cmp a b=0))]:=by
 refine ahO ?_
 unfold Wm
 refine (congrArg (fun o=>Option.bind o _) (Hy a ha b hb)).trans ?_
 simp only[Option.bind_some,V.aQ,V.toInt_int]
 rw[Ct]
section
variable {l:List Ex} (hn:l.length≤1000000) (ar: ∀k∈l,k.Ok)
include hn ar
theorem ahQ {k:Nat}: ∀(d k2 i:Nat) (ss:List Ex),k+k2+d=l.length→1≤k2→i+1≤k+k2→ss.length=l.length→ss.take i=jD (l.take (k+k2))→ss.drop (k+k2-1)=l.drop (k+k2-1)→
  ∃t u fF,Loop (wH CC k (l.length-k)) ((i:Int),(k2:Int),ss.map enc)=some (((jD l).length:Int),u,t,List.map enc fF)∧fF.take (jD l).length=jD l∧fF.length=l.length:=by
 intro d
 induction d with
 | zero=>
  intro k2 i ss hj nq hi hl ht hd
  have e0:l.take (k+k2)=l:=Am (by omega)
  rw[e0] at ht
  have iF:i=(jD l).length:=by rw[←ht,eI];omega
  refine ⟨false,(k2:Int),ss,aV ?_,by rw[←iF];exact ht,hl⟩
  simp only[wH,zB,un,aK,aA]
  rw[aM,eP,iF]
 | succ d ih=>
  intro k2 i ss hj nq hi hl ht hd
  have hp:k+k2<l.length:=by omega
  have jq:ss.drop (k+k2)=l.drop (k+k2):=by
   have h:=congrArg (List.drop 1) hd
   rw[qT,qT] at h
   rwa [show k+k2-1+1=k+k2 by omega] at h
  have g1:=CG hl jq hp
  have g0:=CG hl hd (show k+k2-1<l.length by omega)
  have x1:(ss.map enc)[k+k2]? =some (l.getD (k+k2) aF).enc:=by rw[pC (by omega),g1]
  have x0:(ss.map enc)[k+(k2-1)]? =some (l.getD (k+k2-1) aF).enc:=by rw[show k+(k2-1)=k+k2-1 by omega,pC (by omega),g0]
  have w1:IntKind.wrap .i64 ((k2:Int)-1)=((k2-1:Nat):Int):=by rw[bP];omega
  have t1:((k2:Nat):Int)<((l.length-k:Nat):Int):=by omega
  have t2:(0:Int)≤((k2:Nat):Int):=by omega
  have t3:(0:Int)≤((k2-1:Nat):Int):=by omega
  have t4:((k2-1:Nat):Int)<((l.length-k:Nat):Int):=by omega
  have t5:((i:Nat):Int)<(ss.length:Int):=by omega
  have t6:(0:Int)≤((i:Nat):Int):=by omega
  have bY: ∃y,(ss.map enc)[i]? =some y:=⟨_,pC (by omega)⟩
  obtain ⟨y,hy⟩:=bY
  have co:=Wq (l.getD (k+k2) aF) (yY ar hp) (l.getD (k+k2-1) aF) (yY ar (by omega))
  have cs:=Wo (l:=l) (p:=k+k2) (by omega) hp
  by_cases he:cmp (l.getD (k+k2) aF) (l.getD (k+k2-1) aF)=0
  ·have ca:wH CC k (l.length-k) ((i:Int),(k2:Int),ss.map enc)=some (.inl ((i:Int),((k2+1:Nat):Int),ss.map enc)):=by
    simp only[wH,zB,un,aK,aA,dk,w1,t1,t2,t3,t4,c6,Int.toNat_natCast,x1,x0,Option.bind_some,bu,bE,bD]
    refine (congrArg (fun o=>Option.bind o _) co).trans ?_
    simp only[Option.bind_some,V.aQ,V.dD]
    rw[cz he,qS,cond_false,bP]
    rfl
   rw[bQ ca]
   refine ih (k2+1) i ss (by omega) (by omega) (by omega) hl ?_ (by rw[show k+(k2+1)-1=k+k2 by omega];exact jq)
   rw[show k+(k2+1)=k+k2+1 by omega,cs,aj he,dr,ht]
  ·have ca:wH CC k (l.length-k) ((i:Int),(k2:Int),ss.map enc)=some (.inl (((i+1:Nat):Int),((k2+1:Nat):Int),(ss.set i (l.getD (k+k2) aF)).map enc)):=by
    simp only[wH,zB,un,aK,aA,dk,w1,t1,t2,t3,t4,t5,t6,c6,Int.toNat_natCast,x1,x0,hy,Option.bind_some,bu,bE,bD]
    refine (congrArg (fun o=>Option.bind o _) co).trans ?_
    simp only[Option.bind_some,V.aQ,V.dD]
    rw[cI he,uz,cond_true,bP,bP,←dA,sG]
    rfl
   rw[bQ ca]
   refine ih (k2+1) (i+1) (ss.set i (l.getD (k+k2) aF)) (by omega) (by omega) (by omega) (by simpa using hl) ?_ ?_
   ·rw[lS (by rw[mT];omega),EG (cl i),ht,show k+(k2+1)=k+k2+1 by omega,cs,an he]
    simp[show i<ss.length by omega]
   ·rw[show k+(k2+1)-1=k+k2 by omega,EH (by omega),jq]
theorem ahR: ∀(d p:Nat),p+d=l.length→1≤p→jD (l.take p)=l.take p→
  (jD l=l∧∃t,Loop (wI CC (l.map enc)) (p:Int)=some (.inr t))∨Loop (wI CC (l.map enc)) (p:Int)=some (.inl ((jD l).map enc)):=by
 intro d
 induction d with
 | zero=>
  intro p hp h1 hc
  obtain rfl:p=l.length:=by omega
  rw[qQ] at hc
  refine .inl ⟨hc,((l.length:Int),false),aV ?_⟩
  simp only[wI,zC,aK,aA]
  rw[aM,eP]
 | succ d ih=>
  intro p hp h1 hc
  have ch:p<l.length:=by omega
  have cs:=Wo (l:=l) h1 ch
  have co:=Wq (l.getD p aF) (yY ar ch) (l.getD (p-1) aF) (yY ar (by omega))
  have x1:(l.map enc)[p]? =some (l.getD p aF).enc:=pC ch
  have x0:(l.map enc)[p-1]? =some (l.getD (p-1) aF).enc:=pC (by omega)
  have w1:IntKind.wrap .i64 ((p:Int)-1)=((p-1:Nat):Int):=by rw[bP];omega
  have t1:((p:Nat):Int)<(l.length:Int):=by omega
  have t2:(0:Int)≤((p:Nat):Int):=by omega
  have t3:(0:Int)≤((p-1:Nat):Int):=by omega
  have t4:((p-1:Nat):Int)<(l.length:Int):=by omega
  have t5:((p:Nat):Int)≤(l.length:Int):=by omega
  by_cases he:cmp (l.getD p aF) (l.getD (p-1) aF)=0
  ·refine .inr (aV ?_)
   obtain ⟨t,u,fF,e1,e2,e3⟩:=ahQ hn ar (k:=p) (l.length-(p+1)) 1 p l (by omega) (by omega) (by omega) rfl (by rw[cs,aj he,dr,hc]) rfl
   have hm:(jD l).length≤fF.length:=by
    have:=congrArg List.length e2
    rw[eI] at this
    omega
   have m1:(0:Int)≤(((jD l).length:Nat):Int):=by omega
   have m2:(((jD l).length:Nat):Int)≤((fF.map enc).length:Int):=by rw[aK];omega
   simp only[wI,zC,aK,aA,dk,w1,t1,t2,t3,t4,t5,c6,Int.toNat_natCast,x1,x0,Option.bind_some,bu,bE,bD]
   refine (congrArg (fun o=>Option.bind o _) co).trans ?_
   simp only[Option.bind_some,V.aQ,V.dD]
   rw[cz he,cond_true]
   refine (congrArg (fun o=>Option.bind o _) e1).trans ?_
   simp only[Option.bind_some,un,dk,aA,Int.toNat_natCast]
   rw[aj m1,aj m2,aj m1,aj (by simp only[cg,eI,ux,oM,aK];omega),HK _ _ _ hm,e2]
  ·have ca:wI CC (l.map enc) (p:Int)=some (.inl ((p+1:Nat):Int)):=by
    simp only[wI,zC,aK,aA,dk,w1,t1,t2,t3,t4,c6,Int.toNat_natCast,x1,x0,Option.bind_some,bu,bE,bD]
    refine (congrArg (fun o=>Option.bind o _) co).trans ?_
    simp only[Option.bind_some,V.aQ,V.dD]
    rw[cI he,cond_false,bP]
    rfl
   rw[bQ ca]
   exact ih (p+1) (by omega) (by omega) (by rw[cs,an he,hc,←lS ch])
theorem ahS: ∃b,CC GY [.list aa (l.map enc)]=some [.bool b,.list aa ((jD l).map enc)]:=by
 by_cases U:l.length<2
 ·refine ⟨true,OY ?_⟩
  unfold H3
  rw[aK,aA,bf]
  match l,U with
  | [],_=>rfl
  | [k],_=>rfl
 ·rcases ahR hn ar (l.length-1) 1 (by omega) (by omega) (by
   match l,U with
   | k::l,_=>rfl) with ⟨h3,t,h4⟩|h4
  ·refine ⟨true,OY ?_⟩
   unfold H3
   rw[aK,aA,aM]
   refine (congrArg (fun o=>Option.bind o _) h4).trans ?_
   rw[h3];rfl
  ·refine ⟨false,OY ?_⟩
   unfold H3
   rw[aK,aA,aM]
   refine (congrArg (fun o=>Option.bind o _) h4).trans ?_
   rfl
theorem ahT: ∃R:List Ex,CC yD [.list aa (l.map enc)]=some [.list aa (R.map enc)]∧R.Perm l∧R.Pairwise (fun x y=> ¬y.lx x):=by
 have hx: ∃L:List SX.XE,L.map SX.XE.e=l:=by
  clear hn
  induction l with
  | nil=>exact ⟨[],rfl⟩
  | cons k l ih=>
   obtain ⟨L,hL⟩:=ih fun k hk=>ar k (by simp[hk])
   exact ⟨⟨k,ar k (by simp)⟩::L,by rw[cM,hL]⟩
 obtain ⟨L,rfl⟩:=hx
 have he: ∀L:List SX.XE,L.map SX.XE.enc=(L.map SX.XE.e).map enc:=fun L=>by rw[List.map_map];rfl
 obtain ⟨R,e1,h1,U⟩:=SX.ahJ L (by rw[aK] at hn;omega)
 refine ⟨R.map SX.XE.e,?_,h1.map _,List.pairwise_map.2 U⟩
 rw[←he,←he];exact e1
theorem Wr: ∃b,CC vP [.list aa (l.map enc)]=some [.bool b,.list aa ((l.foldl ep []).map enc)]:=by
 obtain ⟨R,e1,h1,U⟩:=ahT hn ar
 obtain ⟨b,e2⟩:=ahS (l:=R) (by rw[h1.length_eq];exact hn) fun k hk=>ar k (h1.mem_iff.1 hk)
 obtain ⟨c1,c2⟩:=ahP U
 have hc:jD R=l.foldl ep []:=NO c1 HF fun x=>by rw[c2,y6,h1.mem_iff]
 rw[hc] at e2
 refine ⟨b,ahN ?_⟩
 unfold Wl
 refine (congrArg (fun o=>Option.bind o _) e1).trans ?_
 simp only[Option.bind_some,V.aQ,V.kZ]
 refine (congrArg (fun o=>Option.bind o _) e2).trans ?_
 cases b<;>rfl
end
end Go.AM
set_option maxRecDepth 100000
namespace Go.AM
open Go.Proofs
noncomputable def Ws (C:ah) (kids:LV):Option LV:=
 (C LN [.list aa kids]).bind fun r1=>
 bif (V.nth r1 0).toBool then
  (C tD []).bind fun r2=>
  some [V.int .i64 ((V.nth r2 0).toInt),V.int .i64 ((V.nth (r2.drop 1) 0).toInt),.list aa ((V.nth (r2.drop 2) 0).toList)]
 else
  (C yC [V.int .i64 4,.list aa kids]).bind fun r3=>
  (C G4 [.list aa ((V.nth r3 0).toList)]).bind fun r4=>
  bif (V.nth r4 0).toBool then
  (C vP [.list aa ((V.nth (r4.drop 1) 0).toList)]).bind fun r5=>
  bif (V.nth r5 0).toBool then
   (C qA []).bind fun r6=>
   (C ny [V.int .i64 4,.list aa ((V.nth (r5.drop 1) 0).toList),V.int .i64 ((V.nth r6 0).toInt),V.int .i64 ((V.nth (r6.drop 1) 0).toInt),.list aa ((V.nth (r6.drop 2) 0).toList)]).bind fun r7=>
   some [V.int .i64 ((V.nth r7 0).toInt),V.int .i64 ((V.nth (r7.drop 1) 0).toInt),.list aa ((V.nth ((r7.drop 1).drop 1) 0).toList)]
  else
   (C qA []).bind fun r8=>
   (C ny [V.int .i64 4,.list aa ((V.nth (r5.drop 1) 0).toList),V.int .i64 ((V.nth r8 0).toInt),V.int .i64 ((V.nth (r8.drop 1) 0).toInt),.list aa ((V.nth (r8.drop 2) 0).toList)]).bind fun r9=>
   some [V.int .i64 ((V.nth r9 0).toInt),V.int .i64 ((V.nth (r9.drop 1) 0).toInt),.list aa ((V.nth ((r9.drop 1).drop 1) 0).toList)]
  else
  (C vP [.list aa ((V.nth (r4.drop 1) 0).toList)]).bind fun df=>
  bif (V.nth df 0).toBool then
   (C qA []).bind fun eW=>
   (C ny [V.int .i64 4,.list aa ((V.nth (df.drop 1) 0).toList),V.int .i64 ((V.nth eW 0).toInt),V.int .i64 ((V.nth (eW.drop 1) 0).toInt),.list aa ((V.nth (eW.drop 2) 0).toList)]).bind fun ic=>
   some [V.int .i64 ((V.nth ic 0).toInt),V.int .i64 ((V.nth (ic.drop 1) 0).toInt),.list aa ((V.nth ((ic.drop 1).drop 1) 0).toList)]
  else
   (C qA []).bind fun ja=>
   (C ny [V.int .i64 4,.list aa ((V.nth (df.drop 1) 0).toList),V.int .i64 ((V.nth ja 0).toInt),V.int .i64 ((V.nth (ja.drop 1) 0).toInt),.list aa ((V.nth (ja.drop 2) 0).toList)]).bind fun ko=>
   some [V.int .i64 ((V.nth ko 0).toInt),V.int .i64 ((V.nth (ko.drop 1) 0).toInt),.list aa ((V.nth ((ko.drop 1).drop 1) 0).toList)]
theorem ahU {kids:LV} {r:Option LV} (h:Ws CC kids=r):CC GS [.list aa kids]=r:=aY (L:=aZ) av h
noncomputable def Wt (C:ah) (kids:LV):Option LV:=
 (C tB [.list aa kids]).bind fun r1=>
 bif (V.nth r1 0).toBool then
  (C qA []).bind fun r2=>
  some [V.int .i64 ((V.nth r2 0).toInt),V.int .i64 ((V.nth (r2.drop 1) 0).toInt),.list aa ((V.nth (r2.drop 2) 0).toList)]
 else
  (C yC [V.int .i64 5,.list aa kids]).bind fun r3=>
  (C G2 [.list aa ((V.nth r3 0).toList)]).bind fun r4=>
  bif (V.nth r4 0).toBool then
  (C vO []).bind fun r5=>
  (C ny [V.int .i64 5,.list aa ((V.nth (r4.drop 1) 0).toList),V.int .i64 ((V.nth r5 0).toInt),V.int .i64 ((V.nth (r5.drop 1) 0).toInt),.list aa ((V.nth (r5.drop 2) 0).toList)]).bind fun r6=>
  some [V.int .i64 ((V.nth r6 0).toInt),V.int .i64 ((V.nth (r6.drop 1) 0).toInt),.list aa ((V.nth ((r6.drop 1).drop 1) 0).toList)]
  else
  (C vO []).bind fun r7=>
  (C ny [V.int .i64 5,.list aa ((V.nth (r4.drop 1) 0).toList),V.int .i64 ((V.nth r7 0).toInt),V.int .i64 ((V.nth (r7.drop 1) 0).toInt),.list aa ((V.nth (r7.drop 2) 0).toList)]).bind fun r8=>
  some [V.int .i64 ((V.nth r8 0).toInt),V.int .i64 ((V.nth (r8.drop 1) 0).toInt),.list aa ((V.nth ((r8.drop 1).drop 1) 0).toList)]
theorem ahV {kids:LV} {r:Option LV} (h:Wt CC kids=r):CC GU [.list aa kids]=r:=aY (L:=aZ) av h
noncomputable def Wu (C:ah) (kids:LV):Option LV:=
 (C tB [.list aa kids]).bind fun r1=>
 bif (V.nth r1 0).toBool then
  (C qA []).bind fun r2=>
  some [V.int .i64 ((V.nth r2 0).toInt),V.int .i64 ((V.nth (r2.drop 1) 0).toInt),.list aa ((V.nth (r2.drop 2) 0).toList)]
 else
  (C yC [V.int .i64 6,.list aa kids]).bind fun r3=>
  (C yB [.list aa ((V.nth r3 0).toList)]).bind fun r4=>
  bif (V.nth r4 0).toBool then
  (C vP [.list aa ((V.nth (r4.drop 1) 0).toList)]).bind fun r5=>
  bif (V.nth r5 0).toBool then
   (C tD []).bind fun r6=>
   (C ny [V.int .i64 6,.list aa ((V.nth (r5.drop 1) 0).toList),V.int .i64 ((V.nth r6 0).toInt),V.int .i64 ((V.nth (r6.drop 1) 0).toInt),.list aa ((V.nth (r6.drop 2) 0).toList)]).bind fun r7=>
   some [V.int .i64 ((V.nth r7 0).toInt),V.int .i64 ((V.nth (r7.drop 1) 0).toInt),.list aa ((V.nth ((r7.drop 1).drop 1) 0).toList)]
  else
   (C tD []).bind fun r8=>
   (C ny [V.int .i64 6,.list aa ((V.nth (r5.drop 1) 0).toList),V.int .i64 ((V.nth r8 0).toInt),V.int .i64 ((V.nth (r8.drop 1) 0).toInt),.list aa ((V.nth (r8.drop 2) 0).toList)]).bind fun r9=>
   some [V.int .i64 ((V.nth r9 0).toInt),V.int .i64 ((V.nth (r9.drop 1) 0).toInt),.list aa ((V.nth ((r9.drop 1).drop 1) 0).toList)]
  else
  (C vP [.list aa ((V.nth (r4.drop 1) 0).toList)]).bind fun df=>
  bif (V.nth df 0).toBool then
   (C tD []).bind fun eW=>
   (C ny [V.int .i64 6,.list aa ((V.nth (df.drop 1) 0).toList),V.int .i64 ((V.nth eW 0).toInt),V.int .i64 ((V.nth (eW.drop 1) 0).toInt),.list aa ((V.nth (eW.drop 2) 0).toList)]).bind fun ic=>
   some [V.int .i64 ((V.nth ic 0).toInt),V.int .i64 ((V.nth (ic.drop 1) 0).toInt),.list aa ((V.nth ((ic.drop 1).drop 1) 0).toList)]
  else
   (C tD []).bind fun ja=>
   (C ny [V.int .i64 6,.list aa ((V.nth (df.drop 1) 0).toList),V.int .i64 ((V.nth ja 0).toInt),V.int .i64 ((V.nth (ja.drop 1) 0).toInt),.list aa ((V.nth (ja.drop 2) 0).toList)]).bind fun ko=>
   some [V.int .i64 ((V.nth ko 0).toInt),V.int .i64 ((V.nth (ko.drop 1) 0).toInt),.list aa ((V.nth ((ko.drop 1).drop 1) 0).toList)]
theorem ahW {kids:LV} {r:Option LV} (h:Wu CC kids=r):CC GV [.list aa kids]=r:=aY (L:=aZ) av h
noncomputable def OZ (C:ah) (op:Int) (kids:LV):Option LV:=
 bif (op:Int)==4 then
  (C GS [.list aa kids]).bind fun r1=>
  some [V.int .i64 ((V.nth r1 0).toInt),V.int .i64 ((V.nth (r1.drop 1) 0).toInt),.list aa ((V.nth ((r1.drop 1).drop 1) 0).toList)]
 else
  bif (op:Int)==5 then
  (C GU [.list aa kids]).bind fun r2=>
  some [V.int .i64 ((V.nth r2 0).toInt),V.int .i64 ((V.nth (r2.drop 1) 0).toInt),.list aa ((V.nth ((r2.drop 1).drop 1) 0).toList)]
  else
  bif (op:Int)==6 then
   (C GV [.list aa kids]).bind fun r3=>
   some [V.int .i64 ((V.nth r3 0).toInt),V.int .i64 ((V.nth (r3.drop 1) 0).toInt),.list aa ((V.nth ((r3.drop 1).drop 1) 0).toList)]
  else
   bif ((kids.length:Int):Int) != 1 then
   some [V.int .i64 0,V.int .i64 0,.list aa ([]:LV)]
   else
   (kids[0]?).bind fun x4=>
   bif (op:Int)==8 then
    bif (((x4.cell 0).toInt):Int)==8 then
    bif ((((x4.cell 2).toList).length:Int):Int)==1 then
     (((x4.cell 2).toList)[0]?).bind fun x5=>
     some [V.int .i64 ((x5.cell 0).toInt),V.int .i64 ((x5.cell 1).toInt),.list aa ((x5.cell 2).toList)]
    else
     some [V.int .i64 8,V.int .i64 0,.list aa ([.agg [V.int .i64 ((x4.cell 0).toInt),V.int .i64 ((x4.cell 1).toInt),.list aa ((x4.cell 2).toList)]]:LV)]
    else
    some [V.int .i64 8,V.int .i64 0,.list aa ([.agg [V.int .i64 ((x4.cell 0).toInt),V.int .i64 ((x4.cell 1).toInt),.list aa ((x4.cell 2).toList)]]:LV)]
   else
    bif (op:Int)==7 then
    bif (((x4.cell 0).toInt):Int)==1 then
     (C vO []).bind fun r6=>
     some [V.int .i64 ((V.nth r6 0).toInt),V.int .i64 ((V.nth (r6.drop 1) 0).toInt),.list aa ((V.nth (r6.drop 2) 0).toList)]
    else
     bif (((x4.cell 0).toInt):Int)==2 then
     (C vO []).bind fun r7=>
     some [V.int .i64 ((V.nth r7 0).toInt),V.int .i64 ((V.nth (r7.drop 1) 0).toInt),.list aa ((V.nth (r7.drop 2) 0).toList)]
     else
     bif (((x4.cell 0).toInt):Int)==7 then
      some [V.int .i64 ((x4.cell 0).toInt),V.int .i64 ((x4.cell 1).toInt),.list aa ((x4.cell 2).toList)]
     else
      (C nu [V.int .i64 ((x4.cell 0).toInt),V.int .i64 ((x4.cell 1).toInt),.list aa ((x4.cell 2).toList)]).bind fun r8=>
      bif (V.nth r8 0).toBool then
      some [V.int .i64 ((x4.cell 0).toInt),V.int .i64 ((x4.cell 1).toInt),.list aa ((x4.cell 2).toList)]
      else
      some [V.int .i64 7,V.int .i64 0,.list aa ([.agg [V.int .i64 ((x4.cell 0).toInt),V.int .i64 ((x4.cell 1).toInt),.list aa ((x4.cell 2).toList)]]:LV)]
    else
    some [V.int .i64 0,V.int .i64 0,.list aa ([]:LV)]
theorem Wv {op:Int} {kids:LV} {r:Option LV} (h:OZ CC op kids=r):CC la [V.int .i64 op,.list aa kids]=r:=aY (L:=aZ) av h
noncomputable def Dm (C:ah) (t20:LV) (t21 dN dy:Int) (cV:LV) (kC kD:Int) (bj:LV) (t22:Int) (pK:LV) {β:Type} (kn:(Int × LV)→Option β) (kr:(Int × Bool × LV)→Option β):Option β:=
 bif decide ((t22:Int)<t21) then
  (idx t20 t22).bind fun x1=>
  (C vK [V.int .i64 ((x1.cell 0).toInt),V.int .i64 ((x1.cell 1).toInt),.list aa ((x1.cell 2).toList)]).bind fun r2=>
  aH pK t22 fun x3=>
  kn (IntKind.wrap .i64 (t22+1),ba pK t22 (.agg [V.int .i64 ((V.nth r2 0).toInt),V.int .i64 ((V.nth (r2.drop 1) 0).toInt),.list aa ((V.nth ((r2.drop 1).drop 1) 0).toList)]))
 else
  kr (t22,decide ((t22:Int)<t21),pK)
noncomputable def H4 (C:ah) (t20:LV) (t21 dN dy:Int) (cV:LV) (kC kD:Int) (bj:LV):=un fun t22 pK=>Dm C t20 t21 dN dy cV kC kD bj t22 pK (fun y=>some (Sum.inl y)) (fun r=>some (Sum.inr r))
noncomputable def ahX (C:ah):cr:=cq 81 Mv [false,false,true,false,false,false,false,false,true,false] [[1,2,0,0,4,5,6,7,8,0,10]] (@Dm C) aZ
theorem ahY (C:ah):bC C (ahX C) 46 (Lp [1,1,1,0,1,0,0] 46):=cp Mv [false,false,true,false,false,false,false,false,true,false] [[1,2,0,0,4,5,6,7,8,0,10]] (@Dm C) (a9 av)
noncomputable def Ww (C:ah) (ag aq:Int) (ae:LV):Option LV:=
 bif ((ae.length:Int):Int)==0 then
  some [V.int .i64 ag,V.int .i64 aq,.list aa ([]:LV)]
 else
  bif (decide (0≤(ae.length:Int)))&&((decide ((ae.length:Int)≤(ae.length:Int)))&&(Nat.ble ((((ae.length:Int):Int).toNat)*40) bZ)) then
  (Loop (H4 C ae (ae.length:Int) ag aq ae 0 0 ([]:LV)) (0,List.replicate (((ae.length:Int):Int).toNat) (V.agg [V.int .i64 0,V.int .i64 0,.list aa ([]:LV)]))).bind (un fun (ia:Int)=>un fun (mH:Bool) (ahZ:LV)=>
   (C la [V.int .i64 ag,.list aa ahZ]).bind fun r7=>
   some [V.int .i64 ((V.nth r7 0).toInt),V.int .i64 ((V.nth (r7.drop 1) 0).toInt),.list aa ((V.nth ((r7.drop 1).drop 1) 0).toList)])
  else none
theorem ah0 {ag aq:Int} {ae:LV} {r:Option LV} (h:Ww CC ag aq ae=r):CC vK [V.int .i64 ag,V.int .i64 aq,.list aa ae]=r:=aY (bB (ahY CC) av) h
noncomputable def Wx (C:ah) (ag aq:Int) (ae:LV):Option LV:=
 (C B7 [V.int .i64 ag,V.int .i64 aq,.list aa ae]).bind fun r1=>
 bif !((V.nth r1 0).toBool) then
  some [V.int .i64 0,V.int .i64 0,.list aa ([]:LV)]
 else
  (C vK [V.int .i64 ag,V.int .i64 aq,.list aa ae]).bind fun r2=>
  some [V.int .i64 ((V.nth r2 0).toInt),V.int .i64 ((V.nth (r2.drop 1) 0).toInt),.list aa ((V.nth ((r2.drop 1).drop 1) 0).toList)]
theorem ah1 {ag aq:Int} {ae:LV} {r:Option LV} (h:Wx CC ag aq ae=r):CC B0 [V.int .i64 ag,V.int .i64 aq,.list aa ae]=r:=aY (L:=aZ) av h
end Go.AM
set_option maxRecDepth 100000
namespace Go.AM
open Go.Proofs Ex
theorem wJ:CC qA []=some (eM eG):=ae9 rfl
theorem H5:CC vO []=some (eM jU):=afb rfl
theorem Dn:CC tD []=some (eM jB):=by
 refine afc ?_
 unfold U8
 refine bs wJ ?_
 simp[eM,eG,jB,Ex.op,Ex.bH,Ex.kids,dA]
theorem Wy (o:Int) (l:List Ex):(l.filter fun k=> !(decide (k.op=o)))=l.filter fun k=>decide (k.op≠o):=by
 congr 1;funext k;simp
theorem Wz {ks:List Ex} (hlen:ks.length≤1000000):CC tB [.list aa (ks.map enc)]=some [.bool (ks.any fun k=>decide (k.op=1))]:=afS hlen
theorem ah2 {ks:List Ex} (hn:ks.length≤1000000): ∃b,CC G4 [.list aa (ks.map enc)]=some [.bool b,.list aa ((ks.filter (fun k=>decide (k.op≠1))).map enc)]:=by
 rw[←Wy];exact afU hn
theorem ah3 {ks:List Ex} (hn:ks.length≤1000000): ∃b,CC G2 [.list aa (ks.map enc)]=some [.bool b,.list aa ((ks.filter (fun k=>decide (k.op≠2))).map enc)]:=by
 rw[←Wy];exact afY hn
theorem H6 {o:Int} {ks:List Ex} (h: ∀k∈ks,k.Ok): ∀k∈bp o ks,k.Ok:=fun x hx=>by
 obtain ⟨k,h1,U|U⟩:=oz.1 hx
 ·have:=h k h1
  obtain ⟨o2,l2,jV⟩:=k
  exact this.mG x U.2
 ·rw[U.2];exact h k h1
theorem ah4 {n:Int} {ks:List Ex} (hk: ∀k∈ks,Gd n k) (hs:aR ks≤1000000):CC GU [.list aa (ks.map enc)]=some (eM (eg 5 0 ks)):=by
 have hl:=lg ks
 have a1:=sc 5 ks
 have a2:=lg (bp 5 ks)
 refine ahV ?_
 unfold Wt
 rw[tQ,NX hk]
 refine bs (Wz (by omega)) ?_
 cases hu:ks.any fun k=>decide (k.op=1) with
 | true=>
  refine bT rfl ?_
  refine bs wJ ?_
  rfl
 | false=>
  refine bF rfl ?_
  refine bs (NM (by omega) (by omega)) ?_
  obtain ⟨b,e⟩:=ah3 (ks:=bp 5 ks) (by omega)
  refine bs e ?_
  cases b
  ·exact bF rfl (bs H5 (bs (qE (z:=jU)) rfl))
  ·exact bT rfl (bs H5 (bs (qE (z:=jU)) rfl))
section
variable {n:Int} {ks:List Ex} (hk: ∀k∈ks,Gd n k) (ar: ∀k∈ks,k.Ok) (hs:aR ks≤1000000)
include hk ar hs
theorem ah5:CC GS [.list aa (ks.map enc)]=some (eM (eg 4 0 ks)):=by
 have hl:=lg ks
 have a1:=sc 4 ks
 have a2:=lg (bp 4 ks)
 refine ahU ?_
 unfold Ws
 rw[wc,Vk hk]
 refine bs (af0 (by omega)) ?_
 cases hu:ks.any univ with
 | true=>
  refine bT rfl ?_
  refine bs Dn ?_
  rfl
 | false=>
  refine bF rfl ?_
  refine bs (NM (by omega) (by omega)) ?_
  obtain ⟨b,e⟩:=ah2 (ks:=bp 4 ks) (by omega)
  refine bs e ?_
  obtain ⟨b2,e2⟩:=Wr (l:=(bp 4 ks).filter fun k=>decide (k.op≠1)) (by have:=uA (fun k:Ex=>decide (k.op≠1)) (bp 4 ks);omega) fun k h=>H6 ar k (oR.1 h).1
  cases b
  ·refine bF rfl ?_
   refine bs e2 ?_
   cases b2
   ·exact bF rfl (bs wJ (bs (qE (z:=eG)) rfl))
   ·exact bT rfl (bs wJ (bs (qE (z:=eG)) rfl))
  ·refine bT rfl ?_
   refine bs e2 ?_
   cases b2
   ·exact bF rfl (bs wJ (bs (qE (z:=eG)) rfl))
   ·exact bT rfl (bs wJ (bs (qE (z:=eG)) rfl))
theorem ah6:CC GV [.list aa (ks.map enc)]=some (eM (eg 6 0 ks)):=by
 have hl:=lg ks
 have a1:=sc 6 ks
 have a2:=lg (bp 6 ks)
 refine ahW ?_
 unfold Wu
 rw[yZ,afn hk]
 refine bs (Wz (by omega)) ?_
 cases hu:ks.any fun k=>decide (k.op=1) with
 | true=>
  refine bT rfl ?_
  refine bs wJ ?_
  rfl
 | false=>
  refine bF rfl ?_
  refine bs (NM (by omega) (by omega)) ?_
  obtain ⟨b,e⟩:=af2 (ks:=bp 6 ks) (by omega)
  refine bs e ?_
  obtain ⟨b2,e2⟩:=Wr (l:=(bp 6 ks).filter fun k=> !(univ k)) (by have:=uA (fun k:Ex=> !(univ k)) (bp 6 ks);omega) fun k h=>H6 ar k (oR.1 h).1
  cases b
  ·refine bF rfl ?_
   refine bs e2 ?_
   cases b2
   ·exact bF rfl (bs Dn (bs (qE (z:=jB)) rfl))
   ·exact bT rfl (bs Dn (bs (qE (z:=jB)) rfl))
  ·refine bT rfl ?_
   refine bs e2 ?_
   cases b2
   ·exact bF rfl (bs Dn (bs (qE (z:=jB)) rfl))
   ·exact bT rfl (bs Dn (bs (qE (z:=jB)) rfl))
theorem sh {o:Int} (ho:o=4∨o=5∨o=6):CC la [.int .i64 o,.list aa (ks.map enc)]=some (eM (eg o 0 ks)):=by
 refine Wv ?_
 unfold OZ
 rcases ho with rfl|rfl|rfl
 ·exact bT rfl (bs (ah5 hk ar hs) rfl)
 ·exact bF rfl (bT rfl (bs (ah4 hk hs) rfl))
 ·exact bF rfl (bF rfl (bT rfl (bs (ah6 hk ar hs) rfl)))
end
theorem O0 (k:Ex):[V.agg [.int .i64 k.op,.int .i64 k.bH,.list aa (k.kids.map enc)]]=[k].map enc:=by rw[←dA];rfl
theorem H7 {n o:Int} {k:Ex} (hk:Gd n k) (ho:o=7∨o=8):CC la [.int .i64 o,.list aa ([k].map enc)]=some (eM (eg o 0 [k])):=by
 refine Wv ?_
 unfold OZ
 rcases ho with rfl|rfl
 ·refine bF rfl (bF rfl (bF rfl (bF rfl (bs (a:=k.enc) rfl (bF rfl (bT rfl ?_))))))
  rw[y4,bu,bE,bD,dx,dx,dx]
  by_cases h1:k.op=1
  ·rw[aj h1,aj (.inl h1)];exact bs H5 rfl
  ·rw[an h1]
   by_cases U:k.op=2
   ·rw[aj U,aj (.inr U)];exact bs H5 rfl
   ·rw[an U,an (show¬(k.op=1∨k.op=2) by omega)]
    by_cases h7:k.op=7
    ·rw[aj h7,aj (.inl h7)];rfl
    ·rw[an h7]
     refine bs (CF k) ?_
     cases hu:univ k with
     | true=>rw[aj (.inr rfl)];exact bT rfl rfl
     | false=>
      rw[an (by rintro (h|h);exact h7 h;cases h)]
      refine bF rfl ?_
      rw[O0];rfl
 ·refine bF rfl (bF rfl (bF rfl (bF rfl (bs (a:=k.enc) rfl (bT rfl ?_)))))
  rw[y5,bu,bE,bD,dx]
  by_cases h8:k.op=8
  ·rw[aj h8,aj h8]
   have hs:=eU hk.shape
   obtain ⟨o2,l2,jV⟩:=k
   simp only[Ex.op,Ex.kids,Ex.bH] at*
   match jV,(show (jV.length:Int)=1 by omega) with
   | [x],_=>
    refine bT (by simp) (bs (a:=x.enc) rfl ?_)
    rw[bu,bE,bD];rfl
  ·rw[an h8,an h8,O0];rfl
theorem WA {α:Type} (a:List α) (x y:α) (b:List α) {i:Nat} (h:i=a.length):(a++x::b).set i y=(a++[y])++b:=by
 subst h;simp[List.set_append_right]
theorem ah7 {ks:List Ex} {a b c d:Int} {l1 l2:List V} (hn:ks.length≤1000000) (ih: ∀k∈ks,CC vK (bV k [])=some (eM (aL k))):
  ∀(ay pre:List Ex),ks=pre++ay→∃t,Loop (H4 CC (ks.map enc) ((ks.map enc).length:Int) a b l1 c d l2) (((pre.length:Nat):Int),(pre.map aL).map enc++List.replicate ay.length (V.agg [.int .i64 0,.int .i64 0,.list aa ([]:List V)]))=some (((ks.map enc).length:Int),t,(ks.map aL).map enc):=by
 intro ay
 induction ay with
 | nil=>
  intro pre e
  rw[dr] at e
  subst e
  refine ⟨false,aV ?_⟩
  simp only[H4,Dm,un,aK,aH,ba]
  rw[aA,aM,eP]
  simp
 | cons k ay eF=>
  intro pre e
  have ch:pre.length<ks.length:=by rw[e];simp
  have bY:idx (ks.map enc) (pre.length:Int)=some k.enc:=by rw[e];exact gM _ _ _
  obtain ⟨t,ht⟩:=eF (pre++[k]) (by simp[e])
  refine ⟨t,(bQ ?_).trans ht⟩
  simp only[H4,Dm,un,aK,aH,ba]
  rw[aA,bf,bY]
  simp only[Option.bind_some,bu,bE,bD]
  refine bs (ih k (by rw[e];simp)) ?_
  refine bT (by simp only[aO,ej,cg,aK,ux,List.length_cons];omega) ?_
  refine bs (a:=V.agg [.int .i64 0,.int .i64 0,.list aa ([]:List V)]) ?_ ?_
  ·rw[Int.toNat_natCast,ik (by simp)]
   simp
  ·rw[bP,Int.toNat_natCast,List.length_cons,List.replicate_succ,WA _ _ _ _ (by simp)]
   show some (Sum.inl _)=some (Sum.inl _)
   refine congrArg (fun x=>some (Sum.inl x)) (Prod.ext ?_ ?_)
   ·simp
   ·simp only[eJ,cM,fJ]
    rw[dA (aL k)];rfl
theorem WB {n:Int} (hn:n≤6): ∀e:Ex,e.wf n=true→e.size≤1000000→CC vK (bV e [])=some (eM (aL e)):=
 ind fun o l ks ih hw hs=>by
  obtain ⟨h1,U⟩:=ib hw
  have hl:=lg ks
  simp only[size] at hs
  have h3:=eU h1
  refine ah0 ?_
  unfold Ww
  simp only[Ex.op,Ex.kids,Ex.bH,aK,dx]
  rw[mJ]
  by_cases h0:ks=[]
  ·subst h0
   rw[aj (by simp),ku (by simp only[List.length_nil] at h3;omega)]
   rfl
  ·have hp:0<ks.length:=List.length_pos_iff.2 h0
   rw[aM]
   refine bT (by simp only[aO,ej,dq,iK,Int.toNat_natCast];omega) ?_
   obtain ⟨t,ht⟩:=ah7 (a:=o) (b:=l) (c:=0) (d:=0) (l1:=ks.map enc) (l2:=[]) (ks:=ks) (by omega) (fun k hk=>ih k hk (U k hk) (by have:=tJ hk;omega)) ks [] rfl
   rw[aK] at ht
   refine bs ht ?_
   have hg: ∀k∈ks.map aL,Gd n k:=fun x hx=>by
    obtain ⟨k,hk,rfl⟩:=gT.1 hx
    exact lR k (U k hk)
   have hz:aR (ks.map aL)≤aR ks:=by
    clear ht h3 h1 hw ih hp h0 hl hs hg
    induction ks with
    | nil=>simp[aR]
    | cons k ks ih=>have a:=y7 k (U k (by simp));have b:=ih fun k hk=>U k (by simp[hk]);simp only[cM,aR];omega
   have ar: ∀k∈ks.map aL,k.Ok:=fun k hk=>nA hn k (hg k hk).2 (by have:=tJ hk;omega)
   rcases (show (o=4∨o=5∨o=6)∨(o=7∨o=8) by omega) with ho|ho
   ·obtain rfl:l=0:=by omega
    exact bs (sh hg ar (by omega) ho) rfl
   ·obtain rfl:l=0:=by omega
    have h5:ks.length=1:=by omega
    match ks,h5 with
    | [k],_=>exact bs (H7 (hg (aL k) (by simp)) ho) rfl
theorem WC (e:Ex) (h:e.Ok):CC B0 (bV e [])=some (eM (if e.val 6=0 then aL e else aF)):=by
 refine ah1 ?_
 unfold Wx
 refine bs (UU e h) ?_
 by_cases hv:e.val 6=0
 ·have:=kj hv
  rw[aj hv]
  refine bF (by simp[hv]) ?_
  exact bs (WB (by omega) e this.2.2 (by omega)) rfl
 ·rw[an hv]
  refine bT (by simp[hv]) ?_
  rfl
end Go.AM
set_option maxRecDepth 100000
namespace Go.AM
open Go.Proofs
def tab {α:Type} (n:Nat) (g:Nat→α):List α:=(List.range n).map g
section
variable {α β:Type} {n i:Nat} {g h:Nat→α}
@[simp] theorem anj:(tab n g).length=n:=by simp[tab]
end
section
variable {γ:Type} {n i:Nat} {g:Nat→V}
theorem nE {es:List V} {v:V} (hi:es[i]? =some v) {K:V→Option γ}:(bif (decide (0≤(i:Int)))&&(decide ((i:Int)<(es.length:Int))) then (es[((i:Int)).toNat]?).bind K else none)=K v:=by
 have hl:i<es.length:=by
  rcases pY i es.length with h|h
  ·exact h
  ·rw[Ae h] at hi;cases hi
 rw[Int.toNat_natCast,hi,uB.2 ⟨cz (by omega),cz (by omega)⟩]
 rfl
end
theorem cap {a b m:Nat} (h:a+b≤10000000) (hm:m≤1000):Nat.ble ((a+b)*m) bZ=true:=by
 rw[dq,iK]
 have:=Nat.mul_le_mul h hm
 omega
theorem ah8 {n m:Nat} (h:n≤10000000) (hm:m≤1000):((decide (0≤(n:Int)))&&((decide ((n:Int)≤(n:Int)))&&(Nat.ble (((n:Int).toNat)*m) bZ)))=true:=by
 have U:=Nat.mul_le_mul h hm
 rw[Int.toNat_natCast]
 refine uB.2 ⟨cz (by omega),uB.2 ⟨cz (by omega),?_⟩⟩
 rw[dq,iK]
 omega
theorem lT {i:Nat} (h:i≤1000000000):IntKind.wrap .i64 ((i:Int)+1)=((i+1:Nat):Int):=by rw[bP];omega
theorem mO {i n:Nat} (h:i<n):decide ((i:Int)<(n:Int))=true:=cz (by omega)
end Go.AM
set_option maxRecDepth 100000
namespace Go.AM
open Go.Proofs Ex
abbrev zE:V:= .agg [.int .i64 0,.int .i64 0,.list aa ([]:List V)]
theorem tZ {α:Type} {A:List V} {n:Nat} {z:V} {i:Nat} (h:i=A.length) {K:V→Option α}:(bif (decide (0≤(i:Int)))&&(decide ((i:Int)<((A++List.replicate (n+1) z).length:Int))) then ((A++List.replicate (n+1) z)[((i:Int)).toNat]?).bind K else none)=K z:=by
 refine nE ?_
 rw[h,ik (cl _)]
 simp
theorem ua {A:List V} {n:Nat} {z v:V} {i:Nat} (h:i=A.length):(A++List.replicate (n+1) z).set i v=A++[v]++List.replicate n z:=by
 rw[List.replicate_succ,WA _ _ _ _ h]
theorem ah9 (a:Ex):V.agg [.int .i64 a.op,.int .i64 a.bH,.list aa (a.kids.map enc)]=a.enc:=(dA a).symm
theorem zD {n:Nat} (h:n≤1000000):Nat.ble (n*40) bZ=true:=by rw[dq,iK];omega
theorem H8 {n:Nat} (h:n≤1000000):((decide (0≤(n:Int)))&&((decide ((n:Int)≤(n:Int)))&&(Nat.ble (((n:Int).toNat)*40) bZ)))=true:=ah8 (by omega) (by omega)
def oneOf (o:Int):List Ex→Ex
 | [k]=>k
 | l=> .node o 0 l
mutual
def bU (c:Int):Ex→Ex
 | .node o l ks=>
  if o=3 then (if l=c then jU else eG)
  else if o=4∨o=6∨o=8 then .node o 0 (zF c ks)
  else if o=7 then .node 5 0 [(zF c ks).getD 0 aF,.node o l ks]
  else if o=5 then oneOf 4 (iO c ks)
  else eG
def zF (c:Int):List Ex→List Ex
 | []=>[]
 | k::ks=>bU c k::zF c ks
def iO (c:Int):List Ex→List Ex
 | []=>[]
 | k::ks=>oneOf 5 (bU c k::ks)::(if k.da=true then iO c ks else [])
end
theorem WD {c:Int}: ∀ks,zF c ks=ks.map (bU c)
 | []=>by simp only[zF,fJ]
 | k::ks=>by simp only[zF,cM,WD ks]
theorem oG {c o l:Int} {ks:List Ex}:bU c (.node o l ks)=if o=3 then (if l=c then jU else eG) else if o=4∨o=6∨o=8 then .node o 0 (ks.map (bU c)) else if o=7 then .node 5 0 [(ks.map (bU c)).getD 0 aF,.node o l ks] else if o=5 then oneOf 4 (iO c ks) else eG:=by
 rw[bU,WD]
theorem zG {c:Int} {k:Ex} {ks:List Ex}:iO c (k::ks)=oneOf 5 (bU c k::ks)::(if k.da=true then iO c ks else []):=by rw[iO]
theorem aia {o:Int} {k:Ex} {l:List Ex}:oneOf o (k::l)=if l=[] then k else .node o 0 (k::l):=by
 cases l with
 | nil=>rfl
 | cons x l=>rw[an (by simp)];rfl
theorem WE {n:Int}:eG.wf n=true:=wa (by simp[ee]) (by simp)
theorem aib {n:Int}:jU.wf n=true:=wa (by simp[ee]) (by simp)
theorem aic {n o l len:Int} (h:ee o l len n=true) (ho:o=4∨o=6∨o=8):ee o 0 len n=true:=by
 rcases eU h with h|⟨rfl,h⟩
 ·omega
 ·assumption
theorem WG {n:Int} {o:Int} (ho:o=4∨o=5) {len:Int} (h:2≤len):ee o 0 len n=true:=by
 unfold ee
 rcases ho with rfl|rfl<;>simp[h]
theorem WH {n:Int} {o:Int} (ho:o=4∨o=5) {l:List Ex} (hl:l≠[]) (h: ∀k∈l,k.wf n=true):(oneOf o l).wf n=true:=by
 match l,hl with
 | [k],_=>exact h k (by simp)
 | k::k2::l,_=>exact wa (WG ho (by simp only[List.length_cons];omega)) h
theorem WI {c:Int} {ks:List Ex} (h:ks≠[]):iO c ks≠[]:=by
 cases ks with
 | nil=>exact absurd rfl h
 | cons k ks=>rw[zG];simp
theorem H9 {n c:Int}: ∀{ks:List Ex},(∀k∈ks,k.wf n=true)→(∀k∈ks,(bU c k).wf n=true)→∀x∈iO c ks,x.wf n=true
 | [],_,_,x,hx=>by rw[iO] at hx;cases hx
 | k::ks,h1,U,x,hx=>by
  rw[zG] at hx
  rcases dO.1 hx with rfl|hx
  ·refine WH (.inr rfl) (by simp) fun y hy=> ?_
   rcases dO.1 hy with rfl|hy
   ·exact U k (by simp)
   ·exact h1 y (by simp[hy])
  ·split at hx
   ·exact H9 (fun y hy=>h1 y (by simp[hy])) (fun y hy=>U y (by simp[hy])) x hx
   ·cases hx
theorem ub {n c:Int}: ∀e:Ex,e.wf n=true→(bU c e).wf n=true:=ind fun o l ks ih hw=>by
 obtain ⟨h1,U⟩:=ib hw
 have hk: ∀k∈ks,(bU c k).wf n=true:=fun k hk=>ih k hk (U k hk)
 rw[oG]
 split
 ·split
  ·exact aib
  ·exact WE
 split
 ·next _ ho=>
  refine wa (by rw[aK];exact aic h1 ho) fun x hx=> ?_
  obtain ⟨k,nq,rfl⟩:=gT.1 hx
  exact hk k nq
 split
 ·next _ _ ho=>
  subst ho
  have hl:ks.length=1:=by rcases eU h1 with h|⟨_,h|h|h|h|h|h|h⟩<;>omega
  obtain ⟨k,rfl⟩:=xg.1 hl
  refine wa (WG (.inr rfl) (by simp)) fun x hx=> ?_
  rcases dO.1 hx with rfl|hx
  ·exact hk k (by simp)
  ·rw[eH.1 hx];exact hw
 split
 ·next _ _ _ ho=>
  subst ho
  have hl:2≤ks.length:=by rcases eU h1 with h|⟨_,h|h|h|h|h|h|h⟩<;>omega
  exact WH (.inl rfl) (WI (by intro h;rw[h] at hl;simp at hl)) (H9 U hk)
 ·exact WE
theorem WJ {o:Int} {l:List Ex}:(oneOf o l).size≤1+aR l:=by
 match l with
 | []=>simp[oneOf,size,aR]
 | [k]=>simp[oneOf,aR]
 | k::k2::l=>simp[oneOf,size]
theorem O1 {f:Ex→Ex}: ∀{ks:List Ex},(∀k∈ks,(f k).size≤k.size*k.size)→aR (ks.map f)≤aR ks*aR ks
 | [],_=>by simp[aR]
 | k::ks,h=>by
  have ih:=O1 (f:=f) (ks:=ks) fun x hx=>h x (by simp[hx])
  have hk:=h k (by simp)
  simp only[cM,aR,dG,Nat.mul_add]
  omega
theorem O2 {c:Int}: ∀{ks:List Ex},(∀k∈ks,(bU c k).size≤k.size*k.size)→1+aR (iO c ks)≤(1+aR ks)*(1+aR ks)
 | [],_=>by rw[iO];simp[aR]
 | k::ks,h=>by
  have ih:=O2 (c:=c) (ks:=ks) fun x hx=>h x (by simp[hx])
  have hk:=h k (by simp)
  have h1:(oneOf 5 (bU c k::ks)).size≤1+((bU c k).size+aR ks):=WJ
  have hp:=k.size_pos
  have U:aR (if k.da=true then iO c ks else [])≤aR (iO c ks):=by
   split
   ·exact cl _
   ·simp[aR]
  have h3:1*aR ks≤k.size*aR ks:=dF _ hp
  have h4:aR ks*k.size=k.size*aR ks:=oO _ _
  rw[zG]
  simp only[aR,dG,Nat.mul_add] at*
  omega
theorem O3 {c:Int}: ∀e:Ex,(∀n,e.wf n=true→(bU c e).size≤e.size*e.size):=ind fun o l ks ih n hw=>by
 obtain ⟨h1,U⟩:=ib hw
 have hk: ∀k∈ks,(bU c k).size≤k.size*k.size:=fun k hk=>ih k hk n (U k hk)
 have h3:1*1≤(Ex.node o l ks).size*(Ex.node o l ks).size:=Nat.mul_le_mul (size_pos _) (size_pos _)
 rw[oG]
 split
 ·split
  ·exact h3
  ·exact h3
 split
 ·have:=O1 hk
  simp only[size,dG,Nat.mul_add] at*
  omega
 split
 ·next _ _ ho=>
  subst ho
  have hl:ks.length=1:=by rcases eU h1 with h|⟨_,h|h|h|h|h|h|h⟩<;>omega
  obtain ⟨k,rfl⟩:=xg.1 hl
  have:=hk k (by simp)
  have hp:=k.size_pos
  simp only[cM,fJ,An,size,aR,dG,Nat.mul_add,Nat.add_zero] at*
  omega
 split
 ·have h4:=O2 hk
  have h5:(oneOf 4 (iO c ks)).size≤1+aR (iO c ks):=WJ
  show _≤(1+aR ks)*(1+aR ks)
  omega
 ·exact h3
section
variable {n c:Int}
theorem aid {o l:Int} {ks:List Ex} (ho:o=4∨o=6∨o=8):aL (bU c (.node o l ks))=eg o 0 (ks.map fun k=>aL (bU c k)):=by
 rw[oG,aM,aj ho,mJ,List.map_map]
 rfl
theorem aie {l:Int} {k:Ex}:aL (bU c (.node 7 l [k]))=eg 5 0 [aL (bU c k),aL (.node 7 l [k])]:=by
 rw[oG,aM,aM,aj rfl,mJ]
 rfl
def Ia (c:Int) (k:Ex) (ks:List Ex):Ex:=if (aL (bU c k)).op=1 then aL (bU c k) else eg 5 0 (aL (bU c k)::ks.map aL)
theorem aif {k:Ex} {ks:List Ex} (hk:k.wf n=true) (bc: ∀x∈ks,x.wf n=true):Ia c k ks=aL (oneOf 5 (bU c k::ks)):=by
 have hg:=lR (n:=n) _ (ub (c:=c) k hk)
 unfold Ia
 rw[aia]
 by_cases hn:ks=[]
 ·subst hn
  rw[aj rfl,fJ,afz hg]
  split<;>rfl
 ·rw[an hn,mJ,cM]
  by_cases h1:(aL (bU c k)).op=1
  ·rw[aj h1,tQ,aj,empty_eq hg h1]
   have FV: ∀x∈aL (bU c k)::ks.map aL,Gd n x:=fun x hx=>by
    rcases dO.1 hx with rfl|hx
    ·exact hg
    ·obtain ⟨y,hy,rfl⟩:=gT.1 hx
     exact lR y (bc y hy)
   rw[NX FV]
   simp[h1]
  ·rw[an h1]
def uc (c:Int):List Ex→List Ex
 | []=>[]
 | k::ks=>Ia c k ks::(if k.da=true then uc c ks else [])
theorem parts_eq: ∀{ks:List Ex},(∀x∈ks,x.wf n=true)→uc c ks=(iO c ks).map aL
 | [],_=>by rw[iO];rfl
 | k::ks,h=>by
  have ih:=parts_eq (ks:=ks) fun x hx=>h x (by simp[hx])
  rw[zG,cM,←aif (h k (by simp)) (fun x hx=>h x (by simp[hx]))]
  unfold uc
  refine congrArg _ ?_
  split
  ·exact ih
  ·rfl
theorem aih {l:Int} {ks:List Ex} (bq:ks≠[]) (hk: ∀x∈ks,x.wf n=true):aL (bU c (.node 5 l ks))=eg 4 0 (uc c ks):=by
 rw[oG,aM,aM,aM,aj rfl,parts_eq hk]
 have hw:=H9 (c:=c) hk fun k nq=>ub k (hk k nq)
 have hn:=WI (c:=c) bq
 generalize iO c ks=L at*
 match L,hn with
 | [x],_=>exact (afy (lR x (hw x (by simp)))).symm
 | x::y::L,_=>
  show aL (.node 4 0 _)=_
  rw[mJ]
end
end Go.AM
set_option maxRecDepth 100000
namespace Go.AM
open Go.Proofs
noncomputable def WK (C:ah) (bI:Int) (bw:Bool) (ag aq:Int) (ae:LV):Option LV:=
 bif bw then
  some [V.int .i64 ag,V.int .i64 aq,.list aa ae]
 else
  (C vK [V.int .i64 ag,V.int .i64 aq,.list aa ae]).bind fun r1=>
  some [V.int .i64 ((V.nth r1 0).toInt),V.int .i64 ((V.nth (r1.drop 1) 0).toInt),.list aa ((V.nth ((r1.drop 1).drop 1) 0).toList)]
theorem aii {bI:Int} {bw:Bool} {ag aq:Int} {ae:LV} {r:Option LV} (h:WK CC bI bw ag aq ae=r):CC Cc [V.int .i64 bI,.bool bw,V.int .i64 ag,V.int .i64 aq,.list aa ae]=r:=aY (L:=aZ) av h
noncomputable def Dp (C:ah) (t21:LV) (t22 mP:Int) (mQ:Bool) (dN dy:Int) (cV:LV) (er et si sj:Int) (sk:Bool) (cB cZ:LV) (Dq t23:Int) (nF ig:LV) {β:Type} (kn:(Int × Int × LV × LV)→Option β) (kr:(Int × Int × Bool × LV × LV)→Option β):Option β:=
 bif decide ((t23:Int)<t22) then
  (idx t21 t23).bind fun x1=>
  (C pt [V.int .i64 mP,.bool mQ,V.int .i64 ((x1.cell 0).toInt),V.int .i64 ((x1.cell 1).toInt),.list aa ((x1.cell 2).toList)]).bind fun r2=>
  aH nF t23 fun x3=>
  aH ig t23 fun x4=>
  bif (V.nth ((((((r2.drop 1).drop 1).drop 1).drop 1).drop 1).drop 1) 0).toBool then
  kn (IntKind.wrap .i64 (Dq+1),IntKind.wrap .i64 (t23+1),ba nF t23 (.agg [V.int .i64 ((V.nth r2 0).toInt),V.int .i64 ((V.nth (r2.drop 1) 0).toInt),.list aa ((V.nth ((r2.drop 1).drop 1) 0).toList)]),ba ig t23 (.agg [V.int .i64 ((V.nth (((r2.drop 1).drop 1).drop 1) 0).toInt),V.int .i64 ((V.nth ((((r2.drop 1).drop 1).drop 1).drop 1) 0).toInt),.list aa ((V.nth (((((r2.drop 1).drop 1).drop 1).drop 1).drop 1) 0).toList)]))
  else
  kn (Dq,IntKind.wrap .i64 (t23+1),ba nF t23 (.agg [V.int .i64 ((V.nth r2 0).toInt),V.int .i64 ((V.nth (r2.drop 1) 0).toInt),.list aa ((V.nth ((r2.drop 1).drop 1) 0).toList)]),ba ig t23 (.agg [V.int .i64 ((V.nth (((r2.drop 1).drop 1).drop 1) 0).toInt),V.int .i64 ((V.nth ((((r2.drop 1).drop 1).drop 1).drop 1) 0).toInt),.list aa ((V.nth (((((r2.drop 1).drop 1).drop 1).drop 1).drop 1) 0).toList)]))
 else
  kr (Dq,t23,decide ((t23:Int)<t22),nF,ig)
noncomputable def Ib (C:ah) (t21:LV) (t22 mP:Int) (mQ:Bool) (dN dy:Int) (cV:LV) (er et si sj:Int) (sk:Bool) (cB cZ:LV):=un fun Dq=>un fun t23=>un fun nF ig=>Dp C t21 t22 mP mQ dN dy cV er et si sj sk cB cZ Dq t23 nF ig (fun y=>some (Sum.inl y)) (fun r=>some (Sum.inr r))
noncomputable def aij (C:ah):cr:=cq 65 MK [true,false,false,true,false,false,false,false,false,false,false,false,false,false,true,true,false,false] [[0,2,3,0,0,5,6,7,8,9,10,11,12,13,14,0,0,17,18]] (@Dp C) aZ
theorem aik (C:ah):bC C (aij C) 65 (Lp [1,1,1,0,1,0,0] 65):=cp MK [true,false,false,true,false,false,false,false,false,false,false,false,false,false,true,true,false,false] [[0,2,3,0,0,5,6,7,8,9,10,11,12,13,14,0,0,17,18]] (@Dp C) (a9 av)
noncomputable def WM (C:ah) (bI:Int) (bw:Bool) (ag aq:Int) (ae:LV):Option LV:=
 bif (decide (0≤(ae.length:Int)))&&((decide ((ae.length:Int)≤(ae.length:Int)))&&(Nat.ble ((((ae.length:Int):Int).toNat)*40) bZ)) then
  bif (decide (0≤(ae.length:Int)))&&((decide ((ae.length:Int)≤(ae.length:Int)))&&(Nat.ble ((((ae.length:Int):Int).toNat)*40) bZ)) then
  (Loop (Ib C ae (ae.length:Int) bI bw ag aq ae 0 0 0 0 false ([]:LV) ([]:LV)) (0,0,List.replicate (((ae.length:Int):Int).toNat) (V.agg [V.int .i64 0,V.int .i64 0,.list aa ([]:LV)]),List.replicate (((ae.length:Int):Int).toNat) (V.agg [V.int .i64 0,V.int .i64 0,.list aa ([]:LV)]))).bind (un fun (O4:Int)=>un fun (ld:Int)=>un fun (pA:Bool)=>un fun (ail:LV) (aim:LV)=>
   (C la [V.int .i64 ag,.list aa ail]).bind fun df=>
   (C la [V.int .i64 ag,.list aa aim]).bind fun eW=>
   bif (ag:Int)==4 then
    some [V.int .i64 ((V.nth df 0).toInt),V.int .i64 ((V.nth (df.drop 1) 0).toInt),.list aa ((V.nth ((df.drop 1).drop 1) 0).toList),V.int .i64 ((V.nth eW 0).toInt),V.int .i64 ((V.nth (eW.drop 1) 0).toInt),.list aa ((V.nth ((eW.drop 1).drop 1) 0).toList),.bool (decide ((O4:Int)>0))]
   else
    bif (ag:Int)==6 then
    some [V.int .i64 ((V.nth df 0).toInt),V.int .i64 ((V.nth (df.drop 1) 0).toInt),.list aa ((V.nth ((df.drop 1).drop 1) 0).toList),V.int .i64 ((V.nth eW 0).toInt),V.int .i64 ((V.nth (eW.drop 1) 0).toInt),.list aa ((V.nth ((eW.drop 1).drop 1) 0).toList),.bool ((O4:Int)==(ae.length:Int))]
    else
    bif (ag:Int)==8 then
     some [V.int .i64 ((V.nth df 0).toInt),V.int .i64 ((V.nth (df.drop 1) 0).toInt),.list aa ((V.nth ((df.drop 1).drop 1) 0).toList),V.int .i64 ((V.nth eW 0).toInt),V.int .i64 ((V.nth (eW.drop 1) 0).toInt),.list aa ((V.nth ((eW.drop 1).drop 1) 0).toList),.bool ((O4:Int)==0)]
    else
     some [V.int .i64 ((V.nth df 0).toInt),V.int .i64 ((V.nth (df.drop 1) 0).toInt),.list aa ((V.nth ((df.drop 1).drop 1) 0).toList),V.int .i64 ((V.nth eW 0).toInt),V.int .i64 ((V.nth (eW.drop 1) 0).toInt),.list aa ((V.nth ((eW.drop 1).drop 1) 0).toList),.bool false])
  else none
 else none
theorem ain {bI:Int} {bw:Bool} {ag aq:Int} {ae:LV} {r:Option LV} (h:WM CC bI bw ag aq ae=r):CC yz [V.int .i64 bI,.bool bw,V.int .i64 ag,V.int .i64 aq,.list aa ae]=r:=aY (bB (aik CC) av) h
noncomputable def zH (C:ah) (t20:LV) (t21 mP:Int) (mQ:Bool) (er et si sj:Int) (sk:Bool) (dS cB:LV) (ud:Bool) (t22:Int) (nF ig:LV) {β:Type} (kn:(Bool × Int × LV × LV)→Option β) (kr:(Bool × Int × Bool × LV × LV)→Option β):Option β:=
 bif decide ((t22:Int)<t21) then
  (idx t20 t22).bind fun x1=>
  bif !ud then
  (C Cc [V.int .i64 mP,.bool mQ,V.int .i64 ((x1.cell 0).toInt),V.int .i64 ((x1.cell 1).toInt),.list aa ((x1.cell 2).toList)]).bind fun r2=>
  aH ig t22 fun x3=>
  kn (ud,IntKind.wrap .i64 (t22+1),nF,ba ig t22 (.agg [V.int .i64 ((V.nth r2 0).toInt),V.int .i64 ((V.nth (r2.drop 1) 0).toInt),.list aa ((V.nth ((r2.drop 1).drop 1) 0).toList)]))
  else
  (C pt [V.int .i64 mP,.bool mQ,V.int .i64 ((x1.cell 0).toInt),V.int .i64 ((x1.cell 1).toInt),.list aa ((x1.cell 2).toList)]).bind fun r4=>
  bif Nat.ble ((nF.length+([.agg [V.int .i64 ((V.nth r4 0).toInt),V.int .i64 ((V.nth (r4.drop 1) 0).toInt),.list aa ((V.nth ((r4.drop 1).drop 1) 0).toList)]]:LV).length)*40) bZ then
   aH ig t22 fun x5=>
   kn ((V.nth ((((((r4.drop 1).drop 1).drop 1).drop 1).drop 1).drop 1) 0).toBool,IntKind.wrap .i64 (t22+1),nF++([.agg [V.int .i64 ((V.nth r4 0).toInt),V.int .i64 ((V.nth (r4.drop 1) 0).toInt),.list aa ((V.nth ((r4.drop 1).drop 1) 0).toList)]]:LV),ba ig t22 (.agg [V.int .i64 ((V.nth (((r4.drop 1).drop 1).drop 1) 0).toInt),V.int .i64 ((V.nth ((((r4.drop 1).drop 1).drop 1).drop 1) 0).toInt),.list aa ((V.nth (((((r4.drop 1).drop 1).drop 1).drop 1).drop 1) 0).toList)]))
  else none
 else
  kr (ud,t22,decide ((t22:Int)<t21),nF,ig)
noncomputable def Dr (C:ah) (t20:LV) (t21 mP:Int) (mQ:Bool) (er et si sj:Int) (sk:Bool) (dS cB:LV):=un fun ud=>un fun t22=>un fun nF ig=>zH C t20 t21 mP mQ er et si sj sk dS cB ud t22 nF ig (fun y=>some (Sum.inl y)) (fun r=>some (Sum.inr r))
noncomputable def Ds (C:ah) (ud:Bool) (t55 er et si sj:Int) (sk:Bool) (ig O5 dS cB:LV) (t56:Int) (jb:LV) {β:Type} (kn:(Int × LV)→Option β) (kr:(Int × Bool × LV)→Option β):Option β:=
 bif decide ((t56:Int)<t55) then
  aH O5 t56 fun gv=>
  bif (((gv.cell 0).toInt):Int)==1 then
  aH jb t56 fun km=>
  kn (IntKind.wrap .i64 (t56+1),ba jb t56 (.agg [V.int .i64 ((gv.cell 0).toInt),V.int .i64 ((gv.cell 1).toInt),.list aa ((gv.cell 2).toList)]))
  else
  bif (decide (0≤(IntKind.wrap .i64 (t56+1))))&&(decide ((IntKind.wrap .i64 (t56+1))≤(ig.length:Int))) then
   bif Nat.ble ((([.agg [V.int .i64 ((gv.cell 0).toInt),V.int .i64 ((gv.cell 1).toInt),.list aa ((gv.cell 2).toList)]]:LV).length+((ig.drop ((IntKind.wrap .i64 (t56+1):Int).toNat)).take (ig.length-((IntKind.wrap .i64 (t56+1):Int).toNat))).length)*40) bZ then
   (C la [V.int .i64 5,.list aa (([.agg [V.int .i64 ((gv.cell 0).toInt),V.int .i64 ((gv.cell 1).toInt),.list aa ((gv.cell 2).toList)]]:LV)++((ig.drop ((IntKind.wrap .i64 (t56+1):Int).toNat)).take (ig.length-((IntKind.wrap .i64 (t56+1):Int).toNat))))]).bind fun ja=>
   aH jb t56 fun wq=>
   kn (IntKind.wrap .i64 (t56+1),ba jb t56 (.agg [V.int .i64 ((V.nth ja 0).toInt),V.int .i64 ((V.nth (ja.drop 1) 0).toInt),.list aa ((V.nth ((ja.drop 1).drop 1) 0).toList)]))
   else none
  else none
 else
  kr (t56,decide ((t56:Int)<t55),jb)
noncomputable def Ic (C:ah) (ud:Bool) (t55 er et si sj:Int) (sk:Bool) (ig O5 dS cB:LV):=un fun t56 jb=>Ds C ud t55 er et si sj sk ig O5 dS cB t56 jb (fun y=>some (Sum.inl y)) (fun r=>some (Sum.inr r))
noncomputable def WN (C:ah):cr:=cq 81 ML [true,false,false,true,false,false,false,false,false,false,false,true,true,false,false] [[0,2,3,0,0,5,6,7,8,9,10,11,0,0,14,15]] (@zH C) (cq 225 MM [false,false,true,false,false,false,false,false,false,true,false,false,false] [[1,2,0,0,4,5,6,7,8,9,0,11,12,13]] (@Ds C) aZ)
theorem aio (C:ah):bC C (WN C) 66 (Lp [1,1,1,1,0,1,0,0] 66):=cp ML [true,false,false,true,false,false,false,false,false,false,false,true,true,false,false] [[0,2,3,0,0,5,6,7,8,9,10,11,0,0,14,15]] (@zH C) (a9 av)
theorem aip (C:ah):bC C (WN C) 66 (Lp [1,1,1,1,1,1,0,1,0,0] 66):=cp MM [false,false,true,false,false,false,false,false,false,true,false,false,false] [[1,2,0,0,4,5,6,7,8,9,0,11,12,13]] (@Ds C) (a9 av)
noncomputable def WO (C:ah) (bI:Int) (bw:Bool) (ag aq:Int) (ae:LV):Option LV:=
 bif (decide (0≤(ae.length:Int)))&&((decide ((ae.length:Int)≤(ae.length:Int)))&&(Nat.ble ((((ae.length:Int):Int).toNat)*40) bZ)) then
  (Loop (Dr C ae (ae.length:Int) bI bw 0 0 0 0 false ([]:LV) ([]:LV)) (true,0,([]:LV),List.replicate (((ae.length:Int):Int).toNat) (V.agg [V.int .i64 0,V.int .i64 0,.list aa ([]:LV)]))).bind (un fun (WQ:Bool)=>un fun (pA:Int)=>un fun (Ho:Bool)=>un fun (wK:LV) (WR:LV)=>
   bif (decide (0≤(wK.length:Int)))&&((decide ((wK.length:Int)≤(wK.length:Int)))&&(Nat.ble ((((wK.length:Int):Int).toNat)*40) bZ)) then
   (Loop (Ic C WQ (wK.length:Int) 0 0 0 0 false WR wK ([]:LV) ([]:LV)) (0,List.replicate (((wK.length:Int):Int).toNat) (V.agg [V.int .i64 0,V.int .i64 0,.list aa ([]:LV)]))).bind (un fun (sa:Int)=>un fun (Hr:Bool) (aiq:LV)=>
    (C la [V.int .i64 4,.list aa aiq]).bind fun kA=>
    (C la [V.int .i64 5,.list aa WR]).bind fun ef=>
    some [V.int .i64 ((V.nth kA 0).toInt),V.int .i64 ((V.nth (kA.drop 1) 0).toInt),.list aa ((V.nth ((kA.drop 1).drop 1) 0).toList),V.int .i64 ((V.nth ef 0).toInt),V.int .i64 ((V.nth (ef.drop 1) 0).toInt),.list aa ((V.nth ((ef.drop 1).drop 1) 0).toList),.bool WQ])
   else none)
 else none
theorem air {bI:Int} {bw:Bool} {ag aq:Int} {ae:LV} {r:Option LV} (h:WO CC bI bw ag aq ae=r):CC yA [V.int .i64 bI,.bool bw,V.int .i64 ag,V.int .i64 aq,.list aa ae]=r:=aY (bB (aio CC) (bB (aip CC) av)) h
noncomputable def Ie (C:ah) (t24:Bool) (dN dy:Int) (cV:LV) (er et si sj:Int) (sk:Bool) (ais O6 ait aiu:Int) (dS cB cZ pL:LV) {β:Type} (kr:(Int × Int × LV)→Option β):Option β:=
 bif t24 then
  kr (ait,aiu,pL)
 else
  kr (ais,O6,cZ)
noncomputable def aiv (C:ah):cr:=hY 399 MC [[2,3,4,5,6,7,8,9,0,0,14,15,0]] (@Ie C) aZ
theorem aiw (C:ah):bC C (aiv C) 56 (Cd 24 [1,1,0,1,0,1,1,1,0,0,1,0] [1,1,0,1,0,1,1,1,0,0,1,1] 56):=hX MC [[2,3,4,5,6,7,8,9,0,0,14,15,0]] (@Ie C) (a9 av) (a9 av)
noncomputable def WS (C:ah) (bI:Int) (bw:Bool) (ag aq:Int) (ae:LV):Option LV:=
 bif (ag:Int)==2 then
  some [V.int .i64 1,V.int .i64 0,.list aa ([]:LV),V.int .i64 2,V.int .i64 0,.list aa ([]:LV),.bool true]
 else
  bif (ag:Int)==3 then
  Ie C ((aq:Int)==bI) ag aq ae 0 0 0 0 false 1 0 2 0 ([]:LV) ([]:LV) ([]:LV) ([]:LV) (un fun (O6:Int)=>un fun (aix:Int) (Ig:LV)=>
   some [V.int .i64 O6,V.int .i64 aix,.list aa Ig,V.int .i64 3,V.int .i64 aq,.list aa ([]:LV),.bool false])
  else
  bif (ag:Int)==4 then
   bif (ag:Int)==4 then
   (C yz [V.int .i64 bI,.bool bw,V.int .i64 ag,V.int .i64 aq,.list aa ae]).bind fun r4=>
   some [V.int .i64 ((V.nth r4 0).toInt),V.int .i64 ((V.nth (r4.drop 1) 0).toInt),.list aa ((V.nth ((r4.drop 1).drop 1) 0).toList),V.int .i64 ((V.nth (((r4.drop 1).drop 1).drop 1) 0).toInt),V.int .i64 ((V.nth ((((r4.drop 1).drop 1).drop 1).drop 1) 0).toInt),.list aa ((V.nth (((((r4.drop 1).drop 1).drop 1).drop 1).drop 1) 0).toList),.bool ((V.nth ((((((r4.drop 1).drop 1).drop 1).drop 1).drop 1).drop 1) 0).toBool)]
   else
   bif (ag:Int)==7 then
    (ae[0]?).bind fun x5=>
    (C pt [V.int .i64 bI,.bool bw,V.int .i64 ((x5.cell 0).toInt),V.int .i64 ((x5.cell 1).toInt),.list aa ((x5.cell 2).toList)]).bind fun r6=>
    (C la [V.int .i64 7,.list aa ([.agg [V.int .i64 ((V.nth (((r6.drop 1).drop 1).drop 1) 0).toInt),V.int .i64 ((V.nth ((((r6.drop 1).drop 1).drop 1).drop 1) 0).toInt),.list aa ((V.nth (((((r6.drop 1).drop 1).drop 1).drop 1).drop 1) 0).toList)]]:LV)]).bind fun r7=>
    (C la [V.int .i64 5,.list aa ([.agg [V.int .i64 ((V.nth r6 0).toInt),V.int .i64 ((V.nth (r6.drop 1) 0).toInt),.list aa ((V.nth ((r6.drop 1).drop 1) 0).toList)],.agg [V.int .i64 ((V.nth r7 0).toInt),V.int .i64 ((V.nth (r7.drop 1) 0).toInt),.list aa ((V.nth ((r7.drop 1).drop 1) 0).toList)]]:LV)]).bind fun r8=>
    some [V.int .i64 ((V.nth r8 0).toInt),V.int .i64 ((V.nth (r8.drop 1) 0).toInt),.list aa ((V.nth ((r8.drop 1).drop 1) 0).toList),V.int .i64 ((V.nth r7 0).toInt),V.int .i64 ((V.nth (r7.drop 1) 0).toInt),.list aa ((V.nth ((r7.drop 1).drop 1) 0).toList),.bool true]
   else
    bif (ag:Int)==5 then
    (C yA [V.int .i64 bI,.bool bw,V.int .i64 ag,V.int .i64 aq,.list aa ae]).bind fun r9=>
    some [V.int .i64 ((V.nth r9 0).toInt),V.int .i64 ((V.nth (r9.drop 1) 0).toInt),.list aa ((V.nth ((r9.drop 1).drop 1) 0).toList),V.int .i64 ((V.nth (((r9.drop 1).drop 1).drop 1) 0).toInt),V.int .i64 ((V.nth ((((r9.drop 1).drop 1).drop 1).drop 1) 0).toInt),.list aa ((V.nth (((((r9.drop 1).drop 1).drop 1).drop 1).drop 1) 0).toList),.bool ((V.nth ((((((r9.drop 1).drop 1).drop 1).drop 1).drop 1).drop 1) 0).toBool)]
    else
    some [V.int .i64 1,V.int .i64 0,.list aa ([]:LV),V.int .i64 1,V.int .i64 0,.list aa ([]:LV),.bool false]
  else
   bif (ag:Int)==6 then
   bif (ag:Int)==6 then
    (C yz [V.int .i64 bI,.bool bw,V.int .i64 ag,V.int .i64 aq,.list aa ae]).bind fun df=>
    some [V.int .i64 ((V.nth df 0).toInt),V.int .i64 ((V.nth (df.drop 1) 0).toInt),.list aa ((V.nth ((df.drop 1).drop 1) 0).toList),V.int .i64 ((V.nth (((df.drop 1).drop 1).drop 1) 0).toInt),V.int .i64 ((V.nth ((((df.drop 1).drop 1).drop 1).drop 1) 0).toInt),.list aa ((V.nth (((((df.drop 1).drop 1).drop 1).drop 1).drop 1) 0).toList),.bool ((V.nth ((((((df.drop 1).drop 1).drop 1).drop 1).drop 1).drop 1) 0).toBool)]
   else
    bif (ag:Int)==7 then
    (ae[0]?).bind fun gv=>
    (C pt [V.int .i64 bI,.bool bw,V.int .i64 ((gv.cell 0).toInt),V.int .i64 ((gv.cell 1).toInt),.list aa ((gv.cell 2).toList)]).bind fun ic=>
    (C la [V.int .i64 7,.list aa ([.agg [V.int .i64 ((V.nth (((ic.drop 1).drop 1).drop 1) 0).toInt),V.int .i64 ((V.nth ((((ic.drop 1).drop 1).drop 1).drop 1) 0).toInt),.list aa ((V.nth (((((ic.drop 1).drop 1).drop 1).drop 1).drop 1) 0).toList)]]:LV)]).bind fun ja=>
    (C la [V.int .i64 5,.list aa ([.agg [V.int .i64 ((V.nth ic 0).toInt),V.int .i64 ((V.nth (ic.drop 1) 0).toInt),.list aa ((V.nth ((ic.drop 1).drop 1) 0).toList)],.agg [V.int .i64 ((V.nth ja 0).toInt),V.int .i64 ((V.nth (ja.drop 1) 0).toInt),.list aa ((V.nth ((ja.drop 1).drop 1) 0).toList)]]:LV)]).bind fun ko=>
    some [V.int .i64 ((V.nth ko 0).toInt),V.int .i64 ((V.nth (ko.drop 1) 0).toInt),.list aa ((V.nth ((ko.drop 1).drop 1) 0).toList),V.int .i64 ((V.nth ja 0).toInt),V.int .i64 ((V.nth (ja.drop 1) 0).toInt),.list aa ((V.nth ((ja.drop 1).drop 1) 0).toList),.bool true]
    else
    bif (ag:Int)==5 then
     (C yA [V.int .i64 bI,.bool bw,V.int .i64 ag,V.int .i64 aq,.list aa ae]).bind fun oB=>
     some [V.int .i64 ((V.nth oB 0).toInt),V.int .i64 ((V.nth (oB.drop 1) 0).toInt),.list aa ((V.nth ((oB.drop 1).drop 1) 0).toList),V.int .i64 ((V.nth (((oB.drop 1).drop 1).drop 1) 0).toInt),V.int .i64 ((V.nth ((((oB.drop 1).drop 1).drop 1).drop 1) 0).toInt),.list aa ((V.nth (((((oB.drop 1).drop 1).drop 1).drop 1).drop 1) 0).toList),.bool ((V.nth ((((((oB.drop 1).drop 1).drop 1).drop 1).drop 1).drop 1) 0).toBool)]
    else
     some [V.int .i64 1,V.int .i64 0,.list aa ([]:LV),V.int .i64 1,V.int .i64 0,.list aa ([]:LV),.bool false]
   else
   bif (ag:Int)==8 then
    (C yz [V.int .i64 bI,.bool bw,V.int .i64 ag,V.int .i64 aq,.list aa ae]).bind fun gx=>
    some [V.int .i64 ((V.nth gx 0).toInt),V.int .i64 ((V.nth (gx.drop 1) 0).toInt),.list aa ((V.nth ((gx.drop 1).drop 1) 0).toList),V.int .i64 ((V.nth (((gx.drop 1).drop 1).drop 1) 0).toInt),V.int .i64 ((V.nth ((((gx.drop 1).drop 1).drop 1).drop 1) 0).toInt),.list aa ((V.nth (((((gx.drop 1).drop 1).drop 1).drop 1).drop 1) 0).toList),.bool ((V.nth ((((((gx.drop 1).drop 1).drop 1).drop 1).drop 1).drop 1) 0).toBool)]
   else
    bif (ag:Int)==7 then
    (ae[0]?).bind fun wu=>
    (C pt [V.int .i64 bI,.bool bw,V.int .i64 ((wu.cell 0).toInt),V.int .i64 ((wu.cell 1).toInt),.list aa ((wu.cell 2).toList)]).bind fun kA=>
    (C la [V.int .i64 7,.list aa ([.agg [V.int .i64 ((V.nth (((kA.drop 1).drop 1).drop 1) 0).toInt),V.int .i64 ((V.nth ((((kA.drop 1).drop 1).drop 1).drop 1) 0).toInt),.list aa ((V.nth (((((kA.drop 1).drop 1).drop 1).drop 1).drop 1) 0).toList)]]:LV)]).bind fun ef=>
    (C la [V.int .i64 5,.list aa ([.agg [V.int .i64 ((V.nth kA 0).toInt),V.int .i64 ((V.nth (kA.drop 1) 0).toInt),.list aa ((V.nth ((kA.drop 1).drop 1) 0).toList)],.agg [V.int .i64 ((V.nth ef 0).toInt),V.int .i64 ((V.nth (ef.drop 1) 0).toInt),.list aa ((V.nth ((ef.drop 1).drop 1) 0).toList)]]:LV)]).bind fun je=>
    some [V.int .i64 ((V.nth je 0).toInt),V.int .i64 ((V.nth (je.drop 1) 0).toInt),.list aa ((V.nth ((je.drop 1).drop 1) 0).toList),V.int .i64 ((V.nth ef 0).toInt),V.int .i64 ((V.nth (ef.drop 1) 0).toInt),.list aa ((V.nth ((ef.drop 1).drop 1) 0).toList),.bool true]
    else
    bif (ag:Int)==5 then
     (C yA [V.int .i64 bI,.bool bw,V.int .i64 ag,V.int .i64 aq,.list aa ae]).bind fun pI=>
     some [V.int .i64 ((V.nth pI 0).toInt),V.int .i64 ((V.nth (pI.drop 1) 0).toInt),.list aa ((V.nth ((pI.drop 1).drop 1) 0).toList),V.int .i64 ((V.nth (((pI.drop 1).drop 1).drop 1) 0).toInt),V.int .i64 ((V.nth ((((pI.drop 1).drop 1).drop 1).drop 1) 0).toInt),.list aa ((V.nth (((((pI.drop 1).drop 1).drop 1).drop 1).drop 1) 0).toList),.bool ((V.nth ((((((pI.drop 1).drop 1).drop 1).drop 1).drop 1).drop 1) 0).toBool)]
    else
     some [V.int .i64 1,V.int .i64 0,.list aa ([]:LV),V.int .i64 1,V.int .i64 0,.list aa ([]:LV),.bool false]
theorem aiy {bI:Int} {bw:Bool} {ag aq:Int} {ae:LV} {r:Option LV} (h:WS CC bI bw ag aq ae=r):CC pt [V.int .i64 bI,.bool bw,V.int .i64 ag,V.int .i64 aq,.list aa ae]=r:=aY (bB (aiw CC) av) h
end Go.AM
set_option maxRecDepth 100000
namespace Go.AM
open Go.Proofs Ex
def sm (c:Int) (e:Ex):List V:=bV (aL (bU c e)) (bV (aL e) [.bool e.da])
theorem O7 {c:Int} {e:Ex} (hw:e.wf 6=true):(aL (bU c e)).size≤e.size*e.size:=
 lX (y7 _ (ub e hw)) (O3 e 6 hw)
theorem Dt {a m:Nat} (h:a≤m):a*a≤m*m:=Nat.mul_le_mul h h
theorem WU {e:Ex} (hw:e.wf 6=true) (hs:e.size≤1000000):Gd 6 (aL e)∧(aL e).Ok∧(aL e).size≤e.size:=by
 have h1:=lR e hw
 have U:=y7 e hw
 exact ⟨h1,nA (by omega) _ h1.2 (by omega),U⟩
def nG (c:Int):List Ex→List Ex
 | []=>[]
 | k::ks=>aL (bU c k)::(if k.da=true then nG c ks else [])
def Du (ss:List Ex):Nat→List Ex→List Ex
 | _,[]=>[]
 | i,d::ds=>(if d.op=1 then d else eg 5 0 (d::ss.drop (i+1)))::Du ss (i+1) ds
theorem WV {c:Int}: ∀(ks pre:List Ex),Du ((pre++ks).map aL) pre.length (nG c ks)=uc c ks
 | [],pre=>rfl
 | k::ks,pre=>by
  have ih:=WV (c:=c) ks (pre++[k])
  have e1:((pre++k::ks).map aL).drop (pre.length+1)=ks.map aL:=by
   rw[eJ,cM,show pre.length+1=(pre.map aL++[aL k]).length by simp,show pre.map aL++aL k::ks.map aL=(pre.map aL++[aL k])++ks.map aL by simp,List.drop_left]
  unfold nG uc Du Ia
  rw[e1]
  refine congrArg _ ?_
  split
  ·rw[←ih];simp
  ·rfl
theorem WW {c:Int}: ∀ks:List Ex,(nG c ks).length≤ks.length
 | []=>cl _
 | k::ks=>by
  have:=WW (c:=c) ks
  unfold nG
  split<;>simp<;>omega
theorem WX {c:Int}: ∀{ks:List Ex} {d:Ex},d∈nG c ks→∃k∈ks,d=aL (bU c k)
 | k::ks,d,h=>by
  unfold nG at h
  rcases dO.1 h with rfl|h
  ·exact ⟨k,by simp,rfl⟩
  ·split at h
   ·obtain ⟨x,hx,e⟩:=WX h
    exact ⟨x,by simp[hx],e⟩
   ·cases h
theorem O8: ∀{ks:List Ex},(∀k∈ks,k.wf 6=true)→aR (ks.map aL)≤aR ks
 | [],_=>by simp[aR]
 | k::ks,h=>by
  have a:=y7 k (h k (by simp))
  have b:=O8 (ks:=ks) fun k hk=>h k (by simp[hk])
  simp only[cM,aR];omega
theorem O9 {ks:List Ex} {f:Ex→Ex} (h: ∀k∈ks,Gd 6 (f k)∧(f k).Ok):(∀k∈ks.map f,Gd 6 k)∧∀k∈ks.map f,k.Ok:=
 ⟨fun x hx=>by obtain ⟨k,hk,rfl⟩:=gT.1 hx;exact (h k hk).1,fun x hx=>by obtain ⟨k,hk,rfl⟩:=gT.1 hx;exact (h k hk).2⟩
def lU (ks:List Ex):Nat:=(ks.filter Ex.da).length
section
variable {c:Int} {nm:Bool} {ks:List Ex}
variable (hn:ks.length≤1000) (ih: ∀k∈ks,CC pt (.int .i64 c:: .bool nm::bV k [])=some (sm c k))
include hn ih
theorem aiz {a b c1 c2 c3 c4:Int} {b1:Bool} {l1 l2 l3:List V}: ∀(ay pre:List Ex),ks=pre++ay→
  Loop (Ib CC (ks.map enc) (ks.length:Int) c nm a b l1 c1 c2 c3 c4 b1 l2 l3) (((lU pre:Nat):Int),((pre.length:Nat):Int),(pre.map fun k=>aL (bU c k)).map enc++List.replicate ay.length zE,(pre.map aL).map enc++List.replicate ay.length zE)
   = some (((lU ks:Nat):Int),(ks.length:Int),false,(ks.map fun k=>aL (bU c k)).map enc,(ks.map aL).map enc):=by
 intro ay
 induction ay with
 | nil=>
  intro pre e
  rw[dr] at e
  subst e
  refine aV ?_
  simp only[Ib,Dp,un,aH,ba]
  rw[aA,aM,eP]
  simp
 | cons k ay eF=>
  intro pre e
  have ch:pre.length<ks.length:=by rw[e];simp
  have bY:idx (ks.map enc) (pre.length:Int)=some k.enc:=by rw[e];exact gM _ _ _
  refine (bQ ?_).trans (eF (pre++[k]) (by simp[e]))
  simp only[Ib,Dp,un,aH,ba]
  refine bT (mO ch) (bs bY ?_)
  rw[bu,bE,bD]
  refine bs (ih k (by rw[e];simp)) ?_
  refine (tZ (by simp)).trans ?_
  refine (tZ (by simp)).trans ?_
  rw[Int.toNat_natCast]
  have hc:lU (pre++[k])=lU pre+(if k.da=true then 1 else 0):=by
   unfold lU
   rw[nS,cg]
   cases hk:k.da<;>simp[hk]
  have lH:lU pre≤pre.length:=uA _ _
  have sY:pre.length=((pre.map fun k=>aL (bU c k)).map enc).length:=by simp
  have j4:pre.length=((pre.map aL).map enc).length:=by simp
  rw[List.length_cons,ua sY,ua j4]
  cases hk:k.da with
  | true=>
   refine bT hk ?_
   rw[lT (by omega),lT (by omega),hc,hk]
   simp only[c6,eJ,cM,fJ,cg,List.length_cons,List.length_nil]
   rw[dA (aL (bU c k)),dA (aL k)]
   rfl
  | false=>
   refine bF hk ?_
   rw[lT (by omega),hc,hk]
   simp only[an EI,eJ,cM,fJ,cg,List.length_cons,List.length_nil]
   rw[dA (aL (bU c k)),dA (aL k)]
   rfl
theorem aiA {c1 c2 c3 c4:Int} {b1:Bool} {l1 l2:List V} (hs: ∀k∈ks,CC Cc (.int .i64 c:: .bool nm::bV k [])=some (eM (aL k))): ∀(ay pre B:List Ex) (b:Bool),ks=pre++ay→B.length≤pre.length→
  Loop (Dr CC (ks.map enc) (ks.length:Int) c nm c1 c2 c3 c4 b1 l1 l2) (b,((pre.length:Nat):Int),B.map enc,(pre.map aL).map enc++List.replicate ay.length zE)
   = some (b&&ay.all Ex.da,(ks.length:Int),false,(B++(if b=true then nG c ay else [])).map enc,(ks.map aL).map enc):=by
 intro ay
 induction ay with
 | nil=>
  intro pre B b e hB
  rw[dr] at e
  subst e
  refine aV ?_
  simp only[Dr,zH,un,aH,ba]
  rw[aA,aM,eP]
  simp[nG]
 | cons k ay eF=>
  intro pre B b e hB
  have ch:pre.length<ks.length:=by rw[e];simp
  have bY:idx (ks.map enc) (pre.length:Int)=some k.enc:=by rw[e];exact gM _ _ _
  have j4:pre.length=((pre.map aL).map enc).length:=by simp
  cases b with
  | false=>
   refine (bQ ?_).trans (eF (pre++[k]) B false (by simp[e]) (by simp;omega))
   simp only[Dr,zH,un,aH,ba]
   refine bT (mO ch) (bs bY (bT rfl ?_))
   rw[bu,bE,bD]
   refine bs (hs k (by rw[e];simp)) ?_
   refine (tZ (by simp)).trans ?_
   rw[Int.toNat_natCast,List.length_cons,ua j4,lT (by omega)]
   simp only[eJ,cM,fJ,cg,List.length_cons,List.length_nil]
   rw[dA (aL k)]
   rfl
  | true=>
   refine ((bQ ?_).trans (eF (pre++[k]) (B++[aL (bU c k)]) k.da (by simp[e]) (by simp;omega))).trans ?_
   ·simp only[Dr,zH,un,aH,ba]
    refine bT (mO ch) (bs bY (bF rfl ?_))
    rw[bu,bE,bD]
    refine bs (ih k (by rw[e];simp)) ?_
    refine bT (zD (by simp;omega)) ?_
    refine (tZ (by simp)).trans ?_
    rw[Int.toNat_natCast,List.length_cons,ua j4,lT (by omega)]
    simp only[eJ,cM,fJ,cg,List.length_cons,List.length_nil]
    rw[dA (aL k),dA (aL (bU c k))]
    rfl
   ·simp only[mU,List.all_cons,c6]
    rw[show nG c (k::ay)=aL (bU c k)::(if k.da=true then nG c ay else []) from rfl,cC]
    rfl
end
theorem aiB {ss D:List Ex} {b b1:Bool} {c1 c2 c3 c4:Int} {l1 l2:List V} (hD:D.length≤ss.length) (hss:ss.length≤1000) (hd: ∀d∈D,Gd 6 d∧d.Ok∧d.size≤500000) (hsg: ∀k∈ss,Gd 6 k∧k.Ok) (aU:aR ss≤500000): ∀(ay pre P:List Ex),D=pre++ay→P.length=pre.length→
  Loop (Ic CC b (D.length:Int) c1 c2 c3 c4 b1 (ss.map enc) (D.map enc) l1 l2) (((pre.length:Nat):Int),P.map enc++List.replicate ay.length zE)
   = some ((D.length:Int),false,(P++Du ss pre.length ay).map enc):=by
 intro ay
 induction ay with
 | nil=>
  intro pre P e hP
  rw[dr] at e
  subst e
  refine aV ?_
  simp only[Ic,Ds,un,aH,ba]
  rw[aA,aM,eP]
  simp[Du]
 | cons d ay eF=>
  intro pre P e hP
  have ch:pre.length<D.length:=by rw[e];simp
  have hm:d∈D:=by rw[e];simp
  have bY:(D.map enc)[pre.length]? =some d.enc:=by rw[e];simp
  have j4:pre.length=(P.map enc).length:=by simp[hP]
  refine ((bQ ?_).trans (eF (pre++[d]) (P++[if d.op=1 then d else eg 5 0 (d::ss.drop (pre.length+1))]) (by simp[e]) (by simp[hP]))).trans ?_
  ·simp only[Ic,Ds,un,aH,ba]
   refine bT (mO ch) ?_
   refine (nE bY).trans ?_
   rw[bu,bE,bD,dx]
   by_cases h1:d.op=1
   ·rw[aj h1,aj h1]
    refine (tZ j4).trans ?_
    rw[Int.toNat_natCast,List.length_cons,ua j4,lT (by omega)]
    simp only[eJ,cM,fJ,cg,List.length_cons,List.length_nil]
    rw[dA d]
   ·rw[an h1,an h1,lT (by omega),Int.toNat_natCast,aK]
    refine bT (uB.2 ⟨cz (by omega),cz (by omega)⟩) ?_
    have ht:((ss.map enc).drop (pre.length+1)).take (ss.length-(pre.length+1))=(ss.drop (pre.length+1)).map enc:=by
     rw[←List.map_drop,Am (by simp)]
    rw[ht]
    refine bT (zD (by simp;omega)) ?_
    have hg: ∀k∈d::ss.drop (pre.length+1),Gd 6 k∧k.Ok:=fun k hk=>by
     rcases dO.1 hk with rfl|hk
     ·exact ⟨(hd _ hm).1,(hd _ hm).2.1⟩
     ·exact hsg k (List.mem_of_mem_drop hk)
    have hz:aR (d::ss.drop (pre.length+1))≤1000000:=by
     have h1:=(hd d hm).2.2
     have U:=HE (ss.take (pre.length+1)) (ss.drop (pre.length+1))
     rw[EC] at U
     simp only[aR];omega
    rw[O0,←eJ]
    refine bs (sh (o:=5) (fun k hk=>(hg k hk).1) (fun k hk=>(hg k hk).2) hz (by omega)) ?_
    refine (tZ j4).trans ?_
    rw[Int.toNat_natCast,List.length_cons,ua j4]
    simp only[eJ,cM,fJ,cg,List.length_cons,List.length_nil]
    rw[dA (eg 5 0 (d::ss.drop (pre.length+1)))]
    rfl
  ·rw[cg,cC]
   rfl
theorem WY: ∀ks:List Ex,mI ks=ks.all Ex.da
 | []=>rfl
 | k::ks=>by simp[mI,WY ks]
theorem WZ: ∀ks:List Ex,lf ks=decide ((lU ks:Int)>0)
 | []=>by simp[lf,lU]
 | k::ks=>by
  have:=WZ ks
  unfold lU at*
  cases hk:k.da
  ·simp[lf,hk,this]
  ·simp[lf,hk]
theorem W0: ∀ks:List Ex,mI ks=((lU ks:Int)==(ks.length:Int))
 | []=>by simp[mI,lU]
 | k::ks=>by
  have h:=W0 ks
  have hl:lU ks≤ks.length:=uA _ _
  unfold lU at*
  rw[mI,h,oQ]
  cases hk:k.da
  ·simp[hk];omega
  ·simp[hk]
theorem aiC {c:Int} {nm:Bool}: ∀e:Ex,e.wf 6=true→e.size≤400→(nm=true→Gd 6 e)→CC pt (.int .i64 c:: .bool nm::bV e [])=some (sm c e):=
 ind fun o l ks ih hw hs ma=>by
  obtain ⟨h1,U⟩:=ib hw
  have hl:=lg ks
  have Ih:aR ks≤399:=by simp only[size] at hs;omega
  have wL: ∀k∈ks,k.size≤399:=fun k hk=>lX (tJ hk) Ih
  have iC: ∀k∈ks,CC pt (.int .i64 c:: .bool nm::bV k [])=some (sm c k):=fun k hk=>ih k hk (U k hk) (by have:=wL k hk;omega) fun h=>(ma h).kids k hk
  have hsm: ∀k∈ks,CC Cc (.int .i64 c:: .bool nm::bV k [])=some (eM (aL k)):=fun k hk=>by
   refine aii ?_
   unfold WK
   cases nm with
   | true=>refine bT rfl ?_;rw[NZ k ((ma rfl).kids k hk)];rfl
   | false=>
    refine bF rfl ?_
    have:=wL k hk
    exact bs (WB (n:=6) (by omega) k (U k hk) (by omega)) rfl
  have dL: ∀k∈ks,(aL (bU c k)).size≤160000:=fun k hk=>by
   have a:=O7 (c:=c) (U k hk)
   have b:=Dt (wL k hk)
   omega
  have Dw: ∀k∈ks,Gd 6 (aL (bU c k))∧(aL (bU c k)).Ok:=fun k hk=>by
   have a:=lR _ (ub (c:=c) k (U k hk))
   have b:=dL k hk
   exact ⟨a,nA (by omega) _ a.2 (by omega)⟩
  have Ii: ∀k∈ks,Gd 6 (aL k)∧(aL k).Ok:=fun k hk=>by
   have a:=WU (U k hk) (by have:=wL k hk;omega)
   exact ⟨a.1,a.2.1⟩
  have hnz:=O8 U
  have hbz:aR (ks.map fun k=>aL (bU c k))≤160000:=by
   have a:=O1 (f:=fun k=>aL (bU c k)) fun k hk=>O7 (c:=c) (U k hk)
   have b:=Dt Ih
   omega
  have Pb:(o=4∨o=6∨o=8)→CC yz (.int .i64 c:: .bool nm::bV (.node o l ks) [])=some (sm c (.node o l ks)):=fun ho=>by
   obtain ⟨a1,a2⟩:=O9 Dw
   obtain ⟨b1,b2⟩:=O9 Ii
   have gW:l=0:=by rcases eU h1 with h|h<;>omega
   refine ain ?_
   unfold WM
   simp only[Ex.op,Ex.kids,Ex.bH,aK]
   refine bT (H8 (by omega)) (bT (H8 (by omega)) ?_)
   have Pc:=aiz (ks:=ks) (nm:=nm) (c:=c) (by omega) iC (a:=o) (b:=l) (c1:=0) (c2:=0) (c3:=0) (c4:=0) (b1:=false) (l1:=ks.map enc) (l2:=[]) (l3:=[]) ks [] rfl
   rw[Int.toNat_natCast]
   refine bs Pc ?_
   unfold sm
   rw[aid ho,mJ,gW]
   rcases ho with rfl|rfl|rfl
   ·refine bs (sh a1 a2 (by omega) (.inl rfl)) ?_
    refine bs (sh b1 b2 (by omega) (.inl rfl)) ?_
    refine bT rfl ?_
    rw[←WZ]
    rfl
   ·refine bs (sh a1 a2 (by omega) (.inr (.inr rfl))) ?_
    refine bs (sh b1 b2 (by omega) (.inr (.inr rfl))) ?_
    refine bF rfl (bT rfl ?_)
    rw[←W0]
    rfl
   ·obtain ⟨k,rfl⟩:=xg.1 (show ks.length=1 by rcases eU h1 with h|h<;>omega)
    refine bs (H7 (Dw k (by simp)).1 (.inr rfl)) ?_
    refine bs (H7 (Ii k (by simp)).1 (.inr rfl)) ?_
    refine bF rfl (bF rfl (bT rfl ?_))
    refine congrArg some ?_
    have:(((lU [k]:Nat):Int)==0)=(Ex.node 8 0 [k]).da:=by
     simp only[Ex.da,lU]
     cases hk:k.da<;>simp[hk,lf]
    rw[this]
    rfl
  have aiD:o=5→CC yA (.int .i64 c:: .bool nm::bV (.node o l ks) [])=some (sm c (.node o l ks)):=fun ho=>by
   subst ho
   have bq:ks≠[]:=by rintro rfl;rcases eU h1 with h|h<;>simp at h<;>omega
   have gW:l=0:=by rcases eU h1 with h|h<;>omega
   obtain ⟨b1,b2⟩:=O9 Ii
   have hD:=WW (c:=c) ks
   refine air ?_
   unfold WO
   simp only[Ex.op,Ex.kids,Ex.bH,aK]
   refine bT (H8 (by omega)) ?_
   rw[Int.toNat_natCast]
   have Pc:=aiA (ks:=ks) (nm:=nm) (c:=c) (by omega) iC (c1:=0) (c2:=0) (c3:=0) (c4:=0) (b1:=false) (l1:=[]) (l2:=[]) hsm ks [] [] true rfl (cl _)
   refine bs Pc ?_
   simp only[un,List.nil_append,c6,mU,aK]
   refine bT (H8 (by omega)) ?_
   rw[Int.toNat_natCast]
   have ch:=aiB (ss:=ks.map aL) (D:=nG c ks) (b:=ks.all Ex.da) (c1:=0) (c2:=0) (c3:=0) (c4:=0) (b1:=false) (l1:=[]) (l2:=[]) (by simp;omega) (by simp;omega) (fun d hd=>by
    obtain ⟨k,hk,rfl⟩:=WX hd
    have:=dL k hk
    exact ⟨(Dw k hk).1,(Dw k hk).2,by omega⟩) (fun k hk=>⟨b1 k hk,b2 k hk⟩) (by omega) (nG c ks) [] [] rfl rfl
   have he:=WV (c:=c) ks []
   rw[List.nil_append] at he
   rw[List.length_nil] at ch he
   rw[he] at ch
   refine bs ch ?_
   simp only[un,List.nil_append]
   have xB:=parts_eq (c:=c) U
   have W3:=H9 (c:=c) U fun k hk=>ub k (U k hk)
   have hcz:aR (iO c ks)≤160000:=by
    have a:=O2 (c:=c) (ks:=ks) fun k hk=>O3 k 6 (U k hk)
    have b:=Dt (show 1+aR ks≤400 by omega)
    omega
   have hpz:aR (uc c ks)≤160000:=by rw[xB];have:=O8 W3;omega
   have W4: ∀k∈uc c ks,Gd 6 k∧k.Ok:=fun k hk=>by
    have hz:=tJ hk
    rw[xB] at hk
    obtain ⟨x,hx,rfl⟩:=gT.1 hk
    have a:=lR x (W3 x hx)
    exact ⟨a,nA (by omega) _ a.2 (by omega)⟩
   refine bs (sh (fun k hk=>(W4 k hk).1) (fun k hk=>(W4 k hk).2) (by omega) (.inl rfl)) ?_
   refine bs (sh b1 b2 (by omega) (.inr (.inl rfl))) ?_
   unfold sm
   rw[aih bq U,mJ,gW,←WY]
   rfl
  refine aiy ?_
  unfold WS Ie
  simp only[Ex.op,Ex.kids,Ex.bH]
  rcases eU h1 with ⟨rfl,h⟩|⟨rfl,⟨rfl,h⟩|⟨rfl,h⟩|⟨rfl,h⟩|⟨rfl,h⟩|⟨rfl,h⟩|⟨rfl,h⟩|⟨rfl,h⟩⟩
  ·obtain rfl:=jY.1 (show ks.length=0 by omega)
   refine bF rfl (bT rfl ?_)
   unfold sm
   rw[oG,aj rfl,mJ,ku (by omega)]
   rw[dx]
   by_cases pj:l=c
   ·rw[aj pj,aj pj];rfl
   ·rw[an pj,an pj];rfl
  ·obtain rfl:=jY.1 (show ks.length=0 by omega)
   rfl
  ·obtain rfl:=jY.1 (show ks.length=0 by omega)
   rfl
  ·exact bF rfl (bF rfl (bT rfl (bT rfl (bs (Pb (.inl rfl)) rfl))))
  ·refine bF rfl (bF rfl (bF rfl (bF rfl (bF rfl (bF rfl (bT rfl ?_))))))
   exact bs (aiD rfl) rfl
  ·exact bF rfl (bF rfl (bF rfl (bT rfl (bT rfl (bs (Pb (.inr (.inl rfl))) rfl)))))
  ·obtain ⟨k,rfl⟩:=xg.1 (show ks.length=1 by omega)
   refine bF rfl (bF rfl (bF rfl (bF rfl (bF rfl (bT rfl ?_)))))
   refine bs (a:=k.enc) rfl ?_
   rw[bu,bE,bD]
   refine bs (iC k (by simp)) ?_
   have hk:=Ii k (by simp)
   have hb:=Dw k (by simp)
   have hj:=H7 hk.1 (o:=7) (.inl rfl)
   rw[cM,fJ,dA] at hj
   refine bs hj ?_
   have ql:eg 7 0 [aL k]=aL (.node 7 0 [k]):=by rw[mJ];rfl
   have Pd:=WU hw (by omega)
   have hz2:=dL k (by simp)
   have gG:=sh (n:=6) (ks:=[aL (bU c k),aL (.node 7 0 [k])]) (o:=5) (fun x hx=>by
    rcases dO.1 hx with rfl|hx
    ·exact hb.1
    ·rw[eH.1 hx];exact Pd.1) (fun x hx=>by
    rcases dO.1 hx with rfl|hx
    ·exact hb.2
    ·rw[eH.1 hx];exact Pd.2.1) (by have:=Pd.2.2;simp only[aR];omega) (by omega)
   rw[cM,cM,fJ,dA (aL (bU c k)),dA (aL (.node 7 0 [k])),←ql] at gG
   refine bs gG ?_
   unfold sm
   rw[aie,←ql]
   rfl
  ·exact bF rfl (bF rfl (bF rfl (bF rfl (bT rfl (bs (Pb (.inr (.inr rfl))) rfl)))))
structure Dv where
 L:Int
 es:List Ex
 nx:List (List Int)
 dn:Int
deriving DecidableEq
def Dv.zero:Dv:=⟨0,[],[],0⟩
def oH (e:Ex) (c:Nat):Option Ex:=if (aL (bU c e)).val 6=0 then some (aL (bU c e)) else none
def kE (e:Ex):Nat→Nat→List Ex→List Int→Option (List Ex × List Int)
 | 0,_,es,row=>some (es,row)
 | n+1,x,es,row=>(oH e x).bind fun d=>
  if d∈es then kE e n (x+1) es (row++[(es.idxOf d:Int)])
  else if es.length=512 then none else kE e n (x+1) (es++[d]) (row++[(es.length:Int)])
def proc (s:Dv):Option Dv:=(kE (s.es.getD s.dn.toNat aF) s.L.toNat 0 s.es []).map fun p=>⟨s.L,p.1,s.nx++[p.2],s.dn+1⟩
def eN:Nat→Dv→Option Dv
 | 0,s=>some s
 | n+1,s=>if s.dn<s.es.length then (proc s).bind (eN n) else some s
def oI:Nat→Dv→Option Dv
 | 0,s=>some s
 | n+1,s=>if s.dn<s.es.length then (proc s).bind (oI n) else none
def eO (e:Ex) (L:Int):Dv:=⟨L,[aL e],[],0⟩
def gR (d:Dv):Bool:=decide (d.es≠[]∧d.es.length≤512∧(d.es.getD 0 aF).val d.L=0∧0≤d.dn∧oI d.dn.toNat (eO (d.es.getD 0 aF) d.L)=some d)
def ue (d:Dv) (b:Int):Dv × Int:=if gR d=true then (if b<0 then (.zero,1) else match eN b.toNat d with|none=>(.zero,3)|some t=>(t,0)) else (.zero,8)
theorem W5 {L:Int} (h:L≤6): ∀e:Ex,e.wf L=true→e.wf 6=true:=ind fun o l ks ih hw=>by
 obtain ⟨h1,U⟩:=ib hw
 refine wa ?_ fun k hk=>ih k hk (U k hk)
 unfold ee at h1⊢
 by_cases ho:o=3
 ·rw[aj ho] at h1⊢
  have:=gB h1
  exact cz (by omega)
 ·rw[an ho] at h1⊢;exact h1
theorem Ij {e:Ex} {L:Int} (h:e.val L=0):(1≤L∧L≤6)∧e.depth≤40∧e.size≤400∧e.wf L=true:=by
 unfold Ex.val at h
 repeat' split at h
 all_goals first|omega|skip
 next a b c=>exact ⟨a,b.1,b.2,c⟩
theorem val_mk {e:Ex} {L:Int} (h:(1≤L∧L≤6)∧e.depth≤40∧e.size≤400∧e.wf L=true):e.val L=0:=by
 unfold Ex.val
 rw[aj h.1,aj ⟨h.2.1,h.2.2.1⟩,aj h.2.2.2]
theorem wM {e:Ex} {L:Int} (h:e.val L=0):e.val 6=0:=by
 obtain ⟨h1,U,h3,h4⟩:=Ij h
 exact val_mk ⟨by omega,U,h3,W5 h1.2 e h4⟩
theorem Ik {e:Ex} {L:Int} (h:e.val L=0):(aL e).val L=0:=by
 obtain ⟨h1,U,h3,h4⟩:=Ij h
 have:=y7 e h4
 have:=afu e h4
 exact val_mk ⟨h1,by omega,by omega,(lR e h4).2⟩
def Nv (e:Ex):Prop:=Gd 6 e∧e.val 6=0
theorem Nv.aL {e:Ex} (h:Nv e):aL e=e:=NZ e h.1
theorem Pe {e d:Ex} {c:Nat} (he:Nv e) (h:oH e c=some d):Nv d∧d=Go.AM.aL (bU c e):=by
 unfold oH at h
 split at h
 ·next hv=>
  cases h
  exact ⟨⟨lR _ (ub e he.1.2),hv⟩,rfl⟩
 ·cases h
structure Es (es:List Ex):Prop where
 le:es.length≤512
 nv: ∀e∈es,Nv e
 nd:es.Nodup
def qI (e:Ex) (es:List Ex) (n:Nat) (row:List Int):Prop:=row.length=n∧∀x,x<n→∃j:Nat,row.getD x 0=j∧j<es.length∧oH e x=some (es.getD j aF)
theorem qI.mono {e:Ex} {es t:List Ex} {n:Nat} {row:List Int} (h:qI e es n row):qI e (es++t) n row:=⟨h.1,fun x hx=>by
 obtain ⟨j,h1,U,h3⟩:=h.2 x hx
 refine ⟨j,h1,by rw[cg];omega,?_⟩
 rw[h3,fA,fA,gi U]⟩
theorem qI.snoc {e:Ex} {es:List Ex} {n j:Nat} {row:List Int} (h:qI e es n row) (h1:j<es.length) (U:oH e n=some (es.getD j aF)):qI e es (n+1) (row++[(j:Int)]):=by
 refine ⟨by rw[cg,h.1];rfl,fun x hx=> ?_⟩
 rcases pY x n with c|c
 ·obtain ⟨i,i1,i2,i3⟩:=h.2 x c
  refine ⟨i,?_,i2,i3⟩
  rw[←i1,fA,fA,gi (by rw[h.1];exact c)]
 ·obtain rfl:x=n:=by omega
  refine ⟨j,?_,h1,U⟩
  rw[fA,ik (by rw[h.1];exact cl _),h.1]
  simp
theorem Es.snoc {es:List Ex} {d:Ex} (h:Es es) (hd:Nv d) (hn:d∉es) (hl:es.length≠512):Es (es++[d]):=by
 refine ⟨by have:=h.le;simp;omega,fun e he=> ?_,?_⟩
 ·rcases eZ.1 he with he|he
  ·exact h.nv e he
  ·rw[eH.1 he];exact hd
 ·rw[xf]
  refine ⟨h.nd,by simp,fun a ha b hb=> ?_⟩
  rw[eH.1 hb]
  rintro rfl
  exact hn ha
theorem aiE {es:List Ex} {d:Ex} (h:d∈es):es.getD (es.idxOf d) aF=d:=by
 have:=EJ.2 h
 rw[fA,bA this,Option.getD_some,List.getElem_idxOf]
theorem Pf {e:Ex} (he:Nv e): ∀(n x:Nat) (es:List Ex) (row:List Int) (p:List Ex × List Int),Es es→qI e es x row→kE e n x es row=some p→Es p.1∧qI e p.1 (x+n) p.2∧∃t,p.1=es++t
 | 0,x,es,row,p,h1,U,h=>by
  cases h
  exact ⟨h1,U,[],by simp⟩
 | n+1,x,es,row,p,h1,U,h=>by
  rw[kE] at h
  cases hs:oH e x with
  | none=>rw[hs] at h;cases h
  | some d=>
   rw[hs] at h
   obtain ⟨hd,_⟩:=Pe he hs
   simp only[Option.bind_some] at h
   by_cases hm:d∈es
   ·rw[aj hm] at h
    have:=Pf he n (x+1) es _ p h1 (U.snoc (EJ.2 hm) (by rw[hs,aiE hm])) h
    rw[show x+(n+1)=x+1+n by omega]
    exact this
   ·rw[an hm] at h
    by_cases hl:es.length=512
    ·rw[aj hl] at h;cases h
    ·rw[an hl] at h
     obtain ⟨a,b,t,c⟩:=Pf he n (x+1) (es++[d]) _ p (h1.snoc hd hm hl) (U.mono.snoc (by simp) (by rw[hs,fA];simp)) h
     rw[show x+(n+1)=x+1+n by omega]
     exact ⟨a,b,d::t,by rw[c,cC];rfl⟩
structure Gs (s:Dv):Prop where
 L:1≤s.L∧s.L≤6
 ne:s.es≠[]
 es:Es s.es
 dn:0≤s.dn∧s.dn≤s.es.length
 nl:s.nx.length=s.dn.toNat
 row: ∀q,q<s.dn.toNat→qI (s.es.getD q aF) s.es s.L.toNat (s.nx.getD q [])
theorem Dx {α:Type} {a b:List α} {i:Nat} {z:α} (h:i<a.length):(a++b).getD i z=a.getD i z:=by
 rw[fA,fA,gi h]
theorem nH {α:Type} {a:List α} {i:Nat} {z:α} (h:i<a.length):a.getD i z∈a:=by
 rw[fA,bA h];simp
theorem Pg {s t:Dv} (h:proc s=some t): ∃p,kE (s.es.getD s.dn.toNat aF) s.L.toNat 0 s.es []=some p∧t=⟨s.L,p.1,s.nx++[p.2],s.dn+1⟩:=by
 unfold proc at h
 cases hr:kE (s.es.getD s.dn.toNat aF) s.L.toNat 0 s.es [] with
 | none=>rw[hr] at h;cases h
 | some p=>rw[hr] at h;cases h;exact ⟨p,rfl,rfl⟩
theorem zI {s t:Dv} (hs:Gs s) (hd:s.dn<s.es.length) (h:proc s=some t):Gs t∧t.L=s.L∧t.dn=s.dn+1∧∃r,t.es=s.es++r:=by
 obtain ⟨p,hp,rfl⟩:=Pg h
 have Dy:=hs.dn
 have hq:s.dn.toNat<s.es.length:=by omega
 obtain ⟨a,b,r,c⟩:=Pf (hs.es.nv _ (nH hq)) _ 0 _ _ p hs.es ⟨rfl,fun x hx=>by omega⟩ hp
 have hn:=hs.nl
 refine ⟨⟨hs.L,by rw[c];simp[hs.ne],a,⟨by show 0≤s.dn+1;omega,?_⟩,?_,fun q Bd=> ?_⟩,rfl,rfl,r,c⟩
 ·show s.dn+1≤(p.1.length:Int)
  rw[c,cg];omega
 ·show (s.nx++[p.2]).length=(s.dn+1).toNat
  rw[cg,hn];simp;omega
 ·have hq3:q<(s.dn+1).toNat:=Bd
  show qI (p.1.getD q aF) p.1 s.L.toNat ((s.nx++[p.2]).getD q [])
  rcases pY q s.dn.toNat with e|e
  ·rw[Dx (by omega),c,Dx (by omega)]
   exact (hs.row q e).mono
  ·obtain rfl:q=s.dn.toNat:=by omega
   rw[fA (l:=s.nx++[p.2]),ik (by omega),hn,Nat.sub_self]
   simp only[List.getElem?_cons_zero,Option.getD_some]
   rw[fx] at b
   have e1:p.1.getD s.dn.toNat aF=s.es.getD s.dn.toNat aF:=by rw[c,Dx (by omega)]
   rw[e1]
   exact b
theorem uf: ∀(n:Nat) (s t:Dv),Gs s→eN n s=some t→Gs t∧t.L=s.L∧(∃r,t.es=s.es++r)∧(t.dn=t.es.length∨t.dn=s.dn+n)
 | 0,s,t,hs,h=>by cases h;exact ⟨hs,rfl,⟨[],by simp⟩,.inr (by simp)⟩
 | n+1,s,t,hs,h=>by
  rw[eN] at h
  by_cases hd:s.dn<s.es.length
  ·rw[aj hd] at h
   cases hp:proc s with
   | none=>rw[hp] at h;cases h
   | some u=>
    rw[hp] at h
    obtain ⟨a,b,c,r,d⟩:=zI hs hd hp
    obtain ⟨e,f,⟨r2,g⟩,i⟩:=uf n u t a h
    refine ⟨e,f.trans b,⟨r++r2,by rw[g,d,cC]⟩,?_⟩
    rcases i with i|i
    ·exact .inl i
    ·exact .inr (by rw[i,c];omega)
  ·rw[an hd] at h
   cases h
   exact ⟨hs,rfl,⟨[],by simp⟩,.inl (by have:=hs.dn;omega)⟩
theorem W6: ∀(n:Nat) (s t:Dv),Gs s→eN n s=some t→∃k:Nat,oI k s=some t∧t.dn=s.dn+k
 | 0,s,t,_,h=>⟨0,h,by cases h;simp⟩
 | n+1,s,t,hs,h=>by
  rw[eN] at h
  by_cases hd:s.dn<s.es.length
  ·rw[aj hd] at h
   cases hp:proc s with
   | none=>rw[hp] at h;cases h
   | some u=>
    rw[hp] at h
    obtain ⟨a,b,c,_⟩:=zI hs hd hp
    obtain ⟨k,h1,U⟩:=W6 n u t a h
    refine ⟨k+1,?_,by rw[U,c];omega⟩
    rw[oI,aj hd,hp];exact h1
  ·rw[an hd] at h
   cases h
   exact ⟨0,rfl,by simp⟩
theorem Dz: ∀(n:Nat) (s t:Dv),oI n s=some t→eN n s=some t
 | 0,s,t,h=>h
 | n+1,s,t,h=>by
  rw[oI] at h
  by_cases hd:s.dn<s.es.length
  ·rw[aj hd] at h
   rw[eN,aj hd]
   cases hp:proc s with
   | none=>rw[hp] at h;cases h
   | some u=>rw[hp] at h;exact Dz n u t h
  ·rw[an hd] at h;cases h
theorem wO {e:Ex} {L:Int} (h:e.val L=0):Gs (eO e L):=by
 obtain ⟨h1,U,h3,h4⟩:=Ij h
 refine ⟨h1,by simp[eO],⟨by simp[eO],fun x hx=> ?_,by simp[eO]⟩,by simp[eO],rfl,fun q hq=>by simp[eO] at hq⟩
 rw[eH.1 hx]
 exact ⟨lR e (W5 h1.2 e h4),wM (Ik h)⟩
theorem aiF {e:Ex} {L:Int} (h:e.val L=0):aL (aL e)=aL e:=NZ _ (lR e (Ij h).2.2.2)
theorem W7 {e:Ex} {L:Int} (h:e.val L=0) {n:Nat} {t:Dv} (ht:eN n (eO e L)=some t):gR t=true:=by
 have hs:=wO h
 obtain ⟨g,g1,⟨r,g2⟩,_⟩:=uf n _ _ hs ht
 obtain ⟨k,k1,k2⟩:=W6 n _ _ hs ht
 have e0:t.es.getD 0 aF=aL e:=by rw[g2];rfl
 have e1:t.L=L:=g1
 have e2:eO (aL e) L=eO e L:=by unfold eO;rw[aiF h]
 refine cz ⟨g.ne,g.es.le,by rw[e0,e1];exact Ik h,g.dn.1,?_⟩
 rw[e0,e1,e2]
 have:t.dn.toNat=k:=by
  rw[k2];show ((0:Int)+k).toNat=k;omega
 rw[this];exact k1
theorem Il {d:Dv} (h:gR d=true):Gs d∧∃n,eN n (eO (d.es.getD 0 aF) d.L)=some d:=by
 obtain ⟨h1,U,h3,h4,h5⟩:=gB h
 have:=Dz _ _ _ h5
 exact ⟨(uf _ _ _ (wO h3) this).1,_,this⟩
end Go.AM
set_option maxRecDepth 100000
namespace Go.AM
open Go.Proofs
noncomputable def W8 (C:ah) (bI bw:Int) (cP:LV) (cL Ph:Int) (Pj:LV) (Pk:Bool):Option LV:=
 (C vI [V.int .i64 bI,V.int .i64 bw,.list aa cP,V.int .i64 6]).bind fun r1=>
 bif (((V.nth r1 0).toInt):Int) != 0 then
  some [V.int .i64 0,V.int .i64 0,.list aa ([]:LV),V.int .i64 3]
 else
  some [V.int .i64 bI,V.int .i64 bw,.list aa cP,V.int .i64 0]
theorem aiG {bI bw:Int} {cP:LV} {cL Ph:Int} {Pj:LV} {Pk:Bool} {r:Option LV} (h:W8 CC bI bw cP cL Ph Pj Pk=r):CC GQ [V.int .i64 bI,V.int .i64 bw,.list aa cP,V.int .i64 cL,V.int .i64 Ph,.list aa Pj,.bool Pk]=r:=aY (L:=aZ) av h
noncomputable def W9 (C:ah) (ag aq:Int) (ae:LV) (bH:Int):Option LV:=
 (C pt [V.int .i64 bH,.bool true,V.int .i64 ag,V.int .i64 aq,.list aa ae]).bind fun r1=>
 (C GQ [V.int .i64 ((V.nth r1 0).toInt),V.int .i64 ((V.nth (r1.drop 1) 0).toInt),.list aa ((V.nth ((r1.drop 1).drop 1) 0).toList),V.int .i64 ((V.nth (((r1.drop 1).drop 1).drop 1) 0).toInt),V.int .i64 ((V.nth ((((r1.drop 1).drop 1).drop 1).drop 1) 0).toInt),.list aa ((V.nth (((((r1.drop 1).drop 1).drop 1).drop 1).drop 1) 0).toList),.bool ((V.nth ((((((r1.drop 1).drop 1).drop 1).drop 1).drop 1).drop 1) 0).toBool)]).bind fun r2=>
 some [V.int .i64 ((V.nth r2 0).toInt),V.int .i64 ((V.nth (r2.drop 1) 0).toInt),.list aa ((V.nth ((r2.drop 1).drop 1) 0).toList),V.int .i64 ((V.nth (r2.drop 3) 0).toInt)]
theorem aiH {ag aq:Int} {ae:LV} {bH:Int} {r:Option LV} (h:W9 CC ag aq ae bH=r):CC GL [V.int .i64 ag,V.int .i64 aq,.list aa ae,V.int .i64 bH]=r:=aY (L:=aZ) av h
end Go.AM
set_option maxRecDepth 100000
namespace Go.AM
open Go.Proofs Ex
abbrev Pl (p:Ex × Int):List V:=bV p.1 [.int .i64 p.2]
def qJ (x:Ex):Ex × Int:=if x.val 6=0 then (x,0) else (aF,3)
def Pm (e:Ex) (c:Int):Ex × Int:=if e.val 6=0 then (if 0≤c∧c<6 then qJ (aL (bU c e)) else (aF,1)) else (aF,e.val 6)
theorem aiI {x y:Ex} {b:Bool} (hx:x.Ok):CC GQ (bV x (bV y [.bool b]))=some (Pl (qJ x)):=by
 refine aiG ?_
 unfold W8 qJ
 refine bs (yX x hx 6) ?_
 by_cases hv:x.val 6=0
 ·rw[aj hv]
  exact bF (by simp[hv]) rfl
 ·rw[an hv]
  exact bT (by simp[hv]) rfl
theorem Xa {c:Int} {e:Ex} (hv:e.val 6=0):Gd 6 (aL (bU c e))∧(aL (bU c e)).Ok∧(aL (bU c e)).size≤160000:=by
 obtain ⟨_,U,h3⟩:=kj hv
 have a:=lR _ (ub (c:=c) e h3)
 have b:=O7 (c:=c) h3
 have d:=Dt U
 exact ⟨a,nA (by omega) _ a.2 (by omega),by omega⟩
theorem aiJ {e:Ex} (he:Nv e) (c:Int):CC GL (bV e [.int .i64 c])=some (Pl (qJ (aL (bU c e)))):=by
 obtain ⟨_,U,h3⟩:=kj he.2
 refine aiH ?_
 unfold W9
 refine bs (aiC (c:=c) (nm:=true) e h3 U fun _=>he.1) ?_
 refine bs (aiI (y:=aL e) (b:=e.da) (Xa (c:=c) he.2).2.1) ?_
 unfold qJ
 split<;>rfl
end Go.AM
