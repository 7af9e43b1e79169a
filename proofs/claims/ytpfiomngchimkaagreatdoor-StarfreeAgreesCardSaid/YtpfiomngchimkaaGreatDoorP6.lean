/-
  Functions of the program, lifted to plain data.
-/
import Derived.Tactics
import Derived.Tactics2
import Derived.StillTactics
import Derived.Laws.Pointers
import Derived.Lib.LazyBuf
import Derived.RegionTactic
import Derived.LoopTactic
import Derived.WalkKit
import Derived.Test.YtpfiomngchimkaaGreatDoorP5
set_option linter.unusedVariables false
set_option linter.unusedSimpArgs false
set_option linter.unusedSectionVars false
set_option maxRecDepth 100000
namespace Go.AM
open Go.Proofs
noncomputable def MC(E:SE)(C:ab)(first lo hi i:Int)(aq:LV):bz (Int×LV) (Int×Bool×LV):=fun kn kr=>
 bif decide ((i:Int)>=0)then
  (C (E.k 1) [vI i,vI hi,vI first,.list E.T aq]).bind fun r1=>
  kn (wI (i-1),(gL r1))
 else
  kr (i,decide ((i:Int)>=0),aq)
noncomputable def TY(E:SE)(C:ab)(first lo hi:Int):=un fun i aq=>MC E C first lo hi i aq bD bE
noncomputable def MD(E:SE)(C:ab)(first lo i:Int)(aq:LV):bz (Int×LV) (Int×Bool×LV):=fun kn kr=>
 bif decide ((i:Int)>=0)then
  aj aq (wI (first+i)) fun x5=>
  aj aq first fun x6=>
  aj aq first fun x7=>
  aj (az aq first (.agg (E.ex x5))) (wI (first+i)) fun x8=>
  (C (E.k 1) [vI lo,vI i,vI first,.list E.T (az (az aq first (.agg (E.ex x5))) (wI (first+i)) (.agg (E.ex x6)))]).bind fun r9=>
  kn (wI (i-1),(gL r9))
 else
  kr (i,decide ((i:Int)>=0),aq)
noncomputable def TZ(E:SE)(C:ab)(first lo:Int):=un fun i aq=>MD E C first lo i aq bD bE
noncomputable def acy(E:SE)(C:ab)(a b':Int)(aq:LV):Option LV:=
 (Loop (TY E C a 0 (wI (b'-a))) (wI (Int.tdiv (wI ((wI (b'-a))-1)) 2),aq)).bind (un fun i_2=>un fun ly ay1=>
  (Loop (TZ E C a 0) (wI ((wI (b'-a))-1),ay1)).bind (un fun aKl=>un fun zt acz=>
   some [.list E.T acz]))
noncomputable def GL(E:SE)(C:ab)(i j:Int)(aq:LV):bz (Int×Int×LV) (Int×Int×Bool×LV):=fun kn kr=>
 bif decide ((i:Int)<j)then
  aj aq j fun x1=>
  aj aq i fun x2=>
  aj aq i fun x3=>
  aj (az aq i (.agg (E.ex x1))) j fun x4=>
  kn (wI (i+1),wI (j-1),az (az aq i (.agg (E.ex x1))) j (.agg (E.ex x2)))
 else
  kr (i,j,decide ((i:Int)<j),aq)
noncomputable def ME(E:SE)(C:ab):=un fun i=>un fun j aq=>GL E C i j aq bD bE
noncomputable def acA(E:SE)(C:ab)(a b':Int)(aq:LV):Option LV:=
 (Loop (ME E C) (a,wI (b'-1),aq)).bind (un fun i_5=>un fun j_6=>un fun lA ay2=>
  some [.list E.T ay2])
noncomputable def MF(E:SE)(C:ab)(a j:Int)(aq:LV)(i:Int):bz Int (Int×Bool):=fun kn kr=>
 bif decide ((i:Int)<=j)then
  aj aq i fun x5=>
  aj aq a fun x6=>
  (C E.cmp (E.ex x5++E.ex x6)).bind fun r7=>
  bif decide (((gI r7):Int)<0)then
  kn (wI (i+1))
  else
  kr (i,decide (((gI r7):Int)<0))
 else
  kr (i,false)
noncomputable def MG(E:SE)(C:ab)(a j:Int)(aq:LV):=fun i=>MF E C a j aq i bD bE
noncomputable def GM(E:SE)(C:ab)(a i:Int)(aq:LV)(j:Int):bz Int (Int×Bool):=fun kn kr=>
 bif decide ((i:Int)<=j)then
  aj aq j fun kY=>
  aj aq a fun iO=>
  (C E.cmp (E.ex kY++E.ex iO)).bind fun mX=>
  bif !(decide (((gI mX):Int)<0))then
  kn (wI (j-1))
  else
  kr (j,!(decide (((gI mX):Int)<0)))
 else
  kr (j,false)
noncomputable def GN(E:SE)(C:ab)(a i:Int)(aq:LV):=fun j=>GM E C a i aq j bD bE
noncomputable def MH(E:SE)(C:ab)(a j:Int)(aq:LV)(i:Int):bz Int (Int×Bool):=fun kn kr=>
 bif decide ((i:Int)<=j)then
  aj aq i fun vR=>
  aj aq a fun DQ=>
  (C E.cmp (E.ex vR++E.ex DQ)).bind fun r25=>
  bif decide (((gI r25):Int)<0)then
  kn (wI (i+1))
  else
  kr (i,decide (((gI r25):Int)<0))
 else
  kr (i,false)
noncomputable def MI(E:SE)(C:ab)(a j:Int)(aq:LV):=fun i=>MH E C a j aq i bD bE
noncomputable def GO(E:SE)(C:ab)(a i:Int)(aq:LV)(j:Int):bz Int (Int×Bool):=fun kn kr=>
 bif decide ((i:Int)<=j)then
  aj aq j fun x28=>
  aj aq a fun T4=>
  (C E.cmp (E.ex x28++E.ex T4)).bind fun r30=>
  bif !(decide (((gI r30):Int)<0))then
  kn (wI (j-1))
  else
  kr (j,!(decide (((gI r30):Int)<0)))
 else
  kr (j,false)
noncomputable def GP(E:SE)(C:ab)(a i:Int)(aq:LV):=fun j=>GO E C a i aq j bD bE
noncomputable def MJ(E:SE)(C:ab)(a i j:Int)(aq:LV):bz (Int×Int×LV) (Int×Int×Bool×LV):=fun kn kr=>
 (Loop (MI E C a j aq) i).bind (un fun xG S6=>
  (Loop (GP E C a xG aq) j).bind (un fun DR ab6=>
   bif decide ((xG:Int)>DR)then
    kr (xG,DR,decide ((xG:Int)>DR),aq)
   else
    aj aq DR fun T6=>
    aj aq xG fun x34=>
    aj aq xG fun MK=>
    aj (az aq xG (.agg (E.ex T6))) DR fun x36=>
    kn (wI (xG+1),wI (DR-1),az (az aq xG (.agg (E.ex T6))) DR (.agg (E.ex x34)))))
noncomputable def GQ(E:SE)(C:ab)(a:Int):=un fun i=>un fun j aq=>MJ E C a i j aq bD bE
noncomputable def acB(E:SE)(C:ab)(a b' pivot:Int)(aq:LV):Option LV:=
 aj aq pivot fun x1=>
 aj aq a fun x2=>
 aj aq a fun x3=>
 aj (az aq a (.agg (E.ex x1))) pivot fun x4=>
 (Loop (MG E C a (wI (b'-1)) (az (az aq a (.agg (E.ex x1))) pivot (.agg (E.ex x2)))) (wI (a+1))).bind (un fun pz pr=>
  (Loop (GN E C a pz (az (az aq a (.agg (E.ex x1))) pivot (.agg (E.ex x2)))) (wI (b'-1))).bind (un fun oL Gv=>
   bif decide ((pz:Int)>oL)then
    aj (az (az aq a (.agg (E.ex x1))) pivot (.agg (E.ex x2))) a fun vU=>
    aj (az (az aq a (.agg (E.ex x1))) pivot (.agg (E.ex x2))) oL fun xQ=>
    aj (az (az aq a (.agg (E.ex x1))) pivot (.agg (E.ex x2))) oL fun qS=>
    aj (az (az (az aq a (.agg (E.ex x1))) pivot (.agg (E.ex x2))) oL (.agg (E.ex vU))) a fun oH=>
    some [vI oL,.bool true,.list E.T (az (az (az (az aq a (.agg (E.ex x1))) pivot (.agg (E.ex x2))) oL (.agg (E.ex vU))) a (.agg (E.ex xQ)))]
   else
    aj (az (az aq a (.agg (E.ex x1))) pivot (.agg (E.ex x2))) oL fun uu=>
    aj (az (az aq a (.agg (E.ex x1))) pivot (.agg (E.ex x2))) pz fun xI=>
    aj (az (az aq a (.agg (E.ex x1))) pivot (.agg (E.ex x2))) pz fun zp=>
    aj (az (az (az aq a (.agg (E.ex x1))) pivot (.agg (E.ex x2))) pz (.agg (E.ex uu))) oL fun Gw=>
    (Loop (GQ E C a) (wI (pz+1),wI (oL-1),az (az (az (az aq a (.agg (E.ex x1))) pivot (.agg (E.ex x2))) pz (.agg (E.ex uu))) oL (.agg (E.ex xI)))).bind (un fun aKm=>un fun ML=>un fun aKn DS=>
     aj DS a fun x41=>
     aj DS ML fun x42=>
     aj DS ML fun x43=>
     aj (az DS ML (.agg (E.ex x41))) a fun x44=>
     some [vI ML,.bool false,.list E.T (az (az DS ML (.agg (E.ex x41))) a (.agg (E.ex x42)))])))
noncomputable def MM(E:SE)(C:ab)(a j:Int)(aq:LV)(i:Int):bz Int (Int×Bool):=fun kn kr=>
 bif decide ((i:Int)<=j)then
  aj aq a fun x5=>
  aj aq i fun x6=>
  (C E.cmp (E.ex x5++E.ex x6)).bind fun r7=>
  bif !(decide (((gI r7):Int)<0))then
  kn (wI (i+1))
  else
  kr (i,!(decide (((gI r7):Int)<0)))
 else
  kr (i,false)
noncomputable def MN(E:SE)(C:ab)(a j:Int)(aq:LV):=fun i=>MM E C a j aq i bD bE
noncomputable def GR(E:SE)(C:ab)(a i:Int)(aq:LV)(j:Int):bz Int (Int×Bool):=fun kn kr=>
 bif decide ((i:Int)<=j)then
  aj aq a fun kY=>
  aj aq j fun iO=>
  (C E.cmp (E.ex kY++E.ex iO)).bind fun mX=>
  bif decide (((gI mX):Int)<0)then
  kn (wI (j-1))
  else
  kr (j,decide (((gI mX):Int)<0))
 else
  kr (j,false)
noncomputable def GS(E:SE)(C:ab)(a i:Int)(aq:LV):=fun j=>GR E C a i aq j bD bE
noncomputable def MO(E:SE)(C:ab)(a i j:Int)(aq:LV):bz (Int×Int×LV) (Int×Int×Bool×LV):=fun kn kr=>
 (Loop (MN E C a j aq) i).bind (un fun pz pr=>
  (Loop (GS E C a pz aq) j).bind (un fun oL Gv=>
   bif decide ((pz:Int)>oL)then
    kr (pz,oL,decide ((pz:Int)>oL),aq)
   else
    aj aq oL fun vU=>
    aj aq pz fun xQ=>
    aj aq pz fun qS=>
    aj (az aq pz (.agg (E.ex vU))) oL fun oH=>
    kn (wI (pz+1),wI (oL-1),az (az aq pz (.agg (E.ex vU))) oL (.agg (E.ex xQ)))))
noncomputable def GU(E:SE)(C:ab)(a:Int):=un fun i=>un fun j aq=>MO E C a i j aq bD bE
noncomputable def acC(E:SE)(C:ab)(a b' pivot:Int)(aq:LV):Option LV:=
 aj aq pivot fun x1=>
 aj aq a fun x2=>
 aj aq a fun x3=>
 aj (az aq a (.agg (E.ex x1))) pivot fun x4=>
 (Loop (GU E C a) (wI (a+1),wI (b'-1),az (az aq a (.agg (E.ex x1))) pivot (.agg (E.ex x2)))).bind (un fun ay3=>un fun aKo=>un fun akJ ay4=>
  some [vI ay3,.list E.T ay4])
noncomputable def MP(E:SE)(C:ab)(a b' j:Int)(aq:LV)(i:Int):bz Int (Int×Bool):=fun kn kr=>
 bif decide ((i:Int)<b')then
  aj aq i fun x1=>
  aj aq (wI (i-1)) fun x2=>
  (C E.cmp (E.ex x1++E.ex x2)).bind fun r3=>
  bif !(decide (((gI r3):Int)<0))then
  kn (wI (i+1))
  else
  kr (i,!(decide (((gI r3):Int)<0)))
 else
  kr (i,false)
noncomputable def MQ(E:SE)(C:ab)(a b' j:Int)(aq:LV):=fun i=>MP E C a b' j aq i bD bE
noncomputable def MR(E:SE)(C:ab)(a b' i j j':Int)(aq:LV):bz (Int×LV) (Int×LV):=fun kn kr=>
 bif decide ((j':Int)>=1)then
  aj aq j' fun kY=>
  aj aq (wI (j'-1)) fun iO=>
  (C E.cmp (E.ex kY++E.ex iO)).bind fun mX=>
  bif !(decide (((gI mX):Int)<0))then
  kr (j',aq)
  else
  aj aq (wI (j'-1)) fun qd=>
  aj aq j' fun oI=>
  aj aq j' fun vU=>
  aj (az aq j' (.agg (E.ex qd))) (wI (j'-1)) fun xQ=>
  kn (wI (j'-1),az (az aq j' (.agg (E.ex qd))) (wI (j'-1)) (.agg (E.ex oI)))
 else
  kr (j',aq)
noncomputable def MS(E:SE)(C:ab)(a b' i j:Int):=un fun j' aq=>MR E C a b' i j j' aq bD bE
noncomputable def T7(E:SE)(C:ab)(a b' i j:Int)(t65:Bool)(aq:LV):eN LV:=fun kr=>
 bif t65 then
  (Loop (MS E C a b' i j) (wI (i-1),aq)).bind (un fun aKp ay5=>
   kr ay5)
 else
  kr aq
noncomputable def MT(E:SE)(C:ab)(a b' i j j':Int)(aq:LV):bz (Int×LV) (Int×LV):=fun kn kr=>
 bif decide ((j':Int)<b')then
  aj aq j' fun xI=>
  aj aq (wI (j'-1)) fun zp=>
  (C E.cmp (E.ex xI++E.ex zp)).bind fun r22=>
  bif !(decide (((gI r22):Int)<0))then
  kr (j',aq)
  else
  aj aq (wI (j'-1)) fun vR=>
  aj aq j' fun DQ=>
  aj aq j' fun Bn=>
  aj (az aq j' (.agg (E.ex vR))) (wI (j'-1)) fun Ma=>
  kn (wI (j'+1),az (az aq j' (.agg (E.ex vR))) (wI (j'-1)) (.agg (E.ex DQ)))
 else
  kr (j',aq)
noncomputable def MU(E:SE)(C:ab)(a b' i j:Int):=un fun j' aq=>MT E C a b' i j j' aq bD bE
noncomputable def MV(E:SE)(C:ab)(a b' i j:Int)(aq:LV):bz (Int×Int×LV) ((Bool×LV)⊕(Int×Int×Bool×LV)):=fun kn kr=>
 bif decide ((j:Int)<5)then
  (Loop (MQ E C a b' j aq) i).bind (un fun pA kD=>
   bif(pA:Int)==b' then
   kr (.inl (true,aq))
   else
   bif decide (((wI (b'-a)):Int)<50)then
    kr (.inl (false,aq))
   else
    aj aq (wI (pA-1)) fun x6=>
    aj aq pA fun x7=>
    aj aq pA fun x8=>
    aj (az aq pA (.agg (E.ex x6))) (wI (pA-1)) fun x9=>
    T7 E C a b' pA j (decide (((wI (pA-a)):Int)>=2)) (az (az aq pA (.agg (E.ex x6))) (wI (pA-1)) (.agg (E.ex x7))) (fun(amf:LV)=>
     bif decide (((wI (b'-pA)):Int)>=2)then
     (Loop (MU E C a b' pA j) (wI (pA+1),amf)).bind (un fun aKq ay6=>
      kn (pA,wI (j+1),ay6))
     else
     kn (pA,wI (j+1),amf)))
 else
  kr (.inr (i,j,decide ((j:Int)<5),aq))
noncomputable def Bs(E:SE)(C:ab)(a b':Int):=un fun i=>un fun j aq=>MV E C a b' i j aq bD bE
noncomputable def acD(E:SE)(C:ab)(a b':Int)(aq:LV):Option LV:=
 (Loop (Bs E C a b') (wI (a+1),0,aq)).bind (db (un fun ay7 ay8=>
  some [.bool ay7,.list E.T ay8]) (un fun ay9=>un fun aKr=>un fun alo aza=>
  some [.bool false,.list E.T aza]))
noncomputable def T8(E:SE)(C:ab)(a length GW uy other:Int)(t45:Bool)(aq:LV)(MW:Int):eN (Int):=fun kr=>
 bif t45 then
  kr (wI (other-length))
 else
  kr other
noncomputable def MX(E:SE)(C:ab)(a length GW uy:Int)(aq:LV)(MW:Int):bz (Int×LV×Int) (Int×Bool×LV×Int):=fun kn kr=>
 bif decide ((uy:Int)<=(wI ((wI (a+(wI (2*(wI (Int.tdiv length 4))))))+1)))then
  (C 162 [.int .u64 MW]).bind fun r2=>
  T8 E C a length GW uy (wI (wU ((bU (gI r2)&&&bU (wU (GW-1))).toNat))) (decide (((wI (wU ((bU (gI r2)&&&bU (wU (GW-1))).toNat))):Int)>=length)) aq (bM r2) (fun(acE:Int)=>
   aj aq (wI (a+acE)) fun x4=>
   aj aq uy fun x5=>
   aj aq uy fun x6=>
   aj (az aq uy (.agg (E.ex x4))) (wI (a+acE)) fun x7=>
   kn (wI (uy+1),az (az aq uy (.agg (E.ex x4))) (wI (a+acE)) (.agg (E.ex x5)),(bM r2)))
 else
  kr (uy,decide ((uy:Int)<=(wI ((wI (a+(wI (2*(wI (Int.tdiv length 4))))))+1))),aq,MW)
noncomputable def T9(E:SE)(C:ab)(a length GW:Int):=un fun uy=>un fun aq MW=>MX E C a length GW uy aq MW bD bE
noncomputable def acF(E:SE)(C:ab)(a b':Int)(aq:LV):Option LV:=
 bif decide (((wI (b'-a)):Int)>=8)then
  (C 161 [vI (wI (b'-a))]).bind fun r1=>
  (Loop (T9 E C a (wI (b'-a)) (gI r1)) (wI ((wI (a+(wI (2*(wI (Int.tdiv (wI (b'-a)) 4))))))-1),aq,wU (wI (b'-a)))).bind (un fun aKs=>un fun pr=>un fun DO aKt=>
   some [.list E.T DO])
 else
  some [.list E.T aq]
noncomputable def acG(E:SE)(C:ab)(data:LV)(a b' c je:Int):Option LV:=
 (C (E.k 10) [.list E.T data,vI a,vI b',vI je]).bind fun r1=>
 (C (E.k 10) [.list E.T data,vI (bM r1),vI c,vI (hD r1)]).bind fun r2=>
 (C (E.k 10) [.list E.T data,vI (gI r1),vI (gI r2),vI (hD r2)]).bind fun r3=>
 some [vI (bM r3),vI (hD r3)]
noncomputable def acH(E:SE)(C:ab)(data:LV)(a je:Int):Option LV:=
 (C (E.k 8) [.list E.T data,vI (wI (a-1)),vI a,vI (wI (a+1)),vI je]).bind fun r1=>
 some [vI (gI r1),vI (bM r1)]
noncomputable def Ua(E:SE)(C:ab)(data:LV)(a b' je:Int):Option LV:=
 (idx data b').bind fun x1=>
 (idx data a).bind fun x2=>
 (C E.cmp (E.ex x1++E.ex x2)).bind fun r3=>
 bif decide (((gI r3):Int)<0)then
  some [vI b',vI a,vI (wI (je+1))]
 else
  some [vI a,vI b',vI je]
noncomputable def MY(E:SE)(C:ab)(data:LV)(i j k':Int)(t36:Bool)(je:Int):eN (Int×Int×Int×Int):=fun kr=>
 bif t36 then
  (C (E.k 9) [.list E.T data,vI i,vI je]).bind fun r1=>
  (C (E.k 9) [.list E.T data,vI j,vI (bM r1)]).bind fun r2=>
  (C (E.k 9) [.list E.T data,vI k',vI (bM r2)]).bind fun r3=>
  kr ((gI r1),(gI r2),(gI r3),(bM r3))
 else
  kr (i,j,k',je)
noncomputable def MZ(E:SE)(C:ab)(data:LV)(l i j k':Int)(t34:Bool)(je:Int):eN (Int×Int):=fun kr=>
 bif t34 then
  MY E C data i j k' (decide ((l:Int)>=50)) je (un fun pA=>un fun j_5=>un fun k_6 azb=>
   (C (E.k 8) [.list E.T data,vI pA,vI j_5,vI k_6,vI azb]).bind fun r8=>
   kr ((gI r8),(bM r8)))
 else
  kr (j,je)
noncomputable def Ub(E:SE)(C:ab)(data:LV)(a b':Int):Option LV:=
 MZ E C data (wI (b'-a)) (wI (a+(wI (1*(wI (Int.tdiv (wI (b'-a)) 4)))))) (wI (a+(wI (2*(wI (Int.tdiv (wI (b'-a)) 4)))))) (wI (a+(wI (3*(wI (Int.tdiv (wI (b'-a)) 4)))))) (decide (((wI (b'-a)):Int)>=8)) 0 (un fun j_9 amg=>
  bif(amg:Int)==0 then
   some [vI j_9,vI 1]
  else
   bif(amg:Int)==12 then
   some [vI j_9,vI 2]
   else
   some [vI j_9,vI 0])
noncomputable def M0(E:SE)(C:ab)(a b' pB:Int)(pC qf:Bool)(length:Int)(t39:Bool)(aq:LV):eN (Int×LV):=fun kr=>
 bif t39 then
  (C (E.k 7) [vI a,vI b',.list E.T aq]).bind fun r3=>
  kr (wI (pB-1),(gL r3))
 else
  kr (pB,aq)
noncomputable def M1(E:SE)(C:ab)(a b' pB:Int)(pC qf:Bool)(length pivot hint:Int)(t56:Bool)(aq:LV):eN (Int×Int×LV):=fun kr=>
 bif t56 then
  (C (E.k 3) [vI a,vI b',.list E.T aq]).bind fun r7=>
  kr (wI ((wI (b'-1))-(wI (pivot-a))),1,(gL r7))
 else
  kr (pivot,hint,aq)
noncomputable def xR(E:SE)(C:ab)(a b' pB:Int)(pC qf:Bool)(length pivot:Int)(t75:Bool)(aq:LV):eN ((Bool×LV)⊕LV):=fun kr=>
 bif t75 then
  (C (E.k 6) [vI a,vI b',.list E.T aq]).bind fun GX=>
  bif(gB GX)then
  kr (.inl ((gB GX),(eu GX)))
  else
  kr (.inr (eu GX))
 else
  kr (.inr aq)
noncomputable abbrev M3(C:ab)(E:SE)(a b' tn:Int)(zF:LV)(qg:Int):eN (Int×Int×Int×Bool×Bool×LV):=fun kn=>
 (C (E.k 4) [vI a,vI b',vI tn,.list E.T zF]).bind fun ki=>
 bif decide (((wI ((gI ki)-a)):Int)<(wI (b'-(gI ki))))then
  (C (E.k 12) [vI a,vI (gI ki),vI qg,.list E.T (fV ki)]).bind fun Uc=>
  kn (wI ((gI ki)+1),b',qg,decide (((wI ((gI ki)-a)):Int)>=(wI (Int.tdiv (wI (b'-a)) 8))),(uh ki),(gL Uc))
 else
  (C (E.k 12) [vI (wI ((gI ki)+1)),vI b',vI qg,.list E.T (fV ki)]).bind fun M4=>
  kn (a,(gI ki),qg,decide (((wI (b'-(gI ki))):Int)>=(wI (Int.tdiv (wI (b'-a)) 8))),(uh ki),(gL M4))
noncomputable abbrev Bt(a:Int)(zF:LV)(tn:Int)(C:ab)(E:SE)(b' qg:Int)(pC qf:Bool):eN (Int×Int×Int×Bool×Bool×LV):=fun kn=>
 bif decide ((a:Int)>0)then
  aj zF (wI (a-1)) fun vU=>
  aj zF tn fun xQ=>
  (C E.cmp (E.ex vU++E.ex xQ)).bind fun r17=>
  bif !(decide (((gI r17):Int)<0))then
  (C (E.k 5) [vI a,vI b',vI tn,.list E.T zF]).bind fun r18=>
  kn ((gI r18),b',qg,pC,qf,(eu r18))
  else
  M3 C E a b' tn zF qg kn
 else
  M3 C E a b' tn zF qg kn
noncomputable def tp(E:SE)(C:ab)(a b' pB:Int)(pC qf:Bool)(aq:LV):bz (Int×Int×Int×Bool×Bool×LV) LV:=fun kn kr=>
 bif decide (((wI (b'-a)):Int)<=12)then
  (C (E.k 0) [vI a,vI b',.list E.T aq]).bind fun r1=>
  kr (gL r1)
 else
  bif(pB:Int)==0 then
  (C (E.k 2) [vI a,vI b',.list E.T aq]).bind fun r2=>
  kr (gL r2)
  else
  M0 E C a b' pB pC qf (wI (b'-a)) (!pC) aq (un fun qg amh=>
   (C (E.k 11) [.list E.T amh,vI a,vI b']).bind fun r6=>
   M1 E C a b' qg pC qf (wI (b'-a)) (gI r6) (bM r6) (((bM r6):Int)==2) amh (un fun tn=>un fun azc DO=>
    bif pC then
     bif qf then
     xR E C a b' qg pC qf (wI (b'-a)) tn ((azc:Int)==1) DO (db (un fun Bj acv=>
      kr acv) (fun(zF:LV)=>
      Bt a zF tn C E b' qg pC qf kn))
     else
     xR E C a b' qg pC qf (wI (b'-a)) tn false DO (db (un fun Tl azd=>
      kr azd) (fun(acx:LV)=>
      Bt a acx tn C E b' qg pC qf kn))
    else
     xR E C a b' qg pC qf (wI (b'-a)) tn false DO (db (un fun aKu aze=>
      kr aze) (fun(DS:LV)=>
      Bt a DS tn C E b' qg pC qf kn))))
noncomputable def ami(E:SE)(C:ab):=un fun a=>un fun b'=>un fun pB=>un fun pC=>un fun qf aq=>tp E C a b' pB pC qf aq bD bE
noncomputable def acI(E:SE)(C:ab)(a b' pB:Int)(aq:LV):Option LV:=
 (Loop (ami E C) (a,b',pB,true,true,aq)).bind (fun(azf:LV)=>
  some [.list E.T azf])
noncomputable def acJ(E:SE)(C:ab)(xs:LV):Option LV:=
 (C 131 [.int .u64 (wU (xs.length:Int))]).bind fun r1=>
 (C (E.k 12) [vI 0,vI (xs.length:Int),vI (gI r1),.list E.T xs]).bind fun r2=>
 some [.list E.T (gL r2)]
noncomputable def amj(C:ab)(nJ:Int):Option LV:=
 some [.int .u64 (wU ((bU (wU ((bU (wU ((bU nJ^^^bU (wU (nJ*2^(min (13:Int).toNat kU)))).toNat)) ^^^bU (Int.fdiv (wU ((bU nJ^^^bU (wU (nJ*2^(min (13:Int).toNat kU)))).toNat)) (2^(min (7:Int).toNat kU)))).toNat)) ^^^bU (wU ((wU ((bU (wU ((bU nJ^^^bU (wU (nJ*2^(min (13:Int).toNat kU)))).toNat)) ^^^bU (Int.fdiv (wU ((bU nJ^^^bU (wU (nJ*2^(min (13:Int).toNat kU)))).toNat)) (2^(min (7:Int).toNat kU)))).toNat))*2^(min (17:Int).toNat kU)))).toNat)),.int .u64 (wU ((bU (wU ((bU (wU ((bU nJ^^^bU (wU (nJ*2^(min (13:Int).toNat kU)))).toNat)) ^^^bU (Int.fdiv (wU ((bU nJ^^^bU (wU (nJ*2^(min (13:Int).toNat kU)))).toNat)) (2^(min (7:Int).toNat kU)))).toNat)) ^^^bU (wU ((wU ((bU (wU ((bU nJ^^^bU (wU (nJ*2^(min (13:Int).toNat kU)))).toNat)) ^^^bU (Int.fdiv (wU ((bU nJ^^^bU (wU (nJ*2^(min (13:Int).toNat kU)))).toNat)) (2^(min (7:Int).toNat kU)))).toNat))*2^(min (17:Int).toNat kU)))).toNat))]
theorem azg{nJ:Int}{r:Option LV}(h:amj CC nJ=r):CC 162 [.int .u64 nJ]=r:=aM (L:=aO) ag h
noncomputable def amk(C:ab)(length:Int):Option LV:=
 (C 131 [.int .u64 (wU length)]).bind fun r1=>
 bif decide (0<=(gI r1))then
  some [.int .u64 (wU (1*2^(min (gI r1).toNat kU)))]
 else none
theorem azh{length:Int}{r:Option LV}(h:amk CC length=r):CC 161 [vI length]=r:=aM (L:=aO) ag h
noncomputable def aml(C:ab)(x:Int):Option LV:=
 (C 150 [.int .u64 x]).bind fun r1=>
 some [vI (gI r1)]
theorem azi{x:Int}{r:Option LV}(h:aml CC x=r):CC 131 [.int .u64 x]=r:=aM (L:=aO) ag h
noncomputable def DT(C:ab)(x n:Int)(t4:Bool):eN (Int×Int):=fun kr=>
 bif t4 then
  kr (Int.fdiv x (2^(min (32:Int).toNat kU)),32)
 else
  kr (x,n)
noncomputable def DU(C:ab)(x n:Int)(t8:Bool):eN (Int×Int):=fun kr=>
 bif t8 then
  kr (Int.fdiv x (2^(min (16:Int).toNat kU)),wI (n+16))
 else
  kr (x,n)
noncomputable def amm(C:ab):cm:=fK 79 abu [[0,0]] (@DT C) (fK 143 abv [[0,0]] (@DU C) aO)
theorem azj(C:ab):aP C (amm C) 150 (Cd 4 [1,0,1,0] [1,0,1,1] 150):=fJ abu [[0,0]] (@DT C) (ay ag) (ay ag)
theorem azk(C:ab):aP C (amm C) 150 (Cd 8 [1,1,0,1,0] [1,1,0,1,1] 150):=fJ abv [[0,0]] (@DU C) (ay ag) (ay ag)
noncomputable def azl(C:ab)(x:Int):Option LV:=
 DT C x 0 (decide (x>=4294967296)) (un fun jJ cL=>
  DU C jJ cL (decide ((jJ:Int)>=65536)) (un fun Bu ey=>
   bif decide ((Bu:Int)>=256)then
    (bif decide (0<=(IntKind.wrap .u8 (Int.fdiv Bu (2^(min (8:Int).toNat kU)))))then(FV[(IntKind.wrap .u8 (Int.fdiv Bu (2^(min (8:Int).toNat kU))):Int).toNat]?).map fun b=>V.int .u8 b.toNat else none).bind fun x5=>
    some [vI (wI ((wI (ey+8))+(wI x5.toInt)))]
   else
    (bif decide (0<=(IntKind.wrap .u8 Bu))then(FV[(IntKind.wrap .u8 Bu:Int).toNat]?).map fun b=>V.int .u8 b.toNat else none).bind fun x6=>
    some [vI (wI (ey+(wI x6.toInt)))]))
theorem amn{x:Int}{r:Option LV}(h:azl CC x=r):CC 150 [.int .u64 x]=r:=aM (aL (azj CC) (aL (azk CC) ag)) h
noncomputable def amo(C:ab)(cf da bS zA zB zC:Int):Option LV:=
 (C 123 [vI cf,vI zA]).bind fun r1=>
 (C 123 [vI da,vI zB]).bind fun r2=>
 (C 123 [vI bS,vI zC]).bind fun r3=>
 (C 122 [aR ([vI (gI r1),vI (gI r2),vI (gI r3)]:LV)]).bind fun r4=>
 some [vI (gI r4)]
theorem azm{cf da bS zA zB zC:Int}{r:Option LV}(h:amo CC cf da bS zA zB zC=r):CC dA [vI cf,vI da,vI bS,vI zA,vI zB,vI zC]=r:=aM (L:=aO) ag h
noncomputable def di:SE:=⟨107,dA,fun x1=>[vI ((x1.cell 0).toInt),vI ((x1.cell 1).toInt),vI ((x1.cell 2).toInt)],fun k=>[141,160,142,145,148,147,146,143,164,163,171,144,130,120].getD k 0⟩
noncomputable def amp(C:ab):cm:=bC 65 aa7 (aD 5 24) [[1,2,3,0,0,0]] (@GJ di C) (bC 17 aa8 [J0,J0,J1,J1] [[1,2,0,0,0]] (@MB di C) aO)
theorem azn(C:ab):aP C (amp C) 141 (Lp [1,0,0,1,0,0,1,0,0] 141):=bB aa7 (aD 5 24) [[1,2,3,0,0,0]] (@GJ di C) (ay ag)
theorem azo(C:ab):aP C (amp C) 141 (Lp [1,0,0] 141):=bB aa8 [J0,J0,J1,J1] [[1,2,0,0,0]] (@MB di C) (ay (aL (azn C) ag))
theorem azp{a b':Int}{aq:LV}{r:Option LV}(h:acu di CC a b' aq=r):CC 141 [vI a,vI b',cg aq]=r:=aM (aL (azo CC) ag) h
noncomputable def amq(C:ab):cm:=fK 655 abB [[1,2,3,0,6]] (@DP di C) (bC 17 abC [J0,J0,J1,J1] [[1,2,0,0,0,0],[1,2,0,0,0,0]] (@Br di C) aO)
theorem azq(C:ab):aP C (amq C) 160 (Cd 40 [1,0,0,0,1,1,0,1,0] [1,0,0,0,1,1,0,1,1] 160):=fJ abB [[1,2,3,0,6]] (@DP di C) (ay ag) (ay ag)
theorem azr(C:ab):aP C (amq C) 160 (Lp [1,0,0] 160):=bB abC [J0,J0,J1,J1] [[1,2,0,0,0,0],[1,2,0,0,0,0]] (@Br di C) (ay (aL (azq C) ag))
theorem azs{lo hi first:Int}{aq:LV}{r:Option LV}(h:acw di CC lo hi first aq=r):CC 160 [vI lo,vI hi,vI first,cg aq]=r:=aM (aL (azr CC) ag) h
noncomputable def amr(C:ab):cm:=bC 65 aa9 (aD 5 24) [[1,2,3,0,0,0]] (@MC di C) (bC 129 aba [J0,J0,J1,J1] [[1,2,0,0,0]] (@MD di C) aO)
theorem azt(C:ab):aP C (amr C) 142 (Lp [1,1,1,0,1,0,0] 142):=bB aa9 (aD 5 24) [[1,2,3,0,0,0]] (@MC di C) (ay ag)
theorem azu(C:ab):aP C (amr C) 142 (Lp [1,1,1,1,1,0,0] 142):=bB aba [J0,J0,J1,J1] [[1,2,0,0,0]] (@MD di C) (ay ag)
theorem azv{a b':Int}{aq:LV}{r:Option LV}(h:acy di CC a b' aq=r):CC 142 [vI a,vI b',cg aq]=r:=aM (aL (azt CC) (aL (azu CC) ag)) h
noncomputable def azw(C:ab):cm:=bC 33 abf [J1,J1,J1] [[0,0,0,0]] (@GL di C) aO
theorem azx(C:ab):aP C (azw C) 145 (Lp [1,1,0,0] 145):=bB abf [J1,J1,J1] [[0,0,0,0]] (@GL di C) (ay ag)
theorem azy{a b':Int}{aq:LV}{r:Option LV}(h:acA di CC a b' aq=r):CC 145 [vI a,vI b',cg aq]=r:=aM (aL (azx CC) ag) h
noncomputable def M5(C:ab):cm:=bC 49 abo [J0,J1,J0,J0] [[1,0,3,0,4]] (@MF di C) (bC 81 abp [J0,J0,J1,J0] [[1,2,0,0,4]] (@GM di C) (bC 209 abq [J0,J1,J0,J0] [[1,0,3,0,4]] (@MH di C) (bC 241 abr [J0,J0,J1,J0] [[1,2,0,0,4]] (@GO di C) (bC 210 abt [J0,J1,J1,J1] [[1,0,0,0,0]] (@MJ di C) aO))))
theorem azz(C:ab):aP C (M5 C) 148 (Lp [1,1,1,0,0,0] 148):=bB abo [J0,J1,J0,J0] [[1,0,3,0,4]] (@MF di C) (ay ag)
theorem azA(C:ab):aP C (M5 C) 148 (Lp [1,1,1,1,0,0,0] 148):=bB abp [J0,J0,J1,J0] [[1,2,0,0,4]] (@GM di C) (ay ag)
theorem azB(C:ab):aP C (M5 C) 148 (Lp [1,1,1,1,1,1,1,1,1,0,0,0,0,0,0,0] 148):=bB abq [J0,J1,J0,J0] [[1,0,3,0,4]] (@MH di C) (ay ag)
theorem azC(C:ab):aP C (M5 C) 148 (Lp [1,1,1,1,1,1,1,1,1,0,0,0,0,1,0,0,0] 148):=bB abr [J0,J0,J1,J0] [[1,2,0,0,4]] (@GO di C) (ay ag)
theorem azD(C:ab):aP C (M5 C) 148 (Lp [1,1,1,1,1,1,1,1,1,0,0,0] 148):=bB abt [J0,J1,J1,J1] [[1,0,0,0,0]] (@MJ di C) (ay (aL (azB C) (aL (azC C) ag)))
theorem azE{a b' pivot:Int}{aq:LV}{r:Option LV}(h:acB di CC a b' pivot aq=r):CC 148 [vI a,vI b',vI pivot,cg aq]=r:=aM (aL (azz CC) (aL (azA CC) (aL (azD CC) ag))) h
noncomputable def acK(C:ab):cm:=bC 49 abl [J0,J1,J0,J0] [[1,0,3,0,4]] (@MM di C) (bC 81 abm [J0,J0,J1,J0] [[1,2,0,0,4]] (@GR di C) (bC 50 abn [J0,J1,J1,J1] [[1,0,0,0,0]] (@MO di C) aO))
theorem azF(C:ab):aP C (acK C) 147 (Lp [1,1,1,0,0,0,0,0,0,0] 147):=bB abl [J0,J1,J0,J0] [[1,0,3,0,4]] (@MM di C) (ay ag)
theorem azG(C:ab):aP C (acK C) 147 (Lp [1,1,1,0,0,0,0,1,0,0,0] 147):=bB abm [J0,J0,J1,J0] [[1,2,0,0,4]] (@GR di C) (ay ag)
theorem azH(C:ab):aP C (acK C) 147 (Lp [1,1,1,0,0,0] 147):=bB abn [J0,J1,J1,J1] [[1,0,0,0,0]] (@MO di C) (ay (aL (azF C) (aL (azG C) ag)))
theorem azI{a b' pivot:Int}{aq:LV}{r:Option LV}(h:acC di CC a b' pivot aq=r):CC 147 [vI a,vI b',vI pivot,cg aq]=r:=aM (aL (azH CC) ag) h
noncomputable def M6(C:ab):cm:=bC 81 abg (aD 5 4) [[1,2,0,4,0,5]] (@MP di C) (bC 225 abh (aD 6 48) [[1,2,3,4,0,0]] (@MR di C) (fK 1055 abi [[1,2,3,4,0]] (@T7 di C) (bC 321 abj (aD 6 48) [[1,2,3,4,0,0]] (@MT di C) (bC 49 abk (aD 5 28) [[0,0],[1,2,0,0,0,0]] (@MV di C) aO))))
theorem azJ(C:ab):aP C (M6 C) 146 (Lp [1,1,0,1,0,0,1,0,0,0,0,0] 146):=bB abg (aD 5 4) [[1,2,0,4,0,5]] (@MP di C) (ay ag)
theorem azK(C:ab):aP C (M6 C) 146 (Lp [1,1,0,1,0,0,1,0,0,1,1,1,1,0,1,0,1,0,0] 146):=bB abh (aD 6 48) [[1,2,3,4,0,0]] (@MR di C) (ay ag)
theorem azL(C:ab):aP C (M6 C) 146 (Cd 65 [1,1,0,1,0,0,1,0,0,1,1,1,1,0,1,0] [1,1,0,1,0,0,1,0,0,1,1,1,1,0,1,1] 146):=fJ abi [[1,2,3,4,0]] (@T7 di C) (ay (aL (azK C) ag)) (ay ag)
theorem azM(C:ab):aP C (M6 C) 146 (Lp [1,1,0,1,0,0,1,0,0,1,1,1,1,1,1,0,1,0,0] 146):=bB abj (aD 6 48) [[1,2,3,4,0,0]] (@MT di C) (ay ag)
theorem azN(C:ab):aP C (M6 C) 146 (Lp [1,1,0,1,0,0] 146):=bB abk (aD 5 28) [[0,0],[1,2,0,0,0,0]] (@MV di C) (ay (aL (azJ C) (aL (azL C) (aL (azM C) ag))))
theorem azO{a b':Int}{aq:LV}{r:Option LV}(h:acD di CC a b' aq=r):CC 146 [vI a,vI b',cg aq]=r:=aM (aL (azN CC) ag) h
noncomputable def ams(C:ab):cm:=fK 735 abb [[1,2,3,4,0,7,8]] (@T8 di C) (bC 81 abc (aD 6 56) [[1,2,3,0,0,0,0]] (@MX di C) aO)
theorem azP(C:ab):aP C (ams C) 143 (Cd 45 [1,1,0,1,1,1,0,0,1,0,0,1,0,1,0] [1,1,0,1,1,1,0,0,1,0,0,1,0,1,1] 143):=fJ abb [[1,2,3,4,0,7,8]] (@T8 di C) (ay ag) (ay ag)
theorem azQ(C:ab):aP C (ams C) 143 (Lp [1,1,0,1,1,1,0,0] 143):=bB abc (aD 6 56) [[1,2,3,0,0,0,0]] (@MX di C) (ay (aL (azP C) ag))
theorem azR{a b':Int}{aq:LV}{r:Option LV}(h:acF di CC a b' aq=r):CC 143 [vI a,vI b',cg aq]=r:=aM (aL (azQ CC) ag) h
theorem azS{data:LV}{a b' c je:Int}{r:Option LV}(h:acG di CC data a b' c je=r):CC 164 [cg data,vI a,vI b',vI c,vI je]=r:=aM (L:=aO) ag h
theorem azT{data:LV}{a je:Int}{r:Option LV}(h:acH di CC data a je=r):CC 163 [cg data,vI a,vI je]=r:=aM (L:=aO) ag h
theorem azU{data:LV}{a b' je:Int}{r:Option LV}(h:Ua di CC data a b' je=r):CC 171 [cg data,vI a,vI b',vI je]=r:=aM (L:=aO) ag h
noncomputable def amt(C:ab):cm:=fK 591 abd [[1,0,0,0,0]] (@MY di C) (fK 559 abe [[0,0]] (@MZ di C) aO)
theorem azV(C:ab):aP C (amt C) 144 (Cd 36 [1,1,1,1,1,1,0,1,0,0,1,0] [1,1,1,1,1,1,0,1,0,0,1,1] 144):=fJ abd [[1,0,0,0,0]] (@MY di C) (ay ag) (ay ag)
theorem azW(C:ab):aP C (amt C) 144 (Cd 34 [1,1,1,1,1,1,0,1,0] [1,1,1,1,1,1,0,1,1] 144):=fJ abe [[0,0]] (@MZ di C) (ay (aL (azV C) ag)) (ay ag)
theorem azX{data:LV}{a b':Int}{r:Option LV}(h:Ub di CC data a b'=r):CC 144 [cg data,vI a,vI b']=r:=aM (aL (azW CC) ag) h
noncomputable def Ud(C:ab):cm:=fK 639 aa1 [[1,2,0,4,5,6,0]] (@M0 di C) (fK 911 aa2 [[1,2,3,4,5,6,0,0,0]] (@M1 di C) (fK 1215 aa3 [[1,2,3,4,5,6,7,0,0],[1,2,3,4,5,6,7,0]] (@xR di C) (bC 33 aa4 (aD 6 63) [[0]] (@tp di C) aO)))
theorem azY(C:ab):aP C (Ud C) 130 (Cd 39 [1,1,0,0,0,1,1,1,0,1,0] [1,1,0,0,0,1,1,1,0,1,1] 130):=fJ aa1 [[1,2,0,4,5,6,0]] (@M0 di C) (ay ag) (ay ag)
theorem azZ(C:ab):aP C (Ud C) 130 (Cd 56 [1,1,0,0,0,1,1,1,1,1,0,1,0] [1,1,0,0,0,1,1,1,1,1,0,1,1] 130):=fJ aa2 [[1,2,3,4,5,6,0,0,0]] (@M1 di C) (ay ag) (ay ag)
theorem az0(C:ab):aP C (Ud C) 130 (Cd 75 [1,1,0,0,0,1,1,1,1,1,1,0,1,0] [1,1,0,0,0,1,1,1,1,1,1,0,1,1] 130):=fJ aa3 [[1,2,3,4,5,6,7,0,0],[1,2,3,4,5,6,7,0]] (@xR di C) (ay ag) (ay ag)
theorem az1(C:ab):aP C (Ud C) 130 (Lp [1,1,0,0] 130):=bB aa4 (aD 6 63) [[0]] (@tp di C) (ay (aL (azY C) (aL (azZ C) (aL (az0 C) ag))))
theorem az2{a b' pB:Int}{aq:LV}{r:Option LV}(h:acI di CC a b' pB aq=r):CC 130 [vI a,vI b',vI pB,cg aq]=r:=aM (aL (az1 CC) ag) h
theorem az3{xs:LV}{r:Option LV}(h:acJ di CC xs=r):CC 120 [cg xs]=r:=aM (L:=aO) ag h
noncomputable def M7(C:ab)(i x s at':Int)(t57:Bool)(bd aY aW aS:Int)(my:LV)(cE cG:Int)(nK places:LV)(ic ig:Int)(rows ch cH cy dt:LV):eN ((Int×Int×Int×LV×LV×LV)⊕(Int×LV×LV)):=fun kr=>
 bif t57 then
  bif(nK.length:Int)==512 then
  kr (.inl (3,0,0,([]:LV),([]:LV),([]:LV)))
  else
  bif cS .u64 s&&true then
   bif Nat.ble ((nK.length+([.int .u64 s]:LV).length)*8) br then
   kr (.inr ((nK.length:Int),nK++([.int .u64 s]:LV),fj (.int .u64 s) (vI (nK.length:Int)) places))
   else none
  else none
 else
  kr (.inr (at',nK,places))
noncomputable def GY(C:ab)(i bd aY aW aS:Int)(my:LV)(cE cG ic ig:Int)(ch cH cy dt:LV)(x:Int)(nK places rows:LV):bz (Int×LV×LV×LV) ((Int×Int×Int×LV×LV×LV)⊕(Int×Bool×LV×LV×LV)):=fun kn kr=>
 bif decide (x<bd)then
  aj nK i fun x2=>
  (C 98 [vI bd,vI aY,.int .u64 aW,.int .u64 aS,cg my,.int .u64 x2.toInt,vI x]).bind fun r3=>
  bif cS .u64 (gI r3)&&true then
  M7 C i x (gI r3) ((gV (.int .u64 (gI r3)) places (vI 0)).toInt) (!(fi (.int .u64 (gI r3)) places)) bd aY aW aS my cE cG nK places ic ig rows ch cH cy dt (db (un fun lz=>un fun az4=>un fun az5=>un fun DG=>un fun zH az6=>
   kr (.inl (lz,az4,az5,DG,zH,az6))) (un fun amu=>un fun az7 az8=>
   bif Nat.ble ((rows.length+([vI amu]:LV).length)*8) br then
    kn (wI (x+1),az7,az8,rows++([vI amu]:LV))
   else none))
  else none
 else
  kr (.inr (x,decide (x<bd),nK,places,rows))
noncomputable def DV(C:ab)(i bd aY aW aS:Int)(my:LV)(cE cG ic ig:Int)(ch cH cy dt:LV):=un fun x=>un fun nK=>un fun places rows=>GY C i bd aY aW aS my cE cG ic ig ch cH cy dt x nK places rows bD bE
noncomputable def M8(C:ab)(bd aY aW aS:Int)(my:LV)(cE cG ic ig:Int)(bY ch:LV)(i:Int)(nK places cH cy:LV):bz (Int×LV×LV×LV×LV) ((Int×Int×Int×LV×LV×LV)⊕(Int×Bool×LV×LV×LV×LV)):=fun kn kr=>
 bif decide (i<(nK.length:Int))then
  (Loop (DV C i bd aY aW aS my cE cG ic ig bY ch cH cy) (0,nK,places,([]:LV))).bind (db (un fun ti=>un fun az9=>un fun aAa=>un fun Mv=>un fun py aAb=>
   kr (.inl (ti,az9,aAa,Mv,py,aAb))) (un fun aKv=>un fun abX=>un fun amv=>un fun aAc amw=>
   bif Nat.ble ((cy.length+([aR amw]:LV).length)*24) br then
   aj amv i fun DQ=>
   bif Nat.ble ((cH.length+([.bool (((wU ((bU DQ.toInt&&&bU aS).toNat)):Int) !=0)]:LV).length)*1) br then
    kn (wI (i+1),amv,aAc,cH++([.bool (((wU ((bU DQ.toInt&&&bU aS).toNat)):Int) !=0)]:LV),cy++([aR amw]:LV))
   else none
   else none))
 else
  kr (.inr (i,decide (i<(nK.length:Int)),nK,places,cH,cy))
noncomputable def GZ(C:ab)(bd aY aW aS:Int)(my:LV)(cE cG ic ig:Int)(bY ch:LV):=un fun i=>un fun nK=>un fun places=>un fun cH cy=>M8 C bd aY aW aS my cE cG ic ig bY ch i nK places cH cy bD bE
noncomputable def acL(C:ab):cm:=fK 927 aas [[0,0,0,0,0,0],[1,2,0,6,7,8,9,10,11,12,0,0,15,16,17,18,19,20,21]] (@M7 C) (bC 193 aat (aD 18 9730) [[0,0,0,0,0,0],[1,0,0,3,4,5,6,7,8,9,0,0,12,13,0,15,16,17,18]] (@GY C) (bC 129 aau (aD 16 49921) [[0,0,0,0,0,0],[0,0,2,3,4,5,6,7,8,0,0,11,12,13,14,0,0]] (@M8 C) aO))
theorem aAd(C:ab):aP C (acL C) 81 (Cd 57 [1,1,1,1,1,0,1,0,0,1,0,0,1,0,1,0,0,1,0,0,1,1,0,1,0] [1,1,1,1,1,0,1,0,0,1,0,0,1,0,1,0,0,1,0,0,1,1,0,1,1] 81):=fJ aas [[0,0,0,0,0,0],[1,2,0,6,7,8,9,10,11,12,0,0,15,16,17,18,19,20,21]] (@M7 C) (ay ag) (ay ag)
theorem aAe(C:ab):aP C (acL C) 81 (Lp [1,1,1,1,1,0,1,0,0,1,0,0,1,0,1,0,0] 81):=bB aat (aD 18 9730) [[0,0,0,0,0,0],[1,0,0,3,4,5,6,7,8,9,0,0,12,13,0,15,16,17,18]] (@GY C) (ay (aL (aAd C) ag))
theorem aAf(C:ab):aP C (acL C) 81 (Lp [1,1,1,1,1,0,1,0,0] 81):=bB aau (aD 16 49921) [[0,0,0,0,0,0],[0,0,2,3,4,5,6,7,8,0,0,11,12,13,14,0,0]] (@M8 C) (ay (aL (aAe C) ag))
noncomputable def acM(C:ab)(cz dc cL dh:Int)(ey:LV):Option LV:=
 (C 97 [vI cz,vI dc,.int .u64 cL,.int .u64 dh,cg ey]).bind fun r1=>
 bif((gI r1):Int) !=0 then
  some [vI 0,vI 0,vI (gI r1),aB ([]:LV),aE ([]:LV),bn ([]:LV)]
 else
  bif cS .u64 cL&&true then
  (Loop (GZ C cz dc cL dh ey 0 0 cz 0 ([]:LV) ([]:LV)) (0,([.int .u64 cL]:LV),fj (.int .u64 cL) (vI 0) ([]:LV),([]:LV),([]:LV))).bind (db (un fun Tl=>un fun aAg=>un fun aAh=>un fun acd=>un fun ace aAi=>
   some [vI aAg,vI aAh,vI Tl,aB acd,aE ace,bn aAi]) (un fun ay9=>un fun ab6=>un fun aAj=>un fun aKw=>un fun Lb acp=>
   some [vI cz,vI 0,vI 0,aB Lb,aE acp,bn aAj]))
  else none
theorem amx{cz dc cL dh:Int}{ey:LV}{r:Option LV}(h:acM CC cz dc cL dh ey=r):CC 81 [vI cz,vI dc,.int .u64 cL,.int .u64 dh,cg ey]=r:=aM (aL (aAf CC) ag) h
noncomputable def amy(C:ab)(cz dc cL dh:Int)(ey:LV):Option LV:=
 bif decide (dc>64)then
  some [vI 0,vI 0,vI 3,aB ([]:LV),aE ([]:LV)]
 else
  (C 80 [cg ey]).bind fun r1=>
  (C 81 [vI cz,vI dc,.int .u64 cL,.int .u64 dh,cg (gL r1)]).bind fun r2=>
  bif((hD r2):Int) !=0 then
  some [vI 0,vI 0,vI (hD r2),aB ([]:LV),aE ([]:LV)]
  else
  (C 35 (Sg r2 [])).bind fun r3=>
  some [vI (gI r3),vI (bM r3),vI 0,aB (fV r3),aE (mr r3)]
theorem aAk{cz dc cL dh:Int}{ey:LV}{r:Option LV}(h:amy CC cz dc cL dh ey=r):CC 59 [vI cz,vI dc,.int .u64 cL,.int .u64 dh,cg ey]=r:=aM (L:=aO) ag h
noncomputable def amz(C:ab)(cz dc cL dh:Int)(ey:LV):Option LV:=
 (C 133 [vI cz,vI dc,.int .u64 cL,.int .u64 dh,cg ey]).bind fun r1=>
 bif((hD r1):Int) !=0 then
  some [vI 0,vI 0,vI (hD r1),aB ([]:LV),aE ([]:LV)]
 else
  (C 100 (Sg r1 [])).bind fun r2=>
  some [vI (gI r2),vI (bM r2),vI 0,aB (fV r2),aE (mr r2)]
theorem aAl{cz dc cL dh:Int}{ey:LV}{r:Option LV}(h:amz CC cz dc cL dh ey=r):CC 125 [vI cz,vI dc,.int .u64 cL,.int .u64 dh,cg ey]=r:=aM (L:=aO) ag h
noncomputable def amA(C:ab)(bd aY aW aS:Int)(bh:LV):Option LV:=
 (C 120 [cg bh]).bind fun r1=>
 (C 124 [cg (gL r1)]).bind fun r2=>
 bif(gB r2)then
  (C 125 [vI bd,vI aY,.int .u64 aW,.int .u64 aS,cg (eu r2)]).bind fun r3=>
  some (F8 r3 [vI bd,vI aY,.int .u64 aW,.int .u64 aS,cg (eu r2),aB (lX r3),aE (s9 r3)])
 else
  (C 125 [vI bd,vI aY,.int .u64 aW,.int .u64 aS,cg (eu r2)]).bind fun r4=>
  some (F8 r4 [vI bd,vI aY,.int .u64 aW,.int .u64 aS,cg (eu r2),aB (lX r4),aE (s9 r4)])
theorem aAm{bd aY aW aS:Int}{bh:LV}{r:Option LV}(h:amA CC bd aY aW aS bh=r):CC 108 [vI bd,vI aY,.int .u64 aW,.int .u64 aS,cg bh]=r:=aM (L:=aO) ag h
noncomputable def acN(C:ab)(an tf:Int):Option LV:=
 bif decide (tf>64)then
  some [V.bool true]
 else
  some [V.bool false,vI an,vI tf,.int .u64 0,.int .u64 0,cg ([]:LV)]
theorem amB{an tf:Int}{r:Option LV}(h:acN CC an tf=r):CC 103 [vI an,vI tf]=r:=aM (L:=aO) ag h
noncomputable def amC(C:ab)(eV letter to bd aY aW aS:Int)(bh:LV):Option LV:=
 bif Nat.ble ((bh.length+([.agg [vI eV,vI letter,vI to]]:LV).length)*24) br then
  some [vI bd,vI aY,.int .u64 aW,.int .u64 aS,cg (bh++([.agg [vI eV,vI letter,vI to]]:LV))]
 else none
theorem aAn{eV letter to bd aY aW aS:Int}{bh:LV}{r:Option LV}(h:amC CC eV letter to bd aY aW aS bh=r):CC 117 [vI eV,vI letter,vI to,vI bd,vI aY,.int .u64 aW,.int .u64 aS,cg bh]=r:=aM (L:=aO) ag h
noncomputable def amD(C:ab)(q bd aY aW aS:Int)(bh:LV):Option LV:=
 bif decide (0<=q)then
  some [vI bd,vI aY,.int .u64 (wU ((bU aW|||bU (wU (1*2^(min q.toNat kU)))).toNat)),.int .u64 aS,cg bh]
 else none
theorem aAo{q bd aY aW aS:Int}{bh:LV}{r:Option LV}(h:amD CC q bd aY aW aS bh=r):CC 106 [vI q,vI bd,vI aY,.int .u64 aW,.int .u64 aS,cg bh]=r:=aM (L:=aO) ag h
noncomputable def amE(C:ab)(q bd aY aW aS:Int)(bh:LV):Option LV:=
 bif decide (0<=q)then
  some [vI bd,vI aY,.int .u64 aW,.int .u64 (wU ((bU aS|||bU (wU (1*2^(min q.toNat kU)))).toNat)),cg bh]
 else none
theorem aAp{q bd aY aW aS:Int}{bh:LV}{r:Option LV}(h:amE CC q bd aY aW aS bh=r):CC 119 [vI q,vI bd,vI aY,.int .u64 aW,.int .u64 aS,cg bh]=r:=aM (L:=aO) ag h
noncomputable def M9(C:ab)(offset:Int)(t8:LV)(t9 t10 bd aY aW aS:Int)(bZ:LV):bz (Int×Int×Int×Int×Int×LV) (Int×Bool×Int×Int×Int×Int×LV):=fun kn kr=>
 bif decide (t10<t9)then
  (idx t8 t10).bind fun x1=>
  bif x1.toBool then
  (C 119 [vI (wI (t10+offset)),vI bd,vI aY,.int .u64 aW,.int .u64 aS,cg bZ]).bind fun r2=>
  kn (wI (t10+1),YB r2)
  else
  kn (wI (t10+1),bd,aY,aW,aS,bZ)
 else
  kr (t10,decide (t10<t9),bd,aY,aW,aS,bZ)
noncomputable def acO(C:ab)(offset:Int)(t8:LV)(t9:Int):=un fun t10=>un fun bd=>un fun aY=>un fun aW=>un fun aS bZ=>M9 C offset t8 t9 t10 bd aY aW aS bZ bD bE
noncomputable def aAq(C:ab):cm:=bC 17 aaL (aD 9 504) [[1,2,3,0,0,0,0,0,0,0]] (@M9 C) aO
theorem aAr(C:ab):aP C (aAq C) 107 (Lp [1,0,0] 107):=bB aaL (aD 9 504) [[1,2,3,0,0,0,0,0,0,0]] (@M9 C) (ay ag)
noncomputable def amF(C:ab)(final:LV)(offset bd aY aW aS:Int)(bh:LV):Option LV:=
 (Loop (acO C offset final (final.length:Int)) (0,bd,aY,aW,aS,bh)).bind (un fun ly=>un fun lz=>un fun DW=>un fun Na=>un fun Nb=>un fun DX zI=>
  some [vI DW,vI Na,.int .u64 Nb,.int .u64 DX,cg zI])
theorem aAs{final:LV}{offset bd aY aW aS:Int}{bh:LV}{r:Option LV}(h:amF CC final offset bd aY aW aS bh=r):CC 107 [aB final,vI offset,vI bd,vI aY,.int .u64 aW,.int .u64 aS,cg bh]=r:=aM (aL (aAr CC) ag) h
noncomputable def Nc(C:ab)(offset p:Int)(t11:LV)(t12 t13:Int)(t18:LV)(t19 t20 bd aY aW aS:Int)(bZ:LV):bz (Int×Int×Int×Int×Int×LV) (Int×Bool×Int×Int×Int×Int×LV):=fun kn kr=>
 bif decide (t20<t19)then
  (idx t18 t20).bind fun x2=>
  (C 117 [vI (wI (p+offset)),vI t20,vI (wI (x2.toInt+offset)),vI bd,vI aY,.int .u64 aW,.int .u64 aS,cg bZ]).bind fun r3=>
  kn (wI (t20+1),YB r3)
 else
  kr (t20,decide (t20<t19),bd,aY,aW,aS,bZ)
noncomputable def acP(C:ab)(offset p:Int)(t11:LV)(t12 t13:Int)(t18:LV)(t19:Int):=un fun t20=>un fun bd=>un fun aY=>un fun aW=>un fun aS bZ=>Nc C offset p t11 t12 t13 t18 t19 t20 bd aY aW aS bZ bD bE
noncomputable def Ng(C:ab)(offset:Int)(t11:LV)(t12 t13 bd aY aW aS:Int)(bZ:LV):bz (Int×Int×Int×Int×Int×LV) (Int×Bool×Int×Int×Int×Int×LV):=fun kn kr=>
 bif decide (t13<t12)then
  (idx t11 t13).bind fun x1=>
  (Loop (acP C offset t13 t11 t12 t13 x1.toList (x1.toList.length:Int)) (0,bd,aY,aW,aS,bZ)).bind (un fun lz=>un fun kD=>un fun Na=>un fun Nb=>un fun DX=>un fun Nh oJ=>
   kn (wI (t13+1),Na,Nb,DX,Nh,oJ))
 else
  kr (t13,decide (t13<t12),bd,aY,aW,aS,bZ)
noncomputable def acQ(C:ab)(offset:Int)(t11:LV)(t12:Int):=un fun t13=>un fun bd=>un fun aY=>un fun aW=>un fun aS bZ=>Ng C offset t11 t12 t13 bd aY aW aS bZ bD bE
noncomputable def amG(C:ab):cm:=bC 81 aaI (aD 13 8064) [[1,2,3,4,5,6,7,0,0,0,0,0,0,0]] (@Nc C) (bC 33 aaJ (aD 9 504) [[1,2,3,0,0,0,0,0,0,0]] (@Ng C) aO)
theorem aAt(C:ab):aP C (amG C) 104 (Lp [1,1,0,0,1,1,0,0,1,1,0,0] 104):=bB aaI (aD 13 8064) [[1,2,3,4,5,6,7,0,0,0,0,0,0,0]] (@Nc C) (ay ag)
theorem aAu(C:ab):aP C (amG C) 104 (Lp [1,1,0,0] 104):=bB aaJ (aD 9 504) [[1,2,3,0,0,0,0,0,0,0]] (@Ng C) (ay (aL (aAt C) ag))
noncomputable def amH(C:ab)(bH bJ:Int)(bu cb:LV)(offset bd aY aW aS:Int)(bh:LV):Option LV:=
 (Loop (acQ C offset cb (cb.length:Int)) (0,bd,aY,aW,aS,bh)).bind (un fun zt=>un fun Bj=>un fun acR=>un fun aAv=>un fun aAw=>un fun aAx py=>
  some [vI acR,vI aAv,.int .u64 aAw,.int .u64 aAx,cg py])
theorem aAy{bH bJ:Int}{bu cb:LV}{offset bd aY aW aS:Int}{bh:LV}{r:Option LV}(h:amH CC bH bJ bu cb offset bd aY aW aS bh=r):CC 104 [vI bH,vI bJ,aB bu,aE cb,vI offset,vI bd,vI aY,.int .u64 aW,.int .u64 aS,cg bh]=r:=aM (aL (aAu CC) ag) h
noncomputable def Ni(C:ab)(final:LV)(to t14:Int)(acS:LV)(t15 bd aY aW aS:Int)(ar:LV):bz (Int×Int×Int×Int×Int×LV) (Int×Bool×Int×Int×Int×Int×LV):=fun kn kr=>
 bif decide (t15<t14)then
  aj acS t15 fun x1=>
  bif decide ((((x1.cell 2).toInt):Int)<(final.length:Int))then
  (idx final ((x1.cell 2).toInt)).bind fun x2=>
  bif x2.toBool then
   (C 117 [vI ((x1.cell 0).toInt),vI ((x1.cell 1).toInt),vI to,vI bd,vI aY,.int .u64 aW,.int .u64 aS,cg ar]).bind fun r3=>
   kn (wI (t15+1),YB r3)
  else
   kn (wI (t15+1),bd,aY,aW,aS,ar)
  else
  kn (wI (t15+1),bd,aY,aW,aS,ar)
 else
  kr (t15,decide (t15<t14),bd,aY,aW,aS,ar)
noncomputable def acT(C:ab)(final:LV)(to t14:Int)(acS:LV):=un fun t15=>un fun bd=>un fun aY=>un fun aW=>un fun aS ar=>Ni C final to t14 acS t15 bd aY aW aS ar bD bE
noncomputable def aAz(C:ab):cm:=bC 17 aaK (aD 10 760) [[1,2,3,0,0,0,0,0,0,9,0]] (@Ni C) aO
theorem aAA(C:ab):aP C (aAz C) 105 (Lp [1,0,0] 105):=bB aaK (aD 10 760) [[1,2,3,0,0,0,0,0,0,9,0]] (@Ni C) (ay ag)
noncomputable def amI(C:ab)(final:LV)(to bd aY aW aS:Int)(bh:LV):Option LV:=
 bif Nat.ble (bh.length*24) br then
  (Loop (acT C final to (bh.length:Int) bh) (0,bd,aY,aW,aS,bh)).bind (un fun lz=>un fun kD=>un fun Na=>un fun Nb=>un fun DX=>un fun Nh oJ=>
   some [vI Na,vI Nb,.int .u64 DX,.int .u64 Nh,cg oJ])
 else none
theorem aAB{final:LV}{to bd aY aW aS:Int}{bh:LV}{r:Option LV}(h:amI CC final to bd aY aW aS bh=r):CC 105 [aB final,vI to,vI bd,vI aY,.int .u64 aW,.int .u64 aS,cg bh]=r:=aM (aL (aAA CC) ag) h
noncomputable def G0(C:ab)(q t18 t19:Int)(t26:Bool)(jx jW:Int)(nD nE:LV)(cE cG gG jI bd aY aW aS:Int)(ar aG:LV):eN (Int):=fun kr=>
 bif t26 then
  (C 58 [vI q]).bind fun r3=>
  kr (wU ((bU aS|||bU (gI r3)).toNat))
 else
  kr aS
noncomputable def DY(C:ab)(q t18 t19:Int)(t37:LV)(t38 jx jW:Int)(nD nE:LV)(cE cG gG jI bd aY aW aS:Int)(ar:LV)(t39:Int)(aG:LV):bz (Int×LV) (Int×Bool×LV):=fun kn kr=>
 bif decide (t39<t38)then
  (idx t37 t39).bind fun x7=>
  bif Nat.ble ((aG.length+([.agg [vI q,vI t39,vI x7.toInt]]:LV).length)*24) br then
  kn (wI (t39+1),aG++([.agg [vI q,vI t39,vI x7.toInt]]:LV))
  else none
 else
  kr (t39,decide (t39<t38),aG)
noncomputable def DZ(C:ab)(q t18 t19:Int)(t37:LV)(t38 jx jW:Int)(nD nE:LV)(cE cG gG jI bd aY aW aS:Int)(ar:LV):=un fun t39 aG=>DY C q t18 t19 t37 t38 jx jW nD nE cE cG gG jI bd aY aW aS ar t39 aG bD bE
noncomputable def Bv(C:ab)(t18 jx jW:Int)(nD nE:LV)(cE cG gG jI bd aY aW:Int)(ar:LV)(t19 aS:Int)(aG:LV):bz (Int×Int×LV) (Int×Bool×Int×LV):=fun kn kr=>
 bif decide (t19<t18)then
  (idx nD t19).bind fun x2=>
  G0 C t19 t18 t19 x2.toBool jx jW nD nE cE cG gG jI bd aY aW aS ar aG (fun DW=>
   (idx nE t19).bind fun x6=>
   (Loop (DZ C t19 t18 t19 x6.toList (x6.toList.length:Int) jx jW nD nE cE cG gG jI bd aY aW DW ar) (0,aG)).bind (un fun mw=>un fun pr oJ=>
    kn (wI (t19+1),DW,oJ)))
 else
  kr (t19,decide (t19<t18),aS,aG)
noncomputable def D0(C:ab)(t18 jx jW:Int)(nD nE:LV)(cE cG gG jI bd aY aW:Int)(ar:LV):=un fun t19=>un fun aS aG=>Bv C t18 jx jW nD nE cE cG gG jI bd aY aW ar t19 aS aG bD bE
noncomputable def acU(C:ab):cm:=fK 431 Z5 [[1,2,3,5,6,7,8,9,10,11,12,13,14,15,0,17,18]] (@G0 C) (bC 129 Z6 (aD 20 524320) [[1,2,3,4,5,0,0,7,8,9,10,11,12,13,14,15,16,17,18,19,0]] (@DY C) (bC 49 Z7 (aD 16 40962) [[1,0,0,3,4,5,6,7,8,9,10,11,12,13,0,15,0]] (@Bv C) aO))
theorem aAC(C:ab):aP C (acU C) 57 (Cd 26 [1,1,0,1,0,0,1,1,0,0,1,0,1,0] [1,1,0,1,0,0,1,1,0,0,1,0,1,1] 57):=fJ Z5 [[1,2,3,5,6,7,8,9,10,11,12,13,14,15,0,17,18]] (@G0 C) (ay ag) (ay ag)
theorem aAD(C:ab):aP C (acU C) 57 (Lp [1,1,0,1,0,0,1,1,0,0,1,1,1,0,0] 57):=bB Z6 (aD 20 524320) [[1,2,3,4,5,0,0,7,8,9,10,11,12,13,14,15,16,17,18,19,0]] (@DY C) (ay ag)
theorem aAE(C:ab):aP C (acU C) 57 (Lp [1,1,0,1,0,0] 57):=bB Z7 (aD 16 40962) [[1,0,0,3,4,5,6,7,8,9,10,11,12,13,0,15,0]] (@Bv C) (ay (aL (aAC C) (aL (aAD C) ag)))
noncomputable def acV(C:ab)(dG dR:Int)(dV eT:LV):Option LV:=
 (C 58 [vI dR]).bind fun r1=>
 (Loop (D0 C (dV.length:Int) dG dR dV eT 0 0 0 0 dG (dV.length:Int) (gI r1) ([]:LV)) (0,0,([]:LV))).bind (un fun zt=>un fun Bj=>un fun acR th=>
  some [vI dG,vI (dV.length:Int),.int .u64 (gI r1),.int .u64 acR,cg th])
theorem amJ{dG dR:Int}{dV eT:LV}{r:Option LV}(h:acV CC dG dR dV eT=r):CC 57 [vI dG,vI dR,aB dV,aE eT]=r:=aM (aL (aAE CC) ag) h
noncomputable def Ue(C:ab)(offset:Int)(t66:Bool)(qh qi aKx aAF bd aY aW aS:Int)(ar aG bY ch cH:LV):eN (Int×Int×Int×Int×LV):=fun kr=>
 bif t66 then
  (C 106 [vI (wI (offset+aAF)),vI bd,vI aY,.int .u64 aW,.int .u64 aS,cg cH]).bind fun r8=>
  kr ((gI r8),(gI (r8.drop 1)),(gI ((r8.drop 1).drop 1)),(gI (((r8.drop 1).drop 1).drop 1)),(gL (r8.drop 4)))
 else
  kr (bd,aY,aW,aS,cH)
noncomputable def aAG(C:ab):cm:=fK 1071 aaA [[1,3,4,5,6,0,0,0,0,11,12,13,14,0]] (@Ue C) aO
theorem aAH(C:ab):aP C (aAG C) 90 (Cd 66 [1,1,1,1,1,1,1,1,1,1,0,1,0] [1,1,1,1,1,1,1,1,1,1,0,1,1] 90):=fJ aaA [[1,3,4,5,6,0,0,0,0,11,12,13,14,0]] (@Ue C) (ay ag) (ay ag)
noncomputable def acW(C:ab)(dG dR:Int)(dV eT:LV)(eF ew:Int)(eU fB:LV):Option LV:=
 (C 101 [vI dG,vI dR,aB dV,aE eT,vI eF,vI ew,aB eU,aE fB]).bind fun r1=>
 bif((gI ((r1.drop 2).drop 2)):Int) !=0 then
  some [vI 0,vI 0,vI (gI ((r1.drop 2).drop 2)),aB ([]:LV),aE ([]:LV)]
 else
  (C 103 [vI dG,vI (wI (((gL (r1.drop 5)).length:Int)+((gL (((r1.drop 5).drop 1).drop 1)).length:Int)))]).bind fun r2=>
  bif(gB r2)then
  some [vI 0,vI 0,vI 3,aB ([]:LV),aE ([]:LV)]
  else
  (C 104 [vI (gI r1),vI (gI (r1.drop 1)),aB (gL (r1.drop 5)),aE (gL ((r1.drop 5).drop 1)),vI 0,vI (gI (r2.drop 1)),vI (gI ((r2.drop 1).drop 1)),.int .u64 (gI (((r2.drop 1).drop 1).drop 1)),.int .u64 (gI ((((r2.drop 1).drop 1).drop 1).drop 1)),cg (gL ((r2.drop 1).drop 4))]).bind fun r3=>
  (C 104 [vI (gI (r1.drop 2)),vI (gI ((r1.drop 2).drop 1)),aB (gL (((r1.drop 5).drop 1).drop 1)),aE (gL ((((r1.drop 5).drop 1).drop 1).drop 1)),vI ((gL (r1.drop 5)).length:Int),vI (gI r3),vI (gI (r3.drop 1)),.int .u64 (gI ((r3.drop 1).drop 1)),.int .u64 (gI (((r3.drop 1).drop 1).drop 1)),cg (gL (r3.drop 4))]).bind fun r4=>
  (C 105 [aB (gL (r1.drop 5)),vI (wI (((gL (r1.drop 5)).length:Int)+(gI ((r1.drop 2).drop 1)))),vI (gI r4),vI (gI (r4.drop 1)),.int .u64 (gI ((r4.drop 1).drop 1)),.int .u64 (gI (((r4.drop 1).drop 1).drop 1)),cg (gL (r4.drop 4))]).bind fun r5=>
  (C 106 [vI (gI (r1.drop 1)),vI (gI r5),vI (gI (r5.drop 1)),.int .u64 (gI ((r5.drop 1).drop 1)),.int .u64 (gI (((r5.drop 1).drop 1).drop 1)),cg (gL (r5.drop 4))]).bind fun r6=>
  aj (gL (r1.drop 5)) (gI (r1.drop 1)) fun x7=>
  Ue C ((gL (r1.drop 5)).length:Int) x7.toBool 0 0 (gI (r1.drop 2)) (gI ((r1.drop 2).drop 1)) (gI r6) (gI (r6.drop 1)) (gI ((r6.drop 1).drop 1)) (gI (((r6.drop 1).drop 1).drop 1)) ([]:LV) ([]:LV) (gL (((r1.drop 5).drop 1).drop 1)) (gL ((((r1.drop 5).drop 1).drop 1).drop 1)) (gL (r6.drop 4)) (un fun Nh=>un fun aAI=>un fun aAJ=>un fun aAK ur=>
   (C 107 [aB (gL (((r1.drop 5).drop 1).drop 1)),vI ((gL (r1.drop 5)).length:Int),vI Nh,vI aAI,.int .u64 aAJ,.int .u64 aAK,cg ur]).bind fun qj=>
   (C 108 [vI (gI qj),vI (gI (qj.drop 1)),.int .u64 (gI ((qj.drop 1).drop 1)),.int .u64 (gI (((qj.drop 1).drop 1).drop 1)),cg (gL (qj.drop 4))]).bind fun jw=>
   some [vI (gI jw),vI (gI (jw.drop 1)),vI (gI (jw.drop 2)),aB (gL ((jw.drop 3).drop 5)),aE (gL (((jw.drop 3).drop 5).drop 1))])
theorem amK{dG dR:Int}{dV eT:LV}{eF ew:Int}{eU fB:LV}{r:Option LV}(h:acW CC dG dR dV eT eF ew eU fB=r):CC 90 [vI dG,vI dR,aB dV,aE eT,vI eF,vI ew,aB eU,aE fB]=r:=aM (aL (aAH CC) ag) h
noncomputable def Nj(C:ab)(k' q t35 t36:Int)(t43:LV)(t44 jx jW nF lY qh qi bd aY aW aS tj tk xS xT:Int)(bY ch cH cy dt eE nB:LV)(t45:Int)(fc:LV):bz (Int×LV) (Int×Bool×LV):=fun kn kr=>
 bif decide (t45<t44)then
  (idx t43 t45).bind fun x6=>
  bif(decide (0<=x6.toInt))&&(decide (x6.toInt<(bY.length:Int)))then
  (bY[(x6.toInt:Int).toNat]?).bind fun x7=>
  bif x7.toBool then
   bif Nat.ble ((fc.length+([.agg [vI q,vI t45,vI (wI (k'+lY))]]:LV).length)*24) br then
   kn (wI (t45+1),fc++([.agg [vI q,vI t45,vI (wI (k'+lY))]]:LV))
   else none
  else
   kn (wI (t45+1),fc)
  else none
 else
  kr (t45,decide (t45<t44),fc)
noncomputable def acX(C:ab)(k' q t35 t36:Int)(t43:LV)(t44 jx jW nF lY qh qi bd aY aW aS tj tk xS xT:Int)(bY ch cH cy dt eE nB:LV):=un fun t45 fc=>Nj C k' q t35 t36 t43 t44 jx jW nF lY qh qi bd aY aW aS tj tk xS xT bY ch cH cy dt eE nB t45 fc bD bE
noncomputable def Nk(C:ab)(k' t35 jx jW nF lY qh qi bd aY aW aS tj tk xS xT:Int)(bY ch cH cy dt eE nB:LV)(t36:Int)(fc:LV):bz (Int×LV) (Int×Bool×LV):=fun kn kr=>
 bif decide (t36<t35)then
  aj ch t36 fun x5=>
  (Loop (acX C k' t36 t35 t36 x5.toList (x5.toList.length:Int) jx jW nF lY qh qi bd aY aW aS tj tk xS xT bY ch cH cy dt eE nB) (0,fc)).bind (un fun mw=>un fun pr oJ=>
   kn (wI (t36+1),oJ))
 else
  kr (t36,decide (t36<t35),fc)
noncomputable def acY(C:ab)(k' t35 jx jW nF lY qh qi bd aY aW aS tj tk xS xT:Int)(bY ch cH cy dt eE nB:LV):=un fun t36 fc=>Nk C k' t35 jx jW nF lY qh qi bd aY aW aS tj tk xS xT bY ch cH cy dt eE nB t36 fc bD bE
noncomputable def Nl(C:ab)(k' t71 jx jW nF lY qh qi bd aY aW aS tj tk xS xT:Int)(acZ ch cH cy dt eE fc:LV)(t72:Int)(nB:LV):bz (Int×LV) (Int×Bool×LV):=fun kn kr=>
 bif decide (t72<t71)then
  aj acZ t72 fun oI=>
  bif Nat.ble ((nB.length+([.agg [vI (wI (k'+((oI.cell 0).toInt))),vI ((oI.cell 1).toInt),vI (wI (k'+((oI.cell 2).toInt)))]]:LV).length)*24) br then
  kn (wI (t72+1),nB++([.agg [vI (wI (k'+((oI.cell 0).toInt))),vI ((oI.cell 1).toInt),vI (wI (k'+((oI.cell 2).toInt)))]]:LV))
  else none
 else
  kr (t72,decide (t72<t71),nB)
noncomputable def ac0(C:ab)(k' t71 jx jW nF lY qh qi bd aY aW aS tj tk xS xT:Int)(acZ ch cH cy dt eE fc:LV):=un fun t72 nB=>Nl C k' t71 jx jW nF lY qh qi bd aY aW aS tj tk xS xT acZ ch cH cy dt eE fc t72 nB bD bE
noncomputable def Uf(C:ab)(k':Int)(t98:Bool)(nF lY qh qi bd aY aW aS tj tk xS xT:Int)(aG bY ch cH cy dt:LV):eN (Int):=fun kr=>
 bif t98 then
  (C 58 [vI (wI (k'+lY))]).bind fun ki=>
  kr (wU ((bU aW|||bU (gI ki)).toNat))
 else
  kr aW
noncomputable def Ug(C:ab):cm:=bC 177 ZM (aD 29 134217792) [[1,2,3,4,5,6,0,0,8,9,10,11,12,13,14,15,16,17,18,19,20,21,22,23,24,25,26,27,0,29]] (@Nj C) (bC 129 ZN (aD 25 8388612) [[1,2,0,0,4,5,6,7,8,9,10,11,12,13,14,15,16,17,18,19,20,21,22,23,0,25]] (@Nk C) (bC 289 ZO (aD 25 16777220) [[1,2,0,0,4,5,6,7,8,9,10,11,12,13,14,15,16,17,18,19,20,21,22,23,24,0]] (@Nl C) (fK 1583 ZP [[1,5,6,7,8,0,10,11,12,13,14,17,18,19,20]] (@Uf C) aO)))
theorem aAL(C:ab):aP C (Ug C) 33 (Lp [1,1,1,1,1,1,0,1,0,0,1,1,0,0,1,1,0,0] 33):=bB ZM (aD 29 134217792) [[1,2,3,4,5,6,0,0,8,9,10,11,12,13,14,15,16,17,18,19,20,21,22,23,24,25,26,27,0,29]] (@Nj C) (ay ag)
theorem aAM(C:ab):aP C (Ug C) 33 (Lp [1,1,1,1,1,1,0,1,0,0] 33):=bB ZN (aD 25 8388612) [[1,2,0,0,4,5,6,7,8,9,10,11,12,13,14,15,16,17,18,19,20,21,22,23,0,25]] (@Nk C) (ay (aL (aAL C) ag))
theorem aAN(C:ab):aP C (Ug C) 33 (Lp [1,1,1,1,1,1,1,0,1,0,0] 33):=bB ZO (aD 25 16777220) [[1,2,0,0,4,5,6,7,8,9,10,11,12,13,14,15,16,17,18,19,20,21,22,23,24,0]] (@Nl C) (ay ag)
theorem aAO(C:ab):aP C (Ug C) 33 (Cd 98 [1,1,1,1,1,1,1,1,0,1,0] [1,1,1,1,1,1,1,1,0,1,1] 33):=fJ ZP [[1,5,6,7,8,0,10,11,12,13,14,17,18,19,20]] (@Uf C) (ay ag) (ay ag)
noncomputable def ac1(C:ab)(dG dR:Int)(dV eT:LV)(eF ew:Int)(eU fB:LV):Option LV:=
 (C 35 [vI dG,vI dR,aB dV,aE eT]).bind fun r1=>
 (C 35 [vI eF,vI ew,aB eU,aE fB]).bind fun r2=>
 (C 57 (ui r1 [])).bind fun r3=>
 (C 57 (ui r2 [])).bind fun r4=>
 bif decide (((wI ((bM r3)+(bM r4))):Int)>64)then
  some [vI 0,vI 0,vI 3,aB ([]:LV),aE ([]:LV)]
 else
  (Loop (acY C (bM r3) ((fV r1).length:Int) (gI r1) (bM r1) (gI r2) (bM r2) 0 0 (gI r3) (wI ((bM r3)+(bM r4))) (jq r3) (vL r3) (gI r4) (bM r4) (jq r4) (vL r4) (fV r1) (mr r1) (fV r2) (mr r2) ([]:LV) ([]:LV) (A4 r4)) (0,(A4 r3))).bind (un fun zt=>un fun Bj ur=>
   (Loop (ac0 C (bM r3) ((A4 r4).length:Int) (gI r1) (bM r1) (gI r2) (bM r2) 0 0 (gI r3) (wI ((bM r3)+(bM r4))) (jq r3) (vL r3) (gI r4) (bM r4) (jq r4) (vL r4) (A4 r4) (fV r1) (mr r1) (fV r2) (mr r2) ([]:LV) ([]:LV)) (0,ur)).bind (un fun Tw=>un fun K7 py=>
    aj (fV r1) (bM r1) fun oH=>
    Uf C (bM r3) oH.toBool (gI r2) (bM r2) 0 0 (gI r3) (wI ((bM r3)+(bM r4))) (jq r3) (vL r3) (gI r4) (bM r4) (jq r4) (vL r4) (fV r2) (mr r2) ([]:LV) ([]:LV) py (A4 r4) (fun aAP=>
     bif decide (0<=(wU (bM r3)))then
     (C 59 [vI (gI r3),vI (wI ((bM r3)+(bM r4))),.int .u64 aAP,.int .u64 (wU ((vL r4)*2^(min (wU (bM r3)).toNat kU))),cg py]).bind fun M4=>
     some (F8 M4 [aB (lX M4),aE (s9 M4)])
     else none)))
theorem amL{dG dR:Int}{dV eT:LV}{eF ew:Int}{eU fB:LV}{r:Option LV}(h:ac1 CC dG dR dV eT eF ew eU fB=r):CC 33 [vI dG,vI dR,aB dV,aE eT,vI eF,vI ew,aB eU,aE fB]=r:=aM (aL (aAM CC) (aL (aAN CC) (aL (aAO CC) ag))) h
noncomputable def Nm(C:ab)(t12 bc bp:Int)(cd b9:LV)(cE cG ic ig:Int)(ar aG:LV)(t13:Int)(bY ch:LV):bz (Int×LV×LV) (Int×Bool×LV×LV):=fun kn kr=>
 bif decide (t13<t12)then
  (idx cd t13).bind fun x1=>
  bif Nat.ble ((bY.length+([.bool (!x1.toBool)]:LV).length)*1) br then
  (idx b9 t13).bind fun x2=>
  bif Nat.ble ((([]:LV).length+x2.toList.length)*8) br then
   bif Nat.ble ((ch.length+([aR (([]:LV)++x2.toList)]:LV).length)*24) br then
   kn (wI (t13+1),bY++([.bool (!x1.toBool)]:LV),ch++([aR (([]:LV)++x2.toList)]:LV))
   else none
  else none
  else none
 else
  kr (t13,decide (t13<t12),bY,ch)
noncomputable def ac2(C:ab)(t12 bc bp:Int)(cd b9:LV)(cE cG ic ig:Int)(ar aG:LV):=un fun t13=>un fun bY ch=>Nm C t12 bc bp cd b9 cE cG ic ig ar aG t13 bY ch bD bE
noncomputable def aAQ(C:ab):cm:=bC 49 ZQ (aD 14 12290) [[1,0,0,3,4,5,6,7,8,9,10,11,12,0,0]] (@Nm C) aO
theorem aAR(C:ab):aP C (aAQ C) 34 (Lp [1,1,0,1,0,0] 34):=bB ZQ (aD 14 12290) [[1,0,0,3,4,5,6,7,8,9,10,11,12,0,0]] (@Nm C) (ay ag)
noncomputable def amM(C:ab)(bH bJ:Int)(bu cb:LV):Option LV:=
 (Loop (ac2 C (bu.length:Int) bH bJ bu cb 0 0 bH bJ ([]:LV) ([]:LV)) (0,([]:LV),([]:LV))).bind (un fun ly=>un fun lz=>un fun b_5 zu=>
  some [vI bH,vI bJ,aB b_5,aE zu])
theorem aAS{bH bJ:Int}{bu cb:LV}{r:Option LV}(h:amM CC bH bJ bu cb=r):CC 34 [vI bH,vI bJ,aB bu,aE cb]=r:=aM (aL (aAR CC) ag) h
noncomputable def amN(C:ab)(an:Int)(all:Bool):Option LV:=
 bif(decide (0<=an))&&((decide (an<=an))&&(Nat.ble ((an.toNat)*8) br))then
  some [vI an,vI 0,aB ([.bool all]:LV),aE ([aR (List.replicate (an.toNat) (vI 0))]:LV)]
 else none
theorem aAT{an:Int}{all:Bool}{r:Option LV}(h:amN CC an all=r):CC 31 [vI an,.bool all]=r:=aM (L:=aO) ag h
noncomputable def Nn(C:ab)(to t13 t14:Int)(rows:LV):bz (Int×LV) (Int×Bool×LV):=fun kn kr=>
 bif decide (t14<t13)then
  aj rows t14 fun x1=>
  kn (wI (t14+1),az rows t14 (vI to))
 else
  kr (t14,decide (t14<t13),rows)
noncomputable def ac3(C:ab)(to t13:Int):=un fun t14 rows=>Nn C to t13 t14 rows bD bE
noncomputable def aAU(C:ab):cm:=bC 49 aaH [J0,J0,J1,J1] [[1,2,0,0,0]] (@Nn C) aO
theorem aAV(C:ab):aP C (aAU C) 99 (Lp [1,1,0,1,0,0] 99):=bB aaH [J0,J0,J1,J1] [[1,2,0,0,0]] (@Nn C) (ay ag)
noncomputable def amO(C:ab)(b' to:Int):Option LV:=
 bif(decide (0<=b'))&&((decide (b'<=b'))&&(Nat.ble ((b'.toNat)*8) br))then
  (Loop (ac3 C to ((List.replicate (b'.toNat) (vI 0)).length:Int)) (0,List.replicate (b'.toNat) (vI 0))).bind (un fun t_2=>un fun ly aAW=>
   some [aR aAW])
 else none
theorem aAX{b' to:Int}{r:Option LV}(h:amO CC b' to=r):CC 99 [vI b',vI to]=r:=aM (aL (aAV CC) ag) h
noncomputable def amP(C:ab)(all:Bool)(dO:Int)(bh bZ ar:LV):Option LV:=
 (C 99 [vI dO,vI 0]).bind fun r1=>
 some [vI dO,vI 0,vI dO,iy bZ,iw ar,aB ([.bool all]:LV),aE ([aR (gL r1)]:LV),fy bh]
theorem aAY{all:Bool}{dO:Int}{bh bZ ar:LV}{r:Option LV}(h:amP CC all dO bh bZ ar=r):CC 86 [.bool all,vI dO,fy bh,iy bZ,iw ar]=r:=aM (L:=aO) ag h
noncomputable def amQ(C:ab)(dO:Int)(bh bZ ar:LV):Option LV:=
 (C 99 [vI dO,vI 1]).bind fun r1=>
 (C 99 [vI dO,vI 1]).bind fun r2=>
 some [vI dO,vI 0,vI dO,iy bZ,iw ar,aB ([.bool true,.bool false]:LV),aE ([aR (gL r1),aR (gL r2)]:LV),fy bh]
theorem aAZ{dO:Int}{bh bZ ar:LV}{r:Option LV}(h:amQ CC dO bh bZ ar=r):CC 87 [vI dO,fy bh,iy bZ,iw ar]=r:=aM (L:=aO) ag h
noncomputable def amR(C:ab)(a dO:Int)(bh bZ ar:LV):Option LV:=
 (C 99 [vI dO,vI 2]).bind fun r1=>
 aj (gL r1) a fun x2=>
 (C 99 [vI dO,vI 2]).bind fun r3=>
 (C 99 [vI dO,vI 2]).bind fun r4=>
 (C 100 [vI dO,vI 0,aB ([.bool false,.bool true,.bool false]:LV),aE ([aR (az (gL r1) a (vI 1)),aR (gL r3),aR (gL r4)]:LV)]).bind fun r5=>
 some [vI (gI r5),vI (bM r5),vI dO,iy bZ,iw ar,aB (fV r5),aE (mr r5),fy bh]
theorem aA0{a dO:Int}{bh bZ ar:LV}{r:Option LV}(h:amR CC a dO bh bZ ar=r):CC 88 [vI a,vI dO,fy bh,iy bZ,iw ar]=r:=aM (L:=aO) ag h
noncomputable abbrev Uh(r1:LV):Option LV:=
 some [vI (gI r1),vI (bM r1),vI 0,vI (hD r1),iy (mr r1),iw (ug r1),aB (Sf r1),aE (gL (((((r1.drop 2).drop 1).drop 1).drop 1).drop 1)),fy (gL ((((((r1.drop 2).drop 1).drop 1).drop 1).drop 1).drop 1))]
noncomputable abbrev ac4(r7:LV)(dO:Int)(bZ ar bh:LV):Option LV:=
 some (F8 r7 [vI dO,iy bZ,iw ar,aB (lX r7),aE (s9 r7),fy bh])
noncomputable def amS(C:ab)(cz dc cL dh dO:Int)(bh bZ ar:LV):Option LV:=
 bif cz==1 then
  (C 86 [.bool false,vI dO,fy bh,iy bZ,iw ar]).bind fun r1=>
  Uh r1
 else
  bif cz==2 then
  (C 87 [vI dO,fy bh,iy bZ,iw ar]).bind fun r2=>
  Uh r2
  else
  bif cz==3 then
   (C 88 [vI dc,vI dO,fy bh,iy bZ,iw ar]).bind fun r3=>
   Uh r3
  else
   bif cz==4 then
   (C 86 [.bool true,vI dO,fy bh,iy bZ,iw ar]).bind fun r4=>
   Uh r4
   else
   bif cz==5 then
    aj bh cL fun x5=>
    aj bh dh fun x6=>
    (C 89 (p6 x5 (p6 x6 [vI 14]))).bind fun r7=>
    ac4 r7 dO bZ ar bh
   else
    bif cz==6 then
    aj bh cL fun x8=>
    aj bh dh fun x9=>
    (C 89 (p6 x8 (p6 x9 [vI 8]))).bind fun r10=>
    ac4 r10 dO bZ ar bh
    else
    bif cz==7 then
     aj bh cL fun iO=>
     aj bh dh fun kE=>
     (C 90 (p6 iO (p6 kE []))).bind fun Dz=>
     ac4 Dz dO bZ ar bh
    else
     aj bh cL fun oI=>
     (C 91 (p6 oI [])).bind fun jw=>
     some [vI (gI jw),vI (bM jw),vI 0,vI dO,iy bZ,iw ar,aB (fV jw),aE (mr jw),fy bh]
theorem aA1{cz dc cL dh dO:Int}{bh bZ ar:LV}{r:Option LV}(h:amS CC cz dc cL dh dO bh bZ ar=r):CC 62 [vI cz,vI dc,vI cL,vI dh,vI dO,fy bh,iy bZ,iw ar]=r:=aM (L:=aO) ag h
noncomputable def amT(C:ab)(i base:Int)(nL:LV):Option LV:=
 bif base==10 then
  bif decide (i<100)then
  (C 134 [vI (wI i)]).bind fun r1=>
  bif Nat.ble ((nL.length+((gS r1).map yF).length)*1) br then
   some [kg (nL++((gS r1).map yF))]
  else none
  else
  (C 135 [.int .u64 i]).bind fun r2=>
  bif(Nat.beq (List.replicate 24 (V.int .u8 0):LV).length 24)&&true then
   bif(decide (0<=(gI r2)))&&(decide ((gI r2)<=24))then
   (C 136 [fw 0,fw ((((gI r2):Int).toNat)-0),.int .u64 i,kg (List.replicate 24 (V.int .u8 0):LV)]).bind fun r3=>
   bif(Nat.beq (gL r3).length 24)&&true then
    bif(decide (0<=(gI r2)))&&(decide ((gI r2)<=24))then
    bif Nat.ble ((nL.length+(((gL r3).drop 0).take ((((gI r2):Int).toNat)-0)).length)*1) br then
     some [kg (nL++(((gL r3).drop 0).take ((((gI r2):Int).toNat)-0)))]
    else none
    else none
   else none
   else none
  else none
 else none
theorem aA2{i base:Int}{nL:LV}{r:Option LV}(h:amT CC i base nL=r):CC 126 [.int .u64 i,vI base,kg nL]=r:=aM (L:=aO) ag h
noncomputable def amU(C:ab)(i base:Int):Option LV:=
 (C 110 [vI i,vI base,kg ([]:LV)]).bind fun r1=>
 some [kg (gL r1)]
theorem aA3{i base:Int}{r:Option LV}(h:amU CC i base=r):CC 92 [vI i,vI base]=r:=aM (L:=aO) ag h
noncomputable def amV(C:ab)(i base:Int)(nL:LV):Option LV:=
 bif decide (i<0)then
  bif Nat.ble ((nL.length+([.int .u8 45]:LV).length)*1) br then
  (C 126 [.int .u64 (wU (0-(wU i))),vI base,kg (nL++([.int .u8 45]:LV))]).bind fun r1=>
  some [kg (gL r1)]
  else none
 else
  (C 126 [.int .u64 (wU i),vI base,kg nL]).bind fun r2=>
  some [kg (gL r2)]
theorem aA4{i base:Int}{nL:LV}{r:Option LV}(h:amV CC i base nL=r):CC 110 [vI i,vI base,kg nL]=r:=aM (L:=aO) ag h
noncomputable def amW(C:ab)(i base:Int)(nL:LV):Option LV:=
 (C 110 [vI i,vI base,kg nL]).bind fun r1=>
 some [kg (gL r1)]
theorem aA5{i base:Int}{nL:LV}{r:Option LV}(h:amW CC i base nL=r):CC YJ [vI i,vI base,kg nL]=r:=aM (L:=aO) ag h
noncomputable def No(C:ab)(row t12:LV)(t13 t14:Int)(t23:Bool)(bc bp:Int)(cd b9 outs:LV):eN LV:=fun kr=>
 bif t23 then
  bif Nat.ble ((outs.length+([.int .u8 33]:LV).length)*1) br then
  kr (outs++([.int .u8 33]:LV))
  else none
 else
  kr outs
noncomputable def Np(C:ab)(t12:LV)(t13 t14:Int)(t27:LV)(t28 bc bp:Int)(cd b9:LV)(t29:Int)(outs:LV):bz (Int×LV) (Int×Bool×LV):=fun kn kr=>
 bif decide (t29<t28)then
  (idx t27 t29).bind fun x5=>
  bif Nat.ble ((outs.length+([.int .u8 32]:LV).length)*1) br then
  (C YJ [vI x5.toInt,vI 10,kg (outs++([.int .u8 32]:LV))]).bind fun r6=>
  kn (wI (t29+1),(gL r6))
  else none
 else
  kr (t29,decide (t29<t28),outs)
noncomputable def Nq(C:ab)(t12:LV)(t13 t14:Int)(t27:LV)(t28 bc bp:Int)(cd b9:LV):=un fun t29 outs=>Np C t12 t13 t14 t27 t28 bc bp cd b9 t29 outs bD bE
noncomputable def Nr(C:ab)(t12:LV)(t13 bc bp:Int)(cd b9:LV)(t14:Int)(outs:LV):bz (Int×LV) (Int×Bool×LV):=fun kn kr=>
 bif decide (t14<t13)then
  (idx t12 t14).bind fun x2=>
  (idx cd t14).bind fun x3=>
  No C x2.toList t12 t13 t14 x3.toBool bc bp cd b9 outs (fun(aA6:LV)=>
   (Loop (Nq C t12 t13 t14 x2.toList (x2.toList.length:Int) bc bp cd b9) (0,aA6)).bind (un fun lA=>un fun mw DK=>
    bif Nat.ble ((DK.length+([.int .u8 59]:LV).length)*1) br then
    kn (wI (t14+1),DK++([.int .u8 59]:LV))
    else none))
 else
  kr (t14,decide (t14<t13),outs)
noncomputable def ac5(C:ab)(t12:LV)(t13 bc bp:Int)(cd b9:LV):=un fun t14 outs=>Nr C t12 t13 bc bp cd b9 t14 outs bD bE
noncomputable def ac6(C:ab):cm:=fK 383 aag [[1,2,3,4,6,7,8,9,0]] (@No C) (bC 129 aah (aD 11 1056) [[1,2,3,4,5,0,0,7,8,9,10,0]] (@Np C) (bC 49 aai (aD 8 132) [[1,2,0,0,4,5,6,7,0]] (@Nr C) aO))
theorem aA7(C:ab):aP C (ac6 C) 63 (Cd 23 [1,1,0,1,0,0,1,1,0,0,1,0,1,0] [1,1,0,1,0,0,1,1,0,0,1,0,1,1] 63):=fJ aag [[1,2,3,4,6,7,8,9,0]] (@No C) (ay ag) (ay ag)
theorem aA8(C:ab):aP C (ac6 C) 63 (Lp [1,1,0,1,0,0,1,1,0,0,1,1,0,1,0,0] 63):=bB aah (aD 11 1056) [[1,2,3,4,5,0,0,7,8,9,10,0]] (@Np C) (ay ag)
theorem aA9(C:ab):aP C (ac6 C) 63 (Lp [1,1,0,1,0,0] 63):=bB aai (aD 8 132) [[1,2,0,0,4,5,6,7,0]] (@Nr C) (ay (aL (aA7 C) (aL (aA8 C) ag)))
noncomputable def amX(C:ab)(bH bJ:Int)(bu cb:LV):Option LV:=
 (C 92 [vI bJ,vI 10]).bind fun r1=>
 (Loop (ac5 C cb (cb.length:Int) bH bJ bu cb) (0,(gL r1))).bind (un fun xH=>un fun zt aBa=>
  some [.str (oX aBa)])
theorem aBb{bH bJ:Int}{bu cb:LV}{r:Option LV}(h:amX CC bH bJ bu cb=r):CC 63 [vI bH,vI bJ,aB bu,aE cb]=r:=aM (aL (aA9 CC) ag) h
noncomputable def Ns(C:ab)(key:List UInt8)(x:Int)(t45:Bool)(dO:Int)(bZ ar:LV)(bd aY aW aS bc bp:Int)(ch cH cy:LV):eN (Int×LV×LV):=fun kr=>
 bif t45 then
  bif Nat.ble key.length maxLen&&true then
  bif Nat.ble ((ch.length+([.agg [vI bc,vI bp,aB cH,aE cy]]:LV).length)*64) br then
   kr ((ch.length:Int),fj (.str key) (vI (ch.length:Int)) bZ,ch++([.agg [vI bc,vI bp,aB cH,aE cy]]:LV))
  else none
  else none
 else
  kr (x,bZ,ch)
noncomputable def aBc(C:ab):cm:=fK 735 ZT [[0,4,0,6,7,8,9,10,0]] (@Ns C) aO
theorem aBd(C:ab):aP C (aBc C) 39 (Cd 45 [1,1,1,1,1,1,0,1,0] [1,1,1,1,1,1,0,1,1] 39):=fJ ZT [[0,4,0,6,7,8,9,10,0]] (@Ns C) (ay ag) (ay ag)
noncomputable def Nt(C:ab)(cz dc cL dh dO:Int)(bh bZ ar:LV):Option LV:=
 bif(cS .i64 cz&&(cS .i64 dc&&(cS .i64 cL&&(cS .i64 dh&&true))))&&true then
  bif fi (.agg [vI cz,vI dc,vI cL,vI dh]) ar then
  some [vI ((gV (.agg [vI cz,vI dc,vI cL,vI dh]) ar (vI 0)).toInt),vI 0,vI dO,iy bZ,iw ar,fy bh]
  else
  (C 62 [vI cz,vI dc,vI cL,vI dh,vI dO,fy bh,iy bZ,iw ar]).bind fun r1=>
  bif((hD r1):Int) !=0 then
   some [vI 0,vI (hD r1),vI (YA r1),iy (s9 r1),iw (gL (((r1.drop 3).drop 1).drop 1)),fy (gL ((((((r1.drop 3).drop 1).drop 1).drop 1).drop 1).drop 1))]
  else
   (C 63 [vI (gI r1),vI (bM r1),aB (gL ((((r1.drop 3).drop 1).drop 1).drop 1)),aE (gL (((((r1.drop 3).drop 1).drop 1).drop 1).drop 1))]).bind fun r2=>
   bif Nat.ble ((gS r2).length) maxLen&&true then
   Ns C (gS r2) ((gV (.str (gS r2)) (s9 r1) (vI 0)).toInt) (!(fi (.str (gS r2)) (s9 r1))) (YA r1) (s9 r1) (gL (((r1.drop 3).drop 1).drop 1)) cz dc cL dh (gI r1) (bM r1) (gL ((((((r1.drop 3).drop 1).drop 1).drop 1).drop 1).drop 1)) (gL ((((r1.drop 3).drop 1).drop 1).drop 1)) (gL (((((r1.drop 3).drop 1).drop 1).drop 1).drop 1)) (un fun Bu=>un fun Ms b_5=>
    bif(cS .i64 cz&&(cS .i64 dc&&(cS .i64 cL&&(cS .i64 dh&&true))))&&true then
     some [vI Bu,vI 0,vI (YA r1),iy Ms,iw (fj (.agg [vI cz,vI dc,vI cL,vI dh]) (vI Bu) (gL (((r1.drop 3).drop 1).drop 1))),fy b_5]
    else none)
   else none
 else none
theorem Ui{cz dc cL dh dO:Int}{bh bZ ar:LV}{r:Option LV}(h:Nt CC cz dc cL dh dO bh bZ ar=r):CC 39 [vI cz,vI dc,vI cL,vI dh,vI dO,fy bh,iy bZ,iw ar]=r:=aM (aL (aBd CC) ag) h
noncomputable def Nu(C:ab)(an e q:Int)(t24:LV)(t25 t26:Int)(outs:LV)(bc bp:Int)(bZ:LV)(a:Int)(ar:LV):bz (Int×LV) (Int×Bool×LV):=fun kn kr=>
 bif decide (a<an)then
  aj ar q fun x7=>
  (ar[q.toNat]?).bind fun x8=>
  bif Nat.ble ((x8.toList.length+([vI 1]:LV).length)*8) br then
  FR ar q<|
  bif(Nat.beq (q.toNat) (q.toNat))&&true then
   kn (wI (a+1),az ar q (aR (x8.toList++([vI 1]:LV))))
  else none
  else none
 else
  kr (a,decide (a<an),ar)
noncomputable def Uj(C:ab)(an e q:Int)(t24:LV)(t25 t26:Int)(outs:LV)(bc bp:Int)(bZ:LV):=un fun a ar=>Nu C an e q t24 t25 t26 outs bc bp bZ a ar bD bE
noncomputable def Nv(C:ab)(an e:Int)(t24:LV)(t25 t26:Int)(outs:LV)(bc bp:Int)(bZ:LV)(q:Int)(ar:LV):bz (Int×LV) (Int×Bool×LV):=fun kn kr=>
 bif decide (q<2)then
  bif Nat.ble ((ar.length+1)*24) br then
  (Loop (Uj C an e q t24 t25 t26 outs bc bp bZ) (0,ar++([aR []]:LV))).bind (un fun a_9=>un fun xH zy=>
   kn (wI (q+1),zy))
  else none
 else
  kr (q,decide (q<2),ar)
noncomputable def Uk(C:ab)(an e:Int)(t24:LV)(t25 t26:Int)(outs:LV)(bc bp:Int)(bZ:LV):=un fun q ar=>Nv C an e t24 t25 t26 outs bc bp bZ q ar bD bE
noncomputable def Nw(C:ab)(an e q a to:Int)(t24:LV)(t25 t26:Int)(t96:Bool)(outs:LV)(p9 qa nA oF bc bp:Int)(ar aG:LV):eN (Int):=fun kr=>
 bif t96 then
  kr 1
 else
  kr to
noncomputable abbrev amY(aG:LV)(q Ul a:Int):eN (Int×LV):=fun kn=>
 aj aG q fun qS=>
 (aG[(q:Int).toNat]?).bind fun oH=>
 bif Nat.ble ((oH.toList.length+([vI Ul]:LV).length)*8) br then
  FR aG q<|
  bif(Nat.beq ((q:Int).toNat) ((q:Int).toNat))&&true then
  kn (wI (a+1),az aG q (aR (oH.toList++([vI Ul]:LV))))
  else none
 else none
noncomputable def Nx(C:ab)(an e q:Int)(t24:LV)(t25 t26:Int)(outs:LV)(p9 qa nA oF bc bp:Int)(ar:LV)(a:Int)(aG:LV):bz (Int×LV) (Int×Bool×LV):=fun kn kr=>
 bif decide (a<an)then
  bif q==0 then
  Nw C an e q a 2 t24 t25 t26 (a==qa) outs p9 qa nA oF bc bp ar aG (fun Ul=>
   amY aG q Ul a kn)
  else
  Nw C an e q a 2 t24 t25 t26 false outs p9 qa nA oF bc bp ar aG (fun aBe=>
   amY aG q aBe a kn)
 else
  kr (a,decide (a<an),aG)
noncomputable def Um(C:ab)(an e q:Int)(t24:LV)(t25 t26:Int)(outs:LV)(p9 qa nA oF bc bp:Int)(ar:LV):=un fun a aG=>Nx C an e q t24 t25 t26 outs p9 qa nA oF bc bp ar a aG bD bE
noncomputable def Ny(C:ab)(an e:Int)(t24:LV)(t25 t26:Int)(outs:LV)(p9 qa nA oF bc bp:Int)(ar:LV)(q:Int)(aG:LV):bz (Int×LV) (Int×Bool×LV):=fun kn kr=>
 bif decide (q<3)then
  bif Nat.ble ((aG.length+1)*24) br then
  (Loop (Um C an e q t24 t25 t26 outs p9 qa nA oF bc bp ar) (0,aG++([aR []]:LV))).bind (un fun aKy=>un fun ak3 DB=>
   kn (wI (q+1),DB))
  else none
 else
  kr (q,decide (q<3),aG)
noncomputable def Un(C:ab)(an e:Int)(t24:LV)(t25 t26:Int)(outs:LV)(p9 qa nA oF bc bp:Int)(ar:LV):=un fun q aG=>Ny C an e t24 t25 t26 outs p9 qa nA oF bc bp ar q aG bD bE
noncomputable abbrev ac7(D1:LV):eN (Int×Int×Int×LV×LV):=fun kr=>
 kr ((hD D1),(gI D1),(bM D1),(lX D1),(s9 D1))
noncomputable def vV(C:ab)(an e:Int)(t24:LV)(t25 t26 t31:Int)(t109:Bool)(outs:LV)(p9 qa nA oF bc bp:Int)(ar aG:LV):eN (Int×Int×Int×LV×LV):=fun kr=>
 bif t109 then
  aj outs nA fun T4=>
  aj outs oF fun x30=>
  (C 32 (p6 T4 (p6 x30 [vI 14]))).bind fun D1=>
  ac7 D1 kr
 else
  bif t31==6 then
  aj outs nA fun x32=>
  aj outs oF fun T6=>
  (C 32 (p6 x32 (p6 T6 [vI 8]))).bind fun r34=>
  ac7 r34 kr
  else
  bif t31==7 then
   aj outs nA fun MK=>
   aj outs oF fun x36=>
   (C 33 (p6 MK (p6 x36 []))).bind fun r37=>
   ac7 r37 kr
  else
   bif t31==8 then
   aj outs nA fun x38=>
   (C 34 (p6 x38 [])).bind fun Uo=>
   kr (e,(gI Uo),(bM Uo),(fV Uo),(mr Uo))
   else
   kr (e,bc,bp,ar,aG)
noncomputable abbrev Nz(outs:LV)(r4:LV)(t26:Int):eN (Int×LV):=fun kn=>
 bif Nat.ble ((outs.length+([.agg (ui r4 [])]:LV).length)*64) br then
  kn (wI (t26+1),outs++([.agg (ui r4 [])]:LV))
 else none
noncomputable def qk(C:ab)(an:Int)(t24:LV)(t25 t26:Int)(outs:LV):bz (Int×LV) ((Int×LV)⊕(Int×Bool×LV)):=fun kn kr=>
 bif decide (t26<t25)then
  (idx t24 t26).bind fun x2=>
  bif(((x2.cell 0).toInt):Int)==1 then
  (C 31 [vI an,.bool false]).bind fun r3=>
  (C 35 (ui r3 [])).bind fun r4=>
  Nz outs r4 t26 kn
  else
  bif(((x2.cell 0).toInt):Int)==4 then
   (C 31 [vI an,.bool true]).bind fun r5=>
   (C 35 (ui r5 [])).bind fun r6=>
   Nz outs r6 t26 kn
  else
   bif(((x2.cell 0).toInt):Int)==2 then
   (Loop (Uk C an 0 t24 t25 t26 outs an 0 ([.bool true,.bool false]:LV)) (0,([]:LV))).bind (un fun aKz=>un fun ti th=>
    (C 35 [vI an,vI 0,aB ([.bool true,.bool false]:LV),aE th]).bind fun jw=>
    Nz outs jw t26 kn)
   else
   bif(((x2.cell 0).toInt):Int)==3 then
    (Loop (Un C an 0 t24 t25 t26 outs ((x2.cell 0).toInt) ((x2.cell 1).toInt) ((x2.cell 2).toInt) ((x2.cell 3).toInt) an 0 ([.bool false,.bool true,.bool false]:LV)) (0,([]:LV))).bind (un fun aKA=>un fun aco L7=>
     (C 35 [vI an,vI 0,aB ([.bool false,.bool true,.bool false]:LV),aE L7]).bind fun Up=>
     Nz outs Up t26 kn)
   else
    vV C an 0 t24 t25 t26 ((x2.cell 0).toInt) ((((x2.cell 0).toInt):Int)==5) outs ((x2.cell 0).toInt) ((x2.cell 1).toInt) ((x2.cell 2).toInt) ((x2.cell 3).toInt) 0 0 ([]:LV) ([]:LV) (un fun aBf=>un fun aBg=>un fun aBh=>un fun aBi aBj=>
     bif(aBf:Int) !=0 then
     kr (.inl (3,([]:LV)))
     else
     (C 35 [vI aBg,vI aBh,aB aBi,aE aBj]).bind fun r45=>
     Nz outs r45 t26 kn)
 else
  kr (.inr (t26,decide (t26<t25),outs))
noncomputable def pD(C:ab)(an:Int)(t24:LV)(t25:Int):=un fun t26 outs=>qk C an t24 t25 t26 outs bD bE
noncomputable def D2(C:ab):cm:=bC 353 Zi (aD 12 2056) [[1,2,3,0,5,6,7,0,8,9,10,11,0]] (@Nu C) (bC 289 Zj (aD 11 1028) [[1,2,0,4,5,6,0,7,8,9,10,0]] (@Nv C) (fK 1551 Zk [[1,2,3,4,0,6,7,8,10,11,12,13,14,15,16,17,18]] (@Nw C) (bC 513 Zl (aD 16 32776) [[1,2,3,0,5,6,7,0,8,9,10,11,12,13,14,15,0]] (@Nx C) (bC 449 Zm (aD 15 16388) [[1,2,0,4,5,6,0,7,8,9,10,11,12,13,14,0]] (@Ny C) (fK 1759 Zn [[1,0,3,4,5,8,0,0,0,0]] (@vV C) (bC 97 Zo (aD 5 24) [[0,0],[1,2,3,0,0,0]] (@qk C) aO))))))
theorem aBk(C:ab):aP C (D2 C) 12 (Lp [1,1,1,0,1,0,0,1,1,0,0,1,1,1,0,1,0,1,1,1,1,1,0,1,1,0,0,1,0,0,1,1,0,0] 12):=bB Zi (aD 12 2056) [[1,2,3,0,5,6,7,0,8,9,10,11,0]] (@Nu C) (ay ag)
theorem aBl(C:ab):aP C (D2 C) 12 (Lp [1,1,1,0,1,0,0,1,1,0,0,1,1,1,0,1,0,1,1,1,1,1,0,1,1,0,0] 12):=bB Zj (aD 11 1028) [[1,2,0,4,5,6,0,7,8,9,10,0]] (@Nv C) (ay (aL (aBk C) ag))
theorem aBm(C:ab):aP C (D2 C) 12 (Cd 96 [1,1,1,0,1,0,0,1,1,0,0,1,1,1,0,1,0,1,1,1,1,1,1,1,0,1,1,0,0,1,0,0,1,1,0,0,1,0,0,1,0,1,0] [1,1,1,0,1,0,0,1,1,0,0,1,1,1,0,1,0,1,1,1,1,1,1,1,0,1,1,0,0,1,0,0,1,1,0,0,1,0,0,1,0,1,1] 12):=fJ Zk [[1,2,3,4,0,6,7,8,10,11,12,13,14,15,16,17,18]] (@Nw C) (ay ag) (ay ag)
theorem aBn(C:ab):aP C (D2 C) 12 (Lp [1,1,1,0,1,0,0,1,1,0,0,1,1,1,0,1,0,1,1,1,1,1,1,1,0,1,1,0,0,1,0,0,1,1,0,0] 12):=bB Zl (aD 16 32776) [[1,2,3,0,5,6,7,0,8,9,10,11,12,13,14,15,0]] (@Nx C) (ay (aL (aBm C) ag))
theorem aBo(C:ab):aP C (D2 C) 12 (Lp [1,1,1,0,1,0,0,1,1,0,0,1,1,1,0,1,0,1,1,1,1,1,1,1,0,1,1,0,0] 12):=bB Zm (aD 15 16388) [[1,2,0,4,5,6,0,7,8,9,10,11,12,13,14,0]] (@Ny C) (ay (aL (aBn C) ag))
theorem aBp(C:ab):aP C (D2 C) 12 (Cd 109 [1,1,1,0,1,0,0,1,1,0,0,1,1,1,0,1,0,1,1,1,1,1,1,1,1,1,0] [1,1,1,0,1,0,0,1,1,0,0,1,1,1,0,1,0,1,1,1,1,1,1,1,1,1,1] 12):=fJ Zn [[1,0,3,4,5,8,0,0,0,0]] (@vV C) (ay ag) (ay ag)
theorem aBq(C:ab):aP C (D2 C) 12 (Lp [1,1,1,0,1,0,0] 12):=bB Zo (aD 5 24) [[0,0],[1,2,3,0,0,0]] (@qk C) (ay (aL (aBl C) (aL (aBo C) (aL (aBp C) ag))))
noncomputable def ac8(C:ab)(cR:LV)(dz an:Int):Option LV:=
 (C 30 [fU cR,vI dz,vI an]).bind fun r1=>
 bif((gI r1):Int) !=0 then
  some [vI (gI r1),fy ([]:LV)]
 else
  (Loop (pD C an cR (cR.length:Int)) (0,([]:LV))).bind (db (un fun aBr aBs=>
   some [vI aBr,fy aBs]) (un fun aKB=>un fun aKC aBt=>
   some [vI 0,fy aBt]))
theorem amZ{cR:LV}{dz an:Int}{r:Option LV}(h:ac8 CC cR dz an=r):CC 12 [fU cR,vI dz,vI an]=r:=aM (aL (aBq CC) ag) h
noncomputable def NA(C:ab)(i:Int)(t34:LV)(t35 t36:Int)(t44:Bool)(dO:Int)(vW lists:LV)(bd aY aW aS:Int)(aG bY ch:LV):eN (Int):=fun kr=>
 bif t44 then
  aj vW aW fun x4=>
  kr x4.toInt
 else
  kr aW
noncomputable def NB(C:ab)(i:Int)(t34:LV)(t35 t36:Int)(t54:Bool)(dO:Int)(vW lists:LV)(bd aY aW aS:Int)(aG bY ch:LV):eN (Int):=fun kr=>
 bif t54 then
  aj vW aS fun x7=>
  kr x7.toInt
 else
  kr aS
noncomputable def NC(C:ab)(t34:LV)(t35 t36 dO:Int)(vW lists ar aG bY:LV):bz (Int×Int×LV×LV×LV×LV×LV) ((Int×LV)⊕(Int×Bool×Int×LV×LV×LV×LV×LV)):=fun kn kr=>
 bif decide (t36<t35)then
  (idx t34 t36).bind fun x2=>
  (C 38 [vI ((x2.cell 0).toInt)]).bind fun r3=>
  NA C t36 t34 t35 t36 (decide (((gI r3):Int)>=1)) dO vW lists ((x2.cell 0).toInt) ((x2.cell 1).toInt) ((x2.cell 2).toInt) ((x2.cell 3).toInt) ar aG bY (fun DW=>
   (C 38 [vI ((x2.cell 0).toInt)]).bind fun r6=>
   NB C t36 t34 t35 t36 (((gI r6):Int)==2) dO vW lists ((x2.cell 0).toInt) ((x2.cell 1).toInt) DW ((x2.cell 3).toInt) ar aG bY (fun DX=>
    (C 39 [vI ((x2.cell 0).toInt),vI ((x2.cell 1).toInt),vI DW,vI DX,vI dO,fy ar,iy aG,iw bY]).bind fun r9=>
    bif((bM r9):Int) !=0 then
    kr (.inl ((bM r9),([]:LV)))
    else
    aj vW t36 fun kY=>
    aj (Sf r9) (gI r9) fun iO=>
    aj lists t36 fun kE=>
    kn (wI (t36+1),(hD r9),az vW t36 (vI (gI r9)),az lists t36 (.agg (p6 iO [])),(Sf r9),(mr r9),(ug r9))))
 else
  kr (.inr (t36,decide (t36<t35),dO,vW,lists,ar,aG,bY))
noncomputable def ND(C:ab)(t34:LV)(t35:Int):=un fun t36=>un fun dO=>un fun vW=>un fun lists=>un fun ar=>un fun aG bY=>NC C t34 t35 t36 dO vW lists ar aG bY bD bE
noncomputable def ac9(C:ab):cm:=fK 719 Zp [[1,2,3,4,6,7,8,9,10,0,12,13,14,15]] (@NA C) (fK 879 Zq [[1,2,3,4,6,7,8,9,10,11,0,13,14,15]] (@NB C) (bC 129 Zr (aD 9 508) [[0,0],[1,2,0,0,0,0,0,0,0,0]] (@NC C) aO))
theorem aBu(C:ab):aP C (ac9 C) 14 (Cd 44 [1,1,1,1,1,0,1,0,0,1,1,0,0,1,0,1,0] [1,1,1,1,1,0,1,0,0,1,1,0,0,1,0,1,1] 14):=fJ Zp [[1,2,3,4,6,7,8,9,10,0,12,13,14,15]] (@NA C) (ay ag) (ay ag)
theorem aBv(C:ab):aP C (ac9 C) 14 (Cd 54 [1,1,1,1,1,0,1,0,0,1,1,0,0,1,1,0,1,0] [1,1,1,1,1,0,1,0,0,1,1,0,0,1,1,0,1,1] 14):=fJ Zq [[1,2,3,4,6,7,8,9,10,11,0,13,14,15]] (@NB C) (ay ag) (ay ag)
theorem aBw(C:ab):aP C (ac9 C) 14 (Lp [1,1,1,1,1,0,1,0,0] 14):=bB Zr (aD 9 508) [[0,0],[1,2,0,0,0,0,0,0,0,0]] (@NC C) (ay (aL (aBu C) (aL (aBv C) ag)))
noncomputable def am0(C:ab)(cR:LV)(dz an:Int):Option LV:=
 (C 17 [fU cR,vI dz,vI an]).bind fun r1=>
 bif((gI r1):Int) !=0 then
  some [vI (gI r1),fy ([]:LV)]
 else
  bif(decide (0<=(cR.length:Int)))&&((decide ((cR.length:Int)<=(cR.length:Int)))&&(Nat.ble (((cR.length:Int).toNat)*8) br))then
  bif(decide (0<=(cR.length:Int)))&&((decide ((cR.length:Int)<=(cR.length:Int)))&&(Nat.ble (((cR.length:Int).toNat)*64) br))then
   (Loop (ND C cR (cR.length:Int)) (0,an,List.replicate ((cR.length:Int).toNat) (vI 0),List.replicate ((cR.length:Int).toNat) (V.agg [vI 0,vI 0,aB ([]:LV),aE ([]:LV)]),([]:LV),([]:LV),([]:LV))).bind (db (un fun ti aBx=>
    some [vI ti,fy aBx]) (un fun Tw=>un fun K7=>un fun aKD=>un fun aKE=>un fun aBy=>un fun akU=>un fun TA GC=>
    some [vI 0,fy aBy]))
  else none
  else none
theorem aBz{cR:LV}{dz an:Int}{r:Option LV}(h:am0 CC cR dz an=r):CC 14 [fU cR,vI dz,vI an]=r:=aM (aL (aBw CC) ag) h
noncomputable def am1(C:ab)(cf da:Int)(bS:LV)(an:Int):Option LV:=
 bif decide (an<1)then
  some [vI 1]
 else
  bif decide (an>6)then
  some [vI 1]
  else
  (C 66 [vI cf,vI da,cM bS]).bind fun r1=>
  bif !(gB r1)then
   some [vI 3]
  else
   (C 67 [vI cf,vI da,cM bS,vI an]).bind fun r2=>
   bif !(gB r2)then
   some [vI 4]
   else
   some [vI 0]
theorem aBA{cf da:Int}{bS:LV}{an:Int}{r:Option LV}(h:am1 CC cf da bS an=r):CC 48 [vI cf,vI da,cM bS,vI an]=r:=aM (L:=aO) ag h
noncomputable def am2(C:ab)(cf da:Int)(bS:LV):Option LV:=
 (C 93 [vI cf,vI da,cM bS,vI 40,vI 400]).bind fun r1=>
 some [.bool (gB r1)]
theorem aBB{cf da:Int}{bS:LV}{r:Option LV}(h:am2 CC cf da bS=r):CC 66 [vI cf,vI da,cM bS]=r:=aM (L:=aO) ag h
noncomputable def G1(C:ab)(depth:Int)(t23:LV)(t24 t25 uz:Int):bz (Int×Int) ((Bool×Int)⊕(Int×Bool×Int)):=fun kn kr=>
 bif decide (t25<t24)then
  (idx t23 t25).bind fun x1=>
  (C 93 [vI ((x1.cell 0).toInt),vI ((x1.cell 1).toInt),cM ((x1.cell 2).toList),vI (wI (depth-1)),vI uz]).bind fun r2=>
  bif !(gB r2)then
  kr (.inl (false,(bM r2)))
  else
  kn (wI (t25+1),(bM r2))
 else
  kr (.inr (t25,decide (t25<t24),uz))
noncomputable def D3(C:ab)(depth:Int)(t23:LV)(t24:Int):=un fun t25 uz=>G1 C depth t23 t24 t25 uz bD bE
noncomputable def aBC(C:ab):cm:=bC 81 aaC (aD 5 24) [[0,0],[1,2,3,0,0,0]] (@G1 C) aO
theorem aBD(C:ab):aP C (aBC C) 93 (Lp [1,1,1,0,1,0,0] 93):=bB aaC (aD 5 24) [[0,0],[1,2,3,0,0,0]] (@G1 C) (ay ag)
noncomputable def NF(C:ab)(cf da:Int)(bS:LV)(depth uz:Int):Option LV:=
 bif depth==0 then
  some [.bool false,vI uz]
 else
  bif uz==0 then
  some [.bool false,vI uz]
  else
  (Loop (D3 C depth bS (bS.length:Int)) (0,wI (uz-1))).bind (db (un fun ly Ms=>
   some [.bool ly,vI Ms]) (un fun kD=>un fun pq aBE=>
   some [.bool true,vI aBE]))
theorem Uq{cf da:Int}{bS:LV}{depth uz:Int}{r:Option LV}(h:NF CC cf da bS depth uz=r):CC 93 [vI cf,vI da,cM bS,vI depth,vI uz]=r:=aM (aL (aBD CC) ag) h
noncomputable def G2(C:ab)(an:Int)(t53:LV)(t54 t55:Int):bz Int ((Bool)⊕(Int×Bool)):=fun kn kr=>
 bif decide (t55<t54)then
  (idx t53 t55).bind fun x1=>
  (C 67 [vI ((x1.cell 0).toInt),vI ((x1.cell 1).toInt),cM ((x1.cell 2).toList),vI an]).bind fun r2=>
  bif !(gB r2)then
  kr (.inl false)
  else
  kn (wI (t55+1))
 else
  kr (.inr (t55,decide (t55<t54)))
noncomputable def Bw(C:ab)(an:Int)(t53:LV)(t54:Int):=fun t55=>G2 C an t53 t54 t55 bD bE
noncomputable def aBF(C:ab):cm:=bC 321 aal [J0,J0,J0,J1] [[0],[1,2,3,0,0]] (@G2 C) aO
theorem aBG(C:ab):aP C (aBF C) 67 (Lp [1,1,1,1,0,1,0,0] 67):=bB aal [J0,J0,J0,J1] [[0],[1,2,3,0,0]] (@G2 C) (ay ag)
noncomputable abbrev Ur(C:ab)(an:Int)(bS:LV):Option LV:=
 (Loop (Bw C an bS (bS.length:Int)) 0).bind (db (fun(pq:Bool)=>
  some [.bool pq]) (un fun lA mw=>
  some [.bool true]))
noncomputable abbrev Us(cf:Int)(bS:LV)(C:ab)(an:Int):Option LV:=
 bif(cf:Int)==7 then
  bif(cf:Int)==7 then
  bif((bS.length:Int):Int) !=1 then
   some [.bool false]
  else
   Ur C an bS
  else
  some [.bool false]
 else
  bif(cf:Int)==8 then
  bif((bS.length:Int):Int) !=1 then
   some [.bool false]
  else
   Ur C an bS
  else
  some [.bool false]
noncomputable abbrev Ut(bS:LV)(C:ab)(an:Int):Option LV:=
 bif decide (((bS.length:Int):Int)<2)then
  some [.bool false]
 else
  Ur C an bS
noncomputable abbrev ada(cf:Int)(bS:LV)(C:ab)(an:Int):Option LV:=
 bif(cf:Int)==4 then
  bif(cf:Int)==4 then
  Ut bS C an
  else
  Us cf bS C an
 else
  bif(cf:Int)==5 then
  bif(cf:Int)==5 then
   Ut bS C an
  else
   Us cf bS C an
  else
  bif(cf:Int)==6 then
   Ut bS C an
  else
   Us cf bS C an
noncomputable def am3(C:ab)(cf da:Int)(bS:LV)(an:Int):Option LV:=
 bif cf==3 then
  bif(bS.length:Int)==0 then
  bif decide (da>=0)then
   some [.bool (decide (da<an))]
  else
   some [.bool false]
  else
  some [.bool false]
 else
  bif da !=0 then
  some [.bool false]
  else
  bif cf==1 then
   bif cf==1 then
   some [.bool ((bS.length:Int)==0)]
   else
   ada cf bS C an
  else
   bif cf==2 then
   some [.bool ((bS.length:Int)==0)]
   else
   ada cf bS C an
theorem aBH{cf da:Int}{bS:LV}{an:Int}{r:Option LV}(h:am3 CC cf da bS an=r):CC 67 [vI cf,vI da,cM bS,vI an]=r:=aM (aL (aBG CC) ag) h
noncomputable def am4(C:ab)(i:Int)(ss:LV):Option LV:=
 aj ss (Int.fdiv i (2^(min (6:Int).toNat kI))) fun x1=>
 bif decide (0<=(wI ((bI i&&&bI 63).toNat)))then
  aj ss (Int.fdiv i (2^(min (6:Int).toNat kI))) fun x2=>
  some [bn (az ss (Int.fdiv i (2^(min (6:Int).toNat kI))) (.int .u64 (wU ((bU x1.toInt|||bU (wU (1*2^(min (wI ((bI i&&&bI 63).toNat)).toNat kU)))).toNat))))]
 else none
theorem aBI{i:Int}{ss:LV}{r:Option LV}(h:am4 CC i ss=r):CC 27 [vI i,bn ss]=r:=aM (L:=aO) ag h
noncomputable def am5(C:ab)(s:Nat)(i:Int)(ss:LV):Option LV:=
 (ej Tryz.prog 74 ss [(s,0)]).bind fun x1=>
 bif(decide (0<=(Int.fdiv i (2^(min (6:Int).toNat kI)))))&&(decide ((Int.fdiv i (2^(min (6:Int).toNat kI)))<(x1.toList.length:Int)))then
  (ej Tryz.prog 74 ss [(s,0)]).bind fun x2=>
  (x2.toList[(Int.fdiv i (2^(min (6:Int).toNat kI)):Int).toNat]?).bind fun x3=>
  bif decide (0<=(wI ((bI i&&&bI 63).toNat)))then
  (ej Tryz.prog 74 ss [(s,0)]).bind fun x4=>
  bif(decide (0<=(Int.fdiv i (2^(min (6:Int).toNat kI)))))&&(decide ((Int.fdiv i (2^(min (6:Int).toNat kI)))<(x4.toList.length:Int)))then
   (ej Tryz.prog 74 ss [(s,0)]).bind fun x5=>
   (x5.toList[(Int.fdiv i (2^(min (6:Int).toNat kI)):Int).toNat]?).bind fun x6=>
   some [dB (setRow Tryz.prog (az x5.toList (Int.fdiv i (2^(min (6:Int).toNat kI))) (.int .u64 (wU ((bU x3.toInt|||bU (wU (1*2^(min (wI ((bI i&&&bI 63).toNat)).toNat kU)))).toNat)))) 74 ss [(s,0)])]
  else none
  else none
 else none
theorem aBJ{s:Nat}{i:Int}{ss:LV}{r:Option LV}(h:am5 CC s i ss=r):CC Sh [fw s,vI i,dB ss]=r:=aM (L:=aO) ag h
noncomputable def am6(C:ab)(s:LV)(i:Int):Option LV:=
 (idx s (Int.fdiv i (2^(min (6:Int).toNat kI)))).bind fun x1=>
 bif decide (0<=(wI ((bI i&&&bI 63).toNat)))then
  some [.bool (((wU ((bU (Int.fdiv x1.toInt (2^(min (wI ((bI i&&&bI 63).toNat)).toNat kU)))&&&bU 1).toNat)):Int)==1)]
 else none
theorem aBK{s:LV}{i:Int}{r:Option LV}(h:am6 CC s i=r):CC 29 [bn s,vI i]=r:=aM (L:=aO) ag h
noncomputable def NG(C:ab)(t:LV)(k':Int)(ss:LV):bz (Int×LV) (Int×Bool×LV):=fun kn kr=>
 bif decide (k'<(ss.length:Int))then
  aj ss k' fun x1=>
  (idx t k').bind fun x2=>
  aj ss k' fun x3=>
  kn (wI (k'+1),az ss k' (.int .u64 (wU ((bU x1.toInt|||bU x2.toInt).toNat))))
 else
  kr (k',decide (k'<(ss.length:Int)),ss)
noncomputable def NH(C:ab)(t:LV):=un fun k' ss=>NG C t k' ss bD bE
noncomputable def aBL(C:ab):cm:=bC 17 aam [J0,J1,J1] [[1,0,0,0]] (@NG C) aO
theorem aBM(C:ab):aP C (aBL C) 69 (Lp [1,0,0] 69):=bB aam [J0,J1,J1] [[1,0,0,0]] (@NG C) (ay ag)
noncomputable def am7(C:ab)(t:LV)(least:Int)(ss:LV):Option LV:=
 (Loop (NH C t) (Int.fdiv least (2^(min (6:Int).toNat kI)),ss)).bind (un fun oK=>un fun kD aBN=>
  some [bn aBN])
theorem aBO{t:LV}{least:Int}{ss:LV}{r:Option LV}(h:am7 CC t least ss=r):CC 69 [bn t,vI least,bn ss]=r:=aM (aL (aBM CC) ag) h
noncomputable def am8(C:ab)(m:List UInt8):Option LV:=
 bif(decide (0<=(wI ((Int.fdiv (m.length:Int) (2^(min (6:Int).toNat kI)))+1))))&&((decide ((wI ((Int.fdiv (m.length:Int) (2^(min (6:Int).toNat kI)))+1))<=(wI ((Int.fdiv (m.length:Int) (2^(min (6:Int).toNat kI)))+1))))&&(Nat.ble (((wI ((Int.fdiv (m.length:Int) (2^(min (6:Int).toNat kI)))+1):Int).toNat)*8) br))then
  some [bn (List.replicate ((wI ((Int.fdiv (m.length:Int) (2^(min (6:Int).toNat kI)))+1):Int).toNat) (V.int .u64 0))]
 else none
theorem aBP{m:List UInt8}{r:Option LV}(h:am8 CC m=r):CC 26 [.str m]=r:=aM (L:=aO) ag h
noncomputable def adb(C:ab)(k':Int)(t6:LV)(t7 t8 part:Int)(dP:List UInt8)(jy jz:Int)(jA ar:LV):bz (Int×(List UInt8)×Int×Int×LV×LV) (Int×Bool×(List UInt8)×Int×Int×LV×LV):=fun kn kr=>
 bif part !=0 then
  (C 77 [.int .u64 part]).bind fun r2=>
  (C 54 [vI (wI ((wI (k'*2^(min (6:Int).toNat kI)))+(gI r2))),.str dP,vI jy,vI jz,cM jA,dB ar]).bind fun r3=>
  kn (wU ((bU part&&&bU (wU (part-1))).toNat),(gS r3),(bM r3),(jq r3),(KD r3),(gL ((r3.drop 1).drop 3)))
 else
  kr (part,part !=0,dP,jy,jz,jA,ar)
noncomputable def aBQ(C:ab)(k':Int)(t6:LV)(t7 t8:Int):=un fun part=>un fun dP=>un fun jy=>un fun jz=>un fun jA ar=>adb C k' t6 t7 t8 part dP jy jz jA ar bD bE
noncomputable def ade(C:ab)(t6:LV)(t7 t8:Int)(dP:List UInt8)(jy jz:Int)(jA ar:LV):bz (Int×(List UInt8)×Int×Int×LV×LV) (Int×Bool×(List UInt8)×Int×Int×LV×LV):=fun kn kr=>
 bif decide (t8<t7)then
  (idx t6 t8).bind fun x1=>
  (Loop (aBQ C t8 t6 t7 t8) (x1.toInt,dP,jy,jz,jA,ar)).bind (un fun zJ=>un fun kD=>un fun zK=>un fun D4=>un fun adf=>un fun aBR oJ=>
   kn (wI (t8+1),zK,D4,adf,aBR,oJ))
 else
  kr (t8,decide (t8<t7),dP,jy,jz,jA,ar)
noncomputable def aBS(C:ab)(t6:LV)(t7:Int):=un fun t8=>un fun dP=>un fun jy=>un fun jz=>un fun jA ar=>ade C t6 t7 t8 dP jy jz jA ar bD bE
noncomputable def am9(C:ab):cm:=bC 49 ZZ (aD 10 994) [[1,0,3,4,5,0,0,0,0,0,0]] (@adb C) (bC 17 Z0 (aD 8 252) [[1,2,0,0,0,0,0,0,0]] (@ade C) aO)
theorem aBT(C:ab):aP C (am9 C) 53 (Lp [1,0,0,1,1,0,0,1,0,0] 53):=bB ZZ (aD 10 994) [[1,0,3,4,5,0,0,0,0,0,0]] (@adb C) (ay ag)
theorem aBU(C:ab):aP C (am9 C) 53 (Lp [1,0,0] 53):=bB Z0 (aD 8 252) [[1,2,0,0,0,0,0,0,0]] (@ade C) (ay (aL (aBT C) ag))
noncomputable def aBV(C:ab)(s:LV)(dP:List UInt8)(jy jz:Int)(jA ar:LV):Option LV:=
 (Loop (aBS C s (s.length:Int)) (0,dP,jy,jz,jA,ar)).bind (un fun zt=>un fun Bj=>un fun NI=>un fun adg=>un fun adh=>un fun aBW py=>
  some [.str NI,vI adg,vI adh,cM aBW,dB py])
theorem aBX{s:LV}{dP:List UInt8}{jy jz:Int}{jA ar:LV}{r:Option LV}(h:aBV CC s dP jy jz jA ar=r):CC 53 [bn s,.str dP,vI jy,vI jz,cM jA,dB ar]=r:=aM (aL (aBU CC) ag) h
noncomputable def adi(C:ab)(k':Int)(t6:LV)(t7 t8 part:Int)(dP:List UInt8)(jB:Int)(ar:LV):bz (Int×(List UInt8)×Int×LV) (Int×Bool×(List UInt8)×Int×LV):=fun kn kr=>
 bif part !=0 then
  (C 77 [.int .u64 part]).bind fun r2=>
  (C 76 [vI (wI ((wI (k'*2^(min (6:Int).toNat kI)))+(gI r2))),.str dP,vI jB,dB ar]).bind fun r3=>
  kn (wU ((bU part&&&bU (wU (part-1))).toNat),(gS r3),(bM r3),(lW r3))
 else
  kr (part,part !=0,dP,jB,ar)
noncomputable def aBY(C:ab)(k':Int)(t6:LV)(t7 t8:Int):=un fun part=>un fun dP=>un fun jB ar=>adi C k' t6 t7 t8 part dP jB ar bD bE
noncomputable def adj(C:ab)(t6:LV)(t7 t8:Int)(dP:List UInt8)(jB:Int)(ar:LV):bz (Int×(List UInt8)×Int×LV) (Int×Bool×(List UInt8)×Int×LV):=fun kn kr=>
 bif decide (t8<t7)then
  (idx t6 t8).bind fun x1=>
  (Loop (aBY C t8 t6 t7 t8) (x1.toInt,dP,jB,ar)).bind (un fun zJ=>un fun kD=>un fun zK=>un fun D4 zH=>
   kn (wI (t8+1),zK,D4,zH))
 else
  kr (t8,decide (t8<t7),dP,jB,ar)
noncomputable def aBZ(C:ab)(t6:LV)(t7:Int):=un fun t8=>un fun dP=>un fun jB ar=>adj C t6 t7 t8 dP jB ar bD bE
noncomputable def ana(C:ab):cm:=bC 49 abG (aD 8 226) [[1,0,3,4,5,0,0,0,0]] (@adi C) (bC 17 abH (aD 6 60) [[1,2,0,0,0,0,0]] (@adj C) aO)
theorem aB0(C:ab):aP C (ana C) 202 (Lp [1,0,0,1,1,0,0,1,0,0] 202):=bB abG (aD 8 226) [[1,0,3,4,5,0,0,0,0]] (@adi C) (ay ag)
theorem aB1(C:ab):aP C (ana C) 202 (Lp [1,0,0] 202):=bB abH (aD 6 60) [[1,2,0,0,0,0,0]] (@adj C) (ay (aL (aB0 C) ag))
noncomputable def aB2(C:ab)(s:LV)(dP:List UInt8)(jB:Int)(ar:LV):Option LV:=
 (Loop (aBZ C s (s.length:Int)) (0,dP,jB,ar)).bind (un fun pr=>un fun xH=>un fun adk=>un fun adl ur=>
  some [.str adk,vI adl,dB ur])
theorem aB3{s:LV}{dP:List UInt8}{jB:Int}{ar:LV}{r:Option LV}(h:aB2 CC s dP jB ar=r):CC YF [bn s,.str dP,vI jB,dB ar]=r:=aM (aL (aB1 CC) ag) h
noncomputable def adm(C:ab)(k':Int)(t6:LV)(t7 t8 part jy jz:Int)(jA ar aG:LV):bz (Int×Int×Int×LV×LV×LV) (Int×Bool×Int×Int×LV×LV×LV):=fun kn kr=>
 bif part !=0 then
  (C 77 [.int .u64 part]).bind fun r2=>
  (C 75 [vI (wI ((wI (k'*2^(min (6:Int).toNat kI)))+(gI r2))),vI jy,vI jz,cM jA,dB ar,dB aG]).bind fun r3=>
  kn (wU ((bU part&&&bU (wU (part-1))).toNat),(gI r3),(bM r3),(lW r3),(lX r3),(s9 r3))
 else
  kr (part,part !=0,jy,jz,jA,ar,aG)
noncomputable def aB4(C:ab)(k':Int)(t6:LV)(t7 t8:Int):=un fun part=>un fun jy=>un fun jz=>un fun jA=>un fun ar aG=>adm C k' t6 t7 t8 part jy jz jA ar aG bD bE
noncomputable def adn(C:ab)(t6:LV)(t7 t8 jy jz:Int)(jA ar aG:LV):bz (Int×Int×Int×LV×LV×LV) (Int×Bool×Int×Int×LV×LV×LV):=fun kn kr=>
 bif decide (t8<t7)then
  (idx t6 t8).bind fun x1=>
  (Loop (aB4 C t8 t6 t7 t8) (x1.toInt,jy,jz,jA,ar,aG)).bind (un fun zJ=>un fun kD=>un fun zK=>un fun D4=>un fun adf=>un fun zI oJ=>
   kn (wI (t8+1),zK,D4,adf,zI,oJ))
 else
  kr (t8,decide (t8<t7),jy,jz,jA,ar,aG)
noncomputable def aB5(C:ab)(t6:LV)(t7:Int):=un fun t8=>un fun jy=>un fun jz=>un fun jA=>un fun ar aG=>adn C t6 t7 t8 jy jz jA ar aG bD bE
noncomputable def anb(C:ab):cm:=bC 49 abI (aD 10 994) [[1,0,3,4,5,0,0,0,0,0,0]] (@adm C) (bC 17 abJ (aD 8 252) [[1,2,0,0,0,0,0,0,0]] (@adn C) aO)
theorem aB6(C:ab):aP C (anb C) 203 (Lp [1,0,0,1,1,0,0,1,0,0] 203):=bB abI (aD 10 994) [[1,0,3,4,5,0,0,0,0,0,0]] (@adm C) (ay ag)
theorem aB7(C:ab):aP C (anb C) 203 (Lp [1,0,0] 203):=bB abJ (aD 8 252) [[1,2,0,0,0,0,0,0,0]] (@adn C) (ay (aL (aB6 C) ag))
noncomputable def aB8(C:ab)(s:LV)(jy jz:Int)(jA ar aG:LV):Option LV:=
 (Loop (aB5 C s (s.length:Int)) (0,jy,jz,jA,ar,aG)).bind (un fun zt=>un fun Bj=>un fun NI=>un fun adg=>un fun adh=>un fun Mv py=>
  some [vI NI,vI adg,cM adh,dB Mv,dB py])
theorem aB9{s:LV}{jy jz:Int}{jA ar aG:LV}{r:Option LV}(h:aB8 CC s jy jz jA ar aG=r):CC YG [bn s,vI jy,vI jz,cM jA,dB ar,dB aG]=r:=aM (aL (aB7 CC) ag) h
noncomputable def ado(C:ab)(k':Int)(t6:LV)(t7 t8 part:Int)(ar aG:LV):bz (Int×LV×LV) (Int×Bool×LV×LV):=fun kn kr=>
 bif part !=0 then
  (C 77 [.int .u64 part]).bind fun r2=>
  (C 68 [vI (wI ((wI (k'*2^(min (6:Int).toNat kI)))+(gI r2))),bn aG,dB ar]).bind fun r3=>
  kn (wU ((bU part&&&bU (wU (part-1))).toNat),(gL r3),(eu r3))
 else
  kr (part,part !=0,ar,aG)
noncomputable def aCa(C:ab)(k':Int)(t6:LV)(t7 t8:Int):=un fun part=>un fun ar aG=>ado C k' t6 t7 t8 part ar aG bD bE
noncomputable def adp(C:ab)(t6:LV)(t7 t8:Int)(ar aG:LV):bz (Int×LV×LV) (Int×Bool×LV×LV):=fun kn kr=>
 bif decide (t8<t7)then
  (idx t6 t8).bind fun x1=>
  (Loop (aCa C t8 t6 t7 t8) (x1.toInt,ar,aG)).bind (un fun zJ=>un fun kD=>un fun zu DG=>
   kn (wI (t8+1),zu,DG))
 else
  kr (t8,decide (t8<t7),ar,aG)
noncomputable def aCb(C:ab)(t6:LV)(t7:Int):=un fun t8=>un fun ar aG=>adp C t6 t7 t8 ar aG bD bE
noncomputable def anc(C:ab):cm:=bC 49 abK (aD 7 98) [[1,0,3,4,5,0,0,0]] (@ado C) (bC 17 abL (aD 5 28) [[1,2,0,0,0,0]] (@adp C) aO)
theorem aCc(C:ab):aP C (anc C) 205 (Lp [1,0,0,1,1,0,0,1,0,0] 205):=bB abK (aD 7 98) [[1,0,3,4,5,0,0,0]] (@ado C) (ay ag)
theorem aCd(C:ab):aP C (anc C) 205 (Lp [1,0,0] 205):=bB abL (aD 5 28) [[1,2,0,0,0,0]] (@adp C) (ay (aL (aCc C) ag))
noncomputable def aCe(C:ab)(s bZ ar:LV):Option LV:=
 (Loop (aCb C s (s.length:Int)) (0,ar,bZ)).bind (un fun mw=>un fun pr=>un fun oJ zy=>
  some [dB oJ,bn zy])
theorem aCf{s bZ ar:LV}{r:Option LV}(h:aCe CC s bZ ar=r):CC YH [bn s,bn bZ,dB ar]=r:=aM (aL (aCd CC) ag) h
noncomputable def adq(C:ab)(k':Int)(t6:LV)(t7 t8 part:Int)(dP:List UInt8)(jB:Bool)(aG bY:LV):bz (Int×(List UInt8)×Bool×LV×LV) (Int×Bool×(List UInt8)×Bool×LV×LV):=fun kn kr=>
 bif part !=0 then
  (C 77 [.int .u64 part]).bind fun r2=>
  (C 71 [vI (wI ((wI (k'*2^(min (6:Int).toNat kI)))+(gI r2))),.str dP,.bool jB,dB aG,dB bY]).bind fun r3=>
  kn (wU ((bU part&&&bU (wU (part-1))).toNat),(gS r3),(uh r3),(lW r3),(KD r3))
 else
  kr (part,part !=0,dP,jB,aG,bY)
noncomputable def aCg(C:ab)(k':Int)(t6:LV)(t7 t8:Int):=un fun part=>un fun dP=>un fun jB=>un fun aG bY=>adq C k' t6 t7 t8 part dP jB aG bY bD bE
noncomputable def adr(C:ab)(t6:LV)(t7 t8:Int)(dP:List UInt8)(jB:Bool)(aG bY:LV):bz (Int×(List UInt8)×Bool×LV×LV) (Int×Bool×(List UInt8)×Bool×LV×LV):=fun kn kr=>
 bif decide (t8<t7)then
  (idx t6 t8).bind fun x1=>
  (Loop (aCg C t8 t6 t7 t8) (x1.toInt,dP,jB,aG,bY)).bind (un fun zJ=>un fun kD=>un fun zK=>un fun D4=>un fun zH zI=>
   kn (wI (t8+1),zK,D4,zH,zI))
 else
  kr (t8,decide (t8<t7),dP,jB,aG,bY)
noncomputable def aCh(C:ab)(t6:LV)(t7:Int):=un fun t8=>un fun dP=>un fun jB=>un fun aG bY=>adr C t6 t7 t8 dP jB aG bY bD bE
noncomputable def ane(C:ab):cm:=bC 49 abM (aD 9 482) [[1,0,3,4,5,0,0,0,0,0]] (@adq C) (bC 17 abN (aD 7 124) [[1,2,0,0,0,0,0,0]] (@adr C) aO)
theorem aCi(C:ab):aP C (ane C) 206 (Lp [1,0,0,1,1,0,0,1,0,0] 206):=bB abM (aD 9 482) [[1,0,3,4,5,0,0,0,0,0]] (@adq C) (ay ag)
theorem aCj(C:ab):aP C (ane C) 206 (Lp [1,0,0] 206):=bB abN (aD 7 124) [[1,2,0,0,0,0,0,0]] (@adr C) (ay (aL (aCi C) ag))
noncomputable def aCk(C:ab)(s:LV)(dP:List UInt8)(jB:Bool)(aG bY:LV):Option LV:=
 (Loop (aCh C s (s.length:Int)) (0,dP,jB,aG,bY)).bind (un fun xH=>un fun zt=>un fun adl=>un fun NI=>un fun th zq=>
  some [.str adl,.bool NI,dB th,dB zq])
theorem aCl{s:LV}{dP:List UInt8}{jB:Bool}{aG bY:LV}{r:Option LV}(h:aCk CC s dP jB aG bY=r):CC Si [bn s,.str dP,.bool jB,dB aG,dB bY]=r:=aM (aL (aCj CC) ag) h
noncomputable def ads(C:ab)(k':Int)(t6:LV)(t7 t8 part:Int)(dP:Bool)(aG bY:LV):bz (Int×Bool×LV×LV) (Int×Bool×Bool×LV×LV):=fun kn kr=>
 bif part !=0 then
  (C 77 [.int .u64 part]).bind fun r2=>
  (C 72 [vI (wI ((wI (k'*2^(min (6:Int).toNat kI)))+(gI r2))),.bool dP,bn bY,dB aG]).bind fun r3=>
  kn (wU ((bU part&&&bU (wU (part-1))).toNat),(gB r3),(eu r3),(lW r3))
 else
  kr (part,part !=0,dP,aG,bY)
noncomputable def aCm(C:ab)(k':Int)(t6:LV)(t7 t8:Int):=un fun part=>un fun dP=>un fun aG bY=>ads C k' t6 t7 t8 part dP aG bY bD bE
noncomputable def adt(C:ab)(t6:LV)(t7 t8:Int)(dP:Bool)(aG bY:LV):bz (Int×Bool×LV×LV) (Int×Bool×Bool×LV×LV):=fun kn kr=>
 bif decide (t8<t7)then
  (idx t6 t8).bind fun x1=>
  (Loop (aCm C t8 t6 t7 t8) (x1.toInt,dP,aG,bY)).bind (un fun zJ=>un fun kD=>un fun zK=>un fun DG zH=>
   kn (wI (t8+1),zK,DG,zH))
 else
  kr (t8,decide (t8<t7),dP,aG,bY)
noncomputable def aCn(C:ab)(t6:LV)(t7:Int):=un fun t8=>un fun dP=>un fun aG bY=>adt C t6 t7 t8 dP aG bY bD bE
noncomputable def anf(C:ab):cm:=bC 49 abO (aD 8 226) [[1,0,3,4,5,0,0,0,0]] (@ads C) (bC 17 abP (aD 6 60) [[1,2,0,0,0,0,0]] (@adt C) aO)
theorem aCo(C:ab):aP C (anf C) 207 (Lp [1,0,0,1,1,0,0,1,0,0] 207):=bB abO (aD 8 226) [[1,0,3,4,5,0,0,0,0]] (@ads C) (ay ag)
theorem aCp(C:ab):aP C (anf C) 207 (Lp [1,0,0] 207):=bB abP (aD 6 60) [[1,2,0,0,0,0,0]] (@adt C) (ay (aL (aCo C) ag))
noncomputable def aCq(C:ab)(s:LV)(dP:Bool)(ar aG:LV):Option LV:=
 (Loop (aCn C s (s.length:Int)) (0,dP,aG,ar)).bind (un fun pr=>un fun xH=>un fun adk=>un fun aCr ur=>
  some [.bool adk,dB aCr,bn ur])
theorem aCs{s:LV}{dP:Bool}{ar aG:LV}{r:Option LV}(h:aCq CC s dP ar aG=r):CC YI [bn s,.bool dP,bn ar,dB aG]=r:=aM (aL (aCp CC) ag) h
noncomputable def Uu(C:ab)(i:Int)(t10:Bool)(gR:List UInt8)(tm ux:Int)(vS ar:LV):eN LV:=fun kr=>
 bif t10 then
  aj ar i fun x3=>
  (C Sh [fw (i.toNat),vI i,dB ar]).bind fun r4=>
  kr (gL r4)
 else
  bif tm==3 then
  bif decide (i<(gR.length:Int))then
   (bif decide (0<=i)then(gR[i.toNat]?).map fun b=>V.int .u8 b.toNat else none).bind fun x5=>
   bif((wI (IntKind.wrap .u8 (x5.toInt-97))):Int)==ux then
   aj ar i fun x6=>
   (C Sh [fw (i.toNat),vI (wI (i+1)),dB ar]).bind fun r7=>
   kr (gL r7)
   else
   kr ar
  else
   kr ar
  else
  kr ar
noncomputable def aCt(C:ab):cm:=fK 175 Z1 [[3,4,5,6,0]] (@Uu C) aO
theorem aCu(C:ab):aP C (aCt C) 54 (Cd 10 [1,0,1,0] [1,0,1,1] 54):=fJ Z1 [[3,4,5,6,0]] (@Uu C) (ay ag) (ay ag)
noncomputable def ang(C:ab)(i:Int)(gR:List UInt8)(tm ux:Int)(vS ar:LV):Option LV:=
 (C 26 [.str gR]).bind fun r1=>
 aj ar i fun x2=>
 Uu C i (tm==2) gR tm ux vS (az ar i (bn (gL r1))) (fun(zH:LV)=>
  some [.str gR,vI tm,vI ux,cM vS,dB zH])
theorem aCv{i:Int}{gR:List UInt8}{tm ux:Int}{vS ar:LV}{r:Option LV}(h:ang CC i gR tm ux vS ar=r):CC 54 [vI i,.str gR,vI tm,vI ux,cM vS,dB ar]=r:=aM (aL (aCu CC) ag) h
noncomputable def NJ(C:ab)(i t10 cE cG:Int)(gG aG:LV)(t11:Int)(ar:LV):bz (Int×LV) (Int×Bool×LV):=fun kn kr=>
 bif decide (t11<t10)then
  bif cE==4 then
  aj ar i fun x3=>
  (ej Tryz.prog 74 ar [(i.toNat,0)]).bind fun x4=>
  bif(decide (0<=t11))&&(decide (t11<(x4.toList.length:Int)))then
   (ej Tryz.prog 74 ar [(i.toNat,0)]).bind fun x5=>
   (x5.toList[t11.toNat]?).bind fun x6=>
   aj aG i fun x7=>
   (ej Tryz.prog 74 aG [(i.toNat,0)]).bind fun x8=>
   bif(decide (0<=t11))&&(decide (t11<(x8.toList.length:Int)))then
   (ej Tryz.prog 74 aG [(i.toNat,0)]).bind fun x9=>
   (x9.toList[t11.toNat]?).bind fun kY=>
   (ej Tryz.prog 74 ar [(i.toNat,0)]).bind fun iO=>
   bif(decide (0<=t11))&&(decide (t11<(iO.toList.length:Int)))then
    (ej Tryz.prog 74 ar [(i.toNat,0)]).bind fun kE=>
    (kE.toList[t11.toNat]?).bind fun qd=>
    kn (wI (t11+1),setRow Tryz.prog (az kE.toList t11 (.int .u64 (wU ((bU x6.toInt|||bU kY.toInt).toNat)))) 74 ar [(i.toNat,0)])
   else none
   else none
  else none
  else
  aj ar i fun oI=>
  (ej Tryz.prog 74 ar [(i.toNat,0)]).bind fun vU=>
  bif(decide (0<=t11))&&(decide (t11<(vU.toList.length:Int)))then
   (ej Tryz.prog 74 ar [(i.toNat,0)]).bind fun xQ=>
   (xQ.toList[t11.toNat]?).bind fun qS=>
   aj aG i fun oH=>
   (ej Tryz.prog 74 aG [(i.toNat,0)]).bind fun uu=>
   bif(decide (0<=t11))&&(decide (t11<(uu.toList.length:Int)))then
   (ej Tryz.prog 74 aG [(i.toNat,0)]).bind fun xI=>
   (xI.toList[t11.toNat]?).bind fun zp=>
   (ej Tryz.prog 74 ar [(i.toNat,0)]).bind fun Gw=>
   bif(decide (0<=t11))&&(decide (t11<(Gw.toList.length:Int)))then
    (ej Tryz.prog 74 ar [(i.toNat,0)]).bind fun vR=>
    (vR.toList[t11.toNat]?).bind fun DQ=>
    kn (wI (t11+1),setRow Tryz.prog (az vR.toList t11 (.int .u64 (wU ((bU qS.toInt&&&bU zp.toInt).toNat)))) 74 ar [(i.toNat,0)])
   else none
   else none
  else none
 else
  kr (t11,decide (t11<t10),ar)
noncomputable def NK(C:ab)(i t10 cE cG:Int)(gG aG:LV):=un fun t11 ar=>NJ C i t10 cE cG gG aG t11 ar bD bE
noncomputable def aCw(C:ab):cm:=bC 17 aan (aD 8 68) [[1,2,0,0,4,5,6,0,8]] (@NJ C) aO
theorem aCx(C:ab):aP C (aCw C) 75 (Lp [1,0,0] 75):=bB aan (aD 8 68) [[1,2,0,0,4,5,6,0,8]] (@NJ C) (ay ag)
noncomputable def anh(C:ab)(i cE cG:Int)(gG ar aG:LV):Option LV:=
 aj ar i fun x1=>
 (ej Tryz.prog 74 ar [(i.toNat,0)]).bind fun x2=>
 (Loop (NK C i (x2.toList.length:Int) cE cG gG aG) (0,ar)).bind (un fun Tl=>un fun aco L7=>
  some [vI cE,vI cG,cM gG,dB L7,dB aG])
theorem aCy{i cE cG:Int}{gG ar aG:LV}{r:Option LV}(h:anh CC i cE cG gG ar aG=r):CC 75 [vI i,vI cE,vI cG,cM gG,dB ar,dB aG]=r:=aM (aL (aCx CC) ag) h
noncomputable def ani(C:ab)(i:Int)(bZ ar:LV):Option LV:=
 aj ar i fun x1=>
 (ej Tryz.prog 74 ar [(i.toNat,0)]).bind fun x2=>
 (C 69 [bn x2.toList,vI i,bn bZ]).bind fun r3=>
 some [dB ar,bn (gL r3)]
theorem aCz{i:Int}{bZ ar:LV}{r:Option LV}(h:ani CC i bZ ar=r):CC 68 [vI i,bn bZ,dB ar]=r:=aM (L:=aO) ag h
noncomputable def anj(C:ab)(i:Int)(gR:List UInt8)(rU:Bool)(aG bY:LV):Option LV:=
 (C 26 [.str gR]).bind fun r1=>
 aj aG i fun x2=>
 (ej Tryz.prog 74 aG [(i.toNat,0)]).bind fun x3=>
 (C YI [bn x3.toList,.bool rU,bn (gL r1),dB bY]).bind fun r4=>
 aj aG i fun x5=>
 some [.str gR,.bool (gB r4),dB (az aG i (bn (lW r4))),dB (eu r4)]
theorem aCA{i:Int}{gR:List UInt8}{rU:Bool}{aG bY:LV}{r:Option LV}(h:anj CC i gR rU aG bY=r):CC 71 [vI i,.str gR,.bool rU,dB aG,dB bY]=r:=aM (L:=aO) ag h
noncomputable def ank(C:ab)(j:Int)(gR:Bool)(ar aG:LV):Option LV:=
 bif !gR then
  aj aG j fun x1=>
  (ej Tryz.prog 74 aG [(j.toNat,0)]).bind fun x2=>
  (C 69 [bn x2.toList,vI j,bn ar]).bind fun r3=>
  some [.bool gR,dB aG,bn (gL r3)]
 else
  (C 29 [bn ar,vI j]).bind fun r4=>
  bif !(gB r4)then
  aj aG j fun x5=>
  (ej Tryz.prog 74 aG [(j.toNat,0)]).bind fun x6=>
  (C 69 [bn x6.toList,vI j,bn ar]).bind fun r7=>
  some [.bool gR,dB aG,bn (gL r7)]
  else
  some [.bool gR,dB aG,bn ar]
theorem aCB{j:Int}{gR:Bool}{ar aG:LV}{r:Option LV}(h:ank CC j gR ar aG=r):CC 72 [vI j,.bool gR,bn ar,dB aG]=r:=aM (L:=aO) ag h
noncomputable def NL(C:ab)(i:Int)(gR:List UInt8)(nH:Int)(ar:LV)(k':Int)(NM:LV):bz (Int×LV) (Int×Bool×LV):=fun kn kr=>
 bif decide (k'<=nH)then
  aj ar i fun x2=>
  (ej Tryz.prog 74 ar [(i.toNat,0)]).bind fun x3=>
  bif(decide (0<=k'))&&(decide (k'<(x3.toList.length:Int)))then
  (ej Tryz.prog 74 ar [(i.toNat,0)]).bind fun x4=>
  (x4.toList[k'.toNat]?).bind fun x5=>
  aj NM k' fun x6=>
  kn (wI (k'+1),az NM k' (.int .u64 (wU (bU 18446744073709551615^^^bU x5.toInt).toNat)))
  else none
 else
  kr (k',decide (k'<=nH),NM)
noncomputable def NN(C:ab)(i:Int)(gR:List UInt8)(nH:Int)(ar:LV):=un fun k' NM=>NL C i gR nH ar k' NM bD bE
noncomputable def aCC(C:ab):cm:=bC 33 aao (aD 6 34) [[1,0,0,3,4,5,0]] (@NL C) aO
theorem aCD(C:ab):aP C (aCC C) 76 (Lp [1,0,1,0,0] 76):=bB aao (aD 6 34) [[1,0,0,3,4,5,0]] (@NL C) (ay ag)
noncomputable def anl(C:ab)(i:Int)(gR:List UInt8)(nH:Int)(ar:LV):Option LV:=
 (C 26 [.str gR]).bind fun r1=>
 (Loop (NN C i gR nH ar) (Int.fdiv i (2^(min (6:Int).toNat kI)),(gL r1))).bind (un fun sh=>un fun mw NO=>
  aj NO (Int.fdiv i (2^(min (6:Int).toNat kI))) fun kY=>
  bif decide (0<=(wI ((bI i&&&bI 63).toNat)))then
   aj NO (Int.fdiv i (2^(min (6:Int).toNat kI))) fun iO=>
   aj (az NO (Int.fdiv i (2^(min (6:Int).toNat kI))) (.int .u64 (wU ((bU kY.toInt&&&bU (wU (18446744073709551615*2^(min (wI ((bI i&&&bI 63).toNat)).toNat kU)))).toNat)))) nH fun kE=>
   bif decide (0<=(wI (63-(wI ((bI (gR.length:Int)&&&bI 63).toNat)))))then
   aj (az NO (Int.fdiv i (2^(min (6:Int).toNat kI))) (.int .u64 (wU ((bU kY.toInt&&&bU (wU (18446744073709551615*2^(min (wI ((bI i&&&bI 63).toNat)).toNat kU)))).toNat)))) nH fun qd=>
   aj ar i fun oI=>
   some [.str gR,vI nH,dB (az ar i (bn (az (az NO (Int.fdiv i (2^(min (6:Int).toNat kI))) (.int .u64 (wU ((bU kY.toInt&&&bU (wU (18446744073709551615*2^(min (wI ((bI i&&&bI 63).toNat)).toNat kU)))).toNat)))) nH (.int .u64 (wU ((bU kE.toInt&&&bU (Int.fdiv 18446744073709551615 (2^(min (wI (63-(wI ((bI (gR.length:Int)&&&bI 63).toNat)))).toNat kU)))).toNat))))))]
   else none
  else none)
theorem aCE{i:Int}{gR:List UInt8}{nH:Int}{ar:LV}{r:Option LV}(h:anl CC i gR nH ar=r):CC 76 [vI i,.str gR,vI nH,dB ar]=r:=aM (aL (aCD CC) ag) h
noncomputable def anm(C:ab)(cf da:Int)(bS:LV):Option LV:=
 some [.bool (cf==1)]
theorem aCF{cf da:Int}{bS:LV}{r:Option LV}(h:anm CC cf da bS=r):CC 94 [vI cf,vI da,cM bS]=r:=aM (L:=aO) ag h
noncomputable def ano(C:ab)(cf da:Int)(bS:LV):Option LV:=
 bif cf==8 then
  bif(bS.length:Int)==1 then
  (bS[0]?).bind fun x1=>
  (C 94 [vI ((x1.cell 0).toInt),vI ((x1.cell 1).toInt),cM ((x1.cell 2).toList)]).bind fun r2=>
  some [.bool (gB r2)]
  else
  some [.bool false]
 else
  some [.bool false]
theorem aCG{cf da:Int}{bS:LV}{r:Option LV}(h:ano CC cf da bS=r):CC 70 [vI cf,vI da,cM bS]=r:=aM (L:=aO) ag h
noncomputable abbrev D5(cf:Int)(bS:LV)(C:ab)(m:List UInt8)(eV:LV)(da:Int):Option LV:=
 bif(cf:Int)==8 then
  (bS[0]?).bind fun x5=>
  (C 52 [.str m,vI ((x5.cell 0).toInt),vI ((x5.cell 1).toInt),cM ((x5.cell 2).toList),bn eV]).bind fun r6=>
  some [dB (gL r6)]
 else
  bif(decide (0<=(wI ((m.length:Int)+1))))&&((decide ((wI ((m.length:Int)+1))<=(wI ((m.length:Int)+1))))&&(Nat.ble (((wI ((m.length:Int)+1):Int).toNat)*24) br))then
  (C 53 [bn eV,.str m,vI cf,vI da,cM bS,dB (List.replicate ((wI ((m.length:Int)+1):Int).toNat) (bn ([]:LV)))]).bind fun r7=>
  some [dB (gL ((r7.drop 1).drop 3))]
  else none
noncomputable def G3(C:ab)(m:List UInt8)(cf da:Int)(bS eV:LV):Option LV:=
 bif cf==5 then
  (C 49 [.str m,cM bS,bn eV]).bind fun r1=>
  some [dB (gL r1)]
 else
  bif cf==7 then
  (bS[0]?).bind fun x2=>
  (C 50 [.str m,vI ((x2.cell 0).toInt),vI ((x2.cell 1).toInt),cM ((x2.cell 2).toList),bn eV]).bind fun r3=>
  some [dB (gL r3)]
  else
  bif cf==4 then
   bif cf==4 then
   (C 51 [.str m,vI cf,vI da,cM bS,bn eV]).bind fun r4=>
   some [dB (gL r4)]
   else
   D5 cf bS C m eV da
  else
   bif cf==6 then
   (C 51 [.str m,vI cf,vI da,cM bS,bn eV]).bind fun r8=>
   some [dB (gL r8)]
   else
   D5 cf bS C m eV da
theorem NQ{m:List UInt8}{cf da:Int}{bS eV:LV}{r:Option LV}(h:G3 CC m cf da bS eV=r):CC 28 [.str m,vI cf,vI da,cM bS,bn eV]=r:=aM (L:=aO) ag h
noncomputable def G4(C:ab)(eV t20:LV)(t21 t22:Int)(ms:List UInt8)(bZ:LV):bz (Int×(List UInt8)×LV) (Int×Bool×(List UInt8)×LV):=fun kn kr=>
 bif decide (t22<t21)then
  (idx t20 t22).bind fun x3=>
  (C 26 [.str ms]).bind fun r4=>
  (C YH [bn eV,bn (gL r4),dB bZ]).bind fun r5=>
  (C 28 [.str ms,vI ((x3.cell 0).toInt),vI ((x3.cell 1).toInt),cM ((x3.cell 2).toList),bn (eu r5)]).bind fun r6=>
  bif(((x3.cell 0).toInt):Int)==7 then
  (C Si [bn eV,.str ms,.bool true,dB (gL r5),dB (gL r6)]).bind fun r7=>
  kn (wI (t22+1),(gS r7),(lW r7))
  else
  (C 70 [vI ((x3.cell 0).toInt),vI ((x3.cell 1).toInt),cM ((x3.cell 2).toList)]).bind fun r8=>
  (C Si [bn eV,.str ms,.bool (gB r8),dB (gL r5),dB (gL r6)]).bind fun r9=>
  kn (wI (t22+1),(gS r9),(lW r9))
 else
  kr (t22,decide (t22<t21),ms,bZ)
noncomputable def G5(C:ab)(eV t20:LV)(t21:Int):=un fun t22=>un fun ms bZ=>G4 C eV t20 t21 t22 ms bZ bD bE
noncomputable def aCH(C:ab):cm:=bC 49 ZX (aD 6 56) [[1,2,3,0,0,0,0]] (@G4 C) aO
theorem aCI(C:ab):aP C (aCH C) 49 (Lp [1,1,0,1,0,0] 49):=bB ZX (aD 6 56) [[1,2,3,0,0,0,0]] (@G4 C) (ay ag)
noncomputable def anp(C:ab)(m:List UInt8)(kids eV:LV):Option LV:=
 (kids[0]?).bind fun x1=>
 (C 28 [.str m,vI ((x1.cell 0).toInt),vI ((x1.cell 1).toInt),cM ((x1.cell 2).toList),bn eV]).bind fun r2=>
 bif decide (1<=(kids.length:Int))then
  (Loop (G5 C eV ((kids.drop 1).take (kids.length-1)) (((kids.drop 1).take (kids.length-1)).length:Int)) (0,m,(gL r2))).bind (un fun xH=>un fun zt=>un fun aKF ur=>
   some [dB ur])
 else none
theorem aCJ{m:List UInt8}{kids eV:LV}{r:Option LV}(h:anp CC m kids eV=r):CC 49 [.str m,cM kids,bn eV]=r:=aM (aL (aCI CC) ag) h
noncomputable def NR(C:ab)(eV t20:LV)(t21:Int)(ms:List UInt8)(t22 xO xP:Int)(Bp ar:LV):bz (Int×Int×Int×LV×LV) (Int×Bool×Int×Int×LV×LV):=fun kn kr=>
 bif decide (t22<t21)then
  (idx t20 t22).bind fun x3=>
  (C 28 [.str ms,vI ((x3.cell 0).toInt),vI ((x3.cell 1).toInt),cM ((x3.cell 2).toList),bn eV]).bind fun r4=>
  (C YG [bn eV,vI xO,vI xP,cM Bp,dB ar,dB (gL r4)]).bind fun r5=>
  kn (wI (t22+1),(gI r5),(bM r5),(lW r5),(lX r5))
 else
  kr (t22,decide (t22<t21),xO,xP,Bp,ar)
noncomputable def NT(C:ab)(eV t20:LV)(t21:Int)(ms:List UInt8):=un fun t22=>un fun xO=>un fun xP=>un fun Bp ar=>NR C eV t20 t21 ms t22 xO xP Bp ar bD bE
noncomputable def aCK(C:ab):cm:=bC 49 ZY (aD 9 488) [[1,2,3,0,0,5,0,0,0,0]] (@NR C) aO
theorem aCL(C:ab):aP C (aCK C) 51 (Lp [1,1,0,1,0,0] 51):=bB ZY (aD 9 488) [[1,2,3,0,0,5,0,0,0,0]] (@NR C) (ay ag)
noncomputable def anq(C:ab)(m:List UInt8)(cf da:Int)(bS eV:LV):Option LV:=
 (bS[0]?).bind fun x1=>
 (C 28 [.str m,vI ((x1.cell 0).toInt),vI ((x1.cell 1).toInt),cM ((x1.cell 2).toList),bn eV]).bind fun r2=>
 bif decide (1<=(bS.length:Int))then
  (Loop (NT C eV ((bS.drop 1).take (bS.length-1)) (((bS.drop 1).take (bS.length-1)).length:Int) m) (0,cf,da,bS,(gL r2))).bind (un fun pq=>un fun lA=>un fun aKG=>un fun aKH=>un fun aKI zy=>
   some [dB zy])
 else none
theorem aCM{m:List UInt8}{cf da:Int}{bS eV:LV}{r:Option LV}(h:anq CC m cf da bS eV=r):CC 51 [.str m,vI cf,vI da,cM bS,bn eV]=r:=aM (aL (aCL CC) ag) h
noncomputable def anr(C:ab)(m:List UInt8)(Uv Uw:Int)(Ux eV:LV):Option LV:=
 (C 28 [.str m,vI Uv,vI Uw,cM Ux,bn eV]).bind fun r1=>
 (C YF [bn eV,.str m,vI (Int.fdiv (m.length:Int) (2^(min (6:Int).toNat kI))),dB (gL r1)]).bind fun r2=>
 some [dB (lW r2)]
theorem aCN{m:List UInt8}{Uv Uw:Int}{Ux eV:LV}{r:Option LV}(h:anr CC m Uv Uw Ux eV=r):CC 52 [.str m,vI Uv,vI Uw,cM Ux,bn eV]=r:=aM (L:=aO) ag h
noncomputable def ans(C:ab)(cf da:Int)(bS:LV):Option LV:=
 (C 48 [vI cf,vI da,cM bS,vI 6]).bind fun r1=>
 some [.bool (((gI r1):Int)==0)]
theorem aCO{cf da:Int}{bS:LV}{r:Option LV}(h:ans CC cf da bS=r):CC 24 [vI cf,vI da,cM bS]=r:=aM (L:=aO) ag h
noncomputable def ant(C:ab)(cf da:Int)(bS:LV)(w:List UInt8):Option LV:=
 (C 24 [vI cf,vI da,cM bS]).bind fun r1=>
 bif !(gB r1)then
  some [.bool false]
 else
  (C 18 [.str w,vI 6]).bind fun r2=>
  bif !(gB r2)then
  some [.bool false]
  else
  (C 26 [.str w]).bind fun r3=>
  (C 27 [vI 0,bn (gL r3)]).bind fun r4=>
  (C 28 [.str w,vI cf,vI da,cM bS,bn (gL r4)]).bind fun r5=>
  bif decide (0<((gL r5).length:Int))then
   ((gL r5)[0]?).bind fun x6=>
   (ej Tryz.prog 74 (gL r5) [(0,0)]).bind fun x7=>
   (C 29 [bn x7.toList,vI (w.length:Int)]).bind fun r8=>
   some [.bool (gB r8)]
  else none
theorem aCP{cf da:Int}{bS:LV}{w:List UInt8}{r:Option LV}(h:ant CC cf da bS w=r):CC 11 [vI cf,vI da,cM bS,.str w]=r:=aM (L:=aO) ag h
noncomputable def G6(C:ab)(i:Int)(t33:Bool)(eH:LV)(eO:Int)(xU:LV)(bd aY aW aS:Int):eN LV:=fun kr=>
 bif t33 then
  aj xU aW fun x5=>
  kr (az xU aW (.bool true))
 else
  kr xU
noncomputable def NU(C:ab)(eH:LV)(eO i:Int)(xU:LV):bz (Int×LV) (Int×Bool×LV):=fun kn kr=>
 bif decide (i>=0)then
  aj xU i fun x2=>
  bif !x2.toBool then
  kn (wI (i-1),xU)
  else
  (idx eH i).bind fun x3=>
  (C 38 [vI ((x3.cell 0).toInt)]).bind fun r4=>
  G6 C i (decide (((gI r4):Int)>=1)) eH eO xU ((x3.cell 0).toInt) ((x3.cell 1).toInt) ((x3.cell 2).toInt) ((x3.cell 3).toInt) (fun(adu:LV)=>
   (C 38 [vI ((x3.cell 0).toInt)]).bind fun r7=>
   bif((gI r7):Int)==2 then
    aj adu ((x3.cell 3).toInt) fun x8=>
    kn (wI (i-1),az adu ((x3.cell 3).toInt) (.bool true))
   else
    kn (wI (i-1),adu))
 else
  kr (i,decide (i>=0),xU)
noncomputable def Uy(C:ab)(eH:LV)(eO:Int):=un fun i xU=>NU C eH eO i xU bD bE
noncomputable def anu(C:ab):cm:=fK 543 Zu [[1,3,4,0,6,7,8,9]] (@G6 C) (bC 65 Zv [J1,J0,J0,J1] [[0,0,2,3,0]] (@NU C) aO)
theorem aCQ(C:ab):aP C (anu C) 19 (Cd 33 [1,1,1,0,1,0,0,1,0,0,1,1,0,1,0] [1,1,1,0,1,0,0,1,0,0,1,1,0,1,1] 19):=fJ Zu [[1,3,4,0,6,7,8,9]] (@G6 C) (ay ag) (ay ag)
theorem aCR(C:ab):aP C (anu C) 19 (Lp [1,1,1,0,1,0,0] 19):=bB Zv [J1,J0,J0,J1] [[0,0,2,3,0]] (@NU C) (ay (aL (aCQ C) ag))
noncomputable def anv(C:ab)(cR:LV)(dz:Int):Option LV:=
 bif(decide (0<=(cR.length:Int)))&&((decide ((cR.length:Int)<=(cR.length:Int)))&&(Nat.ble (((cR.length:Int).toNat)*1) br))then
  aj (List.replicate ((cR.length:Int).toNat) (V.bool false)) dz fun x1=>
  (Loop (Uy C cR dz) (dz,az (List.replicate ((cR.length:Int).toNat) (V.bool false)) dz (.bool true))).bind (un fun i_9=>un fun xH aCS=>
   some [aB aCS])
 else none
theorem aCT{cR:LV}{dz:Int}{r:Option LV}(h:anv CC cR dz=r):CC 19 [fU cR,vI dz]=r:=aM (aL (aCR CC) ag) h
noncomputable def aCU(C:ab)(op:Int):Option LV:=
 bif op==1 then
  some [vI 1]
 else
  bif op==2 then
  some [vI 2]
  else
  bif op==3 then
   some [vI 3]
  else
   bif op==5 then
   some [vI 4]
   else
   bif op==6 then
    some [vI 6]
   else
    bif op==7 then
    some [vI 5]
    else
    some [vI 8]
theorem aCV{op:Int}{r:Option LV}(h:aCU CC op=r):CC 47 [vI op]=r:=aM (L:=aO) ag h
noncomputable def D6(C:ab)(nodes:LV)(t19:Bool)(qh qi bd aY aW aS xO xP:Int)(ar aG:LV):eN LV:=fun kr=>
 bif t19 then
  kr ([.agg [vI 1,vI 0,cM ([]:LV)]]:LV)
 else
  kr aG
noncomputable def D7(C:ab)(nodes:LV)(t26:Bool)(qh qi bd aY aW aS xO xP:Int)(ar aG:LV):eN LV:=fun kr=>
 bif t26 then
  (C 23 [fU nodes,vI aW]).bind fun r5=>
  bif Nat.ble ((aG.length+([.agg [vI (gI r5),vI (bM r5),cM (fV r5)]]:LV).length)*40) br then
  kr (aG++([.agg [vI (gI r5),vI (bM r5),cM (fV r5)]]:LV))
  else none
 else
  kr aG
noncomputable def anw(C:ab):cm:=fK 319 ZG [[1,3,4,5,6,7,8,9,10,11,0]] (@D6 C) (fK 431 ZH [[1,3,4,5,6,7,8,9,10,11,0]] (@D7 C) aO)
theorem aCW(C:ab):aP C (anw C) 23 (Cd 19 [1,1,1,0,1,0] [1,1,1,0,1,1] 23):=fJ ZG [[1,3,4,5,6,7,8,9,10,11,0]] (@D6 C) (ay ag) (ay ag)
theorem aCX(C:ab):aP C (anw C) 23 (Cd 26 [1,1,1,1,0,1,0] [1,1,1,1,0,1,1] 23):=fJ ZH [[1,3,4,5,6,7,8,9,10,11,0]] (@D7 C) (ay ag) (ay ag)
noncomputable def G7(C:ab)(nodes:LV)(i:Int):Option LV:=
 (idx nodes i).bind fun x1=>
 (C 47 [vI ((x1.cell 0).toInt)]).bind fun r2=>
 D6 C nodes ((((x1.cell 0).toInt):Int)==4) 0 0 ((x1.cell 0).toInt) ((x1.cell 1).toInt) ((x1.cell 2).toInt) ((x1.cell 3).toInt) (gI r2) ((x1.cell 1).toInt) ([]:LV) ([]:LV) (fun(b_3:LV)=>
  (C 38 [vI ((x1.cell 0).toInt)]).bind fun r4=>
  D7 C nodes (decide (((gI r4):Int)>=1)) 0 0 ((x1.cell 0).toInt) ((x1.cell 1).toInt) ((x1.cell 2).toInt) ((x1.cell 3).toInt) (gI r2) ((x1.cell 1).toInt) ([]:LV) b_3 (fun(zu:LV)=>
   (C 38 [vI ((x1.cell 0).toInt)]).bind fun r7=>
   bif((gI r7):Int)==2 then
    (C 23 [fU nodes,vI ((x1.cell 3).toInt)]).bind fun r8=>
    bif Nat.ble ((zu.length+([.agg [vI (gI r8),vI (bM r8),cM (fV r8)]]:LV).length)*40) br then
    some [vI (gI r2),vI ((x1.cell 1).toInt),cM (zu++([.agg [vI (gI r8),vI (bM r8),cM (fV r8)]]:LV))]
    else none
   else
    some [vI (gI r2),vI ((x1.cell 1).toInt),cM zu]))
theorem aCY{nodes:LV}{i:Int}{r:Option LV}(h:G7 CC nodes i=r):CC 23 [fU nodes,vI i]=r:=aM (aL (aCW CC) (aL (aCX CC) ag)) h
noncomputable def NV(C:ab)(i:Int)(t21:LV)(t22 t23:Int)(t36:Bool)(eH:LV)(eO:Int)(eI gH:LV)(bd aY aW aS:Int):eN (LV×LV):=fun kr=>
 bif t36 then
  aj eI i fun x4=>
  aj gH i fun x5=>
  kr (az eI i (vI 2),az gH i (vI 2))
 else
  kr (eI,gH)
noncomputable def NW(C:ab)(i:Int)(t21:LV)(t22 t23:Int)(t46:Bool)(eH:LV)(eO:Int)(eI gH:LV)(bd aY aW aS:Int):eN (LV×LV):=fun kr=>
 bif t46 then
  aj eI i fun x9=>
  aj eI aW fun kY=>
  aj eI i fun iO=>
  aj gH aW fun kE=>
  aj gH i fun qd=>
  kr (az eI i (vI (wI (x9.toInt+kY.toInt))),az gH i (vI (wI (kE.toInt+1))))
 else
  kr (eI,gH)
noncomputable def NX(C:ab)(i:Int)(t21:LV)(t22 t23:Int)(t70:Bool)(eH:LV)(eO:Int)(eI gH:LV)(bd aY aW aS:Int):eN (LV×LV):=fun kr=>
 bif t70 then
  aj eI i fun qS=>
  aj eI aS fun oH=>
  aj eI i fun uu=>
  aj gH i fun xI=>
  aj gH aS fun zp=>
  aj gH i fun Gw=>
  kr (az eI i (vI (wI (qS.toInt+oH.toInt))),az gH i (vI (if(wI (zp.toInt+1))>xI.toInt then(wI (zp.toInt+1))else xI.toInt)))
 else
  kr (eI,gH)
noncomputable def NY(C:ab)(t21:LV)(t22:Int)(eH:LV)(eO t23:Int)(eI gH:LV):bz (Int×LV×LV) (Int×Bool×LV×LV):=fun kn kr=>
 bif decide (t23<t22)then
  (idx t21 t23).bind fun x1=>
  aj eI t23 fun x2=>
  aj gH t23 fun x3=>
  NV C t23 t21 t22 t23 ((((x1.cell 0).toInt):Int)==4) eH eO (az eI t23 (vI 1)) (az gH t23 (vI 1)) ((x1.cell 0).toInt) ((x1.cell 1).toInt) ((x1.cell 2).toInt) ((x1.cell 3).toInt) (un fun aCZ aC0=>
   (C 38 [vI ((x1.cell 0).toInt)]).bind fun r8=>
   NW C t23 t21 t22 t23 (decide (((gI r8):Int)>=1)) eH eO aCZ aC0 ((x1.cell 0).toInt) ((x1.cell 1).toInt) ((x1.cell 2).toInt) ((x1.cell 3).toInt) (un fun aC1 aC2=>
    (C 38 [vI ((x1.cell 0).toInt)]).bind fun xJ=>
    NX C t23 t21 t22 t23 (((gI xJ):Int)==2) eH eO aC1 aC2 ((x1.cell 0).toInt) ((x1.cell 1).toInt) ((x1.cell 2).toInt) ((x1.cell 3).toInt) (un fun adv aC3=>
     aj adv t23 fun Bn=>
     aj adv t23 fun Ma=>
     kn (wI (t23+1),az adv t23 (vI (if 401<Bn.toInt then 401 else Bn.toInt)),aC3))))
 else
  kr (t23,decide (t23<t22),eI,gH)
noncomputable def Uz(C:ab)(t21:LV)(t22:Int)(eH:LV)(eO:Int):=un fun t23=>un fun eI gH=>NY C t21 t22 eH eO t23 eI gH bD bE
noncomputable def UA(C:ab):cm:=fK 591 ZC [[1,2,3,4,6,7,0,0,10,11,12,13]] (@NV C) (fK 751 ZD [[1,2,3,4,6,7,0,0,10,11,12,13]] (@NW C) (fK 1135 ZE [[1,2,3,4,6,7,0,0]] (@NX C) (bC 65 ZF (aD 7 100) [[1,2,0,0,4,5,0,0]] (@NY C) aO)))
theorem aC4(C:ab):aP C (UA C) 22 (Cd 36 [1,1,1,0,1,0,0,1,1,0,0,1,1,0,1,0] [1,1,1,0,1,0,0,1,1,0,0,1,1,0,1,1] 22):=fJ ZC [[1,2,3,4,6,7,0,0,10,11,12,13]] (@NV C) (ay ag) (ay ag)
theorem aC5(C:ab):aP C (UA C) 22 (Cd 46 [1,1,1,0,1,0,0,1,1,0,0,1,1,1,0,1,0] [1,1,1,0,1,0,0,1,1,0,0,1,1,1,0,1,1] 22):=fJ ZD [[1,2,3,4,6,7,0,0,10,11,12,13]] (@NW C) (ay ag) (ay ag)
theorem aC6(C:ab):aP C (UA C) 22 (Cd 70 [1,1,1,0,1,0,0,1,1,0,0,1,1,1,1,0,1,0] [1,1,1,0,1,0,0,1,1,0,0,1,1,1,1,0,1,1] 22):=fJ ZE [[1,2,3,4,6,7,0,0]] (@NX C) (ay ag) (ay ag)
theorem aC7(C:ab):aP C (UA C) 22 (Lp [1,1,1,0,1,0,0] 22):=bB ZF (aD 7 100) [[1,2,0,0,4,5,0,0]] (@NY C) (ay (aL (aC4 C) (aL (aC5 C) (aL (aC6 C) ag))))
noncomputable def anx(C:ab)(cR:LV)(dz:Int):Option LV:=
 bif(decide (0<=(wI (dz+1))))&&((decide ((wI (dz+1))<=(wI (dz+1))))&&(Nat.ble (((wI (dz+1):Int).toNat)*8) br))then
  bif(decide (0<=(wI (dz+1))))&&((decide ((wI (dz+1))<=(wI (dz+1))))&&(Nat.ble (((wI (dz+1):Int).toNat)*8) br))then
  bif(decide (0<=(wI (dz+1))))&&(decide ((wI (dz+1))<=(cR.length:Int)))then
   (Loop (Uz C ((cR.drop 0).take (((wI (dz+1):Int).toNat)-0)) (((cR.drop 0).take (((wI (dz+1):Int).toNat)-0)).length:Int) cR dz) (0,List.replicate ((wI (dz+1):Int).toNat) (vI 0),List.replicate ((wI (dz+1):Int).toNat) (vI 0))).bind (un fun S6=>un fun TI=>un fun aC8 aC9=>
    aj aC8 dz fun x31=>
    aj aC9 dz fun x32=>
    some [vI x31.toInt,vI x32.toInt])
  else none
  else none
 else none
theorem aDa{cR:LV}{dz:Int}{r:Option LV}(h:anx CC cR dz=r):CC 22 [fU cR,vI dz]=r:=aM (aL (aC7 CC) ag) h
noncomputable def aDb(C:ab)(cR:LV)(dz an:Int):Option LV:=
 (C 17 [fU cR,vI dz,vI an]).bind fun r1=>
 bif((gI r1):Int) !=0 then
  some [vI 0,vI 0,vI (gI r1),cM ([]:LV)]
 else
  (C 22 [fU cR,vI dz]).bind fun r2=>
  bif decide (((gI r2):Int)>400)then
  some [vI 0,vI 0,vI 3,cM ([]:LV)]
  else
  bif decide (((bM r2):Int)>40)then
   some [vI 0,vI 0,vI 3,cM ([]:LV)]
  else
   (C 23 [fU cR,vI dz]).bind fun r3=>
   some [vI (gI r3),vI (bM r3),vI 0,cM (fV r3)]
theorem adw{cR:LV}{dz an:Int}{r:Option LV}(h:aDb CC cR dz an=r):CC 9 [fU cR,vI dz,vI an]=r:=aM (L:=aO) ag h
noncomputable def anz(C:ab)(kF kG j:Int):Option LV:=
 bif(decide (0<=(wI (Int.tdiv j 64))))&&(decide ((wI (Int.tdiv j 64))<2))then
  (([.int .u64 kF,.int .u64 kG]:LV)[0+(((wI (Int.tdiv j 64):Int).toNat)*1)]?).bind fun x1=>
  bif decide (0<=(Int.tmod j 64))then
  bif(decide (0<=(wI (Int.tdiv j 64))))&&(decide ((wI (Int.tdiv j 64))<2))then
   bif Nat.blt (0+(((wI (Int.tdiv j 64):Int).toNat)*1)) 2 then
   some [.int .u64 (bif Nat.beq (0+(((wI (Int.tdiv j 64):Int).toNat)*1)) 0 then wU ((bU x1.toInt|||bU (wU (1*2^(min (Int.tmod j 64).toNat kU)))).toNat)else kF),.int .u64 (bif Nat.beq (0+(((wI (Int.tdiv j 64):Int).toNat)*1)) 1 then wU ((bU x1.toInt|||bU (wU (1*2^(min (Int.tmod j 64).toNat kU)))).toNat)else kG)]
   else none
  else none
  else none
 else none
theorem aDc{kF kG j:Int}{r:Option LV}(h:anz CC kF kG j=r):CC 42 [.int .u64 kF,.int .u64 kG,vI j]=r:=aM (L:=aO) ag h
noncomputable def anA(C:ab)(kF kG j:Int):Option LV:=
 bif(decide (0<=(wI (Int.tdiv j 64))))&&(decide ((wI (Int.tdiv j 64))<2))then
  (([.int .u64 kF,.int .u64 kG]:LV)[0+(((wI (Int.tdiv j 64):Int).toNat)*1)]?).bind fun x1=>
  bif decide (0<=(Int.tmod j 64))then
  some [.bool (((wU ((bU (Int.fdiv x1.toInt (2^(min (Int.tmod j 64).toNat kU)))&&&bU 1).toNat)):Int)==1)]
  else none
 else none
theorem aDd{kF kG j:Int}{r:Option LV}(h:anA CC kF kG j=r):CC 21 [.int .u64 kF,.int .u64 kG,vI j]=r:=aM (L:=aO) ag h
noncomputable def anB(C:ab)(kF kG bH bJ:Int):Option LV:=
 some [.int .u64 (wU ((bU kF|||bU bH).toNat)),.int .u64 (wU ((bU kG|||bU bJ).toNat))]
theorem aDe{kF kG bH bJ:Int}{r:Option LV}(h:anB CC kF kG bH bJ=r):CC 44 [.int .u64 kF,.int .u64 kG,.int .u64 bH,.int .u64 bJ]=r:=aM (L:=aO) ag h
noncomputable def anC(C:ab)(kF kG bH bJ:Int):Option LV:=
 some [.int .u64 (wU ((bU kF&&&bU bH).toNat)),.int .u64 (wU ((bU kG&&&bU bJ).toNat))]
theorem aDf{kF kG bH bJ:Int}{r:Option LV}(h:anC CC kF kG bH bJ=r):CC 45 [.int .u64 kF,.int .u64 kG,.int .u64 bH,.int .u64 bJ]=r:=aM (L:=aO) ag h
noncomputable def anD(C:ab)(kF kG bH bJ:Int):Option LV:=
 some [.int .u64 (wU ((bU kF&&&~~~bU bH).toNat)),.int .u64 (wU ((bU kG&&&~~~bU bJ).toNat))]
theorem aDg{kF kG bH bJ:Int}{r:Option LV}(h:anD CC kF kG bH bJ=r):CC 46 [.int .u64 kF,.int .u64 kG,.int .u64 bH,.int .u64 bJ]=r:=aM (L:=aO) ag h
noncomputable def NZ(C:ab)(last qh qi j DE DF:Int):bz (Int×Int×Int) (Int×Bool×Int×Int):=fun kn kr=>
 bif decide (j<=last)then
  (C 42 [.int .u64 DE,.int .u64 DF,vI j]).bind fun r1=>
  kn (wI (j+1),(gI r1),(bM r1))
 else
  kr (j,decide (j<=last),DE,DF)
noncomputable def UB(C:ab)(last qh qi:Int):=un fun j=>un fun DE DF=>NZ C last qh qi j DE DF bD bE
noncomputable def aDh(C:ab):cm:=bC 49 ZW (aD 6 50) [[1,0,0,3,4,0,0]] (@NZ C) aO
theorem aDi(C:ab):aP C (aDh C) 43 (Lp [1,1,0,1,0,0] 43):=bB ZW (aD 6 50) [[1,0,0,3,4,0,0]] (@NZ C) (ay ag)
noncomputable def anE(C:ab)(first last:Int):Option LV:=
 (Loop (UB C last 0 0) (first,0,0)).bind (un fun j_2=>un fun ly=>un fun aDj aDk=>
  some [.int .u64 aDj,.int .u64 aDk])
theorem aDl{first last:Int}{r:Option LV}(h:anE CC first last=r):CC 43 [vI first,vI last]=r:=aM (aL (aDi CC) ag) h
noncomputable def N0(C:ab)(tables:LV)(w:List UInt8)(i t15 t16 bd aY aW aS j:Int)(ts:LV):bz (Int×LV) (Int×Bool×LV):=fun kn kr=>
 bif decide (j<=(w.length:Int))then
  (idx tables aW).bind fun Gw=>
  (idx Gw.toList i).bind fun vR=>
  (C 21 [.int .u64 ((vR.cell 0).toInt),.int .u64 ((vR.cell 1).toInt),vI j]).bind fun r24=>
  bif(gB r24)then
  aj ts i fun Bn=>
  (idx tables aS).bind fun Ma=>
  (idx Ma.toList j).bind fun x27=>
  (C 44 [.int .u64 ((Bn.cell 0).toInt),.int .u64 ((Bn.cell 1).toInt),.int .u64 ((x27.cell 0).toInt),.int .u64 ((x27.cell 1).toInt)]).bind fun Up=>
  aj ts i fun T4=>
  kn (wI (j+1),az ts i (.agg [.int .u64 (gI Up),.int .u64 (bM Up)]))
  else
  kn (wI (j+1),ts)
 else
  kr (j,decide (j<=(w.length:Int)),ts)
noncomputable def N3(C:ab)(tables:LV)(w:List UInt8)(i t15 t16 bd aY aW aS:Int):=un fun j ts=>N0 C tables w i t15 t16 bd aY aW aS j ts bD bE
noncomputable def N4(C:ab)(tables:LV)(w:List UInt8)(i t15 t16 t20:Int)(t67:Bool)(bd aY aW aS:Int)(ts:LV):eN LV:=fun kr=>
 bif t67 then
  (idx tables aW).bind fun kY=>
  (idx kY.toList i).bind fun iO=>
  (idx tables aS).bind fun kE=>
  (idx kE.toList i).bind fun qd=>
  (C 44 [.int .u64 ((iO.cell 0).toInt),.int .u64 ((iO.cell 1).toInt),.int .u64 ((qd.cell 0).toInt),.int .u64 ((qd.cell 1).toInt)]).bind fun qj=>
  aj ts i fun vU=>
  kr (az ts i (.agg [.int .u64 (gI qj),.int .u64 (bM qj)]))
 else
  bif t20==6 then
  (idx tables aW).bind fun xQ=>
  (idx xQ.toList i).bind fun qS=>
  (idx tables aS).bind fun oH=>
  (idx oH.toList i).bind fun uu=>
  (C 45 [.int .u64 ((qS.cell 0).toInt),.int .u64 ((qS.cell 1).toInt),.int .u64 ((uu.cell 0).toInt),.int .u64 ((uu.cell 1).toInt)]).bind fun Uc=>
  aj ts i fun zp=>
  kr (az ts i (.agg [.int .u64 (gI Uc),.int .u64 (bM Uc)]))
  else
  bif t20==7 then
   (Loop (N3 C tables w i t15 t16 bd aY aW aS) (i,ts)).bind (un fun aKJ=>un fun alm aDm=>
    kr aDm)
  else
   bif t20==8 then
   (C 43 [vI i,vI (w.length:Int)]).bind fun r33=>
   (idx tables aW).bind fun x34=>
   (idx x34.toList i).bind fun MK=>
   (C 46 [.int .u64 (gI r33),.int .u64 (bM r33),.int .u64 ((MK.cell 0).toInt),.int .u64 ((MK.cell 1).toInt)]).bind fun r36=>
   aj ts i fun x37=>
   kr (az ts i (.agg [.int .u64 (gI r36),.int .u64 (bM r36)]))
   else
   kr ts
noncomputable def N5(C:ab)(tables:LV)(w:List UInt8)(i t15 t16 t20:Int)(t58:Bool)(bd aY aW aS:Int)(ts:LV):eN LV:=fun kr=>
 bif t58 then
  (C 43 [vI i,vI (w.length:Int)]).bind fun r8=>
  aj ts i fun x9=>
  kr (az ts i (.agg [.int .u64 (gI r8),.int .u64 (bM r8)]))
 else
  N4 C tables w i t15 t16 t20 (t20==5) bd aY aW aS ts (fun(aDn:LV)=>
   kr aDn)
noncomputable def N6(C:ab)(tables:LV)(w:List UInt8)(i t15 t16 t20:Int)(t32:Bool)(bd aY aW aS:Int)(ts:LV):eN LV:=fun kr=>
 bif t32 then
  bif decide (i<(w.length:Int))then
  (bif decide (0<=i)then(w[i.toNat]?).map fun b=>V.int .u8 b.toNat else none).bind fun x4=>
  bif((wI (IntKind.wrap .u8 (x4.toInt-97))):Int)==aY then
   aj ts i fun x5=>
   (C 42 [.int .u64 ((x5.cell 0).toInt),.int .u64 ((x5.cell 1).toInt),vI (wI (i+1))]).bind fun r6=>
   aj ts i fun x7=>
   kr (az ts i (.agg [.int .u64 (gI r6),.int .u64 (bM r6)]))
  else
   kr ts
  else
  kr ts
 else
  N5 C tables w i t15 t16 t20 (t20==4) bd aY aW aS ts (fun(aDo:LV)=>
   kr aDo)
noncomputable def N7(C:ab)(tables:LV)(w:List UInt8)(i t15 t16 t20:Int)(t21:Bool)(bd aY aW aS:Int)(ts:LV):eN LV:=fun kr=>
 bif t21 then
  aj ts i fun x1=>
  (C 42 [.int .u64 ((x1.cell 0).toInt),.int .u64 ((x1.cell 1).toInt),vI i]).bind fun r2=>
  aj ts i fun x3=>
  kr (az ts i (.agg [.int .u64 (gI r2),.int .u64 (bM r2)]))
 else
  N6 C tables w i t15 t16 t20 (t20==3) bd aY aW aS ts (fun(aDp:LV)=>
   kr aDp)
noncomputable def N8(C:ab)(tables:LV)(w:List UInt8)(t15 bd aY aW aS t16:Int)(ts:LV):bz (Int×LV) (Int×Bool×LV):=fun kn kr=>
 bif decide (t16<t15)then
  N7 C tables w t16 t15 t16 bd (bd==2) bd aY aW aS ts (fun(aDq:LV)=>
   kn (wI (t16+1),aDq))
 else
  kr (t16,decide (t16<t15),ts)
noncomputable def UC(C:ab)(tables:LV)(w:List UInt8)(t15 bd aY aW aS:Int):=un fun t16 ts=>N8 C tables w t15 bd aY aW aS t16 ts bD bE
noncomputable def G8(C:ab):cm:=bC 305 Zw (aD 11 1032) [[1,2,3,0,5,6,0,7,8,9,10,0]] (@N0 C) (fK 1087 Zx [[1,2,4,5,8,9,10,11,0]] (@N4 C) (fK 943 Zy [[1,2,4,5,8,9,10,11,0]] (@N5 C) (fK 527 Zz [[1,2,4,5,8,9,10,11,0]] (@N6 C) (fK 351 ZA [[1,2,4,5,8,9,10,11,0]] (@N7 C) (bC 49 ZB (aD 9 264) [[1,2,3,0,0,5,6,7,8,0]] (@N8 C) aO)))))
theorem aDr(C:ab):aP C (G8 C) 20 (Lp [1,1,0,1,0,0,1,1,0,0,1,1,0,1,1,1,1,1,1,1,1,1,1,1,0,1,0,0] 20):=bB Zw (aD 11 1032) [[1,2,3,0,5,6,0,7,8,9,10,0]] (@N0 C) (ay ag)
theorem aDs(C:ab):aP C (G8 C) 20 (Cd 67 [1,1,0,1,0,0,1,1,0,0,1,1,0,1,1,1,1,1,1,1,0] [1,1,0,1,0,0,1,1,0,0,1,1,0,1,1,1,1,1,1,1,1] 20):=fJ Zx [[1,2,4,5,8,9,10,11,0]] (@N4 C) (ay ag) (ay (aL (aDr C) ag))
theorem aDt(C:ab):aP C (G8 C) 20 (Cd 58 [1,1,0,1,0,0,1,1,0,0,1,1,0,1,1,1,1,1,0] [1,1,0,1,0,0,1,1,0,0,1,1,0,1,1,1,1,1,1] 20):=fJ Zy [[1,2,4,5,8,9,10,11,0]] (@N5 C) (ay ag) (ay (aL (aDs C) ag))
theorem aDu(C:ab):aP C (G8 C) 20 (Cd 32 [1,1,0,1,0,0,1,1,0,0,1,1,0,1,1,1,0] [1,1,0,1,0,0,1,1,0,0,1,1,0,1,1,1,1] 20):=fJ Zz [[1,2,4,5,8,9,10,11,0]] (@N6 C) (ay ag) (ay (aL (aDt C) ag))
theorem aDv(C:ab):aP C (G8 C) 20 (Cd 21 [1,1,0,1,0,0,1,1,0,0,1,1,0,1,0] [1,1,0,1,0,0,1,1,0,0,1,1,0,1,1] 20):=fJ ZA [[1,2,4,5,8,9,10,11,0]] (@N7 C) (ay ag) (ay (aL (aDu C) ag))
theorem aDw(C:ab):aP C (G8 C) 20 (Lp [1,1,0,1,0,0] 20):=bB ZB (aD 9 264) [[1,2,3,0,0,5,6,7,8,0]] (@N8 C) (ay (aL (aDv C) ag))
noncomputable def anF(C:ab)(cz dc cL dh:Int)(tables:LV)(w:List UInt8):Option LV:=
 bif(decide (0<=(wI ((w.length:Int)+1))))&&((decide ((wI ((w.length:Int)+1))<=(wI ((w.length:Int)+1))))&&(Nat.ble (((wI ((w.length:Int)+1):Int).toNat)*16) br))then
  (Loop (UC C tables w ((List.replicate ((wI ((w.length:Int)+1):Int).toNat) (V.agg [.int .u64 0,.int .u64 0])).length:Int) cz dc cL dh) (0,List.replicate ((wI ((w.length:Int)+1):Int).toNat) (V.agg [.int .u64 0,.int .u64 0]))).bind (un fun aKK=>un fun aKL aDx=>
   some [oC aDx])
 else none
theorem aDy{cz dc cL dh:Int}{tables:LV}{w:List UInt8}{r:Option LV}(h:anF CC cz dc cL dh tables w=r):CC 20 [vI cz,vI dc,vI cL,vI dh,.list 61 tables,.str w]=r:=aM (aL (aDw CC) ag) h
noncomputable def N9(C:ab)(w:List UInt8)(t27:Int)(eH:LV)(eO:Int)(adx:LV)(t28:Int)(D8:LV):bz (Int×LV) (Int×Bool×LV):=fun kn kr=>
 bif decide (t28<t27)then
  aj adx t28 fun x4=>
  bif x4.toBool then
  (idx eH t28).bind fun x5=>
  (C 20 [vI ((x5.cell 0).toInt),vI ((x5.cell 1).toInt),vI ((x5.cell 2).toInt),vI ((x5.cell 3).toInt),.list 61 D8,.str w]).bind fun r6=>
  aj D8 t28 fun x7=>
  kn (wI (t28+1),az D8 t28 (oC (gL r6)))
  else
  kn (wI (t28+1),D8)
 else
  kr (t28,decide (t28<t27),D8)
noncomputable def UD(C:ab)(w:List UInt8)(t27:Int)(eH:LV)(eO:Int)(adx:LV):=un fun t28 D8=>N9 C w t27 eH eO adx t28 D8 bD bE
noncomputable def aDz(C:ab):cm:=bC 81 Zh (aD 7 36) [[1,2,0,0,4,5,0,7]] (@N9 C) aO
theorem aDA(C:ab):aP C (aDz C) 8 (Lp [1,1,1,0,1,0,0] 8):=bB Zh (aD 7 36) [[1,2,0,0,4,5,0,7]] (@N9 C) (ay ag)
noncomputable def anG(C:ab)(cR:LV)(dz:Int)(w:List UInt8):Option LV:=
 (C 17 [fU cR,vI dz,vI 6]).bind fun r1=>
 bif((gI r1):Int) !=0 then
  some [.bool false]
 else
  (C 18 [.str w,vI 6]).bind fun r2=>
  bif !(gB r2)then
  some [.bool false]
  else
  bif decide ((w.length:Int)>64)then
   some [.bool false]
  else
   bif(decide (0<=(cR.length:Int)))&&((decide ((cR.length:Int)<=(cR.length:Int)))&&(Nat.ble (((cR.length:Int).toNat)*24) br))then
   (C 19 [fU cR,vI dz]).bind fun r3=>
   (Loop (UD C w ((gL r3).length:Int) cR dz (gL r3)) (0,List.replicate ((cR.length:Int).toNat) (oC ([]:LV)))).bind (un fun mw=>un fun pr ady=>
    aj ady dz fun iO=>
    (ej Tryz.prog 61 ady [(dz.toNat,0)]).bind fun kE=>
    bif decide (0<(kE.toList.length:Int))then
     (ej Tryz.prog 61 ady [(dz.toNat,0)]).bind fun qd=>
     (qd.toList[0]?).bind fun oI=>
     (C 21 [.int .u64 ((oI.cell 0).toInt),.int .u64 ((oI.cell 1).toInt),vI (w.length:Int)]).bind fun jw=>
     some [.bool (gB jw)]
    else none)
   else none
theorem aDB{cR:LV}{dz:Int}{w:List UInt8}{r:Option LV}(h:anG CC cR dz w=r):CC 8 [fU cR,vI dz,.str w]=r:=aM (aL (aDA CC) ag) h
noncomputable def Oa(C:ab)(an n:Int)(ft:LV)(fu:Int)(dO:LV):bz (Int×LV×Int×LV) (Int×Bool×LV×Int×LV):=fun kn kr=>
 bif decide (n>0)then
  (C 5 [vI an,aR ft,vI fu]).bind fun r2=>
  bif Nat.ble ((dO.length+([.int .u8 (IntKind.wrap .u8 (wI (97+(gI r2))))]:LV).length)*1) br then
  kn (wI (n-1),(eu r2),(jq r2),dO++([.int .u8 (IntKind.wrap .u8 (wI (97+(gI r2))))]:LV))
  else none
 else
  kr (n,decide (n>0),ft,fu,dO)
noncomputable def UE(C:ab)(an:Int):=un fun n=>un fun ft=>un fun fu dO=>Oa C an n ft fu dO bD bE
noncomputable def aDC(C:ab):cm:=bC 49 Zg (aD 5 30) [[1,0,0,0,0,0]] (@Oa C) aO
theorem aDD(C:ab):aP C (aDC C) 7 (Lp [1,1,0,1,0,0] 7):=bB Zg (aD 5 30) [[1,0,0,0,0,0]] (@Oa C) (ay ag)
noncomputable def anH(C:ab)(an dr:Int)(ft:LV)(fu:Int):Option LV:=
 (C 5 [vI (wI (dr+1)),aR ft,vI fu]).bind fun r1=>
 (Loop (UE C an) ((gI r1),(eu r1),(jq r1),([]:LV))).bind (un fun dh=>un fun lz=>un fun aDE=>un fun abS aDF=>
  some [.str (oX aDF),aR aDE,vI abS])
theorem aDG{an dr:Int}{ft:LV}{fu:Int}{r:Option LV}(h:anH CC an dr ft fu=r):CC 7 [vI an,vI dr,aR ft,vI fu]=r:=aM (aL (aDD CC) ag) h
noncomputable def anI(C:ab)(cf da:Int)(bS:LV):Option LV:=
 (C 24 [vI cf,vI da,cM bS]).bind fun r1=>
 bif !(gB r1)then
  some [vI 0]
 else
  (C 25 [vI cf,vI da,cM bS]).bind fun r2=>
  some [vI (gI r2)]
theorem aDH{cf da:Int}{bS:LV}{r:Option LV}(h:anI CC cf da bS=r):CC 10 [vI cf,vI da,cM bS]=r:=aM (L:=aO) ag h
noncomputable def Ob(C:ab)(t7:LV)(t8 nodes t9:Int):bz (Int×Int) (Int×Int×Bool):=fun kn kr=>
 bif decide (t9<t8)then
  (idx t7 t9).bind fun x1=>
  (C 25 [vI ((x1.cell 0).toInt),vI ((x1.cell 1).toInt),cM ((x1.cell 2).toList)]).bind fun r2=>
  kn (wI (nodes+(gI r2)),wI (t9+1))
 else
  kr (nodes,t9,decide (t9<t8))
noncomputable def UF(C:ab)(t7:LV)(t8:Int):=un fun nodes t9=>Ob C t7 t8 nodes t9 bD bE
noncomputable def aDI(C:ab):cm:=bC 49 ZI [J1,J0,J0,J1] [[0,2,3,0,0]] (@Ob C) aO
theorem aDJ(C:ab):aP C (aDI C) 25 (Lp [1,1,0,1,0,0] 25):=bB ZI [J1,J0,J0,J1] [[0,2,3,0,0]] (@Ob C) (ay ag)
noncomputable def anJ(C:ab)(cf da:Int)(bS:LV):Option LV:=
 (Loop (UF C bS (bS.length:Int)) (1,0)).bind (un fun aDK=>un fun lz kD=>
  some [vI aDK])
theorem aDL{cf da:Int}{bS:LV}{r:Option LV}(h:anJ CC cf da bS=r):CC 25 [vI cf,vI da,cM bS]=r:=aM (aL (aDJ CC) ag) h
noncomputable abbrev Oc(C:ab)(r3 r2 r5 r6:LV):Option LV:=
 (C 12 [fU (zo r3),vI (gI r3),vI (wI (1+(gI r2)))]).bind fun r10=>
 bif((gI r10):Int) !=0 then
  (C 13 []).bind fun GX=>
  some [.bool (gB GX)]
 else
  (C 14 [fU (zo r3),vI (gI r3),vI (wI (1+(gI r2)))]).bind fun mX=>
  bif((gI mX):Int)==0 then
  bif(((eu mX).length:Int):Int)==((zo r3).length:Int)then
   aj (eu mX) (wI (((eu mX).length:Int)-1)) fun qd=>
   (C 15 (p6 qd [.str (gS r5)])).bind fun qj=>
   bif(gB qj)==(gB r6)then
   (C 13 []).bind fun jw=>
   some [.bool (gB jw)]
   else
   some [.bool false]
  else
   some [.bool false]
  else
  some [.bool false]
noncomputable def anK(C:ab)(l w:LV):Option LV:=
 (C 4 [aR l]).bind fun r1=>
 (C 5 [vI 2,aR (gL r1),vI (bM r1)]).bind fun r2=>
 (C 6 [vI (wI (1+(gI r2))),vI 8,aR (eu r2),vI (jq r2)]).bind fun r3=>
 (C 4 [aR w]).bind fun r4=>
 (C 7 [vI (wI (1+(gI r2))),vI 8,aR (gL r4),vI (bM r4)]).bind fun r5=>
 (C 8 [fU (zo r3),vI (gI r3),.str (gS r5)]).bind fun r6=>
 (C 9 [fU (zo r3),vI (gI r3),vI (wI (1+(gI r2)))]).bind fun r7=>
 bif((hD r7):Int)==0 then
  (C 10 [vI (gI r7),vI (bM r7),cM (lX r7)]).bind fun r8=>
  bif decide (((gI r8):Int)<=60)then
  (C 11 [vI (gI r7),vI (bM r7),cM (lX r7),.str (gS r5)]).bind fun r9=>
  bif !((gB r9)==(gB r6))then
   some [.bool false]
  else
   Oc C r3 r2 r5 r6
  else
  Oc C r3 r2 r5 r6
 else
  Oc C r3 r2 r5 r6
theorem aDM{l w:LV}{r:Option LV}(h:anK CC l w=r):CC 3 [aR l,aR w]=r:=aM (L:=aO) ag h
section
open Go.RowKit
set_option maxHeartbeats 1000000 in
theorem aDN(hP:FD Tryz.prog):QN Tryz.prog 109 3:=by
 refine⟨fun args w=>MuLone.run_callFunc_enter Tryz.func109 (hP _ _ Tryz.func109) (by kernel_rfl:Tryz.f109.body=some (yI Tryz.prog 109)) _ _,22,by kernel_rfl,?_⟩;intro s w Q h1 h2 h3;have hu:Tryz.prog.underlying 22=some (.slice 3):=by kernel_rfl
 go_enter Tryz.func109,Tryz.ntmps109
 rcases h3 with rfl|⟨a,n,c,rfl⟩
 .go_wp2
  rw[run_eql_slice_nil w 22 3 none 0 0 hu];simp only[Result.andThen];rw[Oper.upon_value]
  go_wp2
  exact trivial
 .go_wp2
  rw[run_eql_slice_nil w 22 3 (some a) n c hu];simp only[Result.andThen];rw[Oper.upon_value]
  iterate 17 go_step
  obtain⟨v,w',hv,hQ⟩:=h2 _ _ _ rfl;unfold Oper.wp;simp[execOp,resolve,invoke,Act.eval,hv,builtin];rw[Oper.upon_value]
  go_wp2
  exact hQ
set_option maxHeartbeats 1000000 in
theorem aDO(hP:FD Tryz.prog):QN Tryz.prog 118 107:=by
 refine⟨fun args w=>MuLone.run_callFunc_enter Tryz.func118 (hP _ _ Tryz.func118) (by kernel_rfl:Tryz.f118.body=some (yI Tryz.prog 118)) _ _,102,by kernel_rfl,?_⟩;intro s w Q h1 h2 h3;have hu:Tryz.prog.underlying 102=some (.slice 107):=by kernel_rfl
 go_enter Tryz.func118,Tryz.ntmps118
 rcases h3 with rfl|⟨a,n,c,rfl⟩
 .go_wp2
  rw[run_eql_slice_nil w 102 107 none 0 0 hu];simp only[Result.andThen];rw[Oper.upon_value]
  go_wp2
  exact trivial
 .go_wp2
  rw[run_eql_slice_nil w 102 107 (some a) n c hu];simp only[Result.andThen];rw[Oper.upon_value]
  iterate 17 go_step
  obtain⟨v,w',hv,hQ⟩:=h2 _ _ _ rfl;unfold Oper.wp;simp[execOp,resolve,invoke,Act.eval,hv,builtin];rw[Oper.upon_value]
  go_wp2
  exact hQ
theorem aDP(hP:FD PG)(f:FuncId)(e:TypeId)(h:mC.u5 f=some e):QN PG f e:=by
 have h1:mC.u5 f=bif Nat.beq f 109 then some 3 else bif Nat.beq f 118 then some 107 else none:=by kernel_rfl
 rw[h1]at h;cases UG:Nat.beq f 109 with
 |true=>
  rw[UG]at h;rw[bK]at UG;cases h;subst UG;exact aDN hP
 |false=>
 rw[UG]at h;simp only[cond_false]at h;cases UH:Nat.beq f 118 with
 |true=>
  rw[UH]at h;rw[bK]at UH;cases h;subst UH;exact aDO hP
 |false=>
 rw[UH]at h;simp only[cond_false]at h;cases h
end
end Go.AM
