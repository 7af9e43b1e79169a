/-
  Functions of the program, lifted to plain data.
-/
import Derived.Test.YtpigoedhkpjgeaaGreatDoorP7
set_option linter.unusedVariables false
set_option linter.unusedSimpArgs false
set_option linter.unusedSectionVars false
set_option maxRecDepth 100000
namespace Go.AM
open Go.IntKind (wrap)
open Go.Proofs
noncomputable def HH (C:af) (cS t39:LV) (t40 cF cX:Int) (dL dA:LV) (t41:Int) {β:Type} (kn:Int→Option β) (kr:((Bool) ⊕ (Int×Bool))→Option β):Option β:=
 bif decide (t41<t40) then
  (idx t39 t41).bind fun x5=>
  bif decide ((x5.toStr.length:Int)>6) then
  (C uw []).bind fun r6=>
  kr (.inl ((V.nth r6 0).toBool))
  else
  (C DW [.str x5.toStr,V.int .i64 cF]).bind fun r7=>
  bif !((V.nth r7 0).toBool) then
   (C uw []).bind fun r8=>
   kr (.inl ((V.nth r8 0).toBool))
  else
   kn (wrap .i64 (t41+1))
 else
  kr (.inr (t41,decide (t41<t40)))
noncomputable def Nq (C:af) (cS t39:LV) (t40 cF cX:Int) (dL dA:LV):=fun t41=>HH C cS t39 t40 cF cX dL dA t41 (fun y=>some (Sum.inl y)) (fun r=>some (Sum.inr r))
noncomputable def HI (C:af) (t96:LV) (t97 iB:Int) (jM kI ji kJ kK:LV) (u0:Int) (u3 u4 u5 u6 u7:LV) (t98:Int) (mj:LV) {β:Type} (kn:(Int×LV)→Option β) (kr:(Int×Bool×LV)→Option β):Option β:=
 bif decide (t98<t97) then
  (idx t96 t98).bind fun rG=>
  (C DX [V.int .i64 iB,.list ah jM,.list cp kI,.list ae ji,.list ax kJ,.list ax kK,.str rG.toStr]).bind fun nL=>
  bif Nat.ble ((mj.length+([V.int .i64 ((V.nth nL 0).toInt)]:LV).length)*8) bm then
  kn (wrap .i64 (t98+1),mj++([V.int .i64 ((V.nth nL 0).toInt)]:LV))
  else none
 else
  kr (t98,decide (t98<t97),mj)
noncomputable def Nr (C:af) (t96:LV) (t97 iB:Int) (jM kI ji kJ kK:LV) (u0:Int) (u3 u4 u5 u6 u7:LV):=un fun t98 mj=>HI C t96 t97 iB jM kI ji kJ kK u0 u3 u4 u5 u6 u7 t98 mj (fun y=>some (Sum.inl y)) (fun r=>some (Sum.inr r))
noncomputable def HJ (C:af) (dz sub:LV) (k' v t123 t124:Int) (t129:LV) (t130 u0:Int) (u3 u4 u5 u6 u7 mj:LV) (t131:Int) {β:Type} (kn:Int→Option β) (kr:LV→Option β):Option β:=
 bif decide (t131<t130) then
  (idx t129 t131).bind fun pk=>
  bif (pk.toInt:Int)==v then
  ar mj k' fun lZ=>
  kr (aE mj k' (V.int .i64 t131))
  else
  kn (wrap .i64 (t131+1))
 else
  kr mj
noncomputable def Ns (C:af) (dz sub:LV) (k' v t123 t124:Int) (t129:LV) (t130 u0:Int) (u3 u4 u5 u6 u7 mj:LV):=fun t131=>HJ C dz sub k' v t123 t124 t129 t130 u0 u3 u4 u5 u6 u7 mj t131 (fun y=>some (Sum.inl y)) (fun r=>some (Sum.inr r))
noncomputable def HK (C:af) (dz sub:LV) (t123 u0:Int) (u3 u4 u5 u6 u7:LV) (t124:Int) (mj:LV) {β:Type} (kn:(Int×LV)→Option β) (kr:(Int×Bool×LV)→Option β):Option β:=
 bif decide (t124<t123) then
  ar mj t124 fun oK=>
  (Loop (Ns C dz sub t124 oK.toInt t123 t124 dz (dz.length:Int) u0 u3 u4 u5 u6 u7 mj) 0).bind (fun (auj:LV)=>
   kn (wrap .i64 (t124+1),auj))
 else
  kr (t124,decide (t124<t123),mj)
noncomputable def Nt (C:af) (dz sub:LV) (t123 u0:Int) (u3 u4 u5 u6 u7:LV):=un fun t124 mj=>HK C dz sub t123 u0 u3 u4 u5 u6 u7 t124 mj (fun y=>some (Sum.inl y)) (fun r=>some (Sum.inr r))
noncomputable def Nu (C:af):cz:=bt 65 QS [EQ,EQ,EQ,H1,EQ,EQ,EQ,EQ] [[0],[1,2,3,0,0,5,6,7,8]] (@HH C) (bt 257 QT [EQ,EQ,H1,EQ,EQ,EQ,EQ,EQ,EQ,EQ,EQ,EQ,EQ,EQ,EQ,H1] [[1,2,0,0,4,5,6,7,8,9,10,11,12,13,14,15,0]] (@HI C) (bt 449 QU [EQ,EQ,EQ,EQ,EQ,EQ,EQ,EQ,H1,EQ,EQ,EQ,EQ,EQ,EQ,EQ] [[1,2,5,6,10,11,12,13,14,15,0]] (@HJ C) (bt 401 QV [EQ,EQ,EQ,H1,EQ,EQ,EQ,EQ,EQ,EQ,H1] [[1,2,3,0,0,5,6,7,8,9,10,0]] (@HK C) bB)))
theorem auk (C:af):bc C (Nu C) 3 (Lp [1,1,0,1,0,0] 3):=br QS [EQ,EQ,EQ,H1,EQ,EQ,EQ,EQ] [[0],[1,2,3,0,0,5,6,7,8]] (@HH C) (aR av)
theorem aul (C:af):bc C (Nu C) 3 (Lp [1,1,1,1,1,1,1,1,0,1,0,0] 3):=br QT [EQ,EQ,H1,EQ,EQ,EQ,EQ,EQ,EQ,EQ,EQ,EQ,EQ,EQ,EQ,H1] [[1,2,0,0,4,5,6,7,8,9,10,11,12,13,14,15,0]] (@HI C) (aR av)
theorem aum (C:af):bc C (Nu C) 3 (Lp [1,1,1,1,1,1,1,1,1,1,1,1,0,1,0,0,1,1,0,0,1,1,0,0] 3):=br QU [EQ,EQ,EQ,EQ,EQ,EQ,EQ,EQ,H1,EQ,EQ,EQ,EQ,EQ,EQ,EQ] [[1,2,5,6,10,11,12,13,14,15,0]] (@HJ C) (aR av)
theorem aun (C:af):bc C (Nu C) 3 (Lp [1,1,1,1,1,1,1,1,1,1,1,1,0,1,0,0] 3):=br QV [EQ,EQ,EQ,H1,EQ,EQ,EQ,EQ,EQ,EQ,H1] [[1,2,3,0,0,5,6,7,8,9,10,0]] (@HK C) (aR (ba (aum C) av))
noncomputable def HL (C:af) (bW cf:Int) (bH b9 cS:LV):Option LV:=
 (C DV [V.int .i64 bW,V.int .i64 cf,.list ax bH,.list ah b9,V.int .i64 3]).bind fun r1=>
 bif !((V.nth r1 0).toBool) then
  (C uw []).bind fun r2=>
  some [.bool ((V.nth r2 0).toBool)]
 else
  bif decide ((cS.length:Int)<1) then
  (C uw []).bind fun r3=>
  some [.bool ((V.nth r3 0).toBool)]
  else
  bif decide ((cS.length:Int)>2) then
   (C uw []).bind fun r4=>
   some [.bool ((V.nth r4 0).toBool)]
  else
   (Loop (Nq C cS cS (cS.length:Int) bW cf bH b9) 0).bind (cP (fun (mO:Bool)=>
    some [.bool mO]) (un fun (LN:Int) (wD:Bool)=>
    (C J0 [V.int .i64 bW,V.int .i64 cf,.list ax bH,.list ah b9,.list cp cS]).bind fun mb=>
    (C ow [V.int .i64 bW,V.int .i64 cf,.list ax bH,.list ah b9]).bind fun qv=>
    (C ow [V.int .i64 ((V.nth mb 0).toInt),V.int .i64 ((V.nth (mb.drop 1) 0).toInt),.list ax ((V.nth (mb.drop 3) 0).toList),.list ah ((V.nth ((mb.drop 3).drop 1) 0).toList)]).bind fun kL=>
    bif (((V.nth (mb.drop 2) 0).toInt):Int) != 0 then
    some [.bool false]
    else
    bif (((V.nth (qv.drop 6) 0).toInt):Int) != 0 then
     some [.bool false]
    else
     bif (((V.nth (kL.drop 6) 0).toInt):Int) != 0 then
     some [.bool false]
     else
     bif ((((V.nth (qv.drop 1) 0).toList).length:Int):Int)==0 then
      some [.bool false]
     else
      bif ((((V.nth (kL.drop 1) 0).toList).length:Int):Int)==0 then
      some [.bool false]
      else
      (Loop (Nr C cS (cS.length:Int) ((V.nth qv 0).toInt) ((V.nth (qv.drop 1) 0).toList) ((V.nth ((qv.drop 1).drop 1) 0).toList) ((V.nth (((qv.drop 1).drop 1).drop 1) 0).toList) ((V.nth ((((qv.drop 1).drop 1).drop 1).drop 1) 0).toList) ((V.nth (((((qv.drop 1).drop 1).drop 1).drop 1).drop 1) 0).toList) ((V.nth kL 0).toInt) ((V.nth (kL.drop 1) 0).toList) ((V.nth ((kL.drop 1).drop 1) 0).toList) ((V.nth (((kL.drop 1).drop 1).drop 1) 0).toList) ((V.nth ((((kL.drop 1).drop 1).drop 1).drop 1) 0).toList) ((V.nth (((((kL.drop 1).drop 1).drop 1).drop 1).drop 1) 0).toList)) (0,([V.int .i64 0]:LV))).bind (un fun Uc=>un fun (ade:Bool) (Vq:LV)=>
       (C J1 [.list ah ((V.nth (qv.drop 1) 0).toList),.list ae Vq]).bind fun jh=>
       (C J2 [.list ah ((V.nth (qv.drop 1) 0).toList),.list ae ((V.nth jh 0).toList)]).bind fun wK=>
       bif (((V.nth (wK.drop 1) 0).toInt):Int) != 0 then
        some [.bool false]
       else
        (Loop (Nt C ((V.nth jh 0).toList) ((V.nth wK 0).toList) (Vq.length:Int) ((V.nth kL 0).toInt) ((V.nth (kL.drop 1) 0).toList) ((V.nth ((kL.drop 1).drop 1) 0).toList) ((V.nth (((kL.drop 1).drop 1).drop 1) 0).toList) ((V.nth ((((kL.drop 1).drop 1).drop 1).drop 1) 0).toList) ((V.nth (((((kL.drop 1).drop 1).drop 1).drop 1).drop 1) 0).toList)) (0,Vq)).bind (un fun apO=>un fun (LJ:Bool) (auo:LV)=>
         bif Nat.ble ((([V.int .i64 0]:LV).length+((V.nth (((kL.drop 1).drop 1).drop 1) 0).toList).length)*8) bm then
         (C J3 [.list ah ((V.nth wK 0).toList),.list ae auo,.list ah ((V.nth (kL.drop 1) 0).toList),.list ae (([V.int .i64 0]:LV)++((V.nth (((kL.drop 1).drop 1).drop 1) 0).toList))]).bind fun r29=>
         bif (V.nth r29 0).toBool then
          (C J4 [.list ah ((V.nth wK 0).toList),.list ah ((V.nth (kL.drop 1) 0).toList),.list ae ((V.nth (r29.drop 1) 0).toList)]).bind fun Bw=>
          bif ((((V.nth Bw 0).toList).length:Int):Int)==(((V.nth (kL.drop 1) 0).toList).length:Int) then
          (C uw []).bind fun MN=>
          some [.bool ((V.nth MN 0).toBool)]
          else
          some [.bool false]
         else
          some [.bool false]
         else none))))
theorem afc {bW cf:Int} {bH b9 cS:LV} {r:Option LV} (h:HL CC bW cf bH b9 cS=r):CC DU [V.int .i64 bW,V.int .i64 cf,.list ax bH,.list ah b9,.list cp cS]=r:=bA (ba (auk CC) (ba (aul CC) (ba (aun CC) av))) h
theorem afd {d:Df} (hd:d.Ok) (n:Int):CC DV (rK d [.int .i64 n])=some [.bool (decide ((d.F.length:Int)≤n∧d.L≤2∧d.val=0))]:=by
 have fin: ∀z,Vp CC d.L d.st (d.F.map V.bool) (d.N.map lU) n=z→CC DV (rK d [.int .i64 n])=z:=fun z h=>aui h;refine fin _ ?_;unfold Vp;rw[cY];by_cases c1:(d.F.length:Int)≤n
 ·refine bT (cZ c1) ?_;by_cases c2:d.L≤2
  ·refine bT (cZ c2) (bs (amj hd) ?_);by_cases c3:d.val=0
   ·rw[cZ ⟨c1,c2,c3⟩,c3];rfl
   ·rw[cR fun h=>c3 h.2.2];simp[c3]
  ·refine bF (cR c2) ?_;rw[cR fun h=>c2 h.2.1]
 ·refine bF (cR c1) ?_;rw[cR fun h=>c1 h.1]
theorem afe {m:Da} (hm:m.Ok) {S:List (List Nat)} (hS:th m S):Tb S.length (dE S):=⟨hS.pos,hS.le,fun _ _ hi hj=>aeE hm hS hi hj⟩
theorem aup {m:Da} {S:List (List Nat)} {k:Nat} (h:m.L=k):([V.int .i64 0]:LV)++iO m S=nS (0::(List.range k).map fun x=>vl m S [x]):=by
 subst h;rfl
section
variable {Z vs:List Nat} (hZ:Z.Pairwise (· < ·)) (hv: ∀v∈vs,v∈Z) (hl:Z.length≤400) (mA:vs.length≤100)
include hZ hv hl mA
theorem auq {s l1 l2 l3 l4 l5:LV} {k:Int}:Loop (Nt CC (nS Z) s (vs.length:Int) k l1 l2 l3 l4 l5) (0,nS vs)=some ((vs.length:Int),false,nS (vs.map (cQ Z))):=by
 have e0:nS vs=tab vs.length fun j=>if j<0 then nV (cQ Z (vs.getD j 0)) else nV (vs.getD j 0):=by rw[LO];exact cJ fun j _=>by rw[bO]
 have e1:nS (vs.map (cQ Z))=tab vs.length fun j=>if j<vs.length then nV (cQ Z (vs.getD j 0)) else nV (vs.getD j 0):=by
  rw[LO,cY];exact cJ fun j hj=>by rw[ak hj,bD (by simpa using hj),bD hj,zg]
 rw[e0,e1];refine dW vs.length (fun i=>((i:Int),tab vs.length fun j=>if j<i then nV (cQ Z (vs.getD j 0)) else nV (vs.getD j 0))) _ (fun i hi=> ?_) ?_
 ·have hvi:vs.getD i 0∈Z:=hv _ (by rw[bD hi];exact cM hi);have hx:=ky hvi;have g0:(tab vs.length fun j=>if j<i then nV (cQ Z (vs.getD j 0)) else nV (vs.getD j 0))[i]? =some (nV (vs.getD i 0)):=by rw[lk hi,bO]
  simp only[Nt,HK,un];refine bT (cg hi) ((cy g0).trans ?_);have inner: ∀{a b:LV} {p q:Int},a=nS Z→b=nS Z→Loop (Ns CC a s (i:Int) (nV (vs.getD i 0)).toInt p q b (Z.length:Int) k l1 l2 l3 l4 l5 (tab vs.length fun j=>if j<i then nV (cQ Z (vs.getD j 0)) else nV (vs.getD j 0))) 0=some (tab vs.length fun j=>if j<i+1 then nV (cQ Z (vs.getD j 0)) else nV (vs.getD j 0)):=by
   rintro _ _ p q rfl rfl;refine dW (cQ Z (vs.getD i 0)) (fun j=>(j:Int)) _ (fun j hj=> ?_) ?_
   ·have dn:j<Z.length:=by omega
    have bL:Z[j]≠vs.getD i 0:=fun e=>by
     have:=A8 (MY hZ) dn;rw[e] at this;omega
    simp only[Ns,HJ];refine bT (cg dn) (bs (gi dn) (bF ?_ ?_))
    ·show (((Z[j]:Nat):Int)==((vs.getD i 0:Nat):Int))=false;rw[vb];exact fun e=>bL (by exact_mod_cast e)
    ·rw[cq (by omega)]
   ·have hz:=Fp hvi;simp only[Ns,HJ];refine bT (cg hx) (bs (gi hx) (bT ?_ ((cy g0).trans ?_)))
    ·show (((Z[cQ Z (vs.getD i 0)]:Nat):Int)==((vs.getD i 0:Nat):Int))=true;rw[hz];simp
    ·simp only[aE,Int.toNat_natCast];rw[iI];refine congrArg (fun t=>some (Sum.inr t)) (cJ fun j _=> ?_);by_cases c:j=i
     ·rw[ak c,bu,c];rfl
     ·rw[aj c];by_cases c2:j<i
      ·rw[ak c2,bu]
      ·rw[aj c2,bO]
  rw[cL];refine bs (inner rfl rfl) ?_;rw[cq (by omega)]
 ·simp only[Nt,HK,un];refine bF (aW (az _)) ?_;rw[aW (az _)]
end
theorem afj (d:Df) (hd:d.Ok) (l:List (List UInt8)) (hl:l.length≤maxLen):CC DU (rK d [y6 l])=some [.bool true]:=by
 have fin: ∀z,HL CC d.L d.st (d.F.map V.bool) (d.N.map lU) (l.map V.str)=z→CC DU (rK d [y6 l])=z:=fun z h=>afc h;by_cases hs:(d.F.length:Int)≤3∧d.L≤2∧d.val=0
 case neg=>
  refine fin _ ?_;unfold HL;refine bs (afd hd 3) ?_;rw[cR hs];exact bT rfl (bs BY rfl)
 have hsm:=afd hd 3;rw[cZ hs] at hsm;obtain ⟨hn,hL,hv⟩:=hs;obtain ⟨a,ha,rfl⟩:=amk hv;clear fin;rw[ha.leaves] at*
 have hn3:a.n≤3:=by have:(a.n:Int)≤3:=hn;omega
 have fin: ∀z,HL CC (a.L:Int) (a.st:Int) a.dM a.ed (l.map V.str)=z→CC DU (uK a [y6 l])=z:=fun z h=>afc h;refine fin _ ?_;unfold HL;refine bs hsm (bF rfl ?_);rw[cY];by_cases c1:l.length<1
 ·exact bT (cZ (by omega)) (bs BY rfl)
 refine bF (cR (by omega)) ?_;by_cases c2:2<l.length
 ·exact bT (cZ (by omega)) (bs BY rfl)
 refine bF (cR (by omega)) ?_;have L1: ∃r,Loop (Nq CC (l.map V.str) (l.map V.str) (l.length:Int) (a.L:Int) (a.st:Int) a.dM a.ed) 0=some r∧(r= .inl true∨(r= .inr ((l.length:Int),false)∧BX l (a.L:Int))):=by
  refine LQ (fun i x=>x=(i:Int)∧∀j,j<i→ku (l.getD j []) (a.L:Int)) (fun (r:Bool ⊕ (Int×Bool))=>r= .inl true∨(r= .inr ((l.length:Int),false)∧BX l (a.L:Int))) l.length (fun i hi x hx=> ?_) (fun x hx=> ?_) l.length 0 0 (eT _) ⟨rfl,fun j hj=>(by omega)⟩
  ·obtain ⟨rfl,hx⟩:=hx;simp only[Nq,HH];by_cases c:(((l.getD i []).length:Nat):Int)>6
   ·exact .inr ⟨_,bT (cg hi) (bs (BW hi) (bT (cZ c) (bs BY rfl))),.inl rfl⟩
   ·have mA:CC DW [.str (l.getD i []),.int .i64 (a.L:Int)]=some [.bool (decide (ku (l.getD i []) (a.L:Int)))]:=atw _ _;by_cases cv:ku (l.getD i []) (a.L:Int)
    ·rw[cZ cv] at mA;refine .inl ⟨_,bT (cg hi) (bs (BW hi) (bF (cR c) (bs mA (bF rfl rfl)))),by rw[cq (by omega)],fun j hj=> ?_⟩;by_cases cj:j=i
     ·rw[cj];exact cv
     ·exact hx j (by omega)
    ·rw[cR cv] at mA;exact .inr ⟨_,bT (cg hi) (bs (BW hi) (bF (cR c) (bs mA (bT rfl (bs BY rfl))))),.inl rfl⟩
  ·obtain ⟨rfl,hx⟩:=hx;simp only[Nq,HH];refine ⟨_,bF (aW (az _)) rfl,.inr ⟨by rw[aW (az _)],hx⟩⟩
 obtain ⟨r,eL1,hr⟩:=L1;refine bs eL1 ?_;rcases hr with rfl|⟨rfl,au⟩
 ·rfl
 simp only[cP,un];have hm:=qs ha;have hmL:=qt ha;have pY:1≤l.length:=by omega
 have BZ:l.length≤6:=by omega
 have hg: ∀x,x<l.length→WL (minD a).L (gH l x):=fun x hx=>by rw[hmL];exact (au x hx).WL
 have hp:=hm.pre pY BZ hg;have hP:=qs hp;have hPL:(minD ((minD a).pre l.length (gH l))).L=l.length:=qt hp;have gb:(minD a).n≤3:=lu (aeN ha) hn3;have p7:(minD ((minD a).pre l.length (gH l))).n≤3:=lu (aeN hp) gb;have Vr:=aex hp;rcases aey ha (by omega) with ⟨_,hb⟩|⟨S,f,eO1,hS⟩
 ·exact absurd hb (aeP gb)
 rcases aey hP (by rw[Vr];omega) with ⟨_,hb⟩|⟨S2,f2,eO2,iP⟩
 ·rw[Vr] at hb;exact absurd hb (aeP p7)
 rw[Vr] at eO2 iP;refine bs (atE ha pY BZ au) ?_;refine bs eO1 ?_;refine bs eO2 ?_;have hT:=afe hm hS;have hA: ∀i j k,i<S.length→j<S.length→k<S.length→dE S (dE S i j) k=dE S i (dE S j k):=fun _ _ _ hi hj hk=>aeF hm hS hi hj hk;have hT2:=afe hP iP;have JC: ∀i j k,i<S2.length→j<S2.length→k<S2.length→dE S2 (dE S2 i j) k=dE S2 i (dE S2 j k):=fun _ _ _ hi hj hk=>aeF hP iP hi hj hk;have tl1:(kG S).length=S.length:=eH;have tl2:(kG S2).length=S2.length:=eH;have p1:=hS.pos;have p2:=iP.pos;have q1:=hS.le;refine bF rfl (bF rfl (bF rfl (bF ?_ (bF ?_ ?_))))
 ·show ((((kG S).length:Nat):Int)==0)=false;rw[tl1,vb];omega
 ·show ((((kG S2).length:Nat):Int)==0)=false;rw[tl2,vb];omega
 have L2: ∀{k:Int} {l1 l2 l3 l4 l5:LV},Loop (Nr CC (l.map V.str) (l.length:Int) ((minD a).L:Int) (kG S) (tab S.length fun j=> .str (f j)) (iO (minD a) S) (mi (minD a) S) (jK (minD a).L (minD a).gT S S.length) k l1 l2 l3 l4 l5) (0,([V.int .i64 0]:LV))=some ((l.length:Int),false,nS (vals (minD a) S l.length (gH l))):=by
  intro k l1 l2 l3 l4 l5;refine dW l.length (fun i=>((i:Int),nS (vals (minD a) S i (gH l)))) _ (fun i hi=> ?_) ?_
  ·simp only[Nr,HI,un];refine bT (cg hi) (bs (BW hi) (bs (atq ha hS eO1 (w:=l.getD i []) (by rw[hmL];exact au i hi)) (bT (cap (by rw[cL];simp[vals];omega) (by omega)) ?_)));rw[cq (by omega)];refine congrArg (fun t=>some (Sum.inl (((i+1:Nat):Int),t))) ?_;unfold vals;rw[Cg];simp[nS,nV,gH]
  ·simp only[Nr,HI,un];refine bF (aW (az _)) ?_;rw[aW (az _)]
 refine bs L2 ?_;have mA:(vals (minD a) S l.length (gH l)).length≤100:=by simp[vals];omega
 obtain ⟨Z,eG,hZ⟩:=arv hT hA (G:=vals (minD a) S l.length (gH l)) (fun x hx=>asO hS hg hx) (by omega);have avf:=hZ.le;have hZ0:Z≠[]:=List.ne_nil_of_mem (hZ.sub 0 (by simp[vals]));refine bs eG ?_;refine bs (arM hT hA hZ hZ0) (bF rfl ?_);rw[cL];refine bs (auq hZ.GX hZ.sub (by omega) mA) ?_;simp only[un];have hST:=arK hT hZ hZ0;have hSA: ∀i j k,i<Z.length→j<Z.length→k<Z.length→iA (dE S) Z (iA (dE S) Z i j) k=iA (dE S) Z i (iA (dE S) Z j k):=fun _ _ _ hi hj hk=>arL hA hZ hi hj hk;have pw: ∀x,x<Z.length→pA (minD a) S l.length (gH l) S2 Z x<S2.length:=fun x hx=>asQ hm hS pY BZ hg iP hZ hx;have hh: ∀x y,x<Z.length→y<Z.length→pA (minD a) S l.length (gH l) S2 Z (iA (dE S) Z x y)=dE S2 (pA (minD a) S l.length (gH l) S2 Z x) (pA (minD a) S l.length (gH l) S2 Z y):=fun x y hx hy=>asR hm hS pY BZ hg iP hZ hx hy;have eE:=ase hST hSA hT2 JC pw hh (gs:=(vals (minD a) S l.length (gH l)).map (cQ Z)) (fun x hx=>by
  obtain ⟨v,hv,rfl⟩:=ez.1 hx;exact ky (hZ.sub v hv)) (by rw[cY];omega) (fun x hx=>asU hZ hx)
 rw[asS hm hS pY BZ hg iP hZ,←aup hPL] at eE;have eI:=asb hST hSA hT2 JC pw hh fun y hy=>asT hm hS pY BZ hg iP hZ hy;have il:(iO (minD ((minD a).pre l.length (gH l))) S2).length=l.length:=by unfold iO;rw[cL,eO,cY,jP,hPL]
 refine bT (cap (b:=0) ?_ (by omega)) (bs eE (bT rfl (bs eI (bT ?_ (bs BY rfl)))))
 ·show 1+(iO (minD ((minD a).pre l.length (gH l))) S2).length≤_;rw[il];omega
 ·show (((nS (List.range S2.length)).length:Int)==((kG S2).length:Int))=true;rw[cL,tl2,jP];simp
end Go.AM
